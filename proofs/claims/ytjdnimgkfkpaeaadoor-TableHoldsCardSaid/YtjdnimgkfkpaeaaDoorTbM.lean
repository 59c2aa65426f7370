import Derived.Test.YtjdnimgkfkpaeaaDoorMinex0
import Derived.Test.YtjdnimgkfkpaeaaDoorShelf
import Derived.Test.YtjdnimgkfkpaeaaDoorTbT
import Derived.Test.YtjdnimgkfkpaeaaDoorTbA
import Derived.Test.YtjdnimgkfkpaeaaDoorTbB
import Derived.Test.YtjdnimgkfkpaeaaDoorTbC
import Derived.Test.YtjdnimgkfkpaeaaDoorTbD
import Derived.Test.YtjdnimgkfkpaeaaDoorTbS
import Derived.Test.YtjdnimgkfkpaeaaDoorTbE
import Derived.Test.YtjdnimgkfkpaeaaDoorTbK
import Derived.Test.YtjdnimgkfkpaeaaDoorTbG
import Derived.Test.YtjdnimgkfkpaeaaDoorTbJ
import Derived.Test.YtjdnimgkfkpaeaaDoorTbL
namespace Go.Proofs.YtjdnimgkfkpaeaaDoor.Mine
open Go.RowKit Go.Proofs Go.Proofs.YtjdnimgkfkpaeaaDoorW.PrintWords Go.Proofs.YtjdnimgkfkpaeaaDoorW.PrintLast Go.Proofs.YtjdnimgkfkpaeaaDoorW.PrintMore
attribute [local go_sem] max2_int min2_int max_two min_two max_three min_three max_four min_four
set_option linter.unusedVariables false
set_option linter.unusedSimpArgs false
def tbFindD (fx l : List S62) (nm vl : ByteArray) : Nat → Int → Int → Int × Bool
  | 0, _, n => (n, false)
  | k + 1, i, n => if (tbAt fx l i).1.data.toList = nm.data.toList then (if (tbAt fx l i).2.1.data.toList = vl.data.toList then (i, true) else if n = 0 then tbFindD fx l nm vl k (i + 1) i else tbFindD fx l nm vl k (i + 1) n) else tbFindD fx l nm vl k (i + 1) n
theorem tbFind_eq (fx l : List S62) (nm vl : ByteArray) : ∀ (k : Nat) (i n : Int), tbFind fx l nm vl k i n = tbFindD fx l nm vl k i n
  | 0, _, _ => rfl
  | k + 1, i, n => by
    rw [tbFind, tbFindD]
    simp only [ByteArray.toList_eq, tbFind_eq fx l nm vl k]
def tbF2 : List S62 := (tbParts 10 tbText.data.toList).map (fun l => ⟨⟨(Lib.cut l [61]).1.toArray⟩, ⟨(Lib.cut l [61]).2.1.toArray⟩⟩)
theorem tbFixed_eq : tbFixed = tbF2 := by
  unfold tbFixed tbF2
  rw [← tbPieces_eq, List.map_map]
  rfl
set_option maxRecDepth 100000 in
set_option maxHeartbeats 4000000 in
theorem tb_awake : ((table_New.f 100).bind fun t104 => ((table_Table_Add.f t104 (⟨#[97]⟩ : ByteArray) (⟨#[98]⟩ : ByteArray)).bind fun t106 => ((table_Table_Add.f t106 (⟨#[99]⟩ : ByteArray) (⟨#[100]⟩ : ByteArray)).bind fun t107 => ((table_Table_At.f t107 62).bind fun bt108 => ((table_Table_Find.f bt108.2.2.2 (⟨#[97]⟩ : ByteArray) (⟨#[98]⟩ : ByteArray)).bind fun bt112 => ((table_Table_At.f bt112.2.2 2).bind fun bt115 => ((table_Table_Size.f bt115.2.2.2).bind fun bt119 => (if bt119.1 = 68 then ((table_Table_Len.f bt119.2).bind fun bt121 => (if bt121.1 = 2 then ((table_Table_Most.f bt121.2).bind fun bt123 => (if bt123.1 = 100 then (if bt108.1.toList = ([99] : List UInt8) then (if bt108.2.1.toList = ([100] : List UInt8) then (if bt108.2.2.1 = true then (if bt112.1 = 63 then (if bt112.2.1 = true then (if bt115.1.toList = ([58, 109, 101, 116, 104, 111, 100] : List UInt8) then (if bt115.2.1.toList = ([71, 69, 84] : List UInt8) then (some bt115.2.2.1) else (some false)) else (some false)) else (some false)) else (some false)) else (some false)) else (some false)) else (some false)) else (some false))) else (some false))) else (some false))))))))) = some true := by
  unfold table_New.f
  simp only [table_Table_Find.f, tbFind_eq, ByteArray.toList_eq, tbFixed_eq]
  decide +kernel

end Go.Proofs.YtjdnimgkfkpaeaaDoor.Mine
