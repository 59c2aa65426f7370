/- The walks and the plain laws that the rows come to: merged out of this repo's texts. -/
import Derived.Test.YtfkdocmhbmameaaDoorProg
import Derived.Below
import Derived.Deep.Draws
import Derived.Deep.AppendLies
import Derived.Maps.AppendAt
import Derived.OwnWalk
import Derived.Laws.BytesArg
import Derived.Laws.MakeOwn
import Derived.Laws.OwnMore
import Derived.Deep.OwnRows
import Derived.Tactics
import Derived.Lib.ConvBytes
import Derived.Laws.Slices
import Derived.WalkKit
import Derived.KernelRfl
import Derived.RowKit3
import Derived.Deep.LoopGhost
import Derived.Deep.QuietTactic
import Derived.BigQuiet
import Derived.WideLaws
import Derived.Deep.DeepCutAuto
import Derived.Deep.CutBlock
import Derived.Deep.RegionHeld3
import Derived.Laws.Rows
import Derived.Lib.AppendStr
import Derived.ArgAppend
import Derived.Laws.IdiomCopy
import Derived.RowKit
import Derived.OrdersHeld
import Derived.Laws.BitsLemmas
import Derived.Laws.StructEq
import Derived.Laws.CopyOwn
import Derived.SizedLaws
import Derived.ChangeSlices
import Derived.Deep.Slices
import Derived.Lib.SmallJoins
import Derived.Lib.OthersKept
import Derived.Lib.AppendZerosOnto
import Derived.WalkSpells
import Derived.Shelf.Utf8.RuneCount
import Derived.Shelf.Strings.Search1
import Derived.Shelf.Strings.Search2
import Derived.Shelf.Strings.Search3
import Derived.Shelf.Strings.Cut
import Derived.Shelf.Strings.Count
import Derived.Shelf.LaysM
import Derived.Shelf.Strings.Shaped
import Derived.Shelf.Strings.Split
import Derived.Shelf.Strings.SplitShaped
import Derived.Shelf.Unicode.Decode
import Derived.Shelf.Strings.RuneCount
import Derived.Shelf.Strings.Explode
import Derived.Shelf.Unicode.DecodeSlow
import Derived.Shelf.Unicode.DecodeAny
import Derived.Recover
import Derived.WalkLawsBesides
import Derived.Laws.BitsAllLaws
import Derived.Test.YtfkdocmhbmameaaDoorCA1
import Derived.Test.YtfkdocmhbmameaaDoorCA2
import Derived.Test.YtfkdocmhbmameaaDoorCA3
import Derived.Test.YtfkdocmhbmameaaDoorCA4
import Derived.Test.YtfkdocmhbmameaaDoorCA5
import Derived.Test.YtfkdocmhbmameaaDoorCA6
import Derived.Test.YtfkdocmhbmameaaDoorCA7
import Derived.Test.YtfkdocmhbmameaaDoorCA8
import Derived.Test.YtfkdocmhbmameaaDoorCA9
import Derived.Test.YtfkdocmhbmameaaDoorCA10
import Derived.Test.YtfkdocmhbmameaaDoorCA11
import Derived.Test.YtfkdocmhbmameaaDoorCA12
import Derived.Test.YtfkdocmhbmameaaDoorCA13
import Derived.Test.YtfkdocmhbmameaaDoorCA14
import Derived.Test.YtfkdocmhbmameaaDoorCA15
import Derived.Test.YtfkdocmhbmameaaDoorCA16
import Derived.Test.YtfkdocmhbmameaaDoorCA17
import Derived.Test.YtfkdocmhbmameaaDoorCA18
import Derived.Test.YtfkdocmhbmameaaDoorCA20
import Derived.Test.YtfkdocmhbmameaaDoorCA23
import Derived.Test.YtfkdocmhbmameaaDoorCA24
import Derived.Test.YtfkdocmhbmameaaDoorCA25
import Derived.Test.YtfkdocmhbmameaaDoorCA26
import Derived.Test.YtfkdocmhbmameaaDoorCA27
import Derived.Test.YtfkdocmhbmameaaDoorCA28
import Derived.Test.YtfkdocmhbmameaaDoorCA34
import Derived.Test.YtfkdocmhbmameaaDoorCA35
import Derived.Test.YtfkdocmhbmameaaDoorCA36
namespace Go.Proofs.YtfkdocmhbmameaaDoor.Mine
open Go.RowKit Go.Proofs Go.Proofs.YtfkdocmhbmameaaDoorW.PrintWords Go.Proofs.YtfkdocmhbmameaaDoorW.PrintLast Go.Proofs.YtfkdocmhbmameaaDoorW.PrintMore
def bwL : List S103 := [⟨⟨#[58, 97, 117, 116, 104, 111, 114, 105, 116, 121]⟩, ⟨#[]⟩⟩, ⟨⟨#[58, 109, 101, 116, 104, 111, 100]⟩, ⟨#[71, 69, 84]⟩⟩, ⟨⟨#[58, 109, 101, 116, 104, 111, 100]⟩, ⟨#[80, 79, 83, 84]⟩⟩, ⟨⟨#[58, 112, 97, 116, 104]⟩, ⟨#[47]⟩⟩, ⟨⟨#[58, 112, 97, 116, 104]⟩, ⟨#[47, 105, 110, 100, 101, 120, 46, 104, 116, 109, 108]⟩⟩, ⟨⟨#[58, 115, 99, 104, 101, 109, 101]⟩, ⟨#[104, 116, 116, 112]⟩⟩, ⟨⟨#[58, 115, 99, 104, 101, 109, 101]⟩, ⟨#[104, 116, 116, 112, 115]⟩⟩, ⟨⟨#[58, 115, 116, 97, 116, 117, 115]⟩, ⟨#[50, 48, 48]⟩⟩, ⟨⟨#[58, 115, 116, 97, 116, 117, 115]⟩, ⟨#[50, 48, 52]⟩⟩, ⟨⟨#[58, 115, 116, 97, 116, 117, 115]⟩, ⟨#[50, 48, 54]⟩⟩, ⟨⟨#[58, 115, 116, 97, 116, 117, 115]⟩, ⟨#[51, 48, 52]⟩⟩, ⟨⟨#[58, 115, 116, 97, 116, 117, 115]⟩, ⟨#[52, 48, 48]⟩⟩, ⟨⟨#[58, 115, 116, 97, 116, 117, 115]⟩, ⟨#[52, 48, 52]⟩⟩, ⟨⟨#[58, 115, 116, 97, 116, 117, 115]⟩, ⟨#[53, 48, 48]⟩⟩, ⟨⟨#[97, 99, 99, 101, 112, 116, 45, 99, 104, 97, 114, 115, 101, 116]⟩, ⟨#[]⟩⟩, ⟨⟨#[97, 99, 99, 101, 112, 116, 45, 101, 110, 99, 111, 100, 105, 110, 103]⟩, ⟨#[103, 122, 105, 112, 44, 32, 100, 101, 102, 108, 97, 116, 101]⟩⟩, ⟨⟨#[97, 99, 99, 101, 112, 116, 45, 108, 97, 110, 103, 117, 97, 103, 101]⟩, ⟨#[]⟩⟩, ⟨⟨#[97, 99, 99, 101, 112, 116, 45, 114, 97, 110, 103, 101, 115]⟩, ⟨#[]⟩⟩, ⟨⟨#[97, 99, 99, 101, 112, 116]⟩, ⟨#[]⟩⟩, ⟨⟨#[97, 99, 99, 101, 115, 115, 45, 99, 111, 110, 116, 114, 111, 108, 45, 97, 108, 108, 111, 119, 45, 111, 114, 105, 103, 105, 110]⟩, ⟨#[]⟩⟩, ⟨⟨#[97, 103, 101]⟩, ⟨#[]⟩⟩, ⟨⟨#[97, 108, 108, 111, 119]⟩, ⟨#[]⟩⟩, ⟨⟨#[97, 117, 116, 104, 111, 114, 105, 122, 97, 116, 105, 111, 110]⟩, ⟨#[]⟩⟩, ⟨⟨#[99, 97, 99, 104, 101, 45, 99, 111, 110, 116, 114, 111, 108]⟩, ⟨#[]⟩⟩, ⟨⟨#[99, 111, 110, 116, 101, 110, 116, 45, 100, 105, 115, 112, 111, 115, 105, 116, 105, 111, 110]⟩, ⟨#[]⟩⟩, ⟨⟨#[99, 111, 110, 116, 101, 110, 116, 45, 101, 110, 99, 111, 100, 105, 110, 103]⟩, ⟨#[]⟩⟩, ⟨⟨#[99, 111, 110, 116, 101, 110, 116, 45, 108, 97, 110, 103, 117, 97, 103, 101]⟩, ⟨#[]⟩⟩, ⟨⟨#[99, 111, 110, 116, 101, 110, 116, 45, 108, 101, 110, 103, 116, 104]⟩, ⟨#[]⟩⟩, ⟨⟨#[99, 111, 110, 116, 101, 110, 116, 45, 108, 111, 99, 97, 116, 105, 111, 110]⟩, ⟨#[]⟩⟩, ⟨⟨#[99, 111, 110, 116, 101, 110, 116, 45, 114, 97, 110, 103, 101]⟩, ⟨#[]⟩⟩, ⟨⟨#[99, 111, 110, 116, 101, 110, 116, 45, 116, 121, 112, 101]⟩, ⟨#[]⟩⟩, ⟨⟨#[99, 111, 111, 107, 105, 101]⟩, ⟨#[]⟩⟩, ⟨⟨#[100, 97, 116, 101]⟩, ⟨#[]⟩⟩, ⟨⟨#[101, 116, 97, 103]⟩, ⟨#[]⟩⟩, ⟨⟨#[101, 120, 112, 101, 99, 116]⟩, ⟨#[]⟩⟩, ⟨⟨#[101, 120, 112, 105, 114, 101, 115]⟩, ⟨#[]⟩⟩, ⟨⟨#[102, 114, 111, 109]⟩, ⟨#[]⟩⟩, ⟨⟨#[104, 111, 115, 116]⟩, ⟨#[]⟩⟩, ⟨⟨#[105, 102, 45, 109, 97, 116, 99, 104]⟩, ⟨#[]⟩⟩, ⟨⟨#[105, 102, 45, 109, 111, 100, 105, 102, 105, 101, 100, 45, 115, 105, 110, 99, 101]⟩, ⟨#[]⟩⟩, ⟨⟨#[105, 102, 45, 110, 111, 110, 101, 45, 109, 97, 116, 99, 104]⟩, ⟨#[]⟩⟩, ⟨⟨#[105, 102, 45, 114, 97, 110, 103, 101]⟩, ⟨#[]⟩⟩, ⟨⟨#[105, 102, 45, 117, 110, 109, 111, 100, 105, 102, 105, 101, 100, 45, 115, 105, 110, 99, 101]⟩, ⟨#[]⟩⟩, ⟨⟨#[108, 97, 115, 116, 45, 109, 111, 100, 105, 102, 105, 101, 100]⟩, ⟨#[]⟩⟩, ⟨⟨#[108, 105, 110, 107]⟩, ⟨#[]⟩⟩, ⟨⟨#[108, 111, 99, 97, 116, 105, 111, 110]⟩, ⟨#[]⟩⟩, ⟨⟨#[109, 97, 120, 45, 102, 111, 114, 119, 97, 114, 100, 115]⟩, ⟨#[]⟩⟩, ⟨⟨#[112, 114, 111, 120, 121, 45, 97, 117, 116, 104, 101, 110, 116, 105, 99, 97, 116, 101]⟩, ⟨#[]⟩⟩, ⟨⟨#[112, 114, 111, 120, 121, 45, 97, 117, 116, 104, 111, 114, 105, 122, 97, 116, 105, 111, 110]⟩, ⟨#[]⟩⟩, ⟨⟨#[114, 97, 110, 103, 101]⟩, ⟨#[]⟩⟩, ⟨⟨#[114, 101, 102, 101, 114, 101, 114]⟩, ⟨#[]⟩⟩, ⟨⟨#[114, 101, 102, 114, 101, 115, 104]⟩, ⟨#[]⟩⟩, ⟨⟨#[114, 101, 116, 114, 121, 45, 97, 102, 116, 101, 114]⟩, ⟨#[]⟩⟩, ⟨⟨#[115, 101, 114, 118, 101, 114]⟩, ⟨#[]⟩⟩, ⟨⟨#[115, 101, 116, 45, 99, 111, 111, 107, 105, 101]⟩, ⟨#[]⟩⟩, ⟨⟨#[115, 116, 114, 105, 99, 116, 45, 116, 114, 97, 110, 115, 112, 111, 114, 116, 45, 115, 101, 99, 117, 114, 105, 116, 121]⟩, ⟨#[]⟩⟩, ⟨⟨#[116, 114, 97, 110, 115, 102, 101, 114, 45, 101, 110, 99, 111, 100, 105, 110, 103]⟩, ⟨#[]⟩⟩, ⟨⟨#[117, 115, 101, 114, 45, 97, 103, 101, 110, 116]⟩, ⟨#[]⟩⟩, ⟨⟨#[118, 97, 114, 121]⟩, ⟨#[]⟩⟩, ⟨⟨#[118, 105, 97]⟩, ⟨#[]⟩⟩, ⟨⟨#[119, 119, 119, 45, 97, 117, 116, 104, 101, 110, 116, 105, 99, 97, 116, 101]⟩, ⟨#[]⟩⟩]
def bwP (l : List S103) : List (List UInt8 × List UInt8) := l.map fun x => (x.f0.data.toList, x.f1.data.toList)
set_option maxRecDepth 100000 in
theorem bwL_parts : bwP bwL = (tbParts 10 tbText.data.toList).map (fun l => ((Lib.cut l [61]).1, (Lib.cut l [61]).2.1)) := by decide +kernel
theorem bwP_inj : ∀ (a b : List S103), bwP a = bwP b → a = b
  | [], [], _ => rfl
  | [], y :: b, h => by simp [bwP] at h
  | x :: a, [], h => by simp [bwP] at h
  | x :: a, y :: b, h => by
    simp only [bwP, List.map_cons, List.cons.injEq, Prod.mk.injEq] at h
    obtain ⟨⟨h1, h2⟩, h3⟩ := h
    obtain ⟨⟨⟨x0⟩⟩, ⟨⟨x1⟩⟩⟩ := x
    obtain ⟨⟨⟨y0⟩⟩, ⟨⟨y1⟩⟩⟩ := y
    simp only at h1 h2
    subst h1 h2
    rw [bwP_inj a b h3]
theorem bwFixed : tbFixed = bwL := by
  refine bwP_inj _ _ ?_
  rw [bwL_parts, ← tbPieces_eq, List.map_map]
  unfold tbFixed bwP
  rw [List.map_map]
  refine List.map_congr_left (fun x _ => ?_)
  simp [tbCut]
set_option maxRecDepth 100000 in
theorem nunciolaw13_awake_t : ((pack_New.f).bind fun t167 => ((some (([(⟨(⟨#[58, 109, 101, 116, 104, 111, 100]⟩ : ByteArray), (⟨#[71, 69, 84]⟩ : ByteArray), false⟩ : S26), (⟨(⟨#[58, 115, 99, 104, 101, 109, 101]⟩ : ByteArray), (⟨#[104, 116, 116, 112]⟩ : ByteArray), false⟩ : S26), (⟨(⟨#[58, 112, 97, 116, 104]⟩ : ByteArray), (⟨#[47]⟩ : ByteArray), false⟩ : S26), (⟨(⟨#[58, 97, 117, 116, 104, 111, 114, 105, 116, 121]⟩ : ByteArray), (⟨#[119, 119, 119, 46, 101, 120, 97, 109, 112, 108, 101, 46, 99, 111, 109]⟩ : ByteArray), false⟩ : S26)] : List (S26)) : List (S26))).bind fun y169 => ((pack_Encoder_Write.f 400 t167 y169).bind fun bt172 => (if y169.length < 3518437208883 then ((pack_Encoder_Write.f 400 bt172.2 (y169 ++ [(⟨(⟨#[99, 97, 99, 104, 101, 45, 99, 111, 110, 116, 114, 111, 108]⟩ : ByteArray), (⟨#[110, 111, 45, 99, 97, 99, 104, 101]⟩ : ByteArray), false⟩ : S26)])).bind fun bt177 => (if bt172.1.toList = ([130, 134, 132, 65, 140, 241, 227, 194, 229, 242, 58, 107, 160, 171, 144, 244, 255] : List UInt8) then (some (bt177.1.toList == ([130, 134, 132, 190, 88, 134, 168, 235, 16, 100, 156, 191] : List UInt8))) else (some false))) else (none))))) = some true := by
  unfold pack_New.f
  rw [bwFixed]
  decide +kernel
end Go.Proofs.YtfkdocmhbmameaaDoor.Mine
namespace Go.Proofs.YtfkdocmhbmameaaDoor.Mine
open Go.RowKit Go.Proofs.YtfkdocmhbmameaaDoorW.PrintWords Go.Proofs.YtfkdocmhbmameaaDoorW.PrintLast Go.Proofs.YtfkdocmhbmameaaDoorW.PrintMore
attribute [local go_sem] max2_int min2_int max_two min_two max_three min_three max_four min_four
set_option linter.unusedVariables false
set_option linter.unusedSimpArgs false
def nunciolaw13_awake.f (k : Nat)  : Option (Bool) := (pack_New.f).bind fun t167 => ((some (([(⟨(⟨#[58, 109, 101, 116, 104, 111, 100]⟩ : ByteArray), (⟨#[71, 69, 84]⟩ : ByteArray), false⟩ : S26), (⟨(⟨#[58, 115, 99, 104, 101, 109, 101]⟩ : ByteArray), (⟨#[104, 116, 116, 112]⟩ : ByteArray), false⟩ : S26), (⟨(⟨#[58, 112, 97, 116, 104]⟩ : ByteArray), (⟨#[47]⟩ : ByteArray), false⟩ : S26), (⟨(⟨#[58, 97, 117, 116, 104, 111, 114, 105, 116, 121]⟩ : ByteArray), (⟨#[119, 119, 119, 46, 101, 120, 97, 109, 112, 108, 101, 46, 99, 111, 109]⟩ : ByteArray), false⟩ : S26)] : List (S26)) : List (S26))).bind fun y169 => ((pack_Encoder_Write.f k t167 y169).bind fun bt172 => (if y169.length < 3518437208883 then ((pack_Encoder_Write.f k bt172.2 (y169 ++ [(⟨(⟨#[99, 97, 99, 104, 101, 45, 99, 111, 110, 116, 114, 111, 108]⟩ : ByteArray), (⟨#[110, 111, 45, 99, 97, 99, 104, 101]⟩ : ByteArray), false⟩ : S26)])).bind fun bt177 => (if bt172.1.toList = ([130, 134, 132, 65, 140, 241, 227, 194, 229, 242, 58, 107, 160, 171, 144, 244, 255] : List UInt8) then (some (bt177.1.toList == ([130, 134, 132, 190, 88, 134, 168, 235, 16, 100, 156, 191] : List UInt8))) else (some false))) else (none))))
theorem nunciolaw13_awake.mono : ∀ k, LeO (nunciolaw13_awake.f k ) (nunciolaw13_awake.f (k + 1) ) := by
 intro  k
 unfold nunciolaw13_awake.f
 repeat' first
   | (with_reducible exact pack_Encoder_Write.mono _ _ _)
   | (with_reducible exact LeO.refl _)
   | (with_reducible exact LeO.none _)
   | (with_reducible refine LeO.ite ?_ ?_)
   | (with_reducible refine LeO.bind ?_ (fun _ => ?_))
   | exact pack_Encoder_Write.mono _ _ _
   | exact LeO.none _
   | refine LeO.ite ?_ ?_
   | refine LeO.bind ?_ (fun _ => ?_)
set_option maxHeartbeats 8000000 in
set_option maxRecDepth 100000 in
theorem nunciolaw13_awake.calls (k : Nat)  (r : Bool) (w : World) (hE : EnvW w) (h : nunciolaw13_awake.f k  = some r) :
  Calls Tryd.prog 9 #[] w fun e w' => e = .returned (.bool r) ∧ Below w.heap.size w w' := by
 have hu26 := Tryd.underlying26
 have HB := Aside0.mk (Below.refl w.heap.size w)
 have HEnv := Aside0.mk hE
 clear hE
 have HT : Aside0 (r = true) := ⟨Option.some.inj ((at_rounds nunciolaw13_awake.mono (Nat.le_max_left k 400) h).symm.trans (at_rounds nunciolaw13_awake.mono (Nat.le_max_right k 400) (nunciolaw13_awake_t : nunciolaw13_awake.f 400 = some true)))⟩
 have H : ((pack_New.f).bind fun t167 => ((some (([(⟨(⟨#[58, 109, 101, 116, 104, 111, 100]⟩ : ByteArray), (⟨#[71, 69, 84]⟩ : ByteArray), false⟩ : S26), (⟨(⟨#[58, 115, 99, 104, 101, 109, 101]⟩ : ByteArray), (⟨#[104, 116, 116, 112]⟩ : ByteArray), false⟩ : S26), (⟨(⟨#[58, 112, 97, 116, 104]⟩ : ByteArray), (⟨#[47]⟩ : ByteArray), false⟩ : S26), (⟨(⟨#[58, 97, 117, 116, 104, 111, 114, 105, 116, 121]⟩ : ByteArray), (⟨#[119, 119, 119, 46, 101, 120, 97, 109, 112, 108, 101, 46, 99, 111, 109]⟩ : ByteArray), false⟩ : S26)] : List (S26)) : List (S26))).bind fun y169 => ((pack_Encoder_Write.f k t167 y169).bind fun bt172 => (if y169.length < 3518437208883 then ((pack_Encoder_Write.f k bt172.2 (y169 ++ [(⟨(⟨#[99, 97, 99, 104, 101, 45, 99, 111, 110, 116, 114, 111, 108]⟩ : ByteArray), (⟨#[110, 111, 45, 99, 97, 99, 104, 101]⟩ : ByteArray), false⟩ : S26)])).bind fun bt177 => (if bt172.1.toList = ([130, 134, 132, 65, 140, 241, 227, 194, 229, 242, 58, 107, 160, 171, 144, 244, 255] : List UInt8) then (some (bt177.1.toList == ([130, 134, 132, 190, 88, 134, 168, 235, 16, 100, 156, 191] : List UInt8))) else (some false))) else (none))))) = some r := h
 clear h
 replace H := Option.bind_eq_some_iff.mp H
 obtain ⟨t167, A10, H⟩ := H
 replace H : ((some (([(⟨(⟨#[58, 109, 101, 116, 104, 111, 100]⟩ : ByteArray), (⟨#[71, 69, 84]⟩ : ByteArray), false⟩ : S26), (⟨(⟨#[58, 115, 99, 104, 101, 109, 101]⟩ : ByteArray), (⟨#[104, 116, 116, 112]⟩ : ByteArray), false⟩ : S26), (⟨(⟨#[58, 112, 97, 116, 104]⟩ : ByteArray), (⟨#[47]⟩ : ByteArray), false⟩ : S26), (⟨(⟨#[58, 97, 117, 116, 104, 111, 114, 105, 116, 121]⟩ : ByteArray), (⟨#[119, 119, 119, 46, 101, 120, 97, 109, 112, 108, 101, 46, 99, 111, 109]⟩ : ByteArray), false⟩ : S26)] : List (S26)) : List (S26))).bind fun y169 => ((pack_Encoder_Write.f k t167 y169).bind fun bt172 => (if y169.length < 3518437208883 then ((pack_Encoder_Write.f k bt172.2 (y169 ++ [(⟨(⟨#[99, 97, 99, 104, 101, 45, 99, 111, 110, 116, 114, 111, 108]⟩ : ByteArray), (⟨#[110, 111, 45, 99, 97, 99, 104, 101]⟩ : ByteArray), false⟩ : S26)])).bind fun bt177 => (if bt172.1.toList = ([130, 134, 132, 65, 140, 241, 227, 194, 229, 242, 58, 107, 160, 171, 144, 244, 255] : List UInt8) then (some (bt177.1.toList == ([130, 134, 132, 190, 88, 134, 168, 235, 16, 100, 156, 191] : List UInt8))) else (some false))) else (none)))) = some r := H
 have A1 := Aside0.mk A10
 clear A10
 obtain ⟨y169, hy169⟩ : ∃ y_ : List (S26), y_ = (([(⟨(⟨#[58, 109, 101, 116, 104, 111, 100]⟩ : ByteArray), (⟨#[71, 69, 84]⟩ : ByteArray), false⟩ : S26), (⟨(⟨#[58, 115, 99, 104, 101, 109, 101]⟩ : ByteArray), (⟨#[104, 116, 116, 112]⟩ : ByteArray), false⟩ : S26), (⟨(⟨#[58, 112, 97, 116, 104]⟩ : ByteArray), (⟨#[47]⟩ : ByteArray), false⟩ : S26), (⟨(⟨#[58, 97, 117, 116, 104, 111, 114, 105, 116, 121]⟩ : ByteArray), (⟨#[119, 119, 119, 46, 101, 120, 97, 109, 112, 108, 101, 46, 99, 111, 109]⟩ : ByteArray), false⟩ : S26)] : List (S26))) := ⟨_, rfl⟩
 replace H : ((pack_Encoder_Write.f k t167 y169).bind fun bt172 => (if y169.length < 3518437208883 then ((pack_Encoder_Write.f k bt172.2 (y169 ++ [(⟨(⟨#[99, 97, 99, 104, 101, 45, 99, 111, 110, 116, 114, 111, 108]⟩ : ByteArray), (⟨#[110, 111, 45, 99, 97, 99, 104, 101]⟩ : ByteArray), false⟩ : S26)])).bind fun bt177 => (if bt172.1.toList = ([130, 134, 132, 65, 140, 241, 227, 194, 229, 242, 58, 107, 160, 171, 144, 244, 255] : List UInt8) then (some (bt177.1.toList == ([130, 134, 132, 190, 88, 134, 168, 235, 16, 100, 156, 191] : List UInt8))) else (some false))) else (none))) = some r := by first | (rw [hy169]; with_reducible exact H) | (have H2_ := (Option.bind_some _ _).symm.trans H; rw [hy169]; with_reducible exact H2_) | (have H2_ := (Option.bind_some _ _).symm.trans H; with_reducible exact H2_) | with_reducible exact H | (rw [hy169]; exact H) | exact H
 have Ny169 := Aside0.mk hy169
 clear hy169
 replace H := Option.bind_eq_some_iff.mp H
 obtain ⟨⟨t172, t173⟩, A20, H⟩ := H
 replace H : (if y169.length < 3518437208883 then ((pack_Encoder_Write.f k t173 (y169 ++ [(⟨(⟨#[99, 97, 99, 104, 101, 45, 99, 111, 110, 116, 114, 111, 108]⟩ : ByteArray), (⟨#[110, 111, 45, 99, 97, 99, 104, 101]⟩ : ByteArray), false⟩ : S26)])).bind fun bt177 => (if t172.toList = ([130, 134, 132, 65, 140, 241, 227, 194, 229, 242, 58, 107, 160, 171, 144, 244, 255] : List UInt8) then (some (bt177.1.toList == ([130, 134, 132, 190, 88, 134, 168, 235, 16, 100, 156, 191] : List UInt8))) else (some false))) else (none)) = some r := H
 have A2 := Aside0.mk A20
 clear A20
 by_cases c3 : y169.length < 3518437208883
 ·
  rw [if_pos c3] at H
  have LMc3 := Aside0.mk c3
  clear c3
  obtain ⟨y174, hy174⟩ : ∃ y_ : List (S26), y_ = (y169 ++ [(⟨(⟨#[99, 97, 99, 104, 101, 45, 99, 111, 110, 116, 114, 111, 108]⟩ : ByteArray), (⟨#[110, 111, 45, 99, 97, 99, 104, 101]⟩ : ByteArray), false⟩ : S26)]) := ⟨_, rfl⟩
  replace H : ((pack_Encoder_Write.f k t173 y174).bind fun bt177 => (if t172.toList = ([130, 134, 132, 65, 140, 241, 227, 194, 229, 242, 58, 107, 160, 171, 144, 244, 255] : List UInt8) then (some (bt177.1.toList == ([130, 134, 132, 190, 88, 134, 168, 235, 16, 100, 156, 191] : List UInt8))) else (some false))) = some r := by first | (rw [hy174]; with_reducible exact H) | (have H2_ := (Option.bind_some _ _).symm.trans H; rw [hy174]; with_reducible exact H2_) | (have H2_ := (Option.bind_some _ _).symm.trans H; with_reducible exact H2_) | with_reducible exact H | (rw [hy174]; exact H) | exact H
  have Ny174 := Aside0.mk hy174
  clear hy174
  replace H := Option.bind_eq_some_iff.mp H
  obtain ⟨⟨t177, t178⟩, A40, H⟩ := H
  replace H : (if t172.toList = ([130, 134, 132, 65, 140, 241, 227, 194, 229, 242, 58, 107, 160, 171, 144, 244, 255] : List UInt8) then (some (t177.toList == ([130, 134, 132, 190, 88, 134, 168, 235, 16, 100, 156, 191] : List UInt8))) else (some false)) = some r := H
  have A4 := Aside0.mk A40
  clear A40
  by_cases c5 : t172.toList = ([130, 134, 132, 65, 140, 241, 227, 194, 229, 242, 58, 107, 160, 171, 144, 244, 255] : List UInt8)
  ·
   rw [if_pos c5] at H
   have c5b0 : (t172.toList == ([130, 134, 132, 65, 140, 241, 227, 194, 229, 242, 58, 107, 160, 171, 144, 244, 255] : List UInt8)) = true := beq_iff_eq.mpr c5
   have c5b1 : (t172.toList != ([130, 134, 132, 65, 140, 241, 227, 194, 229, 242, 58, 107, 160, 171, 144, 244, 255] : List UInt8)) = false := bne_eq_false_iff_eq.mpr c5
   clear c5
   obtain rfl := Option.some.inj H
   go_enter Tryd.func9, Tryd.ntmps9
   have tk14 : True := trivial
   have tk15 : True := trivial
   go_wp2_with (first | ((with_reducible refine gate_callee (f := 11) rfl ?_); refine goesL_ (some 5) rfl rfl Tryd.func11 (by kernel_rfl) rfl #[] rfl (by (try simp only [List.map_toArray, List.map_cons, List.map_nil]); first | done | rfl | (simp only [List.length_drop, List.length_take]; rfl)) ?_; (with_reducible refine (pack_New.calls  t167 _ _ (Below.refl _ _) ?side1 A1.out).mono ?_); (case side1 => exact EnvW.below HEnv.out rfl (by repeat (first | (with_reducible first | exact HB.out | apply below_alloc | apply pw_below_drewN | apply below_drew1) | exact HB.out))); rintro e w6 ⟨g168, rfl, hi, hb, hb2⟩; refine ⟨_, rfl, ?_⟩; have n0_ := Aside0.mk (below_step (by repeat (first | (with_reducible first | exact HB.out | apply below_alloc | apply pw_below_drewN | apply below_drew1) | exact HB.out)) hb2); have n1_ := Aside0.mk ((show IsS70 w w6 g168 t167 from IsS70.rebase hi (below_size (by repeat (first | (with_reducible first | exact HB.out | apply below_alloc | apply pw_below_drewN | apply below_drew1) | exact HB.out))))); clear HB; have HB := n0_; have HI168 := n1_; clear n0_ n1_; (try clear hb); (try clear hb2); (try clear hk); (try clear hi)) | ((with_reducible refine gate_dst (N := 12) rfl ?_); refine Kd.R_lit k26 _ 26 ?hg (N := 12) ?hd (xs := ([(⟨(⟨#[58, 109, 101, 116, 104, 111, 100]⟩ : ByteArray), (⟨#[71, 69, 84]⟩ : ByteArray), false⟩ : S26), (⟨(⟨#[58, 115, 99, 104, 101, 109, 101]⟩ : ByteArray), (⟨#[104, 116, 116, 112]⟩ : ByteArray), false⟩ : S26), (⟨(⟨#[58, 112, 97, 116, 104]⟩ : ByteArray), (⟨#[47]⟩ : ByteArray), false⟩ : S26), (⟨(⟨#[58, 97, 117, 116, 104, 111, 114, 105, 116, 121]⟩ : ByteArray), (⟨#[119, 119, 119, 46, 101, 120, 97, 109, 112, 108, 101, 46, 99, 111, 109]⟩ : ByteArray), false⟩ : S26)] : List (S26))) (inner := [.string (⟨#[58, 109, 101, 116, 104, 111, 100]⟩ : ByteArray), .string (⟨#[71, 69, 84]⟩ : ByteArray), .bool false, .string (⟨#[58, 115, 99, 104, 101, 109, 101]⟩ : ByteArray), .string (⟨#[104, 116, 116, 112]⟩ : ByteArray), .bool false, .string (⟨#[58, 112, 97, 116, 104]⟩ : ByteArray), .string (⟨#[47]⟩ : ByteArray), .bool false, .string (⟨#[58, 97, 117, 116, 104, 111, 114, 105, 116, 121]⟩ : ByteArray), .string (⟨#[119, 119, 119, 46, 101, 120, 97, 109, 112, 108, 101, 46, 99, 111, 109]⟩ : ByteArray), .bool false]) (ok := fun _ => True) (okp := fun _ => True) ?hr ?hp (fun _ hk => hk) trivial (Below.refl _ _) (Nat.le_refl _) (by simp) ?_; (case hd => rfl); (case hg => rfl); (case hr => first | (go_simp; done) | (go_simp; rfl)); (case hp => exact (Reps.c3 (show Kd.M k26 _ _ _ (⟨(⟨#[58, 109, 101, 116, 104, 111, 100]⟩ : ByteArray), (⟨#[71, 69, 84]⟩ : ByteArray), false⟩ : S26) [.string (⟨#[58, 109, 101, 116, 104, 111, 100]⟩ : ByteArray), .string (⟨#[71, 69, 84]⟩ : ByteArray), .bool false] from (k26_mkM _ _ _ (⟨(⟨#[58, 109, 101, 116, 104, 111, 100]⟩ : ByteArray), (⟨#[71, 69, 84]⟩ : ByteArray), false⟩ : S26) )) (Reps.c3 (show Kd.M k26 _ _ _ (⟨(⟨#[58, 115, 99, 104, 101, 109, 101]⟩ : ByteArray), (⟨#[104, 116, 116, 112]⟩ : ByteArray), false⟩ : S26) [.string (⟨#[58, 115, 99, 104, 101, 109, 101]⟩ : ByteArray), .string (⟨#[104, 116, 116, 112]⟩ : ByteArray), .bool false] from (k26_mkM _ _ _ (⟨(⟨#[58, 115, 99, 104, 101, 109, 101]⟩ : ByteArray), (⟨#[104, 116, 116, 112]⟩ : ByteArray), false⟩ : S26) )) (Reps.c3 (show Kd.M k26 _ _ _ (⟨(⟨#[58, 112, 97, 116, 104]⟩ : ByteArray), (⟨#[47]⟩ : ByteArray), false⟩ : S26) [.string (⟨#[58, 112, 97, 116, 104]⟩ : ByteArray), .string (⟨#[47]⟩ : ByteArray), .bool false] from (k26_mkM _ _ _ (⟨(⟨#[58, 112, 97, 116, 104]⟩ : ByteArray), (⟨#[47]⟩ : ByteArray), false⟩ : S26) )) (Reps.c3 (show Kd.M k26 _ _ _ (⟨(⟨#[58, 97, 117, 116, 104, 111, 114, 105, 116, 121]⟩ : ByteArray), (⟨#[119, 119, 119, 46, 101, 120, 97, 109, 112, 108, 101, 46, 99, 111, 109]⟩ : ByteArray), false⟩ : S26) [.string (⟨#[58, 97, 117, 116, 104, 111, 114, 105, 116, 121]⟩ : ByteArray), .string (⟨#[119, 119, 119, 46, 101, 120, 97, 109, 112, 108, 101, 46, 99, 111, 109]⟩ : ByteArray), .bool false] from (k26_mkM _ _ _ (⟨(⟨#[58, 97, 117, 116, 104, 111, 114, 105, 116, 121]⟩ : ByteArray), (⟨#[119, 119, 119, 46, 101, 120, 97, 109, 112, 108, 101, 46, 99, 111, 109]⟩ : ByteArray), false⟩ : S26) )) (Reps.none _ _)))))); intro v170 w7 ho8 hb hg_ hnew_; clear hg_ hnew_; (first | rw [← Ny169.out] at ho8 | (simp only [Int.reduceToNat] at ho8; rw [← Ny169.out] at ho8)); have n0_ := Aside0.mk (Kd.R_lower ho8 (below_size (by repeat (first | (with_reducible first | exact HB.out | apply below_alloc | apply pw_below_drewN | apply below_drew1 | refine below_set ?_ (IsS70.ge HI168.out)) | exact HB.out)))); have n1_ := Aside0.mk (IsS70.below (by repeat (first | (with_reducible first | exact HI168.out | apply IsS70.alloc | apply IsS70.drewN | apply IsS70.drew) | exact HI168.out)) hb); have n2_ := Aside0.mk (below_step (by repeat (first | (with_reducible first | exact HB.out | apply below_alloc | apply pw_below_drewN | apply below_drew1 | refine below_set ?_ (IsS70.ge HI168.out)) | exact HB.out)) hb); clear HI168; clear HB; have HO171 := n0_; have HI168 := n1_; have HB := n2_; clear n0_ n1_ n2_; clear hb ho8; obtain ⟨Ao9, co9, eo9⟩ := Kd.R_slice HO171.out; subst eo9) | (have _t : True := tk14; clear tk14 _t; (with_reducible refine gate_callee (f := 12) rfl ?_); refine goesL_ (some 15) rfl rfl Tryd.func12 (by kernel_rfl) rfl #[.pointer (some ⟨g168, 0, none⟩), .slice Ao9 y169.length co9] rfl (by (try simp only [List.map_toArray, List.map_cons, List.map_nil]); first | done | rfl | (simp only [List.length_drop, List.length_take]; rfl)) ?_; (with_reducible refine (pack_Encoder_Write.calls k g168 t167 _ _ y169 t172 t173 w _ ?side1 ?side2 ?side3 ?side4 A2.out).mono ?_); (case side1 => repeat (first | (with_reducible first | exact HI168.out | apply IsS70.alloc | apply IsS70.drewN | apply IsS70.drew) | exact HI168.out)); (case side2 => repeat (first | (with_reducible first | exact HB.out | apply below_alloc | apply pw_below_drewN | apply below_drew1 | refine below_set ?_ (IsS70.ge HI168.out)) | exact HB.out)); (case side3 => repeat (first | exact (Kd.R_reads' HO171.out).2.2 | (with_reducible refine Kd.C_alloc ?_ _) | (with_reducible refine Kd.C_drewN ?_ _) | (with_reducible refine Kd.C_drew ?_))); (case side4 => exact (Kd.R_reads' HO171.out).2.1); rintro e w10 ⟨rfl, hi, hb, hk⟩; refine ⟨_, rfl, ?_⟩; have n0_ := Aside0.mk (Kd.R_mono (Kd.R_keep2 (IsS70.apart (show IsS70 w _ g168 t167 from by repeat (first | (with_reducible first | exact HI168.out | apply IsS70.alloc | apply IsS70.drewN | apply IsS70.drew) | exact HI168.out)) (by (with_reducible repeat (first | apply Kd.R_alloc | apply Kd.R_drewN | apply Kd.R_drew)); exact HO171.out) (by decide)) hk (fun _ h => h.2)) (fun _ h => h.1)); have n1_ := Aside0.mk (hb); have n2_ := Aside0.mk (hi); clear HO171; clear HB; clear HI168; have HO171 := n0_; have HB := n1_; have HI168 := n2_; clear n0_ n1_ n2_; (try clear hb); (try clear hb2); (try clear hk); (try clear hi)) | ((with_reducible refine gate_builtin (b := .append) (xs := #[.tmp 17, .tmp 19]) rfl ?_); at_builtin; refine Kd.R_append k26 (w0 := w) w.heap.size rfl (.tmp 17) (.tmp 19) 22 26 (.agg #[(.string ⟨#[]⟩), (.string ⟨#[]⟩), (.bool false)]) 40 rfl Tryd.underlying22 info26 rfl (by decide) (by omega) (.slice Ao9 y169.length co9) y169 (⟨(⟨#[99, 97, 99, 104, 101, 45, 99, 111, 110, 116, 114, 111, 108]⟩ : ByteArray), (⟨#[110, 111, 45, 99, 97, 99, 104, 101]⟩ : ByteArray), false⟩ : S26) [.string (⟨#[99, 97, 99, 104, 101, 45, 99, 111, 110, 116, 114, 111, 108]⟩ : ByteArray), .string (⟨#[110, 111, 45, 99, 97, 99, 104, 101]⟩ : ByteArray), .bool false] (fun _ => True) (fun _ => False) rfl rfl ?aP (fun _ hk => hk.elim) ?aF ?aO ?aB ?aS ?aL ?_; (case aP => exact k26_mkM _ _ _ (⟨(⟨#[99, 97, 99, 104, 101, 45, 99, 111, 110, 116, 114, 111, 108]⟩ : ByteArray), (⟨#[110, 111, 45, 99, 97, 99, 104, 101]⟩ : ByteArray), false⟩ : S26)); (case aB => exact (by repeat (first | (with_reducible first | exact HB.out | apply below_alloc | apply pw_below_drewN | apply below_drew1 | refine below_set ?_ (IsS70.ge HI168.out)) | exact HB.out))); (case aF => exact (fun _ _ => trivial)); (case aO => exact (by (with_reducible repeat (first | apply Kd.R_alloc | apply Kd.R_drewN | apply Kd.R_drew)); exact HO171.out)); (case aS => exact (below_size (by repeat (first | (with_reducible first | exact HB.out | apply below_alloc | apply pw_below_drewN | apply below_drew1 | refine below_set ?_ (IsS70.ge HI168.out)) | exact HB.out)))); (case aL => have := LMc3.out; omega); intro v175 w11 ho hb hg hat; rw [← Ny174.out] at ho; have n0_ := Aside0.mk (IsS70.grownT (by repeat (first | (with_reducible first | exact HI168.out | apply IsS70.alloc | apply IsS70.drewN | apply IsS70.drew) | exact HI168.out)) (by repeat (first | exact Below.refl _ _ | apply below_alloc | apply pw_below_drewN | apply below_drew1)) hg HO171.out (by decide)); have n1_ := Aside0.mk (hb); have n2_ := Aside0.mk (ho); clear HI168; clear HB; clear HO171; have HI168 := n0_; have HB := n1_; have HO176 := n2_; clear n0_ n1_ n2_; clear ho hb hg hat; obtain ⟨Ao12, co12, eo12⟩ := Kd.R_slice HO176.out; subst eo12) | (have _t : True := tk15; clear tk15 _t; (with_reducible refine gate_callee (f := 12) rfl ?_); refine goesL_ (some 21) rfl rfl Tryd.func12 (by kernel_rfl) rfl #[.pointer (some ⟨g168, 0, none⟩), .slice Ao12 y174.length co12] rfl (by (try simp only [List.map_toArray, List.map_cons, List.map_nil]); first | done | rfl | (simp only [List.length_drop, List.length_take]; rfl)) ?_; (with_reducible refine (pack_Encoder_Write.calls k g168 t173 _ _ y174 t177 t178 w _ ?side1 ?side2 ?side3 ?side4 A4.out).mono ?_); (case side1 => repeat (first | (with_reducible first | exact HI168.out | apply IsS70.alloc | apply IsS70.drewN | apply IsS70.drew) | exact HI168.out)); (case side2 => repeat (first | (with_reducible first | exact HB.out | apply below_alloc | apply pw_below_drewN | apply below_drew1 | refine below_set ?_ (IsS70.ge HI168.out)) | exact HB.out)); (case side3 => repeat (first | exact (Kd.R_reads' HO176.out).2.2 | (with_reducible refine Kd.C_alloc ?_ _) | (with_reducible refine Kd.C_drewN ?_ _) | (with_reducible refine Kd.C_drew ?_))); (case side4 => exact (Kd.R_reads' HO176.out).2.1); rintro e w13 ⟨rfl, hi, hb, hk⟩; refine ⟨_, rfl, ?_⟩; have n0_ := Aside0.mk (Kd.R_mono (Kd.R_keep2 (IsS70.apart (show IsS70 w _ g168 t173 from by repeat (first | (with_reducible first | exact HI168.out | apply IsS70.alloc | apply IsS70.drewN | apply IsS70.drew) | exact HI168.out)) (by (with_reducible repeat (first | apply Kd.R_alloc | apply Kd.R_drewN | apply Kd.R_drew)); exact HO176.out) (by decide)) hk (fun _ h => h.2)) (fun _ h => h.1)); have n1_ := Aside0.mk (hb); have n2_ := Aside0.mk (hi); clear HO176; clear HB; clear HI168; have HO176 := n0_; have HB := n1_; have HI168 := n2_; clear n0_ n1_ n2_; (try clear hb); (try clear hb2); (try clear hk); (try clear hi)))
   go_ret
   exact ⟨by first | rfl | (simp [errW_none, errW_some] <;> rfl) | (simp [*, errW_none, errW_some] <;> rfl), by repeat (first | (with_reducible first | exact HB.out | apply below_alloc | apply pw_below_drewN | apply below_drew1 | refine below_set ?_ (IsS70.ge HI168.out)) | exact HB.out)⟩
  ·
   rw [if_neg c5] at H
   have c5b0 : (t172.toList == ([130, 134, 132, 65, 140, 241, 227, 194, 229, 242, 58, 107, 160, 171, 144, 244, 255] : List UInt8)) = false := beq_eq_false_iff_ne.mpr c5
   have c5b1 : (t172.toList != ([130, 134, 132, 65, 140, 241, 227, 194, 229, 242, 58, 107, 160, 171, 144, 244, 255] : List UInt8)) = true := bne_iff_ne.mpr c5
   exact absurd ((Option.some.inj H).trans HT.out) (by decide)
 ·
  rw [if_neg c3] at H
  exact absurd H (by simp)
end Go.Proofs.YtfkdocmhbmameaaDoor.Mine
namespace Go.Proofs.YtfkdocmhbmameaaDoor.Pure
open Go.RowKit Go.Proofs.YtfkdocmhbmameaaDoor.Mine Go.Proofs.YtfkdocmhbmameaaDoorW.PrintWords Go.Proofs.YtfkdocmhbmameaaDoorW.PrintLast Go.Proofs.YtfkdocmhbmameaaDoorW.PrintMore
set_option linter.unusedVariables false
abbrev FP := S26
theorem tbFind_M (m : M) (nm vl : ByteArray) : tbFind (mkT m).fx (mkT m).l nm vl ((mkT m).fx.length + (mkT m).l.length) 1 0 = fdM m nm vl := by
  have e := find_loop tbFixed_len m nm vl (tbFixed.map cv ++ m.2) (tbFixed.length + ((m.2.map bk).reverse).length) 0 0 rfl (by simp only [List.length_append, List.length_reverse, List.length_map])
  rw [show ((0 : Nat) : Int) + 1 = 1 from rfl] at e
  unfold mkT
  dsimp only
  rw [e]
  unfold fdM fdF
  rw [fixed_cv]
  cases exI nm vl (F38 ++ m.2) 1 <;> rfl
theorem exI_range {nm vl : ByteArray} : ∀ (l : List S88) (i j : Int), exI nm vl l i = some j → i ≤ j ∧ j < i + (l.length : Int)
  | [], i, j, h => by simp [exI] at h
  | x :: l, i, j, h => by
    rw [exI] at h
    rw [List.length_cons]
    split at h
    · have := Option.some.inj h
      omega
    · have := exI_range l (i + 1) j h
      omega
theorem exI_mem {nm vl : ByteArray} : ∀ (l : List S88) (i : Int), (∃ x ∈ l, x.f0 = nm ∧ x.f1 = vl) → ∃ j, exI nm vl l i = some j
  | [], i, ⟨x, hx, _⟩ => by cases hx
  | y :: l, i, ⟨x, hx, hq⟩ => by
    rw [exI]
    by_cases h : y.f0 = nm ∧ y.f1 = vl
    · exact ⟨i, if_pos h⟩
    · rw [if_neg h]
      rcases List.mem_cons.mp hx with e | e
      · subst e
        exact absurd hq h
      · exact exI_mem l (i + 1) ⟨x, e, hq⟩
theorem nmI_range {nm : ByteArray} : ∀ (l : List S88) (i : Int), 0 ≤ i → 0 ≤ nmI nm l i ∧ nmI nm l i ≤ i + (l.length : Int)
  | [], i, h => by
    rw [nmI]
    simp only [List.length_nil]
    omega
  | x :: l, i, h => by
    rw [nmI, List.length_cons]
    split
    · omega
    · have := nmI_range (nm := nm) l (i + 1) (by omega)
      omega
theorem fdM_range {m : M} (h : Wt m) (nm vl : ByteArray) : 0 ≤ (fdM m nm vl).1 ∧ (fdM m nm vl).1 ≤ 200 := by
  have hl := h.1.2.1
  have hF : (F38 ++ m.2).length ≤ 189 := by rw [List.length_append, F38_len]; omega
  unfold fdM fdF
  cases he : exI nm vl (F38 ++ m.2) 1 with
  | some j =>
    have := exI_range _ _ _ he
    simp only
    omega
  | none =>
    have := nmI_range (nm := nm) (F38 ++ m.2) 1 (by omega)
    simp only
    omega
theorem encI_len (first F n : Int) : 1 ≤ (encI first F n).length ∧ (encI first F n).length ≤ 11 := by
  unfold encI
  split
  · simp
  · have := vint_length 9 (n - F)
    rw [List.length_cons]
    omega
theorem u64_id {n : Int} (h0 : 0 ≤ n) (h1 : n ≤ 4294967295) : IntKind.u64.wrap n = n := wu64_id h0 (by omega)
theorem put_ev (b : List Int) (hb : b.length ≤ 100000000) {first : Int} (hf0 : 0 ≤ first) (hf1 : first < 256) (bits : Int) {n : Int} (h0 : 0 ≤ n) (h1 : n ≤ 4294967295) : Ev (fun k => prefix_Put.f k b first bits (IntKind.u64.wrap n)) (b ++ encI first (ful bits) n) :=
  ⟨10, fun k hk => by show prefix_Put.f k b first bits (IntKind.u64.wrap n) = _; rw [u64_id h0 h1]; exact pput_f bits (by omega) hf0 hf1 h0 (by omega) hk⟩
def PT (t : ByteArray) (x : List Int) : Prop := (∃ o, IsEnc (bytesOf t) o ∧ o.length < t.size ∧ x = encI 128 (ful 7) (o.length : Int) ++ o) ∨ x = encI 0 (ful 7) (t.size : Int) ++ bytesOf t
def PL (nm vl : ByteArray) (first bits n : Int) (x : List Int) : Prop := ∃ u v, x = encI first (ful bits) n ++ u ++ v ∧ PT vl v ∧ (n = 0 → PT nm u) ∧ (n ≠ 0 → u = [])
theorem ptext_ev {t : ByteArray} (ht : t.size ≤ 3000) (b : List Int) (hb : b.length ≤ 50000000) : ∃ x, x.length ≤ 12000 ∧ PT t x ∧ Ev (fun k => pack_text.f k b t) (b ++ x) := by
  obtain ⟨o, ho, he⟩ := encode_f t (by omega)
  have hs := hsize_f t (by omega)
  have hl := (eb_length_bounds (bytesOf_bytes t)).2
  rw [bytesOf_length] at hl
  have ho2 : 8 * o.length ≤ 30 * t.size + 8 := by
    obtain ⟨_, p, hp, e⟩ := ho
    have e2 := congrArg List.length e
    rw [ub_length, List.length_append, List.length_replicate] at e2
    omega
  have hz : sz (bytesOf t) ≤ 30000000 := by unfold sz; omega
  by_cases hc : ((sz (bytesOf t) : Nat) : Int) < (t.size : Int)
  · have e1 := encI_len 128 (ful 7) ((sz (bytesOf t) : Nat) : Int)
    have hoz : o.length = sz (bytesOf t) := ho.length
    refine ⟨encI 128 (ful 7) ((sz (bytesOf t) : Nat) : Int) ++ o, by rw [List.length_append]; omega, .inl ⟨o, ho, by omega, by rw [hoz]⟩, ?_⟩
    refine Ev.congr (fun k => by rw [pack_text.f]) ?_
    refine Ev.bind hs ?_
    refine ev_pos hc ?_
    refine Ev.bind (put_ev b (by omega) (by omega) (by omega) 7 (by omega) (by omega)) ?_
    refine Ev.bind he ?_
    refine ev_pos (by rw [strOfNums_size, List.length_append]; omega) ?_
    exact ev_val (by rw [bytesOf_str ho.1, List.append_assoc])
  · have e1 := encI_len 0 (ful 7) (t.size : Int)
    refine ⟨encI 0 (ful 7) (t.size : Int) ++ bytesOf t, by rw [List.length_append, bytesOf_length]; omega, .inr rfl, ?_⟩
    refine Ev.congr (fun k => by rw [pack_text.f]) ?_
    refine Ev.bind hs ?_
    refine ev_neg hc ?_
    refine Ev.bind (put_ev b (by omega) (by omega) (by omega) 7 (by omega) (by omega)) ?_
    refine ev_pos (by rw [List.length_append]; omega) ?_
    exact ev_val (by rw [List.append_assoc])
theorem plit_ev {nm vl : ByteArray} (hn : nm.size ≤ 3000) (hv : vl.size ≤ 3000) (b : List Int) (hb : b.length ≤ 40000000) {first n : Int} (hf0 : 0 ≤ first) (hf1 : first < 256) (bits : Int) (h0 : 0 ≤ n) (h1 : n ≤ 4294967295) (nv : Bool) :
    ∃ x, x.length ≤ 30000 ∧ PL nm vl first bits n x ∧ Ev (fun k => pack_literal.f k b first bits n nm vl nv) (b ++ x) := by
  have e1 := encI_len first (ful bits) n
  by_cases hz : n = 0
  · obtain ⟨x, hx, hxt, u⟩ := ptext_ev hn (b ++ encI first (ful bits) n) (by rw [List.length_append]; omega)
    obtain ⟨y, hy, hyt, v⟩ := ptext_ev hv (b ++ encI first (ful bits) n ++ x) (by rw [List.length_append, List.length_append]; omega)
    refine ⟨encI first (ful bits) n ++ x ++ y, by rw [List.length_append, List.length_append]; omega, ⟨x, y, rfl, hyt, fun _ => hxt, fun h => absurd hz h⟩, ?_⟩
    refine Ev.congr (fun k => by rw [pack_literal.f]) ?_
    refine Ev.bind (put_ev b (by omega) hf0 hf1 bits h0 h1) ?_
    refine ev_pos hz ?_
    refine Ev.bind u ?_
    refine Ev.bind v ?_
    exact ev_val (by rw [List.append_assoc, List.append_assoc, List.append_assoc])
  · obtain ⟨y, hy, hyt, v⟩ := ptext_ev hv (b ++ encI first (ful bits) n) (by rw [List.length_append]; omega)
    refine ⟨encI first (ful bits) n ++ y, by rw [List.length_append]; omega, ⟨[], y, by rw [List.append_nil], hyt, fun h => absurd h hz, fun _ => rfl⟩, ?_⟩
    refine Ev.congr (fun k => by rw [pack_literal.f]) ?_
    refine Ev.bind (put_ev b (by omega) hf0 hf1 bits h0 h1) ?_
    refine ev_neg hz ?_
    refine Ev.bind v ?_
    exact ev_val (by rw [List.append_assoc])
end Go.Proofs.YtfkdocmhbmameaaDoor.Pure
namespace Go.Proofs.YtfkdocmhbmameaaDoor.Pure
open Go.RowKit Go.Proofs.YtfkdocmhbmameaaDoor.Mine Go.Proofs.YtfkdocmhbmameaaDoorW.PrintWords Go.Proofs.YtfkdocmhbmameaaDoorW.PrintLast Go.Proofs.YtfkdocmhbmameaaDoorW.PrintMore
set_option linter.unusedVariables false
theorem kp_all : ∀ (l : List S88) (r : Int), sm l ≤ r → kp r l = l
  | [], _, _ => rfl
  | x :: l, r, h => by
    rw [sm] at h
    have := sm_nonneg l
    rw [kp, if_pos (by omega), kp_all l _ (by omega)]
def aft (m : M) (f : FP) : M := if f.f2 = true then m else if (fdM m f.f0 f.f1).2 = true then m else if (f.f0.size : Int) + (f.f1.size : Int) ≤ m.1 - 32 then add m f.f0 f.f1 else m
def Sml (f : FP) : Prop := f.f0.size ≤ 3000 ∧ f.f1.size ≤ 3000
theorem Wt.aft {m : M} (h : Wt m) {f : FP} (hf : Sml f) : Wt (Pure.aft m f) := by
  unfold Pure.aft
  split
  · exact h
  · split
    · exact h
    · split
      · exact h.add (by unfold es; have := hf.1; have := hf.2; simp only; omega)
      · exact h
theorem pk_room {m : M} (h : Wt m) : (mkT m).l.length < 4398046511103 ∧ (mkT m).fx.length < 4398046511103 := ⟨by rw [mkT_len]; have := h.1.2.1; omega, by rw [mkT_fx]; omega⟩
theorem pfield_whole {m : M} (h : Wt m) {f : FP} (hn : ¬ f.f2 = true) (hw : (fdM m f.f0 f.f1).2 = true) (b : List Int) (hb : b.length ≤ 30000000) (le : Int) (ch : Bool) :
    Ev (fun k => pkField k ⟨mkT m, le, ch⟩ b f) (b ++ encI 128 (ful 7) (fdM m f.f0 f.f1).1, ⟨mkT m, le, ch⟩) := by
  have hr := fdM_range h f.f0 f.f1
  refine Ev.congr (fun k => by rw [pkField]) ?_
  refine ev_pos (pk_room h) ?_
  refine ev_neg hn ?_
  simp only [tbFind_M]
  refine ev_pos hw ?_
  obtain ⟨K, hK⟩ := put_ev b (by omega) (first := 128) (by omega) (by omega) 7 (n := (fdM m f.f0 f.f1).1) (by omega) (by omega)
  exact ⟨K, fun k hk => by have := hK k hk; simp only at this ⊢; rw [this]; rfl⟩
def PF (m : M) (f : FP) (x : List Int) : Prop :=
  if f.f2 = true then PL f.f0 f.f1 16 4 (fdM m f.f0 f.f1).1 x else if (fdM m f.f0 f.f1).2 = true then x = encI 128 (ful 7) (fdM m f.f0 f.f1).1
  else if (f.f0.size : Int) + (f.f1.size : Int) ≤ m.1 - 32 then PL f.f0 f.f1 64 6 (fdM m f.f0 f.f1).1 x else PL f.f0 f.f1 0 4 (fdM m f.f0 f.f1).1 x
theorem pfield_ev {m : M} (h : Wt m) {f : FP} (hf : Sml f) (b : List Int) (hb : b.length ≤ 30000000) (le : Int) (ch : Bool) :
    ∃ x, x.length ≤ 30000 ∧ PF m f x ∧ Ev (fun k => pkField k ⟨mkT m, le, ch⟩ b f) (b ++ x, ⟨mkT (aft m f), le, ch⟩) := by
  have hr := fdM_range h f.f0 f.f1
  have hm0 := h.1.1.1
  have hm1 := h.2
  have w1 : wrap64 ((f.f0.size : Int) + (f.f1.size : Int)) = (f.f0.size : Int) + (f.f1.size : Int) := w64 (by have := hf.1; have := hf.2; omega) (by have := hf.1; have := hf.2; omega)
  have w2 : wrap64 (m.1 - 32) = m.1 - 32 := w64 (by omega) (by omega)
  have plt : ∀ (first bits : Int), 0 ≤ first → first < 256 → ∃ x, x.length ≤ 30000 ∧ PL f.f0 f.f1 first bits (fdM m f.f0 f.f1).1 x ∧ Ev (fun k => pack_literal.f k b first bits (fdM m f.f0 f.f1).1 f.f0 f.f1 f.f2) (b ++ x) := fun first bits a0 a1 => plit_ev hf.1 hf.2 b (by omega) a0 a1 bits (by omega) (by omega) f.f2
  have mp : ∀ {g : Nat → Option (List Int)} {x : List Int} {e : TE}, Ev g x → Ev (fun k => (g k).map fun y => (y, e)) (x, e) := fun ⟨K, hK⟩ => ⟨K, fun k hk => by simp only; rw [hK k hk]; rfl⟩
  unfold aft PF
  by_cases hn : f.f2 = true
  · obtain ⟨x, hx, hp, u⟩ := plt 16 4 (by omega) (by omega)
    rw [if_pos hn]
    refine ⟨x, hx, by rw [if_pos hn]; exact hp, ?_⟩
    refine Ev.congr (fun k => by rw [pkField]) ?_
    refine ev_pos (pk_room h) ?_
    refine ev_pos hn ?_
    simp only [tbFind_M]
    exact mp u
  · rw [if_neg hn]
    by_cases hw : (fdM m f.f0 f.f1).2 = true
    · rw [if_pos hw]
      refine ⟨encI 128 (ful 7) (fdM m f.f0 f.f1).1, by have := encI_len 128 (ful 7) (fdM m f.f0 f.f1).1; omega, by rw [if_neg hn, if_pos hw], ?_⟩
      exact pfield_whole h hn hw b (by omega) le ch
    · rw [if_neg hw]
      by_cases hc : (f.f0.size : Int) + (f.f1.size : Int) ≤ m.1 - 32
      · obtain ⟨x, hx, hp, u⟩ := plt 64 6 (by omega) (by omega)
        have ha := add_f h.1 (by omega) (a := f.f0) (b := f.f1) (by unfold es; have := hf.1; have := hf.2; simp only; omega)
        rw [if_pos hc]
        refine ⟨x, hx, by rw [if_neg hn, if_neg hw, if_pos hc]; exact hp, ?_⟩
        refine Ev.congr (fun k => by rw [pkField]) ?_
        refine ev_pos (pk_room h) ?_
        refine ev_neg hn ?_
        simp only [tbFind_M]
        refine ev_neg hw ?_
        refine ev_pos (show wrap64 ((f.f0.size : Int) + (f.f1.size : Int)) ≤ wrap64 ((mkT m).most - 32) by rw [w1]; show _ ≤ wrap64 (m.1 - 32); rw [w2]; exact hc) ?_
        refine ev_bind0 ha ?_
        exact mp u
      · obtain ⟨x, hx, hp, u⟩ := plt 0 4 (by omega) (by omega)
        rw [if_neg hc]
        refine ⟨x, hx, by rw [if_neg hn, if_neg hw, if_neg hc]; exact hp, ?_⟩
        refine Ev.congr (fun k => by rw [pkField]) ?_
        refine ev_pos (pk_room h) ?_
        refine ev_neg hn ?_
        simp only [tbFind_M]
        refine ev_neg hw ?_
        refine ev_neg (show ¬ wrap64 ((f.f0.size : Int) + (f.f1.size : Int)) ≤ wrap64 ((mkT m).most - 32) by rw [w1]; show ¬ _ ≤ wrap64 (m.1 - 32); rw [w2]; exact hc) ?_
        exact mp u
def PFs : M → List FP → List Int → Prop
  | m, [], x => x = []
  | m, f :: r, x => ∃ u v, x = u ++ v ∧ PF m f u ∧ PFs (aft m f) r v
def afts : M → List FP → M
  | m, [] => m
  | m, f :: r => afts (aft m f) r
theorem Wt.afts : ∀ (l : List FP) {m : M}, Wt m → (∀ f ∈ l, Sml f) → Wt (Pure.afts m l)
  | [], m, h, _ => h
  | f :: r, m, h, hs => by
    rw [Pure.afts]
    exact Wt.afts r (h.aft (hs f List.mem_cons_self)) (fun x hx => hs x (List.mem_cons_of_mem _ hx))
theorem pfields_ev : ∀ (l : List FP) {m : M} (b : List Int) (le : Int) (ch : Bool), Wt m → (∀ f ∈ l, Sml f) → b.length + 30000 * l.length ≤ 30000000 →
    ∃ x, PFs m l x ∧ Ev (fun k => pkFields k ⟨mkT m, le, ch⟩ b l) (b ++ x, ⟨mkT (afts m l), le, ch⟩)
  | [], m, b, le, ch, h, _, _ => ⟨[], rfl, Ev.congr (fun k => by rw [pkFields]) (ev_val (by rw [List.append_nil]; rfl))⟩
  | f :: r, m, b, le, ch, h, hs, hb => by
    rw [List.length_cons] at hb
    obtain ⟨x, hx, hp, u⟩ := pfield_ev h (hs f List.mem_cons_self) b (by omega) le ch
    obtain ⟨y, hq, v⟩ := pfields_ev r (b ++ x) le ch (h.aft (hs f List.mem_cons_self)) (fun x hx => hs x (List.mem_cons_of_mem _ hx)) (by rw [List.length_append]; omega)
    refine ⟨x ++ y, ⟨x, y, rfl, hp, hq⟩, ?_⟩
    rw [← List.append_assoc]
    refine Ev.congr (fun k => by rw [pkFields]) ?_
    exact Ev.bind u v
theorem pwrite_ev {m : M} (h : Wt m) {l : List FP} (hs : ∀ f ∈ l, Sml f) (hl : l.length ≤ 900) (le : Int) :
    ∃ x, PFs m l x ∧ Ev (fun k => pack_Encoder_Write.f k ⟨mkT m, le, false⟩ l) (strOfNums x, ⟨mkT (afts m l), 4096, false⟩) := by
  obtain ⟨x, hp, u⟩ := pfields_ev l [] 4096 false h hs (by simp only [List.length_nil]; omega)
  refine ⟨x, hp, ?_⟩
  refine Ev.congr (fun k => by rw [pack_Encoder_Write.f]) ?_
  refine ev_pos (by omega) ?_
  refine Ev.bind (show Ev (fun k => pkHead k ⟨mkT m, le, false⟩) [] from ⟨0, fun k _ => rfl⟩) ?_
  exact Ev.bind u (Ev.now _)
end Go.Proofs.YtfkdocmhbmameaaDoor.Pure
