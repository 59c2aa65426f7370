/- The walks and the plain laws that the rows come to: merged out of this repo's texts. -/
import Derived.Test.YtfkdocmhbmameaaDoorProg
import Derived.Below
import Derived.Deep.Draws
import Derived.Deep.AppendLies
import Derived.Maps.AppendAt
import Derived.OwnWalk
import Derived.Laws.BytesArg
import Derived.Laws.MakeOwn
import Derived.Laws.OwnMore
import Derived.Deep.OwnRows
import Derived.Tactics
import Derived.Lib.ConvBytes
import Derived.Laws.Slices
import Derived.WalkKit
import Derived.KernelRfl
import Derived.RowKit3
import Derived.Deep.LoopGhost
import Derived.Deep.QuietTactic
import Derived.BigQuiet
import Derived.WideLaws
import Derived.Deep.DeepCutAuto
import Derived.Deep.CutBlock
import Derived.Deep.RegionHeld3
import Derived.Laws.Rows
import Derived.Lib.AppendStr
import Derived.ArgAppend
import Derived.Laws.IdiomCopy
import Derived.RowKit
import Derived.OrdersHeld
import Derived.Laws.BitsLemmas
import Derived.Laws.StructEq
import Derived.Laws.CopyOwn
import Derived.SizedLaws
import Derived.ChangeSlices
import Derived.Deep.Slices
import Derived.Lib.SmallJoins
import Derived.Lib.OthersKept
import Derived.Lib.AppendZerosOnto
import Derived.WalkSpells
import Derived.Shelf.Utf8.RuneCount
import Derived.Shelf.Strings.Search1
import Derived.Shelf.Strings.Search2
import Derived.Shelf.Strings.Search3
import Derived.Shelf.Strings.Cut
import Derived.Shelf.Strings.Count
import Derived.Shelf.LaysM
import Derived.Shelf.Strings.Shaped
import Derived.Shelf.Strings.Split
import Derived.Shelf.Strings.SplitShaped
import Derived.Shelf.Unicode.Decode
import Derived.Shelf.Strings.RuneCount
import Derived.Shelf.Strings.Explode
import Derived.Shelf.Unicode.DecodeSlow
import Derived.Shelf.Unicode.DecodeAny
import Derived.Recover
import Derived.WalkLawsBesides
import Derived.Test.YtfkdocmhbmameaaDoorCV1
import Derived.Test.YtfkdocmhbmameaaDoorCV2
import Derived.Test.YtfkdocmhbmameaaDoorCV3
import Derived.Test.YtfkdocmhbmameaaDoorCV4
import Derived.Test.YtfkdocmhbmameaaDoorCV6
import Derived.Test.YtfkdocmhbmameaaDoorCV7
import Derived.Test.YtfkdocmhbmameaaDoorCV8
import Derived.Test.YtfkdocmhbmameaaDoorCV10
import Derived.Test.YtfkdocmhbmameaaDoorCV12
import Derived.Test.YtfkdocmhbmameaaDoorCV13
import Derived.Test.YtfkdocmhbmameaaDoorCV14
import Derived.Test.YtfkdocmhbmameaaDoorCV15
import Derived.Test.YtfkdocmhbmameaaDoorCV16
import Derived.Test.YtfkdocmhbmameaaDoorCV17
import Derived.Test.YtfkdocmhbmameaaDoorCV18
import Derived.Test.YtfkdocmhbmameaaDoorCV19
import Derived.Test.YtfkdocmhbmameaaDoorCV20
namespace Go.Proofs.YtfkdocmhbmameaaDoor.Mine
open Go.RowKit Go.Proofs Go.Proofs.YtfkdocmhbmameaaDoorW.PrintWords Go.Proofs.YtfkdocmhbmameaaDoorW.PrintLast Go.Proofs.YtfkdocmhbmameaaDoorW.PrintMore
def bwL : List S103 := [⟨⟨#[58, 97, 117, 116, 104, 111, 114, 105, 116, 121]⟩, ⟨#[]⟩⟩, ⟨⟨#[58, 109, 101, 116, 104, 111, 100]⟩, ⟨#[71, 69, 84]⟩⟩, ⟨⟨#[58, 109, 101, 116, 104, 111, 100]⟩, ⟨#[80, 79, 83, 84]⟩⟩, ⟨⟨#[58, 112, 97, 116, 104]⟩, ⟨#[47]⟩⟩, ⟨⟨#[58, 112, 97, 116, 104]⟩, ⟨#[47, 105, 110, 100, 101, 120, 46, 104, 116, 109, 108]⟩⟩, ⟨⟨#[58, 115, 99, 104, 101, 109, 101]⟩, ⟨#[104, 116, 116, 112]⟩⟩, ⟨⟨#[58, 115, 99, 104, 101, 109, 101]⟩, ⟨#[104, 116, 116, 112, 115]⟩⟩, ⟨⟨#[58, 115, 116, 97, 116, 117, 115]⟩, ⟨#[50, 48, 48]⟩⟩, ⟨⟨#[58, 115, 116, 97, 116, 117, 115]⟩, ⟨#[50, 48, 52]⟩⟩, ⟨⟨#[58, 115, 116, 97, 116, 117, 115]⟩, ⟨#[50, 48, 54]⟩⟩, ⟨⟨#[58, 115, 116, 97, 116, 117, 115]⟩, ⟨#[51, 48, 52]⟩⟩, ⟨⟨#[58, 115, 116, 97, 116, 117, 115]⟩, ⟨#[52, 48, 48]⟩⟩, ⟨⟨#[58, 115, 116, 97, 116, 117, 115]⟩, ⟨#[52, 48, 52]⟩⟩, ⟨⟨#[58, 115, 116, 97, 116, 117, 115]⟩, ⟨#[53, 48, 48]⟩⟩, ⟨⟨#[97, 99, 99, 101, 112, 116, 45, 99, 104, 97, 114, 115, 101, 116]⟩, ⟨#[]⟩⟩, ⟨⟨#[97, 99, 99, 101, 112, 116, 45, 101, 110, 99, 111, 100, 105, 110, 103]⟩, ⟨#[103, 122, 105, 112, 44, 32, 100, 101, 102, 108, 97, 116, 101]⟩⟩, ⟨⟨#[97, 99, 99, 101, 112, 116, 45, 108, 97, 110, 103, 117, 97, 103, 101]⟩, ⟨#[]⟩⟩, ⟨⟨#[97, 99, 99, 101, 112, 116, 45, 114, 97, 110, 103, 101, 115]⟩, ⟨#[]⟩⟩, ⟨⟨#[97, 99, 99, 101, 112, 116]⟩, ⟨#[]⟩⟩, ⟨⟨#[97, 99, 99, 101, 115, 115, 45, 99, 111, 110, 116, 114, 111, 108, 45, 97, 108, 108, 111, 119, 45, 111, 114, 105, 103, 105, 110]⟩, ⟨#[]⟩⟩, ⟨⟨#[97, 103, 101]⟩, ⟨#[]⟩⟩, ⟨⟨#[97, 108, 108, 111, 119]⟩, ⟨#[]⟩⟩, ⟨⟨#[97, 117, 116, 104, 111, 114, 105, 122, 97, 116, 105, 111, 110]⟩, ⟨#[]⟩⟩, ⟨⟨#[99, 97, 99, 104, 101, 45, 99, 111, 110, 116, 114, 111, 108]⟩, ⟨#[]⟩⟩, ⟨⟨#[99, 111, 110, 116, 101, 110, 116, 45, 100, 105, 115, 112, 111, 115, 105, 116, 105, 111, 110]⟩, ⟨#[]⟩⟩, ⟨⟨#[99, 111, 110, 116, 101, 110, 116, 45, 101, 110, 99, 111, 100, 105, 110, 103]⟩, ⟨#[]⟩⟩, ⟨⟨#[99, 111, 110, 116, 101, 110, 116, 45, 108, 97, 110, 103, 117, 97, 103, 101]⟩, ⟨#[]⟩⟩, ⟨⟨#[99, 111, 110, 116, 101, 110, 116, 45, 108, 101, 110, 103, 116, 104]⟩, ⟨#[]⟩⟩, ⟨⟨#[99, 111, 110, 116, 101, 110, 116, 45, 108, 111, 99, 97, 116, 105, 111, 110]⟩, ⟨#[]⟩⟩, ⟨⟨#[99, 111, 110, 116, 101, 110, 116, 45, 114, 97, 110, 103, 101]⟩, ⟨#[]⟩⟩, ⟨⟨#[99, 111, 110, 116, 101, 110, 116, 45, 116, 121, 112, 101]⟩, ⟨#[]⟩⟩, ⟨⟨#[99, 111, 111, 107, 105, 101]⟩, ⟨#[]⟩⟩, ⟨⟨#[100, 97, 116, 101]⟩, ⟨#[]⟩⟩, ⟨⟨#[101, 116, 97, 103]⟩, ⟨#[]⟩⟩, ⟨⟨#[101, 120, 112, 101, 99, 116]⟩, ⟨#[]⟩⟩, ⟨⟨#[101, 120, 112, 105, 114, 101, 115]⟩, ⟨#[]⟩⟩, ⟨⟨#[102, 114, 111, 109]⟩, ⟨#[]⟩⟩, ⟨⟨#[104, 111, 115, 116]⟩, ⟨#[]⟩⟩, ⟨⟨#[105, 102, 45, 109, 97, 116, 99, 104]⟩, ⟨#[]⟩⟩, ⟨⟨#[105, 102, 45, 109, 111, 100, 105, 102, 105, 101, 100, 45, 115, 105, 110, 99, 101]⟩, ⟨#[]⟩⟩, ⟨⟨#[105, 102, 45, 110, 111, 110, 101, 45, 109, 97, 116, 99, 104]⟩, ⟨#[]⟩⟩, ⟨⟨#[105, 102, 45, 114, 97, 110, 103, 101]⟩, ⟨#[]⟩⟩, ⟨⟨#[105, 102, 45, 117, 110, 109, 111, 100, 105, 102, 105, 101, 100, 45, 115, 105, 110, 99, 101]⟩, ⟨#[]⟩⟩, ⟨⟨#[108, 97, 115, 116, 45, 109, 111, 100, 105, 102, 105, 101, 100]⟩, ⟨#[]⟩⟩, ⟨⟨#[108, 105, 110, 107]⟩, ⟨#[]⟩⟩, ⟨⟨#[108, 111, 99, 97, 116, 105, 111, 110]⟩, ⟨#[]⟩⟩, ⟨⟨#[109, 97, 120, 45, 102, 111, 114, 119, 97, 114, 100, 115]⟩, ⟨#[]⟩⟩, ⟨⟨#[112, 114, 111, 120, 121, 45, 97, 117, 116, 104, 101, 110, 116, 105, 99, 97, 116, 101]⟩, ⟨#[]⟩⟩, ⟨⟨#[112, 114, 111, 120, 121, 45, 97, 117, 116, 104, 111, 114, 105, 122, 97, 116, 105, 111, 110]⟩, ⟨#[]⟩⟩, ⟨⟨#[114, 97, 110, 103, 101]⟩, ⟨#[]⟩⟩, ⟨⟨#[114, 101, 102, 101, 114, 101, 114]⟩, ⟨#[]⟩⟩, ⟨⟨#[114, 101, 102, 114, 101, 115, 104]⟩, ⟨#[]⟩⟩, ⟨⟨#[114, 101, 116, 114, 121, 45, 97, 102, 116, 101, 114]⟩, ⟨#[]⟩⟩, ⟨⟨#[115, 101, 114, 118, 101, 114]⟩, ⟨#[]⟩⟩, ⟨⟨#[115, 101, 116, 45, 99, 111, 111, 107, 105, 101]⟩, ⟨#[]⟩⟩, ⟨⟨#[115, 116, 114, 105, 99, 116, 45, 116, 114, 97, 110, 115, 112, 111, 114, 116, 45, 115, 101, 99, 117, 114, 105, 116, 121]⟩, ⟨#[]⟩⟩, ⟨⟨#[116, 114, 97, 110, 115, 102, 101, 114, 45, 101, 110, 99, 111, 100, 105, 110, 103]⟩, ⟨#[]⟩⟩, ⟨⟨#[117, 115, 101, 114, 45, 97, 103, 101, 110, 116]⟩, ⟨#[]⟩⟩, ⟨⟨#[118, 97, 114, 121]⟩, ⟨#[]⟩⟩, ⟨⟨#[118, 105, 97]⟩, ⟨#[]⟩⟩, ⟨⟨#[119, 119, 119, 45, 97, 117, 116, 104, 101, 110, 116, 105, 99, 97, 116, 101]⟩, ⟨#[]⟩⟩]
def bwP (l : List S103) : List (List UInt8 × List UInt8) := l.map fun x => (x.f0.data.toList, x.f1.data.toList)
set_option maxRecDepth 100000 in
theorem bwL_parts : bwP bwL = (tbParts 10 tbText.data.toList).map (fun l => ((Lib.cut l [61]).1, (Lib.cut l [61]).2.1)) := by decide +kernel
theorem bwP_inj : ∀ (a b : List S103), bwP a = bwP b → a = b
  | [], [], _ => rfl
  | [], y :: b, h => by simp [bwP] at h
  | x :: a, [], h => by simp [bwP] at h
  | x :: a, y :: b, h => by
    simp only [bwP, List.map_cons, List.cons.injEq, Prod.mk.injEq] at h
    obtain ⟨⟨h1, h2⟩, h3⟩ := h
    obtain ⟨⟨⟨x0⟩⟩, ⟨⟨x1⟩⟩⟩ := x
    obtain ⟨⟨⟨y0⟩⟩, ⟨⟨y1⟩⟩⟩ := y
    simp only at h1 h2
    subst h1 h2
    rw [bwP_inj a b h3]
theorem bwFixed : tbFixed = bwL := by
  refine bwP_inj _ _ ?_
  rw [bwL_parts, ← tbPieces_eq, List.map_map]
  unfold tbFixed bwP
  rw [List.map_map]
  refine List.map_congr_left (fun x _ => ?_)
  simp [tbCut]
set_option maxRecDepth 100000 in
theorem nunciolaw13_awake_t : ((pack_New.f).bind fun t167 => ((some (([(⟨(⟨#[58, 109, 101, 116, 104, 111, 100]⟩ : ByteArray), (⟨#[71, 69, 84]⟩ : ByteArray), false⟩ : S26), (⟨(⟨#[58, 115, 99, 104, 101, 109, 101]⟩ : ByteArray), (⟨#[104, 116, 116, 112]⟩ : ByteArray), false⟩ : S26), (⟨(⟨#[58, 112, 97, 116, 104]⟩ : ByteArray), (⟨#[47]⟩ : ByteArray), false⟩ : S26), (⟨(⟨#[58, 97, 117, 116, 104, 111, 114, 105, 116, 121]⟩ : ByteArray), (⟨#[119, 119, 119, 46, 101, 120, 97, 109, 112, 108, 101, 46, 99, 111, 109]⟩ : ByteArray), false⟩ : S26)] : List (S26)) : List (S26))).bind fun y169 => ((pack_Encoder_Write.f 400 t167 y169).bind fun bt172 => (if y169.length < 3518437208883 then ((pack_Encoder_Write.f 400 bt172.2 (y169 ++ [(⟨(⟨#[99, 97, 99, 104, 101, 45, 99, 111, 110, 116, 114, 111, 108]⟩ : ByteArray), (⟨#[110, 111, 45, 99, 97, 99, 104, 101]⟩ : ByteArray), false⟩ : S26)])).bind fun bt177 => (if bt172.1.toList = ([130, 134, 132, 65, 140, 241, 227, 194, 229, 242, 58, 107, 160, 171, 144, 244, 255] : List UInt8) then (some (bt177.1.toList == ([130, 134, 132, 190, 88, 134, 168, 235, 16, 100, 156, 191] : List UInt8))) else (some false))) else (none))))) = some true := by
  unfold pack_New.f
  rw [bwFixed]
  decide +kernel
end Go.Proofs.YtfkdocmhbmameaaDoor.Mine
namespace Go.Proofs.YtfkdocmhbmameaaDoor.Mine
open Go.RowKit Go.Proofs.YtfkdocmhbmameaaDoorW.PrintWords Go.Proofs.YtfkdocmhbmameaaDoorW.PrintLast Go.Proofs.YtfkdocmhbmameaaDoorW.PrintMore
attribute [local go_sem] max2_int min2_int max_two min_two max_three min_three max_four min_four
set_option linter.unusedVariables false
set_option linter.unusedSimpArgs false
def nunciolaw13_awake.f (k : Nat)  : Option (Bool) := (pack_New.f).bind fun t167 => ((some (([(⟨(⟨#[58, 109, 101, 116, 104, 111, 100]⟩ : ByteArray), (⟨#[71, 69, 84]⟩ : ByteArray), false⟩ : S26), (⟨(⟨#[58, 115, 99, 104, 101, 109, 101]⟩ : ByteArray), (⟨#[104, 116, 116, 112]⟩ : ByteArray), false⟩ : S26), (⟨(⟨#[58, 112, 97, 116, 104]⟩ : ByteArray), (⟨#[47]⟩ : ByteArray), false⟩ : S26), (⟨(⟨#[58, 97, 117, 116, 104, 111, 114, 105, 116, 121]⟩ : ByteArray), (⟨#[119, 119, 119, 46, 101, 120, 97, 109, 112, 108, 101, 46, 99, 111, 109]⟩ : ByteArray), false⟩ : S26)] : List (S26)) : List (S26))).bind fun y169 => ((pack_Encoder_Write.f k t167 y169).bind fun bt172 => (if y169.length < 3518437208883 then ((pack_Encoder_Write.f k bt172.2 (y169 ++ [(⟨(⟨#[99, 97, 99, 104, 101, 45, 99, 111, 110, 116, 114, 111, 108]⟩ : ByteArray), (⟨#[110, 111, 45, 99, 97, 99, 104, 101]⟩ : ByteArray), false⟩ : S26)])).bind fun bt177 => (if bt172.1.toList = ([130, 134, 132, 65, 140, 241, 227, 194, 229, 242, 58, 107, 160, 171, 144, 244, 255] : List UInt8) then (some (bt177.1.toList == ([130, 134, 132, 190, 88, 134, 168, 235, 16, 100, 156, 191] : List UInt8))) else (some false))) else (none))))
theorem nunciolaw13_awake.mono : ∀ k, LeO (nunciolaw13_awake.f k ) (nunciolaw13_awake.f (k + 1) ) := by
 intro  k
 unfold nunciolaw13_awake.f
 repeat' first
   | (with_reducible exact pack_Encoder_Write.mono _ _ _)
   | (with_reducible exact LeO.refl _)
   | (with_reducible exact LeO.none _)
   | (with_reducible refine LeO.ite ?_ ?_)
   | (with_reducible refine LeO.bind ?_ (fun _ => ?_))
   | exact pack_Encoder_Write.mono _ _ _
   | exact LeO.none _
   | refine LeO.ite ?_ ?_
   | refine LeO.bind ?_ (fun _ => ?_)
set_option maxHeartbeats 8000000 in
set_option maxRecDepth 100000 in
theorem nunciolaw13_awake.calls (k : Nat)  (r : Bool) (w : World) (hE : EnvW w) (h : nunciolaw13_awake.f k  = some r) :
  Calls Tryd.prog 9 #[] w fun e w' => e = .returned (.bool r) ∧ Below w.heap.size w w' := by
 have hu26 := Tryd.underlying26
 have HB := Aside0.mk (Below.refl w.heap.size w)
 have HEnv := Aside0.mk hE
 clear hE
 have HT : Aside0 (r = true) := ⟨Option.some.inj ((at_rounds nunciolaw13_awake.mono (Nat.le_max_left k 400) h).symm.trans (at_rounds nunciolaw13_awake.mono (Nat.le_max_right k 400) (nunciolaw13_awake_t : nunciolaw13_awake.f 400 = some true)))⟩
 have H : ((pack_New.f).bind fun t167 => ((some (([(⟨(⟨#[58, 109, 101, 116, 104, 111, 100]⟩ : ByteArray), (⟨#[71, 69, 84]⟩ : ByteArray), false⟩ : S26), (⟨(⟨#[58, 115, 99, 104, 101, 109, 101]⟩ : ByteArray), (⟨#[104, 116, 116, 112]⟩ : ByteArray), false⟩ : S26), (⟨(⟨#[58, 112, 97, 116, 104]⟩ : ByteArray), (⟨#[47]⟩ : ByteArray), false⟩ : S26), (⟨(⟨#[58, 97, 117, 116, 104, 111, 114, 105, 116, 121]⟩ : ByteArray), (⟨#[119, 119, 119, 46, 101, 120, 97, 109, 112, 108, 101, 46, 99, 111, 109]⟩ : ByteArray), false⟩ : S26)] : List (S26)) : List (S26))).bind fun y169 => ((pack_Encoder_Write.f k t167 y169).bind fun bt172 => (if y169.length < 3518437208883 then ((pack_Encoder_Write.f k bt172.2 (y169 ++ [(⟨(⟨#[99, 97, 99, 104, 101, 45, 99, 111, 110, 116, 114, 111, 108]⟩ : ByteArray), (⟨#[110, 111, 45, 99, 97, 99, 104, 101]⟩ : ByteArray), false⟩ : S26)])).bind fun bt177 => (if bt172.1.toList = ([130, 134, 132, 65, 140, 241, 227, 194, 229, 242, 58, 107, 160, 171, 144, 244, 255] : List UInt8) then (some (bt177.1.toList == ([130, 134, 132, 190, 88, 134, 168, 235, 16, 100, 156, 191] : List UInt8))) else (some false))) else (none))))) = some r := h
 clear h
 replace H := Option.bind_eq_some_iff.mp H
 obtain ⟨t167, A10, H⟩ := H
 replace H : ((some (([(⟨(⟨#[58, 109, 101, 116, 104, 111, 100]⟩ : ByteArray), (⟨#[71, 69, 84]⟩ : ByteArray), false⟩ : S26), (⟨(⟨#[58, 115, 99, 104, 101, 109, 101]⟩ : ByteArray), (⟨#[104, 116, 116, 112]⟩ : ByteArray), false⟩ : S26), (⟨(⟨#[58, 112, 97, 116, 104]⟩ : ByteArray), (⟨#[47]⟩ : ByteArray), false⟩ : S26), (⟨(⟨#[58, 97, 117, 116, 104, 111, 114, 105, 116, 121]⟩ : ByteArray), (⟨#[119, 119, 119, 46, 101, 120, 97, 109, 112, 108, 101, 46, 99, 111, 109]⟩ : ByteArray), false⟩ : S26)] : List (S26)) : List (S26))).bind fun y169 => ((pack_Encoder_Write.f k t167 y169).bind fun bt172 => (if y169.length < 3518437208883 then ((pack_Encoder_Write.f k bt172.2 (y169 ++ [(⟨(⟨#[99, 97, 99, 104, 101, 45, 99, 111, 110, 116, 114, 111, 108]⟩ : ByteArray), (⟨#[110, 111, 45, 99, 97, 99, 104, 101]⟩ : ByteArray), false⟩ : S26)])).bind fun bt177 => (if bt172.1.toList = ([130, 134, 132, 65, 140, 241, 227, 194, 229, 242, 58, 107, 160, 171, 144, 244, 255] : List UInt8) then (some (bt177.1.toList == ([130, 134, 132, 190, 88, 134, 168, 235, 16, 100, 156, 191] : List UInt8))) else (some false))) else (none)))) = some r := H
 have A1 := Aside0.mk A10
 clear A10
 obtain ⟨y169, hy169⟩ : ∃ y_ : List (S26), y_ = (([(⟨(⟨#[58, 109, 101, 116, 104, 111, 100]⟩ : ByteArray), (⟨#[71, 69, 84]⟩ : ByteArray), false⟩ : S26), (⟨(⟨#[58, 115, 99, 104, 101, 109, 101]⟩ : ByteArray), (⟨#[104, 116, 116, 112]⟩ : ByteArray), false⟩ : S26), (⟨(⟨#[58, 112, 97, 116, 104]⟩ : ByteArray), (⟨#[47]⟩ : ByteArray), false⟩ : S26), (⟨(⟨#[58, 97, 117, 116, 104, 111, 114, 105, 116, 121]⟩ : ByteArray), (⟨#[119, 119, 119, 46, 101, 120, 97, 109, 112, 108, 101, 46, 99, 111, 109]⟩ : ByteArray), false⟩ : S26)] : List (S26))) := ⟨_, rfl⟩
 replace H : ((pack_Encoder_Write.f k t167 y169).bind fun bt172 => (if y169.length < 3518437208883 then ((pack_Encoder_Write.f k bt172.2 (y169 ++ [(⟨(⟨#[99, 97, 99, 104, 101, 45, 99, 111, 110, 116, 114, 111, 108]⟩ : ByteArray), (⟨#[110, 111, 45, 99, 97, 99, 104, 101]⟩ : ByteArray), false⟩ : S26)])).bind fun bt177 => (if bt172.1.toList = ([130, 134, 132, 65, 140, 241, 227, 194, 229, 242, 58, 107, 160, 171, 144, 244, 255] : List UInt8) then (some (bt177.1.toList == ([130, 134, 132, 190, 88, 134, 168, 235, 16, 100, 156, 191] : List UInt8))) else (some false))) else (none))) = some r := by first | (rw [hy169]; with_reducible exact H) | (have H2_ := (Option.bind_some _ _).symm.trans H; rw [hy169]; with_reducible exact H2_) | (have H2_ := (Option.bind_some _ _).symm.trans H; with_reducible exact H2_) | with_reducible exact H | (rw [hy169]; exact H) | exact H
 have Ny169 := Aside0.mk hy169
 clear hy169
 replace H := Option.bind_eq_some_iff.mp H
 obtain ⟨⟨t172, t173⟩, A20, H⟩ := H
 replace H : (if y169.length < 3518437208883 then ((pack_Encoder_Write.f k t173 (y169 ++ [(⟨(⟨#[99, 97, 99, 104, 101, 45, 99, 111, 110, 116, 114, 111, 108]⟩ : ByteArray), (⟨#[110, 111, 45, 99, 97, 99, 104, 101]⟩ : ByteArray), false⟩ : S26)])).bind fun bt177 => (if t172.toList = ([130, 134, 132, 65, 140, 241, 227, 194, 229, 242, 58, 107, 160, 171, 144, 244, 255] : List UInt8) then (some (bt177.1.toList == ([130, 134, 132, 190, 88, 134, 168, 235, 16, 100, 156, 191] : List UInt8))) else (some false))) else (none)) = some r := H
 have A2 := Aside0.mk A20
 clear A20
 by_cases c3 : y169.length < 3518437208883
 ·
  rw [if_pos c3] at H
  have LMc3 := Aside0.mk c3
  clear c3
  obtain ⟨y174, hy174⟩ : ∃ y_ : List (S26), y_ = (y169 ++ [(⟨(⟨#[99, 97, 99, 104, 101, 45, 99, 111, 110, 116, 114, 111, 108]⟩ : ByteArray), (⟨#[110, 111, 45, 99, 97, 99, 104, 101]⟩ : ByteArray), false⟩ : S26)]) := ⟨_, rfl⟩
  replace H : ((pack_Encoder_Write.f k t173 y174).bind fun bt177 => (if t172.toList = ([130, 134, 132, 65, 140, 241, 227, 194, 229, 242, 58, 107, 160, 171, 144, 244, 255] : List UInt8) then (some (bt177.1.toList == ([130, 134, 132, 190, 88, 134, 168, 235, 16, 100, 156, 191] : List UInt8))) else (some false))) = some r := by first | (rw [hy174]; with_reducible exact H) | (have H2_ := (Option.bind_some _ _).symm.trans H; rw [hy174]; with_reducible exact H2_) | (have H2_ := (Option.bind_some _ _).symm.trans H; with_reducible exact H2_) | with_reducible exact H | (rw [hy174]; exact H) | exact H
  have Ny174 := Aside0.mk hy174
  clear hy174
  replace H := Option.bind_eq_some_iff.mp H
  obtain ⟨⟨t177, t178⟩, A40, H⟩ := H
  replace H : (if t172.toList = ([130, 134, 132, 65, 140, 241, 227, 194, 229, 242, 58, 107, 160, 171, 144, 244, 255] : List UInt8) then (some (t177.toList == ([130, 134, 132, 190, 88, 134, 168, 235, 16, 100, 156, 191] : List UInt8))) else (some false)) = some r := H
  have A4 := Aside0.mk A40
  clear A40
  by_cases c5 : t172.toList = ([130, 134, 132, 65, 140, 241, 227, 194, 229, 242, 58, 107, 160, 171, 144, 244, 255] : List UInt8)
  ·
   rw [if_pos c5] at H
   have c5b0 : (t172.toList == ([130, 134, 132, 65, 140, 241, 227, 194, 229, 242, 58, 107, 160, 171, 144, 244, 255] : List UInt8)) = true := beq_iff_eq.mpr c5
   have c5b1 : (t172.toList != ([130, 134, 132, 65, 140, 241, 227, 194, 229, 242, 58, 107, 160, 171, 144, 244, 255] : List UInt8)) = false := bne_eq_false_iff_eq.mpr c5
   clear c5
   obtain rfl := Option.some.inj H
   go_enter Tryd.func9, Tryd.ntmps9
   have tk14 : True := trivial
   have tk15 : True := trivial
   go_wp2_with (first | ((with_reducible refine gate_callee (f := 11) rfl ?_); refine goesL_ (some 5) rfl rfl Tryd.func11 (by kernel_rfl) rfl #[] rfl (by (try simp only [List.map_toArray, List.map_cons, List.map_nil]); first | done | rfl | (simp only [List.length_drop, List.length_take]; rfl)) ?_; (with_reducible refine (pack_New.calls  t167 _ _ (Below.refl _ _) ?side1 A1.out).mono ?_); (case side1 => exact EnvW.below HEnv.out rfl (by repeat (first | (with_reducible first | exact HB.out | apply below_alloc | apply pw_below_drewN | apply below_drew1) | exact HB.out))); rintro e w6 ⟨g168, rfl, hi, hb, hb2⟩; refine ⟨_, rfl, ?_⟩; have n0_ := Aside0.mk (below_step (by repeat (first | (with_reducible first | exact HB.out | apply below_alloc | apply pw_below_drewN | apply below_drew1) | exact HB.out)) hb2); have n1_ := Aside0.mk ((show IsS70 w w6 g168 t167 from IsS70.rebase hi (below_size (by repeat (first | (with_reducible first | exact HB.out | apply below_alloc | apply pw_below_drewN | apply below_drew1) | exact HB.out))))); clear HB; have HB := n0_; have HI168 := n1_; clear n0_ n1_; (try clear hb); (try clear hb2); (try clear hk); (try clear hi)) | ((with_reducible refine gate_dst (N := 12) rfl ?_); refine Kd.R_lit k26 _ 26 ?hg (N := 12) ?hd (xs := ([(⟨(⟨#[58, 109, 101, 116, 104, 111, 100]⟩ : ByteArray), (⟨#[71, 69, 84]⟩ : ByteArray), false⟩ : S26), (⟨(⟨#[58, 115, 99, 104, 101, 109, 101]⟩ : ByteArray), (⟨#[104, 116, 116, 112]⟩ : ByteArray), false⟩ : S26), (⟨(⟨#[58, 112, 97, 116, 104]⟩ : ByteArray), (⟨#[47]⟩ : ByteArray), false⟩ : S26), (⟨(⟨#[58, 97, 117, 116, 104, 111, 114, 105, 116, 121]⟩ : ByteArray), (⟨#[119, 119, 119, 46, 101, 120, 97, 109, 112, 108, 101, 46, 99, 111, 109]⟩ : ByteArray), false⟩ : S26)] : List (S26))) (inner := [.string (⟨#[58, 109, 101, 116, 104, 111, 100]⟩ : ByteArray), .string (⟨#[71, 69, 84]⟩ : ByteArray), .bool false, .string (⟨#[58, 115, 99, 104, 101, 109, 101]⟩ : ByteArray), .string (⟨#[104, 116, 116, 112]⟩ : ByteArray), .bool false, .string (⟨#[58, 112, 97, 116, 104]⟩ : ByteArray), .string (⟨#[47]⟩ : ByteArray), .bool false, .string (⟨#[58, 97, 117, 116, 104, 111, 114, 105, 116, 121]⟩ : ByteArray), .string (⟨#[119, 119, 119, 46, 101, 120, 97, 109, 112, 108, 101, 46, 99, 111, 109]⟩ : ByteArray), .bool false]) (ok := fun _ => True) (okp := fun _ => True) ?hr ?hp (fun _ hk => hk) trivial (Below.refl _ _) (Nat.le_refl _) (by simp) ?_; (case hd => rfl); (case hg => rfl); (case hr => first | (go_simp; done) | (go_simp; rfl)); (case hp => exact (Reps.c3 (show Kd.M k26 _ _ _ (⟨(⟨#[58, 109, 101, 116, 104, 111, 100]⟩ : ByteArray), (⟨#[71, 69, 84]⟩ : ByteArray), false⟩ : S26) [.string (⟨#[58, 109, 101, 116, 104, 111, 100]⟩ : ByteArray), .string (⟨#[71, 69, 84]⟩ : ByteArray), .bool false] from (k26_mkM _ _ _ (⟨(⟨#[58, 109, 101, 116, 104, 111, 100]⟩ : ByteArray), (⟨#[71, 69, 84]⟩ : ByteArray), false⟩ : S26) )) (Reps.c3 (show Kd.M k26 _ _ _ (⟨(⟨#[58, 115, 99, 104, 101, 109, 101]⟩ : ByteArray), (⟨#[104, 116, 116, 112]⟩ : ByteArray), false⟩ : S26) [.string (⟨#[58, 115, 99, 104, 101, 109, 101]⟩ : ByteArray), .string (⟨#[104, 116, 116, 112]⟩ : ByteArray), .bool false] from (k26_mkM _ _ _ (⟨(⟨#[58, 115, 99, 104, 101, 109, 101]⟩ : ByteArray), (⟨#[104, 116, 116, 112]⟩ : ByteArray), false⟩ : S26) )) (Reps.c3 (show Kd.M k26 _ _ _ (⟨(⟨#[58, 112, 97, 116, 104]⟩ : ByteArray), (⟨#[47]⟩ : ByteArray), false⟩ : S26) [.string (⟨#[58, 112, 97, 116, 104]⟩ : ByteArray), .string (⟨#[47]⟩ : ByteArray), .bool false] from (k26_mkM _ _ _ (⟨(⟨#[58, 112, 97, 116, 104]⟩ : ByteArray), (⟨#[47]⟩ : ByteArray), false⟩ : S26) )) (Reps.c3 (show Kd.M k26 _ _ _ (⟨(⟨#[58, 97, 117, 116, 104, 111, 114, 105, 116, 121]⟩ : ByteArray), (⟨#[119, 119, 119, 46, 101, 120, 97, 109, 112, 108, 101, 46, 99, 111, 109]⟩ : ByteArray), false⟩ : S26) [.string (⟨#[58, 97, 117, 116, 104, 111, 114, 105, 116, 121]⟩ : ByteArray), .string (⟨#[119, 119, 119, 46, 101, 120, 97, 109, 112, 108, 101, 46, 99, 111, 109]⟩ : ByteArray), .bool false] from (k26_mkM _ _ _ (⟨(⟨#[58, 97, 117, 116, 104, 111, 114, 105, 116, 121]⟩ : ByteArray), (⟨#[119, 119, 119, 46, 101, 120, 97, 109, 112, 108, 101, 46, 99, 111, 109]⟩ : ByteArray), false⟩ : S26) )) (Reps.none _ _)))))); intro v170 w7 ho8 hb hg_ hnew_; clear hg_ hnew_; (first | rw [← Ny169.out] at ho8 | (simp only [Int.reduceToNat] at ho8; rw [← Ny169.out] at ho8)); have n0_ := Aside0.mk (Kd.R_lower ho8 (below_size (by repeat (first | (with_reducible first | exact HB.out | apply below_alloc | apply pw_below_drewN | apply below_drew1 | refine below_set ?_ (IsS70.ge HI168.out)) | exact HB.out)))); have n1_ := Aside0.mk (IsS70.below (by repeat (first | (with_reducible first | exact HI168.out | apply IsS70.alloc | apply IsS70.drewN | apply IsS70.drew) | exact HI168.out)) hb); have n2_ := Aside0.mk (below_step (by repeat (first | (with_reducible first | exact HB.out | apply below_alloc | apply pw_below_drewN | apply below_drew1 | refine below_set ?_ (IsS70.ge HI168.out)) | exact HB.out)) hb); clear HI168; clear HB; have HO171 := n0_; have HI168 := n1_; have HB := n2_; clear n0_ n1_ n2_; clear hb ho8; obtain ⟨Ao9, co9, eo9⟩ := Kd.R_slice HO171.out; subst eo9) | (have _t : True := tk14; clear tk14 _t; (with_reducible refine gate_callee (f := 12) rfl ?_); refine goesL_ (some 15) rfl rfl Tryd.func12 (by kernel_rfl) rfl #[.pointer (some ⟨g168, 0, none⟩), .slice Ao9 y169.length co9] rfl (by (try simp only [List.map_toArray, List.map_cons, List.map_nil]); first | done | rfl | (simp only [List.length_drop, List.length_take]; rfl)) ?_; (with_reducible refine (pack_Encoder_Write.calls k g168 t167 _ _ y169 t172 t173 w _ ?side1 ?side2 ?side3 ?side4 A2.out).mono ?_); (case side1 => repeat (first | (with_reducible first | exact HI168.out | apply IsS70.alloc | apply IsS70.drewN | apply IsS70.drew) | exact HI168.out)); (case side2 => repeat (first | (with_reducible first | exact HB.out | apply below_alloc | apply pw_below_drewN | apply below_drew1 | refine below_set ?_ (IsS70.ge HI168.out)) | exact HB.out)); (case side3 => repeat (first | exact (Kd.R_reads' HO171.out).2.2 | (with_reducible refine Kd.C_alloc ?_ _) | (with_reducible refine Kd.C_drewN ?_ _) | (with_reducible refine Kd.C_drew ?_))); (case side4 => exact (Kd.R_reads' HO171.out).2.1); rintro e w10 ⟨rfl, hi, hb, hk⟩; refine ⟨_, rfl, ?_⟩; have n0_ := Aside0.mk (Kd.R_mono (Kd.R_keep2 (IsS70.apart (show IsS70 w _ g168 t167 from by repeat (first | (with_reducible first | exact HI168.out | apply IsS70.alloc | apply IsS70.drewN | apply IsS70.drew) | exact HI168.out)) (by (with_reducible repeat (first | apply Kd.R_alloc | apply Kd.R_drewN | apply Kd.R_drew)); exact HO171.out) (by decide)) hk (fun _ h => h.2)) (fun _ h => h.1)); have n1_ := Aside0.mk (hb); have n2_ := Aside0.mk (hi); clear HO171; clear HB; clear HI168; have HO171 := n0_; have HB := n1_; have HI168 := n2_; clear n0_ n1_ n2_; (try clear hb); (try clear hb2); (try clear hk); (try clear hi)) | ((with_reducible refine gate_builtin (b := .append) (xs := #[.tmp 17, .tmp 19]) rfl ?_); at_builtin; refine Kd.R_append k26 (w0 := w) w.heap.size rfl (.tmp 17) (.tmp 19) 22 26 (.agg #[(.string ⟨#[]⟩), (.string ⟨#[]⟩), (.bool false)]) 40 rfl Tryd.underlying22 info26 rfl (by decide) (by omega) (.slice Ao9 y169.length co9) y169 (⟨(⟨#[99, 97, 99, 104, 101, 45, 99, 111, 110, 116, 114, 111, 108]⟩ : ByteArray), (⟨#[110, 111, 45, 99, 97, 99, 104, 101]⟩ : ByteArray), false⟩ : S26) [.string (⟨#[99, 97, 99, 104, 101, 45, 99, 111, 110, 116, 114, 111, 108]⟩ : ByteArray), .string (⟨#[110, 111, 45, 99, 97, 99, 104, 101]⟩ : ByteArray), .bool false] (fun _ => True) (fun _ => False) rfl rfl ?aP (fun _ hk => hk.elim) ?aF ?aO ?aB ?aS ?aL ?_; (case aP => exact k26_mkM _ _ _ (⟨(⟨#[99, 97, 99, 104, 101, 45, 99, 111, 110, 116, 114, 111, 108]⟩ : ByteArray), (⟨#[110, 111, 45, 99, 97, 99, 104, 101]⟩ : ByteArray), false⟩ : S26)); (case aB => exact (by repeat (first | (with_reducible first | exact HB.out | apply below_alloc | apply pw_below_drewN | apply below_drew1 | refine below_set ?_ (IsS70.ge HI168.out)) | exact HB.out))); (case aF => exact (fun _ _ => trivial)); (case aO => exact (by (with_reducible repeat (first | apply Kd.R_alloc | apply Kd.R_drewN | apply Kd.R_drew)); exact HO171.out)); (case aS => exact (below_size (by repeat (first | (with_reducible first | exact HB.out | apply below_alloc | apply pw_below_drewN | apply below_drew1 | refine below_set ?_ (IsS70.ge HI168.out)) | exact HB.out)))); (case aL => have := LMc3.out; omega); intro v175 w11 ho hb hg hat; rw [← Ny174.out] at ho; have n0_ := Aside0.mk (IsS70.grownT (by repeat (first | (with_reducible first | exact HI168.out | apply IsS70.alloc | apply IsS70.drewN | apply IsS70.drew) | exact HI168.out)) (by repeat (first | exact Below.refl _ _ | apply below_alloc | apply pw_below_drewN | apply below_drew1)) hg HO171.out (by decide)); have n1_ := Aside0.mk (hb); have n2_ := Aside0.mk (ho); clear HI168; clear HB; clear HO171; have HI168 := n0_; have HB := n1_; have HO176 := n2_; clear n0_ n1_ n2_; clear ho hb hg hat; obtain ⟨Ao12, co12, eo12⟩ := Kd.R_slice HO176.out; subst eo12) | (have _t : True := tk15; clear tk15 _t; (with_reducible refine gate_callee (f := 12) rfl ?_); refine goesL_ (some 21) rfl rfl Tryd.func12 (by kernel_rfl) rfl #[.pointer (some ⟨g168, 0, none⟩), .slice Ao12 y174.length co12] rfl (by (try simp only [List.map_toArray, List.map_cons, List.map_nil]); first | done | rfl | (simp only [List.length_drop, List.length_take]; rfl)) ?_; (with_reducible refine (pack_Encoder_Write.calls k g168 t173 _ _ y174 t177 t178 w _ ?side1 ?side2 ?side3 ?side4 A4.out).mono ?_); (case side1 => repeat (first | (with_reducible first | exact HI168.out | apply IsS70.alloc | apply IsS70.drewN | apply IsS70.drew) | exact HI168.out)); (case side2 => repeat (first | (with_reducible first | exact HB.out | apply below_alloc | apply pw_below_drewN | apply below_drew1 | refine below_set ?_ (IsS70.ge HI168.out)) | exact HB.out)); (case side3 => repeat (first | exact (Kd.R_reads' HO176.out).2.2 | (with_reducible refine Kd.C_alloc ?_ _) | (with_reducible refine Kd.C_drewN ?_ _) | (with_reducible refine Kd.C_drew ?_))); (case side4 => exact (Kd.R_reads' HO176.out).2.1); rintro e w13 ⟨rfl, hi, hb, hk⟩; refine ⟨_, rfl, ?_⟩; have n0_ := Aside0.mk (Kd.R_mono (Kd.R_keep2 (IsS70.apart (show IsS70 w _ g168 t173 from by repeat (first | (with_reducible first | exact HI168.out | apply IsS70.alloc | apply IsS70.drewN | apply IsS70.drew) | exact HI168.out)) (by (with_reducible repeat (first | apply Kd.R_alloc | apply Kd.R_drewN | apply Kd.R_drew)); exact HO176.out) (by decide)) hk (fun _ h => h.2)) (fun _ h => h.1)); have n1_ := Aside0.mk (hb); have n2_ := Aside0.mk (hi); clear HO176; clear HB; clear HI168; have HO176 := n0_; have HB := n1_; have HI168 := n2_; clear n0_ n1_ n2_; (try clear hb); (try clear hb2); (try clear hk); (try clear hi)))
   go_ret
   exact ⟨by first | rfl | (simp [errW_none, errW_some] <;> rfl) | (simp [*, errW_none, errW_some] <;> rfl), by repeat (first | (with_reducible first | exact HB.out | apply below_alloc | apply pw_below_drewN | apply below_drew1 | refine below_set ?_ (IsS70.ge HI168.out)) | exact HB.out)⟩
  ·
   rw [if_neg c5] at H
   have c5b0 : (t172.toList == ([130, 134, 132, 65, 140, 241, 227, 194, 229, 242, 58, 107, 160, 171, 144, 244, 255] : List UInt8)) = false := beq_eq_false_iff_ne.mpr c5
   have c5b1 : (t172.toList != ([130, 134, 132, 65, 140, 241, 227, 194, 229, 242, 58, 107, 160, 171, 144, 244, 255] : List UInt8)) = true := bne_iff_ne.mpr c5
   exact absurd ((Option.some.inj H).trans HT.out) (by decide)
 ·
  rw [if_neg c3] at H
  exact absurd H (by simp)
end Go.Proofs.YtfkdocmhbmameaaDoor.Mine
namespace Go.Proofs.YtfkdocmhbmameaaDoor.Mine
open Go.RowKit Go.Proofs.YtfkdocmhbmameaaDoorW.PrintWords Go.Proofs.YtfkdocmhbmameaaDoorW.PrintLast Go.Proofs.YtfkdocmhbmameaaDoorW.PrintMore
attribute [local go_sem] max2_int min2_int max_two min_two max_three min_three max_four min_four
set_option linter.unusedVariables false
set_option linter.unusedSimpArgs false
def nunciolaw13_FewFields.l0 : Nat → List (S26) → Int → Int → Option (Bool)
 | 0, _, _, _ => none
 | k + 1, x0, x3, x4 => if x4 < (x0.length : Int) then (if x3 < 3000 then (if 0 ≤ x4 then (nunciolaw13_FewFields.l0 k x0 (wrap64 ((wrap64 (x3 + (mn (((rd_T26 x0 x4).f0).size : Int) 3000))) + (mn (((rd_T26 x0 x4).f1).size : Int) 3000))) (wrap64 (x4 + 1))) else (none)) else (some (decide (x3 < 3000)))) else (some (decide (x3 < 3000)))
def nunciolaw13_FewFields.f (k : Nat) (l0 : List (S26)) : Option (Bool) := nunciolaw13_FewFields.l0 k l0 (mn (l0.length : Int) 3000) 0
set_option maxHeartbeats 8000000 in
set_option maxRecDepth 100000 in
theorem nunciolaw13_FewFields.calls (k : Nat) (A0 : Option Addr) (c0 : Nat) (l0 : List (S26)) (r : Bool) (w : World) (hr0 : Kd.C k26 w A0 l0.length l0) (hc0 : l0.length ≤ c0) (h : nunciolaw13_FewFields.f k l0 = some r) :
  Calls Tryd.prog 10 #[.slice A0 l0.length c0] w fun e w' => e = .returned (.bool r) ∧ Below w.heap.size w w' := by
 have HR0 := Aside0.mk hr0
 have HC0 := Aside0.mk hc0
 clear hr0 hc0
 have HB := Aside0.mk (Below.refl w.heap.size w)
 have H : (nunciolaw13_FewFields.l0 k l0 (mn (l0.length : Int) 3000) 0) = some r := h
 clear h
 obtain ⟨ji2, hji2⟩ : ∃ j_ : Int, (mn (l0.length : Int) 3000) = j_ := ⟨_, rfl⟩
 replace H : (nunciolaw13_FewFields.l0 k l0 ji2 0) = some r := by first | (rw [hji2] at H; exact H) | (simp only [hji2] at H ⊢; exact H)
 (try (have hji2h : ji2 ≤ 3000 := by (rw [← hji2]; unfold mn; (repeat' split) <;> omega)))
 (try (have hji2g : ji2 ≤ 64 := by omega))
 (try (have hji2l : 0 ≤ ji2 := by (rw [← hji2]; unfold mn; (repeat' split) <;> omega)))
 (try (have hji2m : 0 ≤ ji2 := by omega))
 have hji2_ : (if 3000 < (l0.length : Int) then 3000 else (l0.length : Int)) = ji2 := hji2
 have H' := Aside0.mk H
 clear H
 go_enter Tryd.func10, Tryd.ntmps10
 go_wp2
 repeat (go_quiet (fail); try go_wp2)
 go_loopg [3, 4] k (fun kq v3 v4 w' => ∃ (x3_1 : Int) (x4_1 : Int), v3 = .int .i64 x3_1 ∧ v4 = .int .i64 x4_1 ∧ Aside0 (nunciolaw13_FewFields.l0 kq l0 x3_1 x4_1 = some r) ∧ Aside0 (kq ≤ k) ∧ Aside0 (Below w.heap.size w w'))
 case atStart => exact ⟨(ji2), (0), (by first | rfl | (simp; done) | (simp only [← hji2] <;> (first | rfl | simp)) | (simp [*]; done)), (by first | rfl | (simp; done) | (simp [*]; done)), H', ⟨Nat.le_refl _⟩, ⟨by repeat (first | (with_reducible first | exact HB.out | apply below_alloc | apply pw_below_drewN | apply below_drew1) | exact HB.out)⟩⟩
 case round =>
  clear H'
  try clear c1
  try clear p2
  obtain ⟨x3_1, x4_1, rfl, rfl, HA, HK1, HB⟩ := hrel
  cases gk with
  | zero => exact absurd HA.out (by simp [nunciolaw13_FewFields.l0])
  | succ k1 =>
   have H := HA.out
   clear HA
   simp only [nunciolaw13_FewFields.l0] at H
   by_cases c3 : x4_1 < (l0.length : Int)
   ·
    rw [if_pos c3] at H
    have c3b0 : decide (x4_1 < (l0.length : Int)) = true := decide_eq_true c3
    clear c3
    by_cases c4 : x3_1 < 3000
    ·
     rw [if_pos c4] at H
     have c4b0 : decide (x3_1 < 3000) = true := decide_eq_true c4
     clear c4
     by_cases c5 : 0 ≤ x4_1
     ·
      rw [if_pos c5] at H
      have c5b0 : decide (0 ≤ x4_1) = true := decide_eq_true c5
      clear c5
      obtain ⟨ji6, hji6⟩ : ∃ j_ : Int, (mn (((rd_T26 l0 x4_1).f0).size : Int) 3000) = j_ := ⟨_, rfl⟩
      replace H : (nunciolaw13_FewFields.l0 k1 l0 (wrap64 ((wrap64 (x3_1 + (ji6))) + (mn (((rd_T26 l0 x4_1).f1).size : Int) 3000))) (wrap64 (x4_1 + 1))) = some r := by first | (rw [hji6] at H; exact H) | (simp only [hji6] at H ⊢; exact H)
      have hji6_ : (if 3000 < (((rd_T26 l0 x4_1).f0).size : Int) then 3000 else (((rd_T26 l0 x4_1).f0).size : Int)) = ji6 := hji6
      obtain ⟨ji7, hji7⟩ : ∃ j_ : Int, (mn (((rd_T26 l0 x4_1).f1).size : Int) 3000) = j_ := ⟨_, rfl⟩
      replace H : (nunciolaw13_FewFields.l0 k1 l0 (wrap64 ((wrap64 (x3_1 + (ji6))) + (ji7))) (wrap64 (x4_1 + 1))) = some r := by first | (rw [hji7] at H; exact H) | (simp only [hji7] at H ⊢; exact H)
      have hji7_ : (if 3000 < (((rd_T26 l0 x4_1).f1).size : Int) then 3000 else (((rd_T26 l0 x4_1).f1).size : Int)) = ji7 := hji7
      have H' := Aside0.mk H
      clear H
      have p179 : 0 ≤ (x4_1 : Int) := of_decide_eq_true (by first | (with_reducible assumption) | assumption)
      have q179 : x4_1 < (l0.length : Int) := of_decide_eq_true (by first | (with_reducible assumption) | assumption)
      obtain ⟨ad179, e179, hx179_0, hx179_1, hx179_2⟩ := at_T26 HR0.out x4_1 p179 q179
      cases e179
      replace hx179_0 := (HB.out.cell (World.block_lt_of_cell? w _ hx179_0)).trans hx179_0
      replace hx179_1 := (HB.out.cell (World.block_lt_of_cell? w _ hx179_1)).trans hx179_1
      replace hx179_2 := (HB.out.cell (World.block_lt_of_cell? w _ hx179_2)).trans hx179_2
      replace p179 := eq_true p179
      replace q179 := eq_true q179
      have p180 : 0 ≤ (x4_1 : Int) := of_decide_eq_true (by first | (with_reducible assumption) | assumption)
      have q180 : x4_1 < (l0.length : Int) := of_decide_eq_true (by first | (with_reducible assumption) | assumption)
      obtain ⟨ad180, e180, hx180_0, hx180_1, hx180_2⟩ := at_T26 HR0.out x4_1 p180 q180
      obtain rfl : ad179 = ad180 := (by injection e180)
      replace hx180_0 := (HB.out.cell (World.block_lt_of_cell? w _ hx180_0)).trans hx180_0
      replace hx180_1 := (HB.out.cell (World.block_lt_of_cell? w _ hx180_1)).trans hx180_1
      replace hx180_2 := (HB.out.cell (World.block_lt_of_cell? w _ hx180_2)).trans hx180_2
      replace p180 := eq_true p180
      replace q180 := eq_true q180
      go_wp2
      repeat (go_quiet (fail); try go_wp2)
      go_roundg k1
      case measure => have := HK1.out; omega
      case rel => exact ⟨(wrap64 ((wrap64 (x3_1 + (ji6))) + (ji7))), (wrap64 (x4_1 + 1)), (by first | rfl | (simp; done) | (simp only [← hji6, ← hji7] <;> (first | rfl | simp)) | (simp [*]; done)), (by first | rfl | (simp; done) | (simp [*]; done)), H', ⟨by have := HK1.out; omega⟩, ⟨by repeat (first | (with_reducible first | exact HB.out | apply below_alloc | apply pw_below_drewN | apply below_drew1) | exact HB.out)⟩⟩
     ·
      rw [if_neg c5] at H
      exact absurd H (by simp)
    ·
     rw [if_neg c4] at H
     have c4b0 : decide (x3_1 < 3000) = false := decide_eq_false c4
     clear c4
     obtain rfl := Option.some.inj H
     go_wp2
     repeat (go_quiet (fail); try go_wp2)
     go_ret
     exact ⟨by first | rfl | (simp [errW_none, errW_some] <;> rfl) | (simp only [← hji2]; first | rfl | (simp [errW_none, errW_some] <;> rfl)) | (simp [*, errW_none, errW_some] <;> rfl), by repeat (first | (with_reducible first | exact HB.out | apply below_alloc | apply pw_below_drewN | apply below_drew1) | exact HB.out)⟩
   ·
    rw [if_neg c3] at H
    have c3b0 : decide (x4_1 < (l0.length : Int)) = false := decide_eq_false c3
    clear c3
    obtain rfl := Option.some.inj H
    go_wp2
    repeat (go_quiet (fail); try go_wp2)
    go_ret
    exact ⟨by first | rfl | (simp [errW_none, errW_some] <;> rfl) | (simp only [← hji2]; first | rfl | (simp [errW_none, errW_some] <;> rfl)) | (simp [*, errW_none, errW_some] <;> rfl), by repeat (first | (with_reducible first | exact HB.out | apply below_alloc | apply pw_below_drewN | apply below_drew1) | exact HB.out)⟩
end Go.Proofs.YtfkdocmhbmameaaDoor.Mine
namespace Go.Proofs.YtfkdocmhbmameaaDoor.Mine
open Go.RowKit Go.Proofs.YtfkdocmhbmameaaDoorW.PrintWords Go.Proofs.YtfkdocmhbmameaaDoorW.PrintLast Go.Proofs.YtfkdocmhbmameaaDoorW.PrintMore
attribute [local go_sem] max2_int min2_int max_two min_two max_three min_three max_four min_four
set_option linter.unusedVariables false
set_option linter.unusedSimpArgs false
mutual
def nunciolaw13_few.l0 : Nat → List (S44) → Int → Option (Bool)
 | 0, _, _ => none
 | k + 1, x0, x3 => if x3 < (x0.length : Int) then (nunciolaw13_few.j1 k x0 x3 (decide (x3 ≤ 30))) else (nunciolaw13_few.j1 k x0 x3 false)
def nunciolaw13_few.j1 : Nat → List (S44) → Int → Bool → Option (Bool)
 | 0, _, _, _ => none
 | k + 1, x0, x3, x11 => if x11 = true then (if 0 ≤ x3 then (if x3 < (x0.length : Int) then ((nunciolaw13_FewFields.f k ((rd_T44 x0 x3).f2)).bind fun t203 => (if t203 = true then (nunciolaw13_few.l0 k x0 (wrap64 (x3 + 1))) else (some false))) else (none)) else (none)) else (some (decide ((x0.length : Int) ≤ 30)))
end
def nunciolaw13_few.f (k : Nat) (l0 : List (S44)) : Option (Bool) := nunciolaw13_few.l0 k l0 0
set_option maxHeartbeats 8000000 in
set_option maxRecDepth 100000 in
theorem nunciolaw13_few.calls (k : Nat) (A0 : Option Addr) (c0 : Nat) (l0 : List (S44)) (r : Bool) (w : World) (hr0 : Kd.C k44 w A0 l0.length l0) (hc0 : l0.length ≤ c0) (h : nunciolaw13_few.f k l0 = some r) :
  Calls Tryd.prog 15 #[.slice A0 l0.length c0] w fun e w' => e = .returned (.bool r) ∧ Below w.heap.size w w' := by
 have HR0 := Aside0.mk hr0
 have HC0 := Aside0.mk hc0
 clear hr0 hc0
 have HB := Aside0.mk (Below.refl w.heap.size w)
 have H : (nunciolaw13_few.l0 k l0 0) = some r := h
 clear h
 have H' := Aside0.mk H
 clear H
 go_enter Tryd.func15, Tryd.ntmps15
 go_wp2
 go_loopg [3] k (fun kq v3 w' => ∃ (x3_1 : Int), v3 = .int .i64 x3_1 ∧ Aside0 (nunciolaw13_few.l0 kq l0 x3_1 = some r) ∧ Aside0 (kq ≤ k) ∧ Aside0 (Below w.heap.size w w'))
 case atStart => exact ⟨(0), (by first | rfl | (simp; done) | (simp [*]; done)), H', ⟨Nat.le_refl _⟩, ⟨by repeat (first | (with_reducible first | exact HB.out | apply below_alloc | apply pw_below_drewN | apply below_drew1) | exact HB.out)⟩⟩
 case round =>
  clear H'
  try clear c1
  obtain ⟨x3_1, rfl, HA, HK1, HB⟩ := hrel
  cases gk with
  | zero => exact absurd HA.out (by simp [nunciolaw13_few.l0])
  | succ k1 =>
   have H := HA.out
   clear HA
   simp only [nunciolaw13_few.l0] at H
   have HC2 := Aside0.mk H
   clear H
   go_upto_region 2 with (fail)
   go_cut [11] (fun v11 wc => ∃ (kq : Nat) (x11_1 : Bool), v11 = .bool x11_1 ∧ Aside0 (nunciolaw13_few.j1 kq l0 x3_1 x11_1 = some r) ∧ Aside0 (kq ≤ k1) ∧ Aside0 (Below w.heap.size w wc))
   case first =>
    have H := HC2.out
    clear HC2
    by_cases c3 : x3_1 < (l0.length : Int)
    ·
     rw [if_pos c3] at H
     have c3b0 : decide (x3_1 < (l0.length : Int)) = true := decide_eq_true c3
     clear c3
     (first | rw [c3b0] | rw [c3b1] | (simp only [i64_w, i32_w]; rw [c3b0]) | skip)
     have H' := Aside0.mk H
     clear H
     go_wp2
     go_meet
     case rel => exact ⟨_, (decide (x3_1 ≤ 30)), (by first | rfl | (simp; done) | (simp [*]; done)), H', ⟨by have := HK1.out; first | omega | exact Nat.le_refl _⟩, ⟨by repeat (first | (with_reducible first | exact HB.out | apply below_alloc | apply pw_below_drewN | apply below_drew1) | exact HB.out)⟩⟩
    ·
     rw [if_neg c3] at H
     have c3b0 : decide (x3_1 < (l0.length : Int)) = false := decide_eq_false c3
     clear c3
     (first | rw [c3b0] | rw [c3b1] | (simp only [i64_w, i32_w]; rw [c3b0]) | skip)
     have H' := Aside0.mk H
     clear H
     go_wp2
     go_meet
     case rel => exact ⟨_, (false), (by first | rfl | (simp; done) | (simp [*]; done)), H', ⟨by have := HK1.out; first | omega | exact Nat.le_refl _⟩, ⟨by repeat (first | (with_reducible first | exact HB.out | apply below_alloc | apply pw_below_drewN | apply below_drew1) | exact HB.out)⟩⟩
   case rest =>
    clear HC2
    try clear c1
    try clear p2
    try clear c3
    try clear c3b0
    try clear c3b1
    obtain ⟨kq, x11_1, rfl, HA, HJ1, HB⟩ := hcut
    cases kq with
    | zero => exact absurd HA.out (by simp [nunciolaw13_few.j1])
    | succ kj1 =>
     have H := HA.out
     clear HA
     simp only [nunciolaw13_few.j1] at H
     by_cases c4 : x11_1 = true
     ·
      subst c4
      have H1 : (if 0 ≤ x3_1 then (if x3_1 < (l0.length : Int) then ((nunciolaw13_FewFields.f kj1 ((rd_T44 l0 x3_1).f2)).bind fun t203 => (if t203 = true then (nunciolaw13_few.l0 kj1 l0 (wrap64 (x3_1 + 1))) else (some false))) else (none)) else (none)) = some r := by rw [if_pos rfl] at H; exact H
      clear H
      have H := H1
      clear H1
      by_cases c5 : 0 ≤ x3_1
      ·
       rw [if_pos c5] at H
       have c5b0 : decide (0 ≤ x3_1) = true := decide_eq_true c5
       clear c5
       by_cases c6 : x3_1 < (l0.length : Int)
       ·
        rw [if_pos c6] at H
        have c6b0 : decide (x3_1 < (l0.length : Int)) = true := decide_eq_true c6
        clear c6
        replace H := Option.bind_eq_some_iff.mp H
        obtain ⟨t203, A70, H⟩ := H
        replace H : (if t203 = true then (nunciolaw13_few.l0 kj1 l0 (wrap64 (x3_1 + 1))) else (some false)) = some r := H
        have A7 := Aside0.mk A70
        clear A70
        by_cases c8 : t203 = true
        ·
         subst c8
         have H1 : (nunciolaw13_few.l0 kj1 l0 (wrap64 (x3_1 + 1))) = some r := by rw [if_pos rfl] at H; exact H
         clear H
         have H := H1
         clear H1
         have H' := Aside0.mk H
         clear H
         have p202 : 0 ≤ (x3_1 : Int) := of_decide_eq_true (by first | (with_reducible assumption) | assumption)
         have q202 : x3_1 < (l0.length : Int) := of_decide_eq_true (by first | (with_reducible assumption) | assumption)
         obtain ⟨ad202, A202_2, c202_2, e202, hx202_0, hx202_1, hx202_2, hl202_2, hi202_2⟩ := at_T44 HR0.out x3_1 p202 q202
         cases e202
         replace hx202_0 := (HB.out.cell (World.block_lt_of_cell? w _ hx202_0)).trans hx202_0
         replace hx202_1 := (HB.out.cell (World.block_lt_of_cell? w _ hx202_1)).trans hx202_1
         replace hx202_2 := (HB.out.cell (World.block_lt_of_cell? w _ hx202_2)).trans hx202_2
         have HR202_2 := Aside0.mk hi202_2
         have HC202_2 := Aside0.mk hl202_2
         clear hi202_2 hl202_2
         replace p202 := eq_true p202
         replace q202 := eq_true q202
         go_wp2_with (first | ((with_reducible refine gate_callee (f := 10) rfl ?_); refine goesL_ (some 19) rfl rfl Tryd.func10 (by kernel_rfl) rfl #[.slice A202_2 ((rd_T44 l0 x3_1).f2).length c202_2] rfl (by (try simp only [List.map_toArray, List.map_cons, List.map_nil]); first | done | rfl | (simp only [List.length_drop, List.length_take]; rfl)) ?_; (with_reducible refine (nunciolaw13_FewFields.calls kj1 _ _ ((rd_T44 l0 x3_1).f2) true _ ?side1 ?side2 A7.out).mono ?_); (case side1 => repeat (first | exact (Kd.C_below HR202_2.out HB.out) | (with_reducible refine Kd.C_alloc ?_ _) | (with_reducible refine Kd.C_drewN ?_ _) | (with_reducible refine Kd.C_drew ?_))); (case side2 => exact HC202_2.out); rintro e w9 ⟨rfl, hb⟩; refine ⟨_, rfl, ?_⟩; have n0_ := Aside0.mk (below_step (by repeat (first | (with_reducible first | exact HB.out | apply below_alloc | apply pw_below_drewN | apply below_drew1) | exact HB.out)) hb); clear HB; have HB := n0_; clear n0_; (try clear hb); (try clear hb2); (try clear hk); (try clear hi)))
         go_roundg kj1
         case measure => have := HK1.out; have := HJ1.out; omega
         case rel => exact ⟨(wrap64 (x3_1 + 1)), (by first | rfl | (simp; done) | (simp [*]; done)), H', ⟨by have := HK1.out; have := HJ1.out; omega⟩, ⟨by repeat (first | (with_reducible first | exact HB.out | apply below_alloc | apply pw_below_drewN | apply below_drew1) | exact HB.out)⟩⟩
        ·
         replace c8 := Bool.eq_false_iff.mpr c8
         subst c8
         have H1 : (some false) = some r := by rw [if_neg (show ¬ (false = true) by decide)] at H; exact H
         clear H
         have H := H1
         clear H1
         obtain rfl := Option.some.inj H
         have p202 : 0 ≤ (x3_1 : Int) := of_decide_eq_true (by first | (with_reducible assumption) | assumption)
         have q202 : x3_1 < (l0.length : Int) := of_decide_eq_true (by first | (with_reducible assumption) | assumption)
         obtain ⟨ad202, A202_2, c202_2, e202, hx202_0, hx202_1, hx202_2, hl202_2, hi202_2⟩ := at_T44 HR0.out x3_1 p202 q202
         cases e202
         replace hx202_0 := (HB.out.cell (World.block_lt_of_cell? w _ hx202_0)).trans hx202_0
         replace hx202_1 := (HB.out.cell (World.block_lt_of_cell? w _ hx202_1)).trans hx202_1
         replace hx202_2 := (HB.out.cell (World.block_lt_of_cell? w _ hx202_2)).trans hx202_2
         have HR202_2 := Aside0.mk hi202_2
         have HC202_2 := Aside0.mk hl202_2
         clear hi202_2 hl202_2
         replace p202 := eq_true p202
         replace q202 := eq_true q202
         go_wp2_with (first | ((with_reducible refine gate_callee (f := 10) rfl ?_); refine goesL_ (some 19) rfl rfl Tryd.func10 (by kernel_rfl) rfl #[.slice A202_2 ((rd_T44 l0 x3_1).f2).length c202_2] rfl (by (try simp only [List.map_toArray, List.map_cons, List.map_nil]); first | done | rfl | (simp only [List.length_drop, List.length_take]; rfl)) ?_; (with_reducible refine (nunciolaw13_FewFields.calls kj1 _ _ ((rd_T44 l0 x3_1).f2) false _ ?side1 ?side2 A7.out).mono ?_); (case side1 => repeat (first | exact (Kd.C_below HR202_2.out HB.out) | (with_reducible refine Kd.C_alloc ?_ _) | (with_reducible refine Kd.C_drewN ?_ _) | (with_reducible refine Kd.C_drew ?_))); (case side2 => exact HC202_2.out); rintro e w10 ⟨rfl, hb⟩; refine ⟨_, rfl, ?_⟩; have n0_ := Aside0.mk (below_step (by repeat (first | (with_reducible first | exact HB.out | apply below_alloc | apply pw_below_drewN | apply below_drew1) | exact HB.out)) hb); clear HB; have HB := n0_; clear n0_; (try clear hb); (try clear hb2); (try clear hk); (try clear hi)))
         go_ret
         exact ⟨by first | rfl | (simp [errW_none, errW_some] <;> rfl) | (simp [*, errW_none, errW_some] <;> rfl), by repeat (first | (with_reducible first | exact HB.out | apply below_alloc | apply pw_below_drewN | apply below_drew1) | exact HB.out)⟩
       ·
        rw [if_neg c6] at H
        exact absurd H (by simp)
      ·
       rw [if_neg c5] at H
       exact absurd H (by simp)
     ·
      replace c4 := Bool.eq_false_iff.mpr c4
      subst c4
      have H1 : (some (decide ((l0.length : Int) ≤ 30))) = some r := by rw [if_neg (show ¬ (false = true) by decide)] at H; exact H
      clear H
      have H := H1
      clear H1
      obtain rfl := Option.some.inj H
      go_wp2
      go_ret
      exact ⟨by first | rfl | (simp [errW_none, errW_some] <;> rfl) | (simp [*, errW_none, errW_some] <;> rfl), by repeat (first | (with_reducible first | exact HB.out | apply below_alloc | apply pw_below_drewN | apply below_drew1) | exact HB.out)⟩
def nuncioref11_New.f (a0 : Int) : Option (Int × (List (S88))) := if a0 < 0 then (some (0, ([] : List (S88)))) else (some (a0, ([] : List (S88))))
set_option maxHeartbeats 8000000 in
set_option maxRecDepth 100000 in
theorem nuncioref11_New.calls (a0 : Int) (r1 : Int) (r2 : List (S88)) (w : World) (h : nuncioref11_New.f a0 = some (r1, r2)) :
  Calls Tryd.prog 38 #[.int .i64 a0] w fun e w' => ∃ v1_ : Value, e = .returned (.agg #[.int .i64 r1, v1_]) ∧ Kd.R k88 88 w' w.heap.size (fun _ => True) v1_ r2 ∧ Below w.heap.size w w' := by
 have hu37 := Tryd.underlying37
 have HB := Aside0.mk (Below.refl w.heap.size w)
 have H : (if a0 < 0 then (some (0, ([] : List (S88)))) else (some (a0, ([] : List (S88))))) = some (r1, r2) := h
 clear h
 by_cases c2 : a0 < 0
 ·
  rw [if_pos c2] at H
  have c2b0 : decide (a0 < 0) = true := decide_eq_true c2
  clear c2
  simp only [Option.some.injEq, Prod.mk.injEq] at H
  obtain ⟨rfl, rfl⟩ := H
  go_enter Tryd.func38, Tryd.ntmps38
  go_wp2_with (first | ((with_reducible refine gate_dst (N := 2) rfl ?_); refine box_event ?hg (N := 2) ?hd (cs := #[.int .i64 0, .slice none 0 0]) (t := 37) ?hr ?_; (case hd => rfl); (case hg => rfl); (case hr => first | (go_simp; done) | (go_simp; rfl)); intro gb204 hg w3 hbox hb; have n0_ := Aside0.mk (below_step (by repeat (first | (with_reducible first | exact HB.out | apply below_alloc | apply pw_below_drewN | apply below_drew1) | exact HB.out)) hb); have n1_ := Aside0.mk (hbox); have n2_ := Aside0.mk ((by rw [hg]; exact (below_size (by repeat (first | (with_reducible first | exact HB.out | apply below_alloc | apply pw_below_drewN | apply below_drew1) | exact HB.out))) : w.heap.size ≤ gb204)); have n3_ := Aside0.mk ((by rw [hg]; exact (below_size (by repeat (first | (with_reducible first | exact HB.out | apply below_alloc | apply pw_below_drewN | apply below_drew1) | exact HB.out))) : w.heap.size ≤ gb204)); clear HB; have HB := n0_; have BK204 := n1_; have GW204 := n2_; have GE204 := n3_; clear n0_ n1_ n2_ n3_; clear hb hbox hg; have hcz4_0 : w3.cell? ⟨gb204, 0, none⟩ = some (.int .i64 0) := (blk_cell BK204.out 0).trans rfl; have hcz4_1 : w3.cell? ⟨gb204, 1, none⟩ = some (.slice none 0 0) := (blk_cell BK204.out 1).trans rfl; have hfz4_0 := blk_frozen BK204.out 0; have hfz4_1 := blk_frozen BK204.out 1))
  refine bodyPost_ret (results_cell_row rfl _ _ gb204 37 #[.int .i64 0, .slice none 0 0] (0, 0) _ rfl (by (with_reducible repeat (first | refine blk_drewN ?_ _ | refine blk_drew ?_ | refine blk_alloc ?_ _)); refine blk_put (cs := #[.int .i64 0, .slice none 0 0]) ?_ 1 _ rfl; (with_reducible repeat (first | refine blk_drewN ?_ _ | refine blk_drew ?_ | refine blk_alloc ?_ _)); refine blk_put (cs := #[.int .i64 0, .slice none 0 0]) ?_ 0 _ rfl; (with_reducible repeat (first | refine blk_drewN ?_ _ | refine blk_drew ?_ | refine blk_alloc ?_ _)); exact BK204.out) Tryd.underlying37 rfl (by kernel_rfl)) rfl ?_
  exact ⟨_, by first | rfl | (simp [errW_none, errW_some] <;> rfl) | (simp [*, errW_none, errW_some] <;> rfl), by first | exact Kd.R_nil _ _ _ _ _ | exact Kd.N_nil _ _ _ _ _ | exact Kd.V_nil _ _ _ _ _ | exact Kd.Q_nil _ _ _ _ _ | exact Kd.S_nil _ _ _ _ _, by repeat (first | (with_reducible first | exact HB.out | apply below_alloc | apply pw_below_drewN | apply below_drew1 | refine below_set ?_ GE204.out) | exact HB.out)⟩
 ·
  rw [if_neg c2] at H
  have c2b0 : decide (a0 < 0) = false := decide_eq_false c2
  clear c2
  simp only [Option.some.injEq, Prod.mk.injEq] at H
  obtain ⟨rfl, rfl⟩ := H
  go_enter Tryd.func38, Tryd.ntmps38
  go_wp2_with (first | ((with_reducible refine gate_dst (N := 2) rfl ?_); refine box_event ?hg (N := 2) ?hd (cs := #[.int .i64 0, .slice none 0 0]) (t := 37) ?hr ?_; (case hd => rfl); (case hg => rfl); (case hr => first | (go_simp; done) | (go_simp; rfl)); intro gb204 hg w5 hbox hb; have n0_ := Aside0.mk (below_step (by repeat (first | (with_reducible first | exact HB.out | apply below_alloc | apply pw_below_drewN | apply below_drew1) | exact HB.out)) hb); have n1_ := Aside0.mk (hbox); have n2_ := Aside0.mk ((by rw [hg]; exact (below_size (by repeat (first | (with_reducible first | exact HB.out | apply below_alloc | apply pw_below_drewN | apply below_drew1) | exact HB.out))) : w.heap.size ≤ gb204)); have n3_ := Aside0.mk ((by rw [hg]; exact (below_size (by repeat (first | (with_reducible first | exact HB.out | apply below_alloc | apply pw_below_drewN | apply below_drew1) | exact HB.out))) : w.heap.size ≤ gb204)); clear HB; have HB := n0_; have BK204 := n1_; have GW204 := n2_; have GE204 := n3_; clear n0_ n1_ n2_ n3_; clear hb hbox hg; have hcz6_0 : w5.cell? ⟨gb204, 0, none⟩ = some (.int .i64 0) := (blk_cell BK204.out 0).trans rfl; have hcz6_1 : w5.cell? ⟨gb204, 1, none⟩ = some (.slice none 0 0) := (blk_cell BK204.out 1).trans rfl; have hfz6_0 := blk_frozen BK204.out 0; have hfz6_1 := blk_frozen BK204.out 1))
  refine bodyPost_ret (results_cell_row rfl _ _ gb204 37 #[.int .i64 a0, .slice none 0 0] (0, 0) _ rfl (by (with_reducible repeat (first | refine blk_drewN ?_ _ | refine blk_drew ?_ | refine blk_alloc ?_ _)); refine blk_put (cs := #[.int .i64 a0, .slice none 0 0]) ?_ 1 _ rfl; (with_reducible repeat (first | refine blk_drewN ?_ _ | refine blk_drew ?_ | refine blk_alloc ?_ _)); refine blk_put (cs := #[.int .i64 0, .slice none 0 0]) ?_ 0 _ rfl; (with_reducible repeat (first | refine blk_drewN ?_ _ | refine blk_drew ?_ | refine blk_alloc ?_ _)); exact BK204.out) Tryd.underlying37 rfl (by kernel_rfl)) rfl ?_
  exact ⟨_, by first | rfl | (simp [errW_none, errW_some] <;> rfl) | (simp [*, errW_none, errW_some] <;> rfl), by first | exact Kd.R_nil _ _ _ _ _ | exact Kd.N_nil _ _ _ _ _ | exact Kd.V_nil _ _ _ _ _ | exact Kd.Q_nil _ _ _ _ _ | exact Kd.S_nil _ _ _ _ _, by repeat (first | (with_reducible first | exact HB.out | apply below_alloc | apply pw_below_drewN | apply below_drew1 | refine below_set ?_ GE204.out) | exact HB.out)⟩
def nuncioref13_New.f  : Option (Int × (List (S88)) × List Int) := (nuncioref11_New.f 4096).bind fun bt206 => (some (bt206.1, bt206.2, ([] : List Int)))
set_option maxHeartbeats 8000000 in
set_option maxRecDepth 100000 in
theorem nuncioref13_New.calls  (r1 : Int) (r2 : List (S88)) (r3 : List Int) (w : World) (h : nuncioref13_New.f  = some (r1, r2, r3)) :
  Calls Tryd.prog 16 #[] w fun e w' => ∃ v1_ v2_ : Value, e = .returned (.agg #[.int .i64 r1, v1_, v2_]) ∧ Kd.R k88 88 w' w.heap.size (fun _ => True) v1_ r2 ∧ Kd.R (Kd.int .i64) 3 w' w.heap.size (fun _ => True) v2_ r3 ∧ Below w.heap.size w w' := by
 have hu40 := Tryd.underlying40
 have HB := Aside0.mk (Below.refl w.heap.size w)
 have H : ((nuncioref11_New.f 4096).bind fun bt206 => (some (bt206.1, bt206.2, ([] : List Int)))) = some (r1, r2, r3) := h
 clear h
 replace H := Option.bind_eq_some_iff.mp H
 obtain ⟨⟨t206, t207⟩, A10, H⟩ := H
 replace H : (some (t206, t207, ([] : List Int))) = some (r1, r2, r3) := H
 have A1 := Aside0.mk A10
 clear A10
 simp only [Option.some.injEq, Prod.mk.injEq] at H
 obtain ⟨rfl, rfl, rfl⟩ := H
 go_enter Tryd.func16, Tryd.ntmps16
 go_wp2_with (first | ((with_reducible refine gate_dst (N := 0) rfl ?_); refine box_event ?hg (N := 0) ?hd (cs := #[.int .i64 0, .slice none 0 0, .slice none 0 0]) (t := 40) ?hr ?_; (case hd => rfl); (case hg => rfl); (case hr => first | (go_simp; done) | (go_simp; rfl)); intro gb205 hg w2 hbox hb; have n0_ := Aside0.mk (below_step (by repeat (first | (with_reducible first | exact HB.out | apply below_alloc | apply pw_below_drewN | apply below_drew1) | exact HB.out)) hb); have n1_ := Aside0.mk (hbox); have n2_ := Aside0.mk ((by rw [hg]; exact (below_size (by repeat (first | (with_reducible first | exact HB.out | apply below_alloc | apply pw_below_drewN | apply below_drew1) | exact HB.out))) : w.heap.size ≤ gb205)); have n3_ := Aside0.mk ((by rw [hg]; exact (below_size (by repeat (first | (with_reducible first | exact HB.out | apply below_alloc | apply pw_below_drewN | apply below_drew1) | exact HB.out))) : w.heap.size ≤ gb205)); clear HB; have HB := n0_; have BK205 := n1_; have GW205 := n2_; have GE205 := n3_; clear n0_ n1_ n2_ n3_; clear hb hbox hg) | ((with_reducible refine gate_callee (f := 38) rfl ?_); refine goesL_ (some 1) rfl rfl Tryd.func38 (by kernel_rfl) rfl #[.int .i64 4096] rfl (by (try simp only [List.map_toArray, List.map_cons, List.map_nil]); first | done | rfl | (simp only [List.length_drop, List.length_take]; rfl)) ?_; (with_reducible refine (nuncioref11_New.calls 4096 t206 t207 _ A1.out).mono ?_); rintro e w3 ⟨v208, rfl, ho0, hb⟩; refine ⟨_, rfl, ?_⟩; have n0_ := Aside0.mk (Kd.R_lower ho0 (below_size (by repeat (first | (with_reducible first | exact HB.out | apply below_alloc | apply pw_below_drewN | apply below_drew1 | refine below_set ?_ GE205.out) | exact HB.out)))); have n1_ := Aside0.mk (blk_below (g := gb205) (o := .cells #[.int .i64 0, .slice none 0 0, .slice none 0 0] 40 (0, 0)) (by (with_reducible repeat (first | refine blk_drewN ?_ _ | refine blk_drew ?_ | refine blk_alloc ?_ _)); exact BK205.out) hb); have n2_ := Aside0.mk (below_step (by repeat (first | (with_reducible first | exact HB.out | apply below_alloc | apply pw_below_drewN | apply below_drew1 | refine below_set ?_ GE205.out) | exact HB.out)) hb); clear BK205; clear HB; have HO209 := n0_; have BK205 := n1_; have HB := n2_; clear n0_ n1_ n2_; (try clear hb); (try clear hb2); (try clear hk); (try clear hi); (try clear ho0); obtain ⟨Ao4, co4, eo4⟩ := Kd.R_slice HO209.out; subst eo4; have hcz5_0 : w3.cell? ⟨gb205, 0, none⟩ = some (.int .i64 0) := (blk_cell BK205.out 0).trans rfl; have hcz5_1 : w3.cell? ⟨gb205, 1, none⟩ = some (.slice none 0 0) := (blk_cell BK205.out 1).trans rfl; have hcz5_2 : w3.cell? ⟨gb205, 2, none⟩ = some (.slice none 0 0) := (blk_cell BK205.out 2).trans rfl; have hfz5_0 := blk_frozen BK205.out 0; have hfz5_1 := blk_frozen BK205.out 1; have hfz5_2 := blk_frozen BK205.out 2))
 refine bodyPost_ret (results_cell_row rfl _ _ gb205 40 #[.int .i64 t206, .slice Ao4 t207.length co4, .slice none 0 0] (0, 0) _ rfl (by (with_reducible repeat (first | refine blk_drewN ?_ _ | refine blk_drew ?_ | refine blk_alloc ?_ _)); refine blk_put (cs := #[.int .i64 t206, .slice Ao4 t207.length co4, .slice none 0 0]) ?_ 2 _ rfl; (with_reducible repeat (first | refine blk_drewN ?_ _ | refine blk_drew ?_ | refine blk_alloc ?_ _)); refine blk_put (cs := #[.int .i64 t206, .slice none 0 0, .slice none 0 0]) ?_ 1 _ rfl; (with_reducible repeat (first | refine blk_drewN ?_ _ | refine blk_drew ?_ | refine blk_alloc ?_ _)); refine blk_put (cs := #[.int .i64 0, .slice none 0 0, .slice none 0 0]) ?_ 0 _ rfl; (with_reducible repeat (first | refine blk_drewN ?_ _ | refine blk_drew ?_ | refine blk_alloc ?_ _)); exact BK205.out) Tryd.underlying40 rfl (by kernel_rfl)) rfl ?_
 exact ⟨_, _, by first | rfl | (simp [errW_none, errW_some] <;> rfl) | (simp [*, errW_none, errW_some] <;> rfl), by (with_reducible repeat (first | apply Kd.R_alloc | apply Kd.R_drewN | apply Kd.R_drew)); exact Kd.R_mono (Kd.R_far (p := ⟨gb205, 2, none⟩) (Kd.R_far (p := ⟨gb205, 1, none⟩) (Kd.R_far (p := ⟨gb205, 0, none⟩) (Kd.R_types HO209.out BK205.out (by decide)) (fun _ hk => hk.2) (.int .i64 t206)) (fun _ hk => hk.2) (.slice Ao4 t207.length co4)) (fun _ hk => hk.2) (.slice none 0 0)) (fun _ hk => trivial), by first | exact Kd.R_nil _ _ _ _ _ | exact Kd.N_nil _ _ _ _ _ | exact Kd.V_nil _ _ _ _ _ | exact Kd.Q_nil _ _ _ _ _ | exact Kd.S_nil _ _ _ _ _, by repeat (first | (with_reducible first | exact HB.out | apply below_alloc | apply pw_below_drewN | apply below_drew1 | refine below_set ?_ GE205.out) | exact HB.out)⟩
end Go.Proofs.YtfkdocmhbmameaaDoor.Mine
