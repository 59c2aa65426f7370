/- The walks and the plain laws that the rows come to: merged out of this repo's texts. -/
import Derived.Test.YtfkdocmhbmameaaDoorProg
import Derived.Below
import Derived.Deep.Draws
import Derived.Deep.AppendLies
import Derived.Maps.AppendAt
import Derived.OwnWalk
import Derived.Laws.BytesArg
import Derived.Laws.MakeOwn
import Derived.Laws.OwnMore
import Derived.Deep.OwnRows
import Derived.Tactics
import Derived.Lib.ConvBytes
import Derived.Laws.Slices
import Derived.WalkKit
import Derived.KernelRfl
import Derived.RowKit3
import Derived.Deep.LoopGhost
import Derived.Deep.QuietTactic
import Derived.BigQuiet
import Derived.WideLaws
import Derived.Deep.DeepCutAuto
import Derived.Deep.CutBlock
import Derived.Deep.RegionHeld3
import Derived.Laws.Rows
import Derived.Lib.AppendStr
import Derived.ArgAppend
import Derived.Laws.IdiomCopy
import Derived.RowKit
import Derived.OrdersHeld
import Derived.Laws.BitsLemmas
import Derived.Laws.StructEq
import Derived.Laws.CopyOwn
import Derived.SizedLaws
import Derived.ChangeSlices
import Derived.Deep.Slices
import Derived.Lib.SmallJoins
import Derived.Lib.OthersKept
import Derived.Lib.AppendZerosOnto
import Derived.WalkSpells
import Derived.Shelf.Utf8.RuneCount
import Derived.Shelf.Strings.Search1
import Derived.Shelf.Strings.Search2
import Derived.Shelf.Strings.Search3
import Derived.Shelf.Strings.Cut
import Derived.Shelf.Strings.Count
import Derived.Shelf.LaysM
import Derived.Shelf.Strings.Shaped
import Derived.Shelf.Strings.Split
import Derived.Shelf.Strings.SplitShaped
import Derived.Shelf.Unicode.Decode
import Derived.Shelf.Strings.RuneCount
import Derived.Shelf.Strings.Explode
import Derived.Shelf.Unicode.DecodeSlow
import Derived.Shelf.Unicode.DecodeAny
import Derived.Recover
import Derived.WalkLawsBesides
import Derived.Test.YtfkdocmhbmameaaDoorCA1
import Derived.Test.YtfkdocmhbmameaaDoorCA2
import Derived.Test.YtfkdocmhbmameaaDoorCA3
import Derived.Test.YtfkdocmhbmameaaDoorCA4
import Derived.Test.YtfkdocmhbmameaaDoorCA5
import Derived.Test.YtfkdocmhbmameaaDoorCA6
import Derived.Test.YtfkdocmhbmameaaDoorCA7
import Derived.Test.YtfkdocmhbmameaaDoorCA8
import Derived.Test.YtfkdocmhbmameaaDoorCA9
import Derived.Test.YtfkdocmhbmameaaDoorCA10
import Derived.Test.YtfkdocmhbmameaaDoorCA11
import Derived.Test.YtfkdocmhbmameaaDoorCA12
import Derived.Test.YtfkdocmhbmameaaDoorCA13
import Derived.Test.YtfkdocmhbmameaaDoorCA14
import Derived.Test.YtfkdocmhbmameaaDoorCA15
import Derived.Test.YtfkdocmhbmameaaDoorCA16
import Derived.Test.YtfkdocmhbmameaaDoorCA17
namespace Go.Proofs.YtfkdocmhbmameaaDoor.Mine
open Go.RowKit Go.Proofs Go.Proofs.YtfkdocmhbmameaaDoorW.PrintWords Go.Proofs.YtfkdocmhbmameaaDoorW.PrintLast Go.Proofs.YtfkdocmhbmameaaDoorW.PrintMore
attribute [local go_sem] max2_int min2_int max_two min_two max_three min_three max_four min_four
set_option linter.unusedVariables false
set_option linter.unusedSimpArgs false
theorem keep_cell2 {w W : World} {g g2 : Nat} (h : KeepBut w W g (some g2)) {a : Addr} {v : Value} (hc : w.cell? a = some v) (h1 : a.block ≠ g) (h2 : a.block ≠ g2) : W.cell? a = some v :=
  (World.cell?_of_block (h.2 a.block (World.block_lt_of_cell? _ _ hc) h1 (fun e => h2 (Option.some.inj e)))).trans hc
theorem IsS90.own_ne2 {w0 W : World} {g : Nat} {d : TD} {α : Type} {k : Kd α} {e : Nat} {base : Nat} {ok : Nat → Prop} {v : Value} {xs : List α} (h : IsS90 w0 W g d) (ho : k.R e W base ok v xs) (ht : e ≠ 77) : some (g - 1) ≠ v.ownBlock := by
  obtain ⟨cs, hb⟩ := h.tab.blk
  exact Kd.R_ne ho hb ht
theorem upText0.mono (s : ByteArray) (a : Int) (k : Nat) : LeO (upText0 k s a) (upText0 (k + 1) s a) := by
  unfold upText0
  repeat' first
   | (with_reducible exact prefix_Get.mono _ _ _ _)
   | (with_reducible exact huff_Decode.mono _ _)
   | (with_reducible exact LeO.refl _)
   | (with_reducible refine LeO.ite ?_ ?_)
   | (with_reducible refine LeO.bind ?_ (fun _ => ?_))
theorem upText.mono (s : ByteArray) (a : Int) (k : Nat) : LeO (upText k s a) (upText (k + 1) s a) := by
  unfold upText
  exact LeO.ite (upText0.mono s a k) (LeO.refl _)
theorem upLit.mono (t : TB) (s : ByteArray) (a b : Int) (k : Nat) : LeO (upLit k t s a b) (upLit (k + 1) t s a b) := by
  unfold upLit
  refine LeO.bind (prefix_Get.mono _ _ _ _) (fun p => LeO.ite (LeO.ite (LeO.ite (LeO.ite (LeO.bind (upText.mono _ _ _) (fun q => LeO.refl _)) (LeO.refl _)) (LeO.refl _)) (LeO.bind (upText.mono _ _ _) (fun q => ?_))) (LeO.refl _))
  cases q with
  | error e => exact LeO.refl _
  | ok q => exact LeO.bind (upText.mono _ _ _) (fun q => LeO.refl _)
theorem upRes.mono (t : TB) (s : ByteArray) (a : Int) (b : Bool) (k : Nat) : LeO (upRes k t s a b) (upRes (k + 1) t s a b) := by
  unfold upRes
  exact LeO.bind (prefix_Get.mono _ _ _ _) (fun p => LeO.refl _)
theorem upStep.mono (t : TB) (s : ByteArray) (a : Int) (n : Nat) (k : Nat) : LeO (upStep k t s a n) (upStep (k + 1) t s a n) := by
  unfold upStep
  exact LeO.ite (LeO.ite (LeO.bind (upRes.mono _ _ _ _ _) (fun _ => LeO.refl _)) (LeO.ite (LeO.refl _) (LeO.ite (LeO.bind (prefix_Get.mono _ _ _ _) (fun _ => LeO.refl _)) (LeO.ite (LeO.bind (upLit.mono _ _ _ _ _) (fun _ => LeO.refl _)) (LeO.bind (upLit.mono _ _ _ _ _) (fun _ => LeO.refl _)))))) (LeO.refl _)
theorem upFld.mono : ∀ (r : Nat) (t : TB) (s : ByteArray) (a : Int) (out : List S26) (k : Nat), LeO (upFld k r t s a out) (upFld (k + 1) (r + 1) t s a out)
  | 0, t, s, a, out, k => LeO.none _
  | r + 1, t, s, a, out, k => by
    rw [upFld, upFld]
    refine LeO.ite (LeO.bind (upStep.mono _ _ _ _ _) (fun q => ?_)) (LeO.refl _)
    obtain ⟨t2, q⟩ := q
    cases q with
    | error e => exact LeO.refl _
    | ok p => exact upFld.mono r _ _ _ _ _
theorem unpack_Decoder_Read.mono (d : TD) (s : ByteArray) (k : Nat) : LeO (unpack_Decoder_Read.f k d s) (unpack_Decoder_Read.f (k + 1) d s) := by
  unfold unpack_Decoder_Read.f
  exact LeO.ite (LeO.refl _) (LeO.bind (upFld.mono _ _ _ _ _ _) (fun q => LeO.refl _))
end Go.Proofs.YtfkdocmhbmameaaDoor.Mine
namespace Go.Proofs.YtfkdocmhbmameaaDoor.Mine
open Go.RowKit Go.Proofs Go.Proofs.YtfkdocmhbmameaaDoorW.PrintWords Go.Proofs.YtfkdocmhbmameaaDoorW.PrintLast Go.Proofs.YtfkdocmhbmameaaDoorW.PrintMore
def awL : List S103 := [⟨⟨#[58, 97, 117, 116, 104, 111, 114, 105, 116, 121]⟩, ⟨#[]⟩⟩, ⟨⟨#[58, 109, 101, 116, 104, 111, 100]⟩, ⟨#[71, 69, 84]⟩⟩, ⟨⟨#[58, 109, 101, 116, 104, 111, 100]⟩, ⟨#[80, 79, 83, 84]⟩⟩, ⟨⟨#[58, 112, 97, 116, 104]⟩, ⟨#[47]⟩⟩, ⟨⟨#[58, 112, 97, 116, 104]⟩, ⟨#[47, 105, 110, 100, 101, 120, 46, 104, 116, 109, 108]⟩⟩, ⟨⟨#[58, 115, 99, 104, 101, 109, 101]⟩, ⟨#[104, 116, 116, 112]⟩⟩, ⟨⟨#[58, 115, 99, 104, 101, 109, 101]⟩, ⟨#[104, 116, 116, 112, 115]⟩⟩, ⟨⟨#[58, 115, 116, 97, 116, 117, 115]⟩, ⟨#[50, 48, 48]⟩⟩, ⟨⟨#[58, 115, 116, 97, 116, 117, 115]⟩, ⟨#[50, 48, 52]⟩⟩, ⟨⟨#[58, 115, 116, 97, 116, 117, 115]⟩, ⟨#[50, 48, 54]⟩⟩, ⟨⟨#[58, 115, 116, 97, 116, 117, 115]⟩, ⟨#[51, 48, 52]⟩⟩, ⟨⟨#[58, 115, 116, 97, 116, 117, 115]⟩, ⟨#[52, 48, 48]⟩⟩, ⟨⟨#[58, 115, 116, 97, 116, 117, 115]⟩, ⟨#[52, 48, 52]⟩⟩, ⟨⟨#[58, 115, 116, 97, 116, 117, 115]⟩, ⟨#[53, 48, 48]⟩⟩, ⟨⟨#[97, 99, 99, 101, 112, 116, 45, 99, 104, 97, 114, 115, 101, 116]⟩, ⟨#[]⟩⟩, ⟨⟨#[97, 99, 99, 101, 112, 116, 45, 101, 110, 99, 111, 100, 105, 110, 103]⟩, ⟨#[103, 122, 105, 112, 44, 32, 100, 101, 102, 108, 97, 116, 101]⟩⟩, ⟨⟨#[97, 99, 99, 101, 112, 116, 45, 108, 97, 110, 103, 117, 97, 103, 101]⟩, ⟨#[]⟩⟩, ⟨⟨#[97, 99, 99, 101, 112, 116, 45, 114, 97, 110, 103, 101, 115]⟩, ⟨#[]⟩⟩, ⟨⟨#[97, 99, 99, 101, 112, 116]⟩, ⟨#[]⟩⟩, ⟨⟨#[97, 99, 99, 101, 115, 115, 45, 99, 111, 110, 116, 114, 111, 108, 45, 97, 108, 108, 111, 119, 45, 111, 114, 105, 103, 105, 110]⟩, ⟨#[]⟩⟩, ⟨⟨#[97, 103, 101]⟩, ⟨#[]⟩⟩, ⟨⟨#[97, 108, 108, 111, 119]⟩, ⟨#[]⟩⟩, ⟨⟨#[97, 117, 116, 104, 111, 114, 105, 122, 97, 116, 105, 111, 110]⟩, ⟨#[]⟩⟩, ⟨⟨#[99, 97, 99, 104, 101, 45, 99, 111, 110, 116, 114, 111, 108]⟩, ⟨#[]⟩⟩, ⟨⟨#[99, 111, 110, 116, 101, 110, 116, 45, 100, 105, 115, 112, 111, 115, 105, 116, 105, 111, 110]⟩, ⟨#[]⟩⟩, ⟨⟨#[99, 111, 110, 116, 101, 110, 116, 45, 101, 110, 99, 111, 100, 105, 110, 103]⟩, ⟨#[]⟩⟩, ⟨⟨#[99, 111, 110, 116, 101, 110, 116, 45, 108, 97, 110, 103, 117, 97, 103, 101]⟩, ⟨#[]⟩⟩, ⟨⟨#[99, 111, 110, 116, 101, 110, 116, 45, 108, 101, 110, 103, 116, 104]⟩, ⟨#[]⟩⟩, ⟨⟨#[99, 111, 110, 116, 101, 110, 116, 45, 108, 111, 99, 97, 116, 105, 111, 110]⟩, ⟨#[]⟩⟩, ⟨⟨#[99, 111, 110, 116, 101, 110, 116, 45, 114, 97, 110, 103, 101]⟩, ⟨#[]⟩⟩, ⟨⟨#[99, 111, 110, 116, 101, 110, 116, 45, 116, 121, 112, 101]⟩, ⟨#[]⟩⟩, ⟨⟨#[99, 111, 111, 107, 105, 101]⟩, ⟨#[]⟩⟩, ⟨⟨#[100, 97, 116, 101]⟩, ⟨#[]⟩⟩, ⟨⟨#[101, 116, 97, 103]⟩, ⟨#[]⟩⟩, ⟨⟨#[101, 120, 112, 101, 99, 116]⟩, ⟨#[]⟩⟩, ⟨⟨#[101, 120, 112, 105, 114, 101, 115]⟩, ⟨#[]⟩⟩, ⟨⟨#[102, 114, 111, 109]⟩, ⟨#[]⟩⟩, ⟨⟨#[104, 111, 115, 116]⟩, ⟨#[]⟩⟩, ⟨⟨#[105, 102, 45, 109, 97, 116, 99, 104]⟩, ⟨#[]⟩⟩, ⟨⟨#[105, 102, 45, 109, 111, 100, 105, 102, 105, 101, 100, 45, 115, 105, 110, 99, 101]⟩, ⟨#[]⟩⟩, ⟨⟨#[105, 102, 45, 110, 111, 110, 101, 45, 109, 97, 116, 99, 104]⟩, ⟨#[]⟩⟩, ⟨⟨#[105, 102, 45, 114, 97, 110, 103, 101]⟩, ⟨#[]⟩⟩, ⟨⟨#[105, 102, 45, 117, 110, 109, 111, 100, 105, 102, 105, 101, 100, 45, 115, 105, 110, 99, 101]⟩, ⟨#[]⟩⟩, ⟨⟨#[108, 97, 115, 116, 45, 109, 111, 100, 105, 102, 105, 101, 100]⟩, ⟨#[]⟩⟩, ⟨⟨#[108, 105, 110, 107]⟩, ⟨#[]⟩⟩, ⟨⟨#[108, 111, 99, 97, 116, 105, 111, 110]⟩, ⟨#[]⟩⟩, ⟨⟨#[109, 97, 120, 45, 102, 111, 114, 119, 97, 114, 100, 115]⟩, ⟨#[]⟩⟩, ⟨⟨#[112, 114, 111, 120, 121, 45, 97, 117, 116, 104, 101, 110, 116, 105, 99, 97, 116, 101]⟩, ⟨#[]⟩⟩, ⟨⟨#[112, 114, 111, 120, 121, 45, 97, 117, 116, 104, 111, 114, 105, 122, 97, 116, 105, 111, 110]⟩, ⟨#[]⟩⟩, ⟨⟨#[114, 97, 110, 103, 101]⟩, ⟨#[]⟩⟩, ⟨⟨#[114, 101, 102, 101, 114, 101, 114]⟩, ⟨#[]⟩⟩, ⟨⟨#[114, 101, 102, 114, 101, 115, 104]⟩, ⟨#[]⟩⟩, ⟨⟨#[114, 101, 116, 114, 121, 45, 97, 102, 116, 101, 114]⟩, ⟨#[]⟩⟩, ⟨⟨#[115, 101, 114, 118, 101, 114]⟩, ⟨#[]⟩⟩, ⟨⟨#[115, 101, 116, 45, 99, 111, 111, 107, 105, 101]⟩, ⟨#[]⟩⟩, ⟨⟨#[115, 116, 114, 105, 99, 116, 45, 116, 114, 97, 110, 115, 112, 111, 114, 116, 45, 115, 101, 99, 117, 114, 105, 116, 121]⟩, ⟨#[]⟩⟩, ⟨⟨#[116, 114, 97, 110, 115, 102, 101, 114, 45, 101, 110, 99, 111, 100, 105, 110, 103]⟩, ⟨#[]⟩⟩, ⟨⟨#[117, 115, 101, 114, 45, 97, 103, 101, 110, 116]⟩, ⟨#[]⟩⟩, ⟨⟨#[118, 97, 114, 121]⟩, ⟨#[]⟩⟩, ⟨⟨#[118, 105, 97]⟩, ⟨#[]⟩⟩, ⟨⟨#[119, 119, 119, 45, 97, 117, 116, 104, 101, 110, 116, 105, 99, 97, 116, 101]⟩, ⟨#[]⟩⟩]
def awP (l : List S103) : List (List UInt8 × List UInt8) := l.map fun x => (x.f0.data.toList, x.f1.data.toList)
set_option maxRecDepth 100000 in
theorem awL_parts : awP awL = (tbParts 10 tbText.data.toList).map (fun l => ((Lib.cut l [61]).1, (Lib.cut l [61]).2.1)) := by decide +kernel
theorem awP_inj : ∀ (a b : List S103), awP a = awP b → a = b
  | [], [], _ => rfl
  | [], y :: b, h => by simp [awP] at h
  | x :: a, [], h => by simp [awP] at h
  | x :: a, y :: b, h => by
    simp only [awP, List.map_cons, List.cons.injEq, Prod.mk.injEq] at h
    obtain ⟨⟨h1, h2⟩, h3⟩ := h
    obtain ⟨⟨⟨x0⟩⟩, ⟨⟨x1⟩⟩⟩ := x
    obtain ⟨⟨⟨y0⟩⟩, ⟨⟨y1⟩⟩⟩ := y
    simp only at h1 h2
    subst h1 h2
    rw [awP_inj a b h3]
theorem awFixed : tbFixed = awL := by
  refine awP_inj _ _ ?_
  rw [awL_parts, ← tbPieces_eq, List.map_map]
  unfold tbFixed awP
  rw [List.map_map]
  refine List.map_congr_left (fun x _ => ?_)
  simp [tbCut]
set_option maxRecDepth 100000 in
theorem nunciolaw12_awake_t : ((unpack_New.f).bind fun t385 => ((unpack_Decoder_Read.f 400 t385 (⟨#[130, 134, 132, 65, 15, 119, 119, 119, 46, 101, 120, 97, 109, 112, 108, 101, 46, 99, 111, 109]⟩ : ByteArray)).bind fun bt387 => ((unpack_Decoder_Read.f 400 bt387.2.2 (⟨#[130, 134, 132, 190, 88, 8, 110, 111, 45, 99, 97, 99, 104, 101]⟩ : ByteArray)).bind fun bt392 => (if (bt387.1.length : Int) = 4 then (if bt387.2.1 = 0 then (if 3 < (bt387.1.length : Int) then (if ((rd_T26 bt387.1 3).f1).toList = ([119, 119, 119, 46, 101, 120, 97, 109, 112, 108, 101, 46, 99, 111, 109] : List UInt8) then (if (bt392.1.length : Int) = 5 then (if bt392.2.1 = 0 then (if 3 < (bt392.1.length : Int) then (if ((((rd_T26 bt392.1 3).f0).toList) == (((rd_T26 bt387.1 3).f0).toList) && ((((rd_T26 bt392.1 3).f1).toList) == (((rd_T26 bt387.1 3).f1).toList) && (((rd_T26 bt392.1 3).f2) == ((rd_T26 bt387.1 3).f2)))) = true then (if 4 < (bt392.1.length : Int) then (if ((rd_T26 bt392.1 4).f0).toList = ([99, 97, 99, 104, 101, 45, 99, 111, 110, 116, 114, 111, 108] : List UInt8) then ((unpack_Decoder_Down.f bt392.2.2).bind fun bt401 => (some (!bt401.1))) else (some false)) else (none)) else (some false)) else (none)) else (some false)) else (some false)) else (some false)) else (none)) else (some false)) else (some false))))) = some true := by
  unfold unpack_New.f
  rw [awFixed]
  decide +kernel
end Go.Proofs.YtfkdocmhbmameaaDoor.Mine
