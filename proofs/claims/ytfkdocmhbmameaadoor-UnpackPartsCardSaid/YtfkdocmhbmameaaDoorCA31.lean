/- The walks and the plain laws that the rows come to: merged out of this repo's texts. -/
import Derived.Test.YtfkdocmhbmameaaDoorProg
import Derived.Below
import Derived.Deep.Draws
import Derived.Deep.AppendLies
import Derived.Maps.AppendAt
import Derived.OwnWalk
import Derived.Laws.BytesArg
import Derived.Laws.MakeOwn
import Derived.Laws.OwnMore
import Derived.Deep.OwnRows
import Derived.Tactics
import Derived.Lib.ConvBytes
import Derived.Laws.Slices
import Derived.WalkKit
import Derived.KernelRfl
import Derived.RowKit3
import Derived.Deep.LoopGhost
import Derived.Deep.QuietTactic
import Derived.BigQuiet
import Derived.WideLaws
import Derived.Deep.DeepCutAuto
import Derived.Deep.CutBlock
import Derived.Deep.RegionHeld3
import Derived.Laws.Rows
import Derived.Lib.AppendStr
import Derived.ArgAppend
import Derived.Laws.IdiomCopy
import Derived.RowKit
import Derived.OrdersHeld
import Derived.Laws.BitsLemmas
import Derived.Laws.StructEq
import Derived.Laws.CopyOwn
import Derived.SizedLaws
import Derived.ChangeSlices
import Derived.Deep.Slices
import Derived.Lib.SmallJoins
import Derived.Lib.OthersKept
import Derived.Lib.AppendZerosOnto
import Derived.WalkSpells
import Derived.Shelf.Utf8.RuneCount
import Derived.Shelf.Strings.Search1
import Derived.Shelf.Strings.Search2
import Derived.Shelf.Strings.Search3
import Derived.Shelf.Strings.Cut
import Derived.Shelf.Strings.Count
import Derived.Shelf.LaysM
import Derived.Shelf.Strings.Shaped
import Derived.Shelf.Strings.Split
import Derived.Shelf.Strings.SplitShaped
import Derived.Shelf.Unicode.Decode
import Derived.Shelf.Strings.RuneCount
import Derived.Shelf.Strings.Explode
import Derived.Shelf.Unicode.DecodeSlow
import Derived.Shelf.Unicode.DecodeAny
import Derived.Recover
import Derived.WalkLawsBesides
import Derived.Test.YtfkdocmhbmameaaDoorCA1
import Derived.Test.YtfkdocmhbmameaaDoorCA2
import Derived.Test.YtfkdocmhbmameaaDoorCA3
import Derived.Test.YtfkdocmhbmameaaDoorCA4
import Derived.Test.YtfkdocmhbmameaaDoorCA5
import Derived.Test.YtfkdocmhbmameaaDoorCA6
import Derived.Test.YtfkdocmhbmameaaDoorCA7
import Derived.Test.YtfkdocmhbmameaaDoorCA8
import Derived.Test.YtfkdocmhbmameaaDoorCA9
import Derived.Test.YtfkdocmhbmameaaDoorCA11
import Derived.Test.YtfkdocmhbmameaaDoorCA12
import Derived.Test.YtfkdocmhbmameaaDoorCA13
import Derived.Test.YtfkdocmhbmameaaDoorCA14
import Derived.Test.YtfkdocmhbmameaaDoorCA15
import Derived.Test.YtfkdocmhbmameaaDoorCA16
import Derived.Test.YtfkdocmhbmameaaDoorCA17
import Derived.Test.YtfkdocmhbmameaaDoorCA18
import Derived.Test.YtfkdocmhbmameaaDoorCA19
import Derived.Test.YtfkdocmhbmameaaDoorCA21
import Derived.Test.YtfkdocmhbmameaaDoorCA30
namespace Go.Proofs.YtfkdocmhbmameaaDoor.Mine
open Go.RowKit Go.Proofs.YtfkdocmhbmameaaDoorW.PrintWords Go.Proofs.YtfkdocmhbmameaaDoorW.PrintLast Go.Proofs.YtfkdocmhbmameaaDoorW.PrintMore
attribute [local go_sem] max2_int min2_int max_two min_two max_three min_three max_four min_four
set_option linter.unusedVariables false
set_option linter.unusedSimpArgs false
mutual
def nunciolaw12_UnpackParts.j0 : Nat → List ByteArray → ByteArray → ByteArray → Bool → Option (Bool)
 | 0, _, _, _, _ => none
 | k + 1, x0, x1, x2, x35 => if x35 = true then (some true) else ((unpack_New.f).bind fun t511 => ((unpack_New.f).bind fun t513 => (nunciolaw12_UnpackParts.l0 k x0 x1 x2 0 t511 t513)))
def nunciolaw12_UnpackParts.l0 : Nat → List ByteArray → ByteArray → ByteArray → Int → TD → TD → Option (Bool)
 | 0, _, _, _, _, _, _ => none
 | k + 1, x0, x1, x2, x9, x513000, x515000 => if x9 < (x0.length : Int) then (if 0 ≤ x9 then ((unpack_Decoder_Read.f k x513000 (rdOf ByteArray.empty x0 x9)).bind fun bt516 => ((unpack_Decoder_Read.f k x515000 (rdOf ByteArray.empty x0 x9)).bind fun bt522 => (nunciolaw12_UnpackParts.l0 k x0 x1 x2 (wrap64 (x9 + 1)) bt516.2.2 bt522.2.2))) else (none)) else ((unpack_Decoder_Read.f k x513000 x1).bind fun bt527 => ((unpack_Decoder_Read.f k bt527.2.2 x2).bind fun bt532 => (if bt527.2.1 = 0 then (nunciolaw12_UnpackParts.j2 k x1 x2 bt527.1 bt532.1 (bt532.2.1 != 0) bt532.2.2 x515000) else (nunciolaw12_UnpackParts.j2 k x1 x2 bt527.1 bt532.1 true bt532.2.2 x515000))))
def nunciolaw12_UnpackParts.j2 : Nat → ByteArray → ByteArray → List (S26) → List (S26) → Bool → TD → TD → Option (Bool)
 | 0, _, _, _, _, _, _, _ => none
 | k + 1, x1, x2, x10, x12, x73, x513000, x515000 => if x73 = true then (some true) else (if (wrap64 ((x10.length : Int) + (x12.length : Int))) > 64 then (nunciolaw12_UnpackParts.j3 k x1 x2 x10 x12 true x513000 x515000) else (if (x2.size : Int) > 0 then (if 0 < (x2.size : Int) then (if (bt x2 0) ≥ 32 then (if (bt x2 0) ≤ 63 then (nunciolaw12_UnpackParts.j3 k x1 x2 x10 x12 (decide ((x10.length : Int) > 0)) x513000 x515000) else (nunciolaw12_UnpackParts.j3 k x1 x2 x10 x12 false x513000 x515000)) else (nunciolaw12_UnpackParts.j3 k x1 x2 x10 x12 false x513000 x515000)) else (none)) else (nunciolaw12_UnpackParts.j3 k x1 x2 x10 x12 false x513000 x515000)))
def nunciolaw12_UnpackParts.j3 : Nat → ByteArray → ByteArray → List (S26) → List (S26) → Bool → TD → TD → Option (Bool)
 | 0, _, _, _, _, _, _, _ => none
 | k + 1, x1, x2, x10, x12, x99, x513000, x515000 => if x99 = true then (some true) else (if x1.size + x2.size ≤ 9223372036854775807 then ((unpack_Decoder_Read.f k x515000 (x1 ++ x2)).bind fun bt537 => (if bt537.2.1 = 0 then ((some (([] : List (S26)) : List (S26))).bind fun y542 => (if y542.length + x10.length < 3518437208883 then ((some (y542 ++ x10 : List (S26))).bind fun y545 => (if y545.length + x12.length < 3518437208883 then ((nuncioref12_Same.f k bt537.1 (y545 ++ x12)).bind fun t551 => (if t551 = true then ((unpack_Decoder_Table.f x513000).bind fun t552 => ((unpack_Decoder_Table.f bt537.2.2).bind fun t554 => ((nunciolaw12_same.f t552 t554).bind fun t556 => (some t556)))) else (some false))) else (none))) else (none))) else (some false))) else (none))
end
def nunciolaw12_UnpackParts.f (k : Nat) (l0 : List ByteArray) (a1 : ByteArray) (a2 : ByteArray) : Option (Bool) := (nunciolaw12_awake.f k).bind fun t509 => (if t509 = true then ((nunciolaw12_Few.f k l0).bind fun t510 => (if t510 = true then (if (l0.length : Int) > 20 then (nunciolaw12_UnpackParts.j0 k l0 a1 a2 true) else (if (a1.size : Int) > 1000 then (nunciolaw12_UnpackParts.j0 k l0 a1 a2 true) else (nunciolaw12_UnpackParts.j0 k l0 a1 a2 (decide ((a2.size : Int) > 1000))))) else (nunciolaw12_UnpackParts.j0 k l0 a1 a2 true))) else (some false))
set_option maxHeartbeats 8000000 in
set_option maxRecDepth 100000 in
theorem nunciolaw12_UnpackParts.calls (k : Nat) (A0 : Option Addr) (c0 : Nat) (l0 : List ByteArray) (a1 : ByteArray) (a2 : ByteArray) (r : Bool) (w : World) (hE : EnvW w) (hr0 : Kd.C Kd.string w A0 l0.length l0) (hc0 : l0.length ≤ c0) (h : nunciolaw12_UnpackParts.f k l0 a1 a2 = some r) (hT : r = true) :
  Calls Tryd.prog 7 #[.slice A0 l0.length c0, .string a1, .string a2] w fun e w' => e = .returned (.bool r) ∧ Below w.heap.size w w' := by
 have HR0 := Aside0.mk hr0
 have HC0 := Aside0.mk hc0
 clear hr0 hc0
 have HB := Aside0.mk (Below.refl w.heap.size w)
 have HEnv := Aside0.mk hE
 clear hE
 have HT := Aside0.mk hT
 clear hT
 have H : ((nunciolaw12_awake.f k).bind fun t509 => (if t509 = true then ((nunciolaw12_Few.f k l0).bind fun t510 => (if t510 = true then (if (l0.length : Int) > 20 then (nunciolaw12_UnpackParts.j0 k l0 a1 a2 true) else (if (a1.size : Int) > 1000 then (nunciolaw12_UnpackParts.j0 k l0 a1 a2 true) else (nunciolaw12_UnpackParts.j0 k l0 a1 a2 (decide ((a2.size : Int) > 1000))))) else (nunciolaw12_UnpackParts.j0 k l0 a1 a2 true))) else (some false))) = some r := h
 clear h
 replace H := Option.bind_eq_some_iff.mp H
 obtain ⟨t509, A40, H⟩ := H
 replace H : (if t509 = true then ((nunciolaw12_Few.f k l0).bind fun t510 => (if t510 = true then (if (l0.length : Int) > 20 then (nunciolaw12_UnpackParts.j0 k l0 a1 a2 true) else (if (a1.size : Int) > 1000 then (nunciolaw12_UnpackParts.j0 k l0 a1 a2 true) else (nunciolaw12_UnpackParts.j0 k l0 a1 a2 (decide ((a2.size : Int) > 1000))))) else (nunciolaw12_UnpackParts.j0 k l0 a1 a2 true))) else (some false)) = some r := H
 have A4 := Aside0.mk A40
 clear A40
 by_cases c5 : t509 = true
 ·
  subst c5
  have H1 : ((nunciolaw12_Few.f k l0).bind fun t510 => (if t510 = true then (if (l0.length : Int) > 20 then (nunciolaw12_UnpackParts.j0 k l0 a1 a2 true) else (if (a1.size : Int) > 1000 then (nunciolaw12_UnpackParts.j0 k l0 a1 a2 true) else (nunciolaw12_UnpackParts.j0 k l0 a1 a2 (decide ((a2.size : Int) > 1000))))) else (nunciolaw12_UnpackParts.j0 k l0 a1 a2 true))) = some r := by rw [if_pos rfl] at H; exact H
  clear H
  have H := H1
  clear H1
  have HC6 := Aside0.mk H
  clear H
  go_enter Tryd.func7, Tryd.ntmps7
  go_upto_region 3 with (first | ((with_reducible refine gate_callee (f := 21) rfl ?_); refine goesL_ (some 16) rfl rfl Tryd.func21 (by kernel_rfl) rfl #[] rfl (by (try simp only [List.map_toArray, List.map_cons, List.map_nil]); first | done | rfl | (simp only [List.length_drop, List.length_take]; rfl)) ?_; (with_reducible refine (nunciolaw12_awake.calls k  true _ ?side1 A4.out).mono ?_); (case side1 => exact EnvW.below HEnv.out rfl (by repeat (first | (with_reducible first | exact HB.out | apply below_alloc | apply pw_below_drewN | apply below_drew1) | exact HB.out))); rintro e w7 ⟨rfl, hb⟩; refine ⟨_, rfl, ?_⟩; have n0_ := Aside0.mk (below_step (by repeat (first | (with_reducible first | exact HB.out | apply below_alloc | apply pw_below_drewN | apply below_drew1) | exact HB.out)) hb); clear HB; have HB := n0_; clear n0_; (try clear hb); (try clear hb2); (try clear hk); (try clear hi)))
  (try simp only [Act.put, List.setIfInBounds_toArray, List.set_cons_zero, List.set_cons_succ])
  go_cut [35] (fun v35 wc => ∃ (kq : Nat) (x35_5 : Bool), v35 = .bool x35_5 ∧ Aside0 (nunciolaw12_UnpackParts.j0 kq l0 a1 a2 x35_5 = some r) ∧ Aside0 (kq ≤ k) ∧ Aside0 (Below w.heap.size w wc))
  case first =>
   have H := HC6.out
   clear HC6
   replace H := Option.bind_eq_some_iff.mp H
   obtain ⟨t510, A80, H⟩ := H
   replace H : (if t510 = true then (if (l0.length : Int) > 20 then (nunciolaw12_UnpackParts.j0 k l0 a1 a2 true) else (if (a1.size : Int) > 1000 then (nunciolaw12_UnpackParts.j0 k l0 a1 a2 true) else (nunciolaw12_UnpackParts.j0 k l0 a1 a2 (decide ((a2.size : Int) > 1000))))) else (nunciolaw12_UnpackParts.j0 k l0 a1 a2 true)) = some r := H
   have A8 := Aside0.mk A80
   clear A80
   by_cases c9 : t510 = true
   ·
    subst c9
    have H1 : (if (l0.length : Int) > 20 then (nunciolaw12_UnpackParts.j0 k l0 a1 a2 true) else (if (a1.size : Int) > 1000 then (nunciolaw12_UnpackParts.j0 k l0 a1 a2 true) else (nunciolaw12_UnpackParts.j0 k l0 a1 a2 (decide ((a2.size : Int) > 1000))))) = some r := by rw [if_pos rfl] at H; exact H
    clear H
    have H := H1
    clear H1
    by_cases c10 : (l0.length : Int) > 20
    ·
     rw [if_pos c10] at H
     have c10b0 : decide (20 < (l0.length : Int)) = true := decide_eq_true c10
     have c10b1 : decide (20 < l0.length) = true := decide_eq_true (by omega)
     clear c10
     (first | rw [c10b0] | rw [c10b1] | (simp only [i64_w, i32_w]; rw [c10b0]) | skip)
     have H' := Aside0.mk H
     clear H
     go_wp2_with (first | ((with_reducible refine gate_callee (f := 22) rfl ?_); refine goesL_ (some 19) rfl rfl Tryd.func22 (by kernel_rfl) rfl #[.slice A0 l0.length c0] rfl (by (try simp only [List.map_toArray, List.map_cons, List.map_nil]); first | done | rfl | (simp only [List.length_drop, List.length_take]; rfl)) ?_; (with_reducible refine (nunciolaw12_Few.calls k _ _ l0 true _ ?side1 ?side2 A8.out).mono ?_); (case side1 => repeat (first | exact (Kd.C_below HR0.out HB.out) | (with_reducible refine Kd.C_alloc ?_ _) | (with_reducible refine Kd.C_drewN ?_ _) | (with_reducible refine Kd.C_drew ?_))); (case side2 => exact HC0.out); rintro e w11 ⟨rfl, hb⟩; refine ⟨_, rfl, ?_⟩; have n0_ := Aside0.mk (below_step (by repeat (first | (with_reducible first | exact HB.out | apply below_alloc | apply pw_below_drewN | apply below_drew1) | exact HB.out)) hb); clear HB; have HB := n0_; clear n0_; (try clear hb); (try clear hb2); (try clear hk); (try clear hi)))
     go_meet
     case rel => exact ⟨_, (true), (by first | rfl | (simp; done) | (simp [*]; done)), H', ⟨by first | omega | exact Nat.le_refl _⟩, ⟨by repeat (first | (with_reducible first | exact HB.out | apply below_alloc | apply pw_below_drewN | apply below_drew1) | exact HB.out)⟩⟩
    ·
     rw [if_neg c10] at H
     have c10b0 : decide (20 < (l0.length : Int)) = false := decide_eq_false c10
     have c10b1 : decide (20 < l0.length) = false := decide_eq_false (by omega)
     clear c10
     (first | rw [c10b0] | rw [c10b1] | (simp only [i64_w, i32_w]; rw [c10b0]) | skip)
     by_cases c12 : (a1.size : Int) > 1000
     ·
      rw [if_pos c12] at H
      have c12b0 : decide (1000 < (a1.size : Int)) = true := decide_eq_true c12
      have c12b1 : decide (1000 < a1.size) = true := decide_eq_true (by omega)
      clear c12
      have H' := Aside0.mk H
      clear H
      go_wp2_with (first | ((with_reducible refine gate_callee (f := 22) rfl ?_); refine goesL_ (some 19) rfl rfl Tryd.func22 (by kernel_rfl) rfl #[.slice A0 l0.length c0] rfl (by (try simp only [List.map_toArray, List.map_cons, List.map_nil]); first | done | rfl | (simp only [List.length_drop, List.length_take]; rfl)) ?_; (with_reducible refine (nunciolaw12_Few.calls k _ _ l0 true _ ?side1 ?side2 A8.out).mono ?_); (case side1 => repeat (first | exact (Kd.C_below HR0.out HB.out) | (with_reducible refine Kd.C_alloc ?_ _) | (with_reducible refine Kd.C_drewN ?_ _) | (with_reducible refine Kd.C_drew ?_))); (case side2 => exact HC0.out); rintro e w13 ⟨rfl, hb⟩; refine ⟨_, rfl, ?_⟩; have n0_ := Aside0.mk (below_step (by repeat (first | (with_reducible first | exact HB.out | apply below_alloc | apply pw_below_drewN | apply below_drew1) | exact HB.out)) hb); clear HB; have HB := n0_; clear n0_; (try clear hb); (try clear hb2); (try clear hk); (try clear hi)))
      go_meet
      case rel => exact ⟨_, (true), (by first | rfl | (simp; done) | (simp [*]; done)), H', ⟨by first | omega | exact Nat.le_refl _⟩, ⟨by repeat (first | (with_reducible first | exact HB.out | apply below_alloc | apply pw_below_drewN | apply below_drew1) | exact HB.out)⟩⟩
     ·
      rw [if_neg c12] at H
      have c12b0 : decide (1000 < (a1.size : Int)) = false := decide_eq_false c12
      have c12b1 : decide (1000 < a1.size) = false := decide_eq_false (by omega)
      clear c12
      have H' := Aside0.mk H
      clear H
      go_wp2_with (first | ((with_reducible refine gate_callee (f := 22) rfl ?_); refine goesL_ (some 19) rfl rfl Tryd.func22 (by kernel_rfl) rfl #[.slice A0 l0.length c0] rfl (by (try simp only [List.map_toArray, List.map_cons, List.map_nil]); first | done | rfl | (simp only [List.length_drop, List.length_take]; rfl)) ?_; (with_reducible refine (nunciolaw12_Few.calls k _ _ l0 true _ ?side1 ?side2 A8.out).mono ?_); (case side1 => repeat (first | exact (Kd.C_below HR0.out HB.out) | (with_reducible refine Kd.C_alloc ?_ _) | (with_reducible refine Kd.C_drewN ?_ _) | (with_reducible refine Kd.C_drew ?_))); (case side2 => exact HC0.out); rintro e w14 ⟨rfl, hb⟩; refine ⟨_, rfl, ?_⟩; have n0_ := Aside0.mk (below_step (by repeat (first | (with_reducible first | exact HB.out | apply below_alloc | apply pw_below_drewN | apply below_drew1) | exact HB.out)) hb); clear HB; have HB := n0_; clear n0_; (try clear hb); (try clear hb2); (try clear hk); (try clear hi)))
      go_meet
      case rel => exact ⟨_, (decide ((a2.size : Int) > 1000)), (by first | rfl | (simp; done) | (simp [*]; done)), H', ⟨by first | omega | exact Nat.le_refl _⟩, ⟨by repeat (first | (with_reducible first | exact HB.out | apply below_alloc | apply pw_below_drewN | apply below_drew1) | exact HB.out)⟩⟩
   ·
    replace c9 := Bool.eq_false_iff.mpr c9
    subst c9
    have H1 : (nunciolaw12_UnpackParts.j0 k l0 a1 a2 true) = some r := by rw [if_neg (show ¬ (false = true) by decide)] at H; exact H
    clear H
    have H := H1
    clear H1
    have H' := Aside0.mk H
    clear H
    go_wp2_with (first | ((with_reducible refine gate_callee (f := 22) rfl ?_); refine goesL_ (some 19) rfl rfl Tryd.func22 (by kernel_rfl) rfl #[.slice A0 l0.length c0] rfl (by (try simp only [List.map_toArray, List.map_cons, List.map_nil]); first | done | rfl | (simp only [List.length_drop, List.length_take]; rfl)) ?_; (with_reducible refine (nunciolaw12_Few.calls k _ _ l0 false _ ?side1 ?side2 A8.out).mono ?_); (case side1 => repeat (first | exact (Kd.C_below HR0.out HB.out) | (with_reducible refine Kd.C_alloc ?_ _) | (with_reducible refine Kd.C_drewN ?_ _) | (with_reducible refine Kd.C_drew ?_))); (case side2 => exact HC0.out); rintro e w15 ⟨rfl, hb⟩; refine ⟨_, rfl, ?_⟩; have n0_ := Aside0.mk (below_step (by repeat (first | (with_reducible first | exact HB.out | apply below_alloc | apply pw_below_drewN | apply below_drew1) | exact HB.out)) hb); clear HB; have HB := n0_; clear n0_; (try clear hb); (try clear hb2); (try clear hk); (try clear hi)))
    go_meet
    case rel => exact ⟨_, (true), (by first | rfl | (simp; done) | (simp [*]; done)), H', ⟨by first | omega | exact Nat.le_refl _⟩, ⟨by repeat (first | (with_reducible first | exact HB.out | apply below_alloc | apply pw_below_drewN | apply below_drew1) | exact HB.out)⟩⟩
  case rest =>
   clear HC6
   try clear c1
   try clear c2
   try clear p2
   try clear c5
   try clear c7
   try clear c9
   try clear c10
   try clear c10b0
   try clear c10b1
   try clear c12
   try clear c12b0
   try clear c12b1
   obtain ⟨kq, x35_5, rfl, HA, HJ5, HB⟩ := hcut
   cases kq with
   | zero => exact absurd HA.out (by simp [nunciolaw12_UnpackParts.j0])
   | succ kj5 =>
    have H := HA.out
    clear HA
    simp only [nunciolaw12_UnpackParts.j0] at H
    by_cases c16 : x35_5 = true
    ·
     subst c16
     have H1 : (some true) = some r := by rw [if_pos rfl] at H; exact H
     clear H
     have H := H1
     clear H1
     obtain rfl := Option.some.inj H
     go_wp2
     go_ret
     exact ⟨by first | rfl | (simp [errW_none, errW_some] <;> rfl) | (simp [*, errW_none, errW_some] <;> rfl), by repeat (first | (with_reducible first | exact HB.out | apply below_alloc | apply pw_below_drewN | apply below_drew1) | exact HB.out)⟩
    ·
     replace c16 := Bool.eq_false_iff.mpr c16
     subst c16
     have H1 : ((unpack_New.f).bind fun t511 => ((unpack_New.f).bind fun t513 => (nunciolaw12_UnpackParts.l0 kj5 l0 a1 a2 0 t511 t513))) = some r := by rw [if_neg (show ¬ (false = true) by decide)] at H; exact H
     clear H
     have H := H1
     clear H1
     replace H := Option.bind_eq_some_iff.mp H
     obtain ⟨t511, A170, H⟩ := H
     replace H : ((unpack_New.f).bind fun t513 => (nunciolaw12_UnpackParts.l0 kj5 l0 a1 a2 0 t511 t513)) = some r := H
     have A17 := Aside0.mk A170
     clear A170
     replace H := Option.bind_eq_some_iff.mp H
     obtain ⟨t513, A180, H⟩ := H
     replace H : (nunciolaw12_UnpackParts.l0 kj5 l0 a1 a2 0 t511 t513) = some r := H
     have A18 := Aside0.mk A180
     clear A180
     (try (have EA18 := Aside0.mk (Option.some.inj (A17.out.symm.trans A18.out))))
     have H' := Aside0.mk H
     clear H
     have tk21 : True := trivial
     have tk22 : True := trivial
     go_wp2_with (first | (have _t : True := tk21; clear tk21 _t; (with_reducible refine gate_callee (f := 23) rfl ?_); refine goesL_ (some 36) rfl rfl Tryd.func23 (by kernel_rfl) rfl #[] rfl (by (try simp only [List.map_toArray, List.map_cons, List.map_nil]); first | done | rfl | (simp only [List.length_drop, List.length_take]; rfl)) ?_; (with_reducible refine (unpack_New.calls  t511 _ _ (Below.refl _ _) ?side1 A17.out).mono ?_); (case side1 => exact EnvW.below HEnv.out rfl (by repeat (first | (with_reducible first | exact HB.out | apply below_alloc | apply pw_below_drewN | apply below_drew1) | exact HB.out))); rintro e w19 ⟨g512, rfl, hi, hb, hb2⟩; refine ⟨_, rfl, ?_⟩; have n0_ := Aside0.mk (below_step (by repeat (first | (with_reducible first | exact HB.out | apply below_alloc | apply pw_below_drewN | apply below_drew1) | exact HB.out)) hb2); have n1_ := Aside0.mk ((show IsS90 w w19 g512 t511 from IsS90.rebase hi (below_size (by repeat (first | (with_reducible first | exact HB.out | apply below_alloc | apply pw_below_drewN | apply below_drew1) | exact HB.out))))); clear HB; have HB := n0_; have HI512 := n1_; clear n0_ n1_; (try clear hb); (try clear hb2); (try clear hk); (try clear hi)) | (have _t : True := tk22; clear tk22 _t; (with_reducible refine gate_callee (f := 23) rfl ?_); refine goesL_ (some 37) rfl rfl Tryd.func23 (by kernel_rfl) rfl #[] rfl (by (try simp only [List.map_toArray, List.map_cons, List.map_nil]); first | done | rfl | (simp only [List.length_drop, List.length_take]; rfl)) ?_; (with_reducible refine (unpack_New.calls  t513 _ _ (Below.refl _ _) ?side1 A18.out).mono ?_); (case side1 => exact EnvW.below HEnv.out rfl (by repeat (first | (with_reducible first | exact HB.out | apply below_alloc | apply pw_below_drewN | apply below_drew1 | refine below_set ?_ (IsS90.ge HI512.out)) | exact HB.out))); rintro e w20 ⟨g514, rfl, hi, hb, hb2⟩; refine ⟨_, rfl, ?_⟩; have n0_ := Aside0.mk (IsS90.below (by repeat (first | (with_reducible first | exact HI512.out | apply IsS90.alloc | apply IsS90.drewN | apply IsS90.drew) | exact HI512.out)) hb2); have n1_ := Aside0.mk (below_step (by repeat (first | (with_reducible first | exact HB.out | apply below_alloc | apply pw_below_drewN | apply below_drew1 | refine below_set ?_ (IsS90.ge HI512.out)) | exact HB.out)) hb2); have n2_ := Aside0.mk ((show IsS90 w w20 g514 t513 from IsS90.rebase hi (below_size (by repeat (first | (with_reducible first | exact HB.out | apply below_alloc | apply pw_below_drewN | apply below_drew1 | refine below_set ?_ (IsS90.ge HI512.out)) | exact HB.out))))); have n3_ := Aside0.mk ((Nat.ne_of_lt (Nat.lt_of_lt_of_le (IsS90.lt (show IsS90 w _ g512 t511 from by repeat (first | (with_reducible first | exact HI512.out | apply IsS90.alloc | apply IsS90.drewN | apply IsS90.drew) | exact HI512.out))) (IsS90.ge hi)) : g512 ≠ g514)); have n4_ := Aside0.mk ((Nat.ne_of_gt (Nat.lt_of_lt_of_le (IsS90.lt (show IsS90 w _ g512 t511 from by repeat (first | (with_reducible first | exact HI512.out | apply IsS90.alloc | apply IsS90.drewN | apply IsS90.drew) | exact HI512.out))) (IsS90.ge hi)) : g514 ≠ g512)); clear HI512; clear HB; have HI512 := n0_; have HB := n1_; have HI514 := n2_; have NB512_514 := n3_; have NB514_512 := n4_; clear n0_ n1_ n2_ n3_ n4_; (try clear hb); (try clear hb2); (try clear hk); (try clear hi)))
     go_loopg [9] kj5 (fun kq v9 w' => ∃ (x9_2 : Int) (x513000_2 : TD) (x515000_2 : TD), v9 = .int .i64 x9_2 ∧ Aside0 (nunciolaw12_UnpackParts.l0 kq l0 a1 a2 x9_2 x513000_2 x515000_2 = some r) ∧ Aside0 (kq ≤ kj5) ∧ Aside0 (IsS90 w w' g512 x513000_2) ∧ Aside0 (IsS90 w w' g514 x515000_2) ∧ Aside0 (Below w.heap.size w w'))
     case atStart => exact ⟨(0), (t511), (t513), (by first | rfl | (simp; done) | (simp [*]; done) | (have e_ := EA18.out; subst e_; rfl)), H', ⟨Nat.le_refl _⟩, ⟨by repeat (first | (with_reducible first | exact HI512.out | apply IsS90.alloc | apply IsS90.drewN | apply IsS90.drew) | exact HI512.out)⟩, ⟨by repeat (first | (with_reducible first | exact HI514.out | apply IsS90.alloc | apply IsS90.drewN | apply IsS90.drew) | exact HI514.out)⟩, ⟨by repeat (first | (with_reducible first | exact HB.out | apply below_alloc | apply pw_below_drewN | apply below_drew1 | refine below_set ?_ (IsS90.ge HI512.out) | refine below_set ?_ (IsS90.ge HI514.out)) | exact HB.out)⟩⟩
     case round =>
      clear H'
      try clear c1
      try clear c2
      try clear p2
      try clear c5
      try clear c7
      try clear c9
      try clear c10
      try clear c10b0
      try clear c10b1
      try clear c12
      try clear c12b0
      try clear c12b1
      try clear c16
      try clear c21
      try clear c22
      try clear p2
      obtain ⟨x9_2, x513000_2, x515000_2, rfl, HA, HK2, HI512, HI514, HB⟩ := hrel
      cases gk with
      | zero => exact absurd HA.out (by simp [nunciolaw12_UnpackParts.l0])
      | succ k2 =>
       have H := HA.out
       clear HA
       simp only [nunciolaw12_UnpackParts.l0] at H
       by_cases c23 : x9_2 < (l0.length : Int)
       ·
        rw [if_pos c23] at H
        have c23b0 : decide (x9_2 < (l0.length : Int)) = true := decide_eq_true c23
        clear c23
        by_cases c24 : 0 ≤ x9_2
        ·
         rw [if_pos c24] at H
         have c24b0 : decide (0 ≤ x9_2) = true := decide_eq_true c24
         clear c24
         replace H := Option.bind_eq_some_iff.mp H
         obtain ⟨⟨t516, t519, t520⟩, A250, H⟩ := H
         replace H : ((unpack_Decoder_Read.f k2 x515000_2 (rdOf ByteArray.empty l0 x9_2)).bind fun bt522 => (nunciolaw12_UnpackParts.l0 k2 l0 a1 a2 (wrap64 (x9_2 + 1)) t520 bt522.2.2)) = some r := H
         have A25 := Aside0.mk A250
         clear A250
         replace H := Option.bind_eq_some_iff.mp H
         obtain ⟨⟨t522, t525, t526⟩, A260, H⟩ := H
         replace H : (nunciolaw12_UnpackParts.l0 k2 l0 a1 a2 (wrap64 (x9_2 + 1)) t520 t526) = some r := H
         have A26 := Aside0.mk A260
         clear A260
         have H' := Aside0.mk H
         clear H
         have p515 : 0 ≤ (x9_2 : Int) := of_decide_eq_true (by first | (with_reducible assumption) | assumption)
         have q515 : x9_2 < (l0.length : Int) := of_decide_eq_true (by first | (with_reducible assumption) | assumption)
         obtain ⟨ad515, e515, hx515_0⟩ := Kd.at_string HR0.out x9_2 p515 q515
         cases e515
         replace hx515_0 := (HB.out.cell (World.block_lt_of_cell? w _ hx515_0)).trans hx515_0
         replace p515 := eq_true p515
         replace q515 := eq_true q515
         have tk29 : True := trivial
         have tk30 : True := trivial
         go_wp2_with (first | (have _t : True := tk29; clear tk29 _t; (with_reducible refine gate_callee (f := 25) rfl ?_); refine goesL_ (some 49) rfl rfl Tryd.func25 (by kernel_rfl) rfl #[.pointer (some ⟨g512, 0, none⟩), .string (rdOf ByteArray.empty l0 x9_2)] rfl (by (try simp only [List.map_toArray, List.map_cons, List.map_nil]); first | done | rfl | (simp only [List.length_drop, List.length_take]; rfl)) ?_; (with_reducible refine (unpack_Decoder_Read.calls k2 g512 x513000_2 (rdOf ByteArray.empty l0 x9_2) t516 t519 t520 w _ ?side1 ?side2 A25.out).mono ?_); (case side1 => repeat (first | (with_reducible first | exact HI512.out | apply IsS90.alloc | apply IsS90.drewN | apply IsS90.drew) | exact HI512.out)); (case side2 => repeat (first | (with_reducible first | exact HB.out | apply below_alloc | apply pw_below_drewN | apply below_drew1 | refine below_set ?_ (IsS90.ge HI512.out) | refine below_set ?_ (IsS90.ge HI514.out)) | exact HB.out)); rintro e w27 ⟨v517, rfl, ho0, hi, hb, hk⟩; refine ⟨_, rfl, ?_⟩; have n0_ := Aside0.mk (IsS90.other (show IsS90 w _ g514 x515000_2 from by repeat (first | (with_reducible first | exact HI514.out | apply IsS90.alloc | apply IsS90.drewN | apply IsS90.drew) | exact HI514.out)) (show IsS90 w _ g512 x513000_2 from by repeat (first | (with_reducible first | exact HI512.out | apply IsS90.alloc | apply IsS90.drewN | apply IsS90.drew) | exact HI512.out)) hk NB514_512.out); have n1_ := Aside0.mk (Kd.R_lower ho0 (below_size (by repeat (first | (with_reducible first | exact HB.out | apply below_alloc | apply pw_below_drewN | apply below_drew1 | refine below_set ?_ (IsS90.ge HI512.out) | refine below_set ?_ (IsS90.ge HI514.out)) | exact HB.out)))); have n2_ := Aside0.mk (hb); have n3_ := Aside0.mk (hi); clear HI514; clear HB; clear HI512; have HI514 := n0_; have HO518 := n1_; have HB := n2_; have HI512 := n3_; clear n0_ n1_ n2_ n3_; (try clear hb); (try clear hb2); (try clear hk); (try clear hi); (try clear ho0); have p521 : 0 ≤ (x9_2 : Int) := of_decide_eq_true (by first | (with_reducible assumption) | assumption); have q521 : x9_2 < (l0.length : Int) := of_decide_eq_true (by first | (with_reducible assumption) | assumption); obtain ⟨ad521, e521, hx521_0⟩ := Kd.at_string HR0.out x9_2 p521 q521; obtain rfl : ad515 = ad521 := (by injection e521); replace hx521_0 := (HB.out.cell (World.block_lt_of_cell? w _ hx521_0)).trans hx521_0; replace p521 := eq_true p521; replace q521 := eq_true q521) | (have _t : True := tk30; clear tk30 _t; (with_reducible refine gate_callee (f := 25) rfl ?_); refine goesL_ (some 55) rfl rfl Tryd.func25 (by kernel_rfl) rfl #[.pointer (some ⟨g514, 0, none⟩), .string (rdOf ByteArray.empty l0 x9_2)] rfl (by (try simp only [List.map_toArray, List.map_cons, List.map_nil]); first | done | rfl | (simp only [List.length_drop, List.length_take]; rfl)) ?_; (with_reducible refine (unpack_Decoder_Read.calls k2 g514 x515000_2 (rdOf ByteArray.empty l0 x9_2) t522 t525 t526 w _ ?side1 ?side2 A26.out).mono ?_); (case side1 => repeat (first | (with_reducible first | exact HI514.out | apply IsS90.alloc | apply IsS90.drewN | apply IsS90.drew) | exact HI514.out)); (case side2 => repeat (first | (with_reducible first | exact HB.out | apply below_alloc | apply pw_below_drewN | apply below_drew1 | refine below_set ?_ (IsS90.ge HI512.out) | refine below_set ?_ (IsS90.ge HI514.out)) | exact HB.out)); rintro e w28 ⟨v523, rfl, ho0, hi, hb, hk⟩; refine ⟨_, rfl, ?_⟩; have n0_ := Aside0.mk (IsS90.other (show IsS90 w _ g512 t520 from by repeat (first | (with_reducible first | exact HI512.out | apply IsS90.alloc | apply IsS90.drewN | apply IsS90.drew) | exact HI512.out)) (show IsS90 w _ g514 x515000_2 from by repeat (first | (with_reducible first | exact HI514.out | apply IsS90.alloc | apply IsS90.drewN | apply IsS90.drew) | exact HI514.out)) hk NB512_514.out); have n1_ := Aside0.mk (Kd.R_mono (Kd.R_told (Kd.R_oldK2 (IsS90.apart (show IsS90 w _ g514 x515000_2 from by repeat (first | (with_reducible first | exact HI514.out | apply IsS90.alloc | apply IsS90.drewN | apply IsS90.drew) | exact HI514.out)) (by (with_reducible repeat (first | apply Kd.R_alloc | apply Kd.R_drewN | apply Kd.R_drew)); exact HO518.out) (by decide)) hk) (Kd.R_base ho0)) (fun _ h_ => h_.1)); have n2_ := Aside0.mk (Kd.R_lower (Kd.R_new' ho0 (Kd.R_lt (by (with_reducible repeat (first | apply Kd.R_alloc | apply Kd.R_drewN | apply Kd.R_drew)); exact HO518.out))) (below_size (by repeat (first | (with_reducible first | exact HB.out | apply below_alloc | apply pw_below_drewN | apply below_drew1 | refine below_set ?_ (IsS90.ge HI512.out) | refine below_set ?_ (IsS90.ge HI514.out)) | exact HB.out)))); have n3_ := Aside0.mk (hb); have n4_ := Aside0.mk (hi); clear HI512; clear HO518; clear HB; clear HI514; have HI512 := n0_; have HO518 := n1_; have HO524 := n2_; have HB := n3_; have HI514 := n4_; clear n0_ n1_ n2_ n3_ n4_; (try clear hb); (try clear hb2); (try clear hk); (try clear hi); (try clear ho0)))
         go_roundg k2
         case measure => have := HJ5.out; have := HK2.out; omega
         case rel => exact ⟨(wrap64 (x9_2 + 1)), (t520), (t526), (by first | rfl | (simp; done) | (simp [*]; done) | (have e_ := EA18.out; subst e_; rfl)), H', ⟨by have := HJ5.out; have := HK2.out; omega⟩, ⟨by repeat (first | (with_reducible first | exact HI512.out | apply IsS90.alloc | apply IsS90.drewN | apply IsS90.drew) | exact HI512.out)⟩, ⟨by repeat (first | (with_reducible first | exact HI514.out | apply IsS90.alloc | apply IsS90.drewN | apply IsS90.drew) | exact HI514.out)⟩, ⟨by repeat (first | (with_reducible first | exact HB.out | apply below_alloc | apply pw_below_drewN | apply below_drew1 | refine below_set ?_ (IsS90.ge HI512.out) | refine below_set ?_ (IsS90.ge HI514.out)) | exact HB.out)⟩⟩
        ·
         rw [if_neg c24] at H
         exact absurd H (by simp)
       ·
        rw [if_neg c23] at H
        have c23b0 : decide (x9_2 < (l0.length : Int)) = false := decide_eq_false c23
        clear c23
        replace H := Option.bind_eq_some_iff.mp H
        obtain ⟨⟨t527, t530, t531⟩, A310, H⟩ := H
        replace H : ((unpack_Decoder_Read.f k2 t531 a2).bind fun bt532 => (if t530 = 0 then (nunciolaw12_UnpackParts.j2 k2 a1 a2 t527 bt532.1 (bt532.2.1 != 0) bt532.2.2 x515000_2) else (nunciolaw12_UnpackParts.j2 k2 a1 a2 t527 bt532.1 true bt532.2.2 x515000_2))) = some r := H
        have A31 := Aside0.mk A310
        clear A310
        replace H := Option.bind_eq_some_iff.mp H
        obtain ⟨⟨t532, t535, t536⟩, A320, H⟩ := H
        replace H : (if t530 = 0 then (nunciolaw12_UnpackParts.j2 k2 a1 a2 t527 t532 (t535 != 0) t536 x515000_2) else (nunciolaw12_UnpackParts.j2 k2 a1 a2 t527 t532 true t536 x515000_2)) = some r := H
        have A32 := Aside0.mk A320
        clear A320
        have HC33 := Aside0.mk H
        clear H
        go_upto_region 13 with (first | ((with_reducible refine gate_callee (f := 25) rfl ?_); refine goesL_ (some 59) rfl rfl Tryd.func25 (by kernel_rfl) rfl #[.pointer (some ⟨g512, 0, none⟩), .string a1] rfl (by (try simp only [List.map_toArray, List.map_cons, List.map_nil]); first | done | rfl | (simp only [List.length_drop, List.length_take]; rfl)) ?_; (with_reducible refine (unpack_Decoder_Read.calls k2 g512 x513000_2 a1 t527 t530 t531 w _ ?side1 ?side2 A31.out).mono ?_); (case side1 => repeat (first | (with_reducible first | exact HI512.out | apply IsS90.alloc | apply IsS90.drewN | apply IsS90.drew) | exact HI512.out)); (case side2 => repeat (first | (with_reducible first | exact HB.out | apply below_alloc | apply pw_below_drewN | apply below_drew1 | refine below_set ?_ (IsS90.ge HI512.out) | refine below_set ?_ (IsS90.ge HI514.out)) | exact HB.out)); rintro e w34 ⟨v528, rfl, ho0, hi, hb, hk⟩; refine ⟨_, rfl, ?_⟩; have n0_ := Aside0.mk (IsS90.other (show IsS90 w _ g514 x515000_2 from by repeat (first | (with_reducible first | exact HI514.out | apply IsS90.alloc | apply IsS90.drewN | apply IsS90.drew) | exact HI514.out)) (show IsS90 w _ g512 x513000_2 from by repeat (first | (with_reducible first | exact HI512.out | apply IsS90.alloc | apply IsS90.drewN | apply IsS90.drew) | exact HI512.out)) hk NB514_512.out); have n1_ := Aside0.mk (Kd.R_lower ho0 (below_size (by repeat (first | (with_reducible first | exact HB.out | apply below_alloc | apply pw_below_drewN | apply below_drew1 | refine below_set ?_ (IsS90.ge HI512.out) | refine below_set ?_ (IsS90.ge HI514.out)) | exact HB.out)))); have n2_ := Aside0.mk (hb); have n3_ := Aside0.mk (hi); clear HI514; clear HB; clear HI512; have HI514 := n0_; have HO529 := n1_; have HB := n2_; have HI512 := n3_; clear n0_ n1_ n2_ n3_; (try clear hb); (try clear hb2); (try clear hk); (try clear hi); (try clear ho0)) | ((with_reducible refine gate_callee (f := 25) rfl ?_); refine goesL_ (some 65) rfl rfl Tryd.func25 (by kernel_rfl) rfl #[.pointer (some ⟨g512, 0, none⟩), .string a2] rfl (by (try simp only [List.map_toArray, List.map_cons, List.map_nil]); first | done | rfl | (simp only [List.length_drop, List.length_take]; rfl)) ?_; (with_reducible refine (unpack_Decoder_Read.calls k2 g512 t531 a2 t532 t535 t536 w _ ?side1 ?side2 A32.out).mono ?_); (case side1 => repeat (first | (with_reducible first | exact HI512.out | apply IsS90.alloc | apply IsS90.drewN | apply IsS90.drew) | exact HI512.out)); (case side2 => repeat (first | (with_reducible first | exact HB.out | apply below_alloc | apply pw_below_drewN | apply below_drew1 | refine below_set ?_ (IsS90.ge HI512.out) | refine below_set ?_ (IsS90.ge HI514.out)) | exact HB.out)); rintro e w35 ⟨v533, rfl, ho0, hi, hb, hk⟩; refine ⟨_, rfl, ?_⟩; have n0_ := Aside0.mk (IsS90.other (show IsS90 w _ g514 x515000_2 from by repeat (first | (with_reducible first | exact HI514.out | apply IsS90.alloc | apply IsS90.drewN | apply IsS90.drew) | exact HI514.out)) (show IsS90 w _ g512 t531 from by repeat (first | (with_reducible first | exact HI512.out | apply IsS90.alloc | apply IsS90.drewN | apply IsS90.drew) | exact HI512.out)) hk NB514_512.out); have n1_ := Aside0.mk (Kd.R_mono (Kd.R_told (Kd.R_oldK2 (IsS90.apart (show IsS90 w _ g512 t531 from by repeat (first | (with_reducible first | exact HI512.out | apply IsS90.alloc | apply IsS90.drewN | apply IsS90.drew) | exact HI512.out)) (by (with_reducible repeat (first | apply Kd.R_alloc | apply Kd.R_drewN | apply Kd.R_drew)); exact HO529.out) (by decide)) hk) (Kd.R_base ho0)) (fun _ h_ => h_.1)); have n2_ := Aside0.mk (Kd.R_lower (Kd.R_new' ho0 (Kd.R_lt (by (with_reducible repeat (first | apply Kd.R_alloc | apply Kd.R_drewN | apply Kd.R_drew)); exact HO529.out))) (below_size (by repeat (first | (with_reducible first | exact HB.out | apply below_alloc | apply pw_below_drewN | apply below_drew1 | refine below_set ?_ (IsS90.ge HI512.out) | refine below_set ?_ (IsS90.ge HI514.out)) | exact HB.out)))); have n3_ := Aside0.mk (hb); have n4_ := Aside0.mk (hi); clear HI514; clear HO529; clear HB; clear HI512; have HI514 := n0_; have HO529 := n1_; have HO534 := n2_; have HB := n3_; have HI512 := n4_; clear n0_ n1_ n2_ n3_ n4_; (try clear hb); (try clear hb2); (try clear hk); (try clear hi); (try clear ho0)))
        (try simp only [Act.put, List.setIfInBounds_toArray, List.set_cons_zero, List.set_cons_succ])
        go_cut [73] (fun v73 wc => ∃ (kq : Nat) (x73_32 : Bool), v73 = .bool x73_32 ∧ Aside0 (nunciolaw12_UnpackParts.j2 kq a1 a2 t527 t532 x73_32 t536 x515000_2 = some r) ∧ Aside0 (kq ≤ k2) ∧ Aside0 (Kd.R k26 26 wc w.heap.size (fun k_ => some k_ ≠ (v533 : Value).ownBlock) v528 t527) ∧ Aside0 (Kd.R k26 26 wc w.heap.size (fun k_ => some k_ ≠ (v528 : Value).ownBlock) v533 t532) ∧ Aside0 (IsS90 w wc g512 t536) ∧ Aside0 (IsS90 w wc g514 x515000_2) ∧ Aside0 (Below w.heap.size w wc))
        case first =>
         have H := HC33.out
         clear HC33
         by_cases c36 : t530 = 0
         ·
          rw [if_pos c36] at H
          have c36b0 : (t530 == 0) = true := beq_iff_eq.mpr c36
          have c36b1 : (t530 != 0) = false := bne_eq_false_iff_eq.mpr c36
          clear c36
          (first | rw [c36b0] | rw [c36b1] | (simp only [i64_w, i32_w]; rw [c36b0]) | skip)
          have H' := Aside0.mk H
          clear H
          go_wp2
          go_meet
          case rel => exact ⟨_, ((t535 != 0)), (by first | rfl | (simp; done) | (simp [*]; done) | (have e_ := EA18.out; subst e_; rfl)), H', ⟨by have := HJ5.out; have := HK2.out; first | omega | exact Nat.le_refl _⟩, ⟨by (with_reducible repeat (first | apply Kd.R_alloc | apply Kd.R_drewN | apply Kd.R_drew)); exact Kd.R_mono HO529.out (fun _ hk => hk.2)⟩, ⟨by (with_reducible repeat (first | apply Kd.R_alloc | apply Kd.R_drewN | apply Kd.R_drew)); exact Kd.R_mono HO534.out (fun _ hk => hk.2)⟩, ⟨by repeat (first | (with_reducible first | exact HI512.out | apply IsS90.alloc | apply IsS90.drewN | apply IsS90.drew) | exact HI512.out)⟩, ⟨by repeat (first | (with_reducible first | exact HI514.out | apply IsS90.alloc | apply IsS90.drewN | apply IsS90.drew) | exact HI514.out)⟩, ⟨by repeat (first | (with_reducible first | exact HB.out | apply below_alloc | apply pw_below_drewN | apply below_drew1 | refine below_set ?_ (IsS90.ge HI512.out) | refine below_set ?_ (IsS90.ge HI514.out)) | exact HB.out)⟩⟩
         ·
          rw [if_neg c36] at H
          have c36b0 : (t530 == 0) = false := beq_eq_false_iff_ne.mpr c36
          have c36b1 : (t530 != 0) = true := bne_iff_ne.mpr c36
          (first | rw [c36b0] | rw [c36b1] | (simp only [i64_w, i32_w]; rw [c36b0]) | skip)
          have H' := Aside0.mk H
          clear H
          go_wp2
          go_meet
          case rel => exact ⟨_, (true), (by first | rfl | (simp; done) | (simp [*]; done) | (have e_ := EA18.out; subst e_; rfl)), H', ⟨by have := HJ5.out; have := HK2.out; first | omega | exact Nat.le_refl _⟩, ⟨by (with_reducible repeat (first | apply Kd.R_alloc | apply Kd.R_drewN | apply Kd.R_drew)); exact Kd.R_mono HO529.out (fun _ hk => hk.2)⟩, ⟨by (with_reducible repeat (first | apply Kd.R_alloc | apply Kd.R_drewN | apply Kd.R_drew)); exact Kd.R_mono HO534.out (fun _ hk => hk.2)⟩, ⟨by repeat (first | (with_reducible first | exact HI512.out | apply IsS90.alloc | apply IsS90.drewN | apply IsS90.drew) | exact HI512.out)⟩, ⟨by repeat (first | (with_reducible first | exact HI514.out | apply IsS90.alloc | apply IsS90.drewN | apply IsS90.drew) | exact HI514.out)⟩, ⟨by repeat (first | (with_reducible first | exact HB.out | apply below_alloc | apply pw_below_drewN | apply below_drew1 | refine below_set ?_ (IsS90.ge HI512.out) | refine below_set ?_ (IsS90.ge HI514.out)) | exact HB.out)⟩⟩
        case rest =>
         clear HC33
         try clear c1
         try clear c2
         try clear p2
         try clear c3
         try clear c5
         try clear p5
         try clear q5
         try clear hx5
         try clear p6
         try clear c7
         try clear c9
         try clear c10
         try clear c10b0
         try clear c10b1
         try clear c12
         try clear c12b0
         try clear c12b1
         try clear c16
         try clear c21
         try clear c22
         try clear c23
         try clear c23b0
         try clear c24
         try clear c24b0
         try clear c25
         try clear c36
         try clear c36b0
         try clear c36b1
         try clear hx515_0
         try clear hx521_0
         try clear p2
         try clear p515
         try clear p521
         try clear q515
         try clear q521
         obtain ⟨kq, x73_32, rfl, HA, HJ32, HO_10, HO_12, HI512, HI514, HB⟩ := hcut
         cases kq with
         | zero => exact absurd HA.out (by simp [nunciolaw12_UnpackParts.j2])
         | succ kj32 =>
          have H := HA.out
          clear HA
          simp only [nunciolaw12_UnpackParts.j2] at H
          by_cases c37 : x73_32 = true
          ·
           subst c37
           have H1 : (some true) = some r := by rw [if_pos rfl] at H; exact H
           clear H
           have H := H1
           clear H1
           obtain rfl := Option.some.inj H
           go_wp2
           go_ret
           exact ⟨by first | rfl | (simp [errW_none, errW_some] <;> rfl) | (simp [*, errW_none, errW_some] <;> rfl) | (have e_ := EA18.out; subst e_; rfl), by repeat (first | (with_reducible first | exact HB.out | apply below_alloc | apply pw_below_drewN | apply below_drew1 | refine below_set ?_ (IsS90.ge HI512.out) | refine below_set ?_ (IsS90.ge HI514.out)) | exact HB.out)⟩
          ·
           replace c37 := Bool.eq_false_iff.mpr c37
           subst c37
           have H1 : (if (wrap64 ((t527.length : Int) + (t532.length : Int))) > 64 then (nunciolaw12_UnpackParts.j3 kj32 a1 a2 t527 t532 true t536 x515000_2) else (if (a2.size : Int) > 0 then (if 0 < (a2.size : Int) then (if (bt a2 0) ≥ 32 then (if (bt a2 0) ≤ 63 then (nunciolaw12_UnpackParts.j3 kj32 a1 a2 t527 t532 (decide ((t527.length : Int) > 0)) t536 x515000_2) else (nunciolaw12_UnpackParts.j3 kj32 a1 a2 t527 t532 false t536 x515000_2)) else (nunciolaw12_UnpackParts.j3 kj32 a1 a2 t527 t532 false t536 x515000_2)) else (none)) else (nunciolaw12_UnpackParts.j3 kj32 a1 a2 t527 t532 false t536 x515000_2))) = some r := by rw [if_neg (show ¬ (false = true) by decide)] at H; exact H
           clear H
           have H := H1
           clear H1
           have HC38 := Aside0.mk H
           clear H
           go_upto_region 15 with (fail)
           go_cut [99] (fun v99 wc => ∃ (kq : Nat) (x99_37 : Bool), v99 = .bool x99_37 ∧ Aside0 (nunciolaw12_UnpackParts.j3 kq a1 a2 t527 t532 x99_37 t536 x515000_2 = some r) ∧ Aside0 (kq ≤ kj32) ∧ Aside0 (Kd.R k26 26 wc w.heap.size (fun k_ => some k_ ≠ (v533 : Value).ownBlock) v528 t527) ∧ Aside0 (Kd.R k26 26 wc w.heap.size (fun k_ => some k_ ≠ (v528 : Value).ownBlock) v533 t532) ∧ Aside0 (IsS90 w wc g512 t536) ∧ Aside0 (IsS90 w wc g514 x515000_2) ∧ Aside0 (Below w.heap.size w wc))
           case first =>
            have H := HC38.out
            clear HC38
            by_cases c39 : (wrap64 ((t527.length : Int) + (t532.length : Int))) > 64
            ·
             rw [if_pos c39] at H
             have c39b0 : decide (64 < (wrap64 ((t527.length : Int) + (t532.length : Int)))) = true := decide_eq_true c39
             clear c39
             (first | rw [c39b0] | rw [c39b1] | (simp only [i64_w, i32_w]; rw [c39b0]) | skip)
             have H' := Aside0.mk H
             clear H
             obtain ⟨Ao40, co40, eo40⟩ := Kd.R_slice HO_10.out
             subst eo40
             obtain ⟨Ao41, co41, eo41⟩ := Kd.R_slice HO_12.out
             subst eo41
             go_wp2
             go_meet
             case rel => exact ⟨_, (true), (by first | rfl | (simp; done) | (simp [*]; done) | (have e_ := EA18.out; subst e_; rfl)), H', ⟨by have := HJ5.out; have := HK2.out; have := HJ32.out; first | omega | exact Nat.le_refl _⟩, ⟨by (with_reducible repeat (first | apply Kd.R_alloc | apply Kd.R_drewN | apply Kd.R_drew)); exact HO_10.out⟩, ⟨by (with_reducible repeat (first | apply Kd.R_alloc | apply Kd.R_drewN | apply Kd.R_drew)); exact HO_12.out⟩, ⟨by repeat (first | (with_reducible first | exact HI512.out | apply IsS90.alloc | apply IsS90.drewN | apply IsS90.drew) | exact HI512.out)⟩, ⟨by repeat (first | (with_reducible first | exact HI514.out | apply IsS90.alloc | apply IsS90.drewN | apply IsS90.drew) | exact HI514.out)⟩, ⟨by repeat (first | (with_reducible first | exact HB.out | apply below_alloc | apply pw_below_drewN | apply below_drew1 | refine below_set ?_ (IsS90.ge HI512.out) | refine below_set ?_ (IsS90.ge HI514.out)) | exact HB.out)⟩⟩
            ·
             rw [if_neg c39] at H
             have c39b0 : decide (64 < (wrap64 ((t527.length : Int) + (t532.length : Int)))) = false := decide_eq_false c39
             clear c39
             (first | rw [c39b0] | rw [c39b1] | (simp only [i64_w, i32_w]; rw [c39b0]) | skip)
             by_cases c42 : (a2.size : Int) > 0
             ·
              rw [if_pos c42] at H
              have c42b0 : decide (0 < (a2.size : Int)) = true := decide_eq_true c42
              have c42b1 : decide (0 < a2.size) = true := decide_eq_true (by omega)
              clear c42
              by_cases c43 : 0 < (a2.size : Int)
              ·
               rw [if_pos c43] at H
               have c43b0 : decide (0 < (a2.size : Int)) = true := decide_eq_true c43
               have c43b1 : decide (0 < a2.size) = true := decide_eq_true (by omega)
               clear c43
               by_cases c45 : (bt a2 0) ≥ 32
               ·
                rw [if_pos c45] at H
                have c45b0 : decide (32 ≤ (bt a2 0)) = true := decide_eq_true c45
                clear c45
                by_cases c47 : (bt a2 0) ≤ 63
                ·
                 rw [if_pos c47] at H
                 have c47b0 : decide ((bt a2 0) ≤ 63) = true := decide_eq_true c47
                 clear c47
                 have H' := Aside0.mk H
                 clear H
                 obtain ⟨Ao48, co48, eo48⟩ := Kd.R_slice HO_10.out
                 subst eo48
                 obtain ⟨Ao49, co49, eo49⟩ := Kd.R_slice HO_12.out
                 subst eo49
                 have p44 : 0 ≤ (0 : Int) := (by omega)
                 have q44 : 0 < a2.size := (by have : (0 : Int) < (a2.size : Int) := of_decide_eq_true (by first | (with_reducible assumption) | assumption); omega)
                 have hx44 : ∀ h : 0 < a2.size, ((a2[0]'h).toNat : Int) = bt a2 0 := bt_at a2 0
                 clear p44
                 have qi44 : (0 < (a2.size : Int)) = True := eq_true (of_decide_eq_true (by first | (with_reducible assumption) | assumption))
                 replace q44 := eq_true q44
                 have p46 : 0 ≤ (0 : Int) := (by omega)
                 have q46 : 0 < a2.size := (by have : (0 : Int) < (a2.size : Int) := of_decide_eq_true (by first | (with_reducible assumption) | assumption); omega)
                 have hx46 : ∀ h : 0 < a2.size, ((a2[0]'h).toNat : Int) = bt a2 0 := bt_at a2 0
                 clear p46
                 have qi46 : (0 < (a2.size : Int)) = True := eq_true (of_decide_eq_true (by first | (with_reducible assumption) | assumption))
                 replace q46 := eq_true q46
                 go_wp2
                 go_meet
                 case rel => exact ⟨_, (decide ((t527.length : Int) > 0)), (by first | rfl | (simp; done) | (simp [*]; done) | (have e_ := EA18.out; subst e_; rfl)), H', ⟨by have := HJ5.out; have := HK2.out; have := HJ32.out; first | omega | exact Nat.le_refl _⟩, ⟨by (with_reducible repeat (first | apply Kd.R_alloc | apply Kd.R_drewN | apply Kd.R_drew)); exact HO_10.out⟩, ⟨by (with_reducible repeat (first | apply Kd.R_alloc | apply Kd.R_drewN | apply Kd.R_drew)); exact HO_12.out⟩, ⟨by repeat (first | (with_reducible first | exact HI512.out | apply IsS90.alloc | apply IsS90.drewN | apply IsS90.drew) | exact HI512.out)⟩, ⟨by repeat (first | (with_reducible first | exact HI514.out | apply IsS90.alloc | apply IsS90.drewN | apply IsS90.drew) | exact HI514.out)⟩, ⟨by repeat (first | (with_reducible first | exact HB.out | apply below_alloc | apply pw_below_drewN | apply below_drew1 | refine below_set ?_ (IsS90.ge HI512.out) | refine below_set ?_ (IsS90.ge HI514.out)) | exact HB.out)⟩⟩
                ·
                 rw [if_neg c47] at H
                 have c47b0 : decide ((bt a2 0) ≤ 63) = false := decide_eq_false c47
                 clear c47
                 have H' := Aside0.mk H
                 clear H
                 obtain ⟨Ao50, co50, eo50⟩ := Kd.R_slice HO_10.out
                 subst eo50
                 obtain ⟨Ao51, co51, eo51⟩ := Kd.R_slice HO_12.out
                 subst eo51
                 have p44 : 0 ≤ (0 : Int) := (by omega)
                 have q44 : 0 < a2.size := (by have : (0 : Int) < (a2.size : Int) := of_decide_eq_true (by first | (with_reducible assumption) | assumption); omega)
                 have hx44 : ∀ h : 0 < a2.size, ((a2[0]'h).toNat : Int) = bt a2 0 := bt_at a2 0
                 clear p44
                 have qi44 : (0 < (a2.size : Int)) = True := eq_true (of_decide_eq_true (by first | (with_reducible assumption) | assumption))
                 replace q44 := eq_true q44
                 have p46 : 0 ≤ (0 : Int) := (by omega)
                 have q46 : 0 < a2.size := (by have : (0 : Int) < (a2.size : Int) := of_decide_eq_true (by first | (with_reducible assumption) | assumption); omega)
                 have hx46 : ∀ h : 0 < a2.size, ((a2[0]'h).toNat : Int) = bt a2 0 := bt_at a2 0
                 clear p46
                 have qi46 : (0 < (a2.size : Int)) = True := eq_true (of_decide_eq_true (by first | (with_reducible assumption) | assumption))
                 replace q46 := eq_true q46
                 go_wp2
                 go_meet
                 case rel => exact ⟨_, (false), (by first | rfl | (simp; done) | (simp [*]; done) | (have e_ := EA18.out; subst e_; rfl)), H', ⟨by have := HJ5.out; have := HK2.out; have := HJ32.out; first | omega | exact Nat.le_refl _⟩, ⟨by (with_reducible repeat (first | apply Kd.R_alloc | apply Kd.R_drewN | apply Kd.R_drew)); exact HO_10.out⟩, ⟨by (with_reducible repeat (first | apply Kd.R_alloc | apply Kd.R_drewN | apply Kd.R_drew)); exact HO_12.out⟩, ⟨by repeat (first | (with_reducible first | exact HI512.out | apply IsS90.alloc | apply IsS90.drewN | apply IsS90.drew) | exact HI512.out)⟩, ⟨by repeat (first | (with_reducible first | exact HI514.out | apply IsS90.alloc | apply IsS90.drewN | apply IsS90.drew) | exact HI514.out)⟩, ⟨by repeat (first | (with_reducible first | exact HB.out | apply below_alloc | apply pw_below_drewN | apply below_drew1 | refine below_set ?_ (IsS90.ge HI512.out) | refine below_set ?_ (IsS90.ge HI514.out)) | exact HB.out)⟩⟩
               ·
                rw [if_neg c45] at H
                have c45b0 : decide (32 ≤ (bt a2 0)) = false := decide_eq_false c45
                clear c45
                have H' := Aside0.mk H
                clear H
                obtain ⟨Ao52, co52, eo52⟩ := Kd.R_slice HO_10.out
                subst eo52
                obtain ⟨Ao53, co53, eo53⟩ := Kd.R_slice HO_12.out
                subst eo53
                have p44 : 0 ≤ (0 : Int) := (by omega)
                have q44 : 0 < a2.size := (by have : (0 : Int) < (a2.size : Int) := of_decide_eq_true (by first | (with_reducible assumption) | assumption); omega)
                have hx44 : ∀ h : 0 < a2.size, ((a2[0]'h).toNat : Int) = bt a2 0 := bt_at a2 0
                clear p44
                have qi44 : (0 < (a2.size : Int)) = True := eq_true (of_decide_eq_true (by first | (with_reducible assumption) | assumption))
                replace q44 := eq_true q44
                go_wp2
                go_meet
                case rel => exact ⟨_, (false), (by first | rfl | (simp; done) | (simp [*]; done) | (have e_ := EA18.out; subst e_; rfl)), H', ⟨by have := HJ5.out; have := HK2.out; have := HJ32.out; first | omega | exact Nat.le_refl _⟩, ⟨by (with_reducible repeat (first | apply Kd.R_alloc | apply Kd.R_drewN | apply Kd.R_drew)); exact HO_10.out⟩, ⟨by (with_reducible repeat (first | apply Kd.R_alloc | apply Kd.R_drewN | apply Kd.R_drew)); exact HO_12.out⟩, ⟨by repeat (first | (with_reducible first | exact HI512.out | apply IsS90.alloc | apply IsS90.drewN | apply IsS90.drew) | exact HI512.out)⟩, ⟨by repeat (first | (with_reducible first | exact HI514.out | apply IsS90.alloc | apply IsS90.drewN | apply IsS90.drew) | exact HI514.out)⟩, ⟨by repeat (first | (with_reducible first | exact HB.out | apply below_alloc | apply pw_below_drewN | apply below_drew1 | refine below_set ?_ (IsS90.ge HI512.out) | refine below_set ?_ (IsS90.ge HI514.out)) | exact HB.out)⟩⟩
              ·
               rw [if_neg c43] at H
               exact absurd H (by simp)
             ·
              rw [if_neg c42] at H
              have c42b0 : decide (0 < (a2.size : Int)) = false := decide_eq_false c42
              have c42b1 : decide (0 < a2.size) = false := decide_eq_false (by omega)
              clear c42
              have H' := Aside0.mk H
              clear H
              obtain ⟨Ao54, co54, eo54⟩ := Kd.R_slice HO_10.out
              subst eo54
              obtain ⟨Ao55, co55, eo55⟩ := Kd.R_slice HO_12.out
              subst eo55
              go_wp2
              go_meet
              case rel => exact ⟨_, (false), (by first | rfl | (simp; done) | (simp [*]; done) | (have e_ := EA18.out; subst e_; rfl)), H', ⟨by have := HJ5.out; have := HK2.out; have := HJ32.out; first | omega | exact Nat.le_refl _⟩, ⟨by (with_reducible repeat (first | apply Kd.R_alloc | apply Kd.R_drewN | apply Kd.R_drew)); exact HO_10.out⟩, ⟨by (with_reducible repeat (first | apply Kd.R_alloc | apply Kd.R_drewN | apply Kd.R_drew)); exact HO_12.out⟩, ⟨by repeat (first | (with_reducible first | exact HI512.out | apply IsS90.alloc | apply IsS90.drewN | apply IsS90.drew) | exact HI512.out)⟩, ⟨by repeat (first | (with_reducible first | exact HI514.out | apply IsS90.alloc | apply IsS90.drewN | apply IsS90.drew) | exact HI514.out)⟩, ⟨by repeat (first | (with_reducible first | exact HB.out | apply below_alloc | apply pw_below_drewN | apply below_drew1 | refine below_set ?_ (IsS90.ge HI512.out) | refine below_set ?_ (IsS90.ge HI514.out)) | exact HB.out)⟩⟩
           case rest =>
            clear HC38
            try clear c1
            try clear c2
            try clear p2
            try clear c3
            try clear c4
            try clear p4
            try clear q4
            try clear hx4
            try clear qi4
            try clear c5
            try clear p5
            try clear q5
            try clear hx5
            try clear p6
            try clear c7
            try clear c9
            try clear c10
            try clear c10b0
            try clear c10b1
            try clear c12
            try clear c12b0
            try clear c12b1
            try clear c16
            try clear c21
            try clear c22
            try clear c23
            try clear c23b0
            try clear c24
            try clear c24b0
            try clear c25
            try clear c36
            try clear c36b0
            try clear c36b1
            try clear c37
            try clear c39
            try clear c39b0
            try clear c39b1
            try clear c42
            try clear c42b0
            try clear c42b1
            try clear c43
            try clear c43b0
            try clear c43b1
            try clear p44
            try clear q44
            try clear hx44
            try clear qi44
            try clear c45
            try clear c45b0
            try clear p46
            try clear q46
            try clear hx46
            try clear qi46
            try clear c47
            try clear c47b0
            try clear p51
            try clear q51
            try clear hx51
            try clear p52
            try clear q52
            try clear hx52
            try clear hx515_0
            try clear hx521_0
            try clear p2
            try clear p44
            try clear p46
            try clear p5
            try clear p515
            try clear p521
            try clear p6
            try clear q44
            try clear q46
            try clear q5
            try clear q515
            try clear q521
            obtain ⟨kq, x99_37, rfl, HA, HJ37, HO_10, HO_12, HI512, HI514, HB⟩ := hcut
            cases kq with
            | zero => exact absurd HA.out (by simp [nunciolaw12_UnpackParts.j3])
            | succ kj37 =>
             have H := HA.out
             clear HA
             simp only [nunciolaw12_UnpackParts.j3] at H
             by_cases c56 : x99_37 = true
             ·
              subst c56
              have H1 : (some true) = some r := by rw [if_pos rfl] at H; exact H
              clear H
              have H := H1
              clear H1
              obtain rfl := Option.some.inj H
              go_wp2
              go_ret
              exact ⟨by first | rfl | (simp [errW_none, errW_some] <;> rfl) | (simp [*, errW_none, errW_some] <;> rfl) | (have e_ := EA18.out; subst e_; rfl), by repeat (first | (with_reducible first | exact HB.out | apply below_alloc | apply pw_below_drewN | apply below_drew1 | refine below_set ?_ (IsS90.ge HI512.out) | refine below_set ?_ (IsS90.ge HI514.out)) | exact HB.out)⟩
             ·
              replace c56 := Bool.eq_false_iff.mpr c56
              subst c56
              have H1 : (if a1.size + a2.size ≤ 9223372036854775807 then ((unpack_Decoder_Read.f kj37 x515000_2 (a1 ++ a2)).bind fun bt537 => (if bt537.2.1 = 0 then ((some (([] : List (S26)) : List (S26))).bind fun y542 => (if y542.length + t527.length < 3518437208883 then ((some (y542 ++ t527 : List (S26))).bind fun y545 => (if y545.length + t532.length < 3518437208883 then ((nuncioref12_Same.f kj37 bt537.1 (y545 ++ t532)).bind fun t551 => (if t551 = true then ((unpack_Decoder_Table.f t536).bind fun t552 => ((unpack_Decoder_Table.f bt537.2.2).bind fun t554 => ((nunciolaw12_same.f t552 t554).bind fun t556 => (some t556)))) else (some false))) else (none))) else (none))) else (some false))) else (none)) = some r := by rw [if_neg (show ¬ (false = true) by decide)] at H; exact H
              clear H
              have H := H1
              clear H1
              by_cases c57 : a1.size + a2.size ≤ 9223372036854775807
              ·
               rw [if_pos c57] at H
               have c57b0 := eq_true c57
               have c57b1 : decide (a1.size + a2.size ≤ 9223372036854775807) = true := decide_eq_true c57
               try have c57b2 : (9223372036854775807 < a1.size + a2.size) = False := eq_false (Nat.not_lt.2 c57)
               replace H := Option.bind_eq_some_iff.mp H
               obtain ⟨⟨t537, t540, t541⟩, A580, H⟩ := H
               replace H : (if t540 = 0 then ((some (([] : List (S26)) : List (S26))).bind fun y542 => (if y542.length + t527.length < 3518437208883 then ((some (y542 ++ t527 : List (S26))).bind fun y545 => (if y545.length + t532.length < 3518437208883 then ((nuncioref12_Same.f kj37 t537 (y545 ++ t532)).bind fun t551 => (if t551 = true then ((unpack_Decoder_Table.f t536).bind fun t552 => ((unpack_Decoder_Table.f t541).bind fun t554 => ((nunciolaw12_same.f t552 t554).bind fun t556 => (some t556)))) else (some false))) else (none))) else (none))) else (some false)) = some r := H
               have A58 := Aside0.mk A580
               clear A580
               by_cases c59 : t540 = 0
               ·
                rw [if_pos c59] at H
                have c59b0 : (t540 == 0) = true := beq_iff_eq.mpr c59
                have c59b1 : (t540 != 0) = false := bne_eq_false_iff_eq.mpr c59
                clear c59
                obtain ⟨y542, hy542⟩ : ∃ y_ : List (S26), y_ = (([] : List (S26))) := ⟨_, rfl⟩
                replace H : (if y542.length + t527.length < 3518437208883 then ((some (y542 ++ t527 : List (S26))).bind fun y545 => (if y545.length + t532.length < 3518437208883 then ((nuncioref12_Same.f kj37 t537 (y545 ++ t532)).bind fun t551 => (if t551 = true then ((unpack_Decoder_Table.f t536).bind fun t552 => ((unpack_Decoder_Table.f t541).bind fun t554 => ((nunciolaw12_same.f t552 t554).bind fun t556 => (some t556)))) else (some false))) else (none))) else (none)) = some r := by first | (rw [hy542]; with_reducible exact H) | (have H2_ := (Option.bind_some _ _).symm.trans H; rw [hy542]; with_reducible exact H2_) | (have H2_ := (Option.bind_some _ _).symm.trans H; with_reducible exact H2_) | with_reducible exact H | (rw [hy542]; exact H) | exact H
                have Ny542 := Aside0.mk hy542
                clear hy542
                by_cases c60 : y542.length + t527.length < 3518437208883
                ·
                 rw [if_pos c60] at H
                 have LMc60 := Aside0.mk c60
                 clear c60
                 obtain ⟨y545, hy545⟩ : ∃ y_ : List (S26), y_ = (y542 ++ t527) := ⟨_, rfl⟩
                 replace H : (if y545.length + t532.length < 3518437208883 then ((nuncioref12_Same.f kj37 t537 (y545 ++ t532)).bind fun t551 => (if t551 = true then ((unpack_Decoder_Table.f t536).bind fun t552 => ((unpack_Decoder_Table.f t541).bind fun t554 => ((nunciolaw12_same.f t552 t554).bind fun t556 => (some t556)))) else (some false))) else (none)) = some r := by first | (rw [hy545]; with_reducible exact H) | (have H2_ := (Option.bind_some _ _).symm.trans H; rw [hy545]; with_reducible exact H2_) | (have H2_ := (Option.bind_some _ _).symm.trans H; with_reducible exact H2_) | with_reducible exact H | (rw [hy545]; exact H) | exact H
                 have Ny545 := Aside0.mk hy545
                 clear hy545
                 by_cases c61 : y545.length + t532.length < 3518437208883
                 ·
                  rw [if_pos c61] at H
                  have LMc61 := Aside0.mk c61
                  clear c61
                  obtain ⟨y548, hy548⟩ : ∃ y_ : List (S26), y_ = (y545 ++ t532) := ⟨_, rfl⟩
                  replace H : ((nuncioref12_Same.f kj37 t537 y548).bind fun t551 => (if t551 = true then ((unpack_Decoder_Table.f t536).bind fun t552 => ((unpack_Decoder_Table.f t541).bind fun t554 => ((nunciolaw12_same.f t552 t554).bind fun t556 => (some t556)))) else (some false))) = some r := by first | (rw [hy548]; with_reducible exact H) | (have H2_ := (Option.bind_some _ _).symm.trans H; rw [hy548]; with_reducible exact H2_) | (have H2_ := (Option.bind_some _ _).symm.trans H; with_reducible exact H2_) | with_reducible exact H | (rw [hy548]; exact H) | exact H
                  have Ny548 := Aside0.mk hy548
                  clear hy548
                  replace H := Option.bind_eq_some_iff.mp H
                  obtain ⟨t551, A620, H⟩ := H
                  replace H : (if t551 = true then ((unpack_Decoder_Table.f t536).bind fun t552 => ((unpack_Decoder_Table.f t541).bind fun t554 => ((nunciolaw12_same.f t552 t554).bind fun t556 => (some t556)))) else (some false)) = some r := H
                  have A62 := Aside0.mk A620
                  clear A620
                  by_cases c63 : t551 = true
                  ·
                   subst c63
                   have H1 : ((unpack_Decoder_Table.f t536).bind fun t552 => ((unpack_Decoder_Table.f t541).bind fun t554 => ((nunciolaw12_same.f t552 t554).bind fun t556 => (some t556)))) = some r := by rw [if_pos rfl] at H; exact H
                   clear H
                   have H := H1
                   clear H1
                   replace H := Option.bind_eq_some_iff.mp H
                   obtain ⟨t552, A640, H⟩ := H
                   replace H : ((unpack_Decoder_Table.f t541).bind fun t554 => ((nunciolaw12_same.f t552 t554).bind fun t556 => (some t556))) = some r := H
                   have A64 := Aside0.mk A640
                   clear A640
                   replace H := Option.bind_eq_some_iff.mp H
                   obtain ⟨t554, A650, H⟩ := H
                   replace H : ((nunciolaw12_same.f t552 t554).bind fun t556 => (some t556)) = some r := H
                   have A65 := Aside0.mk A650
                   clear A650
                   replace H := Option.bind_eq_some_iff.mp H
                   obtain ⟨t556, A660, H⟩ := H
                   replace H : (some t556) = some r := H
                   have A66 := Aside0.mk A660
                   clear A660
                   obtain rfl := Option.some.inj H
                   have tk79 : True := trivial
                   have tk80 : True := trivial
                   go_wp2_with (first | ((with_reducible refine gate_callee (f := 25) rfl ?_); refine goesL_ (some 105) rfl rfl Tryd.func25 (by kernel_rfl) rfl #[.pointer (some ⟨g514, 0, none⟩), .string (a1 ++ a2)] rfl (by (try simp only [List.map_toArray, List.map_cons, List.map_nil]); first | done | rfl | (simp only [List.length_drop, List.length_take]; rfl)) ?_; (with_reducible refine (unpack_Decoder_Read.calls kj37 g514 x515000_2 (a1 ++ a2) t537 t540 t541 w _ ?side1 ?side2 A58.out).mono ?_); (case side1 => repeat (first | (with_reducible first | exact HI514.out | apply IsS90.alloc | apply IsS90.drewN | apply IsS90.drew) | exact HI514.out)); (case side2 => repeat (first | (with_reducible first | exact HB.out | apply below_alloc | apply pw_below_drewN | apply below_drew1 | refine below_set ?_ (IsS90.ge HI512.out) | refine below_set ?_ (IsS90.ge HI514.out)) | exact HB.out)); rintro e w67 ⟨v538, rfl, ho0, hi, hb, hk⟩; refine ⟨_, rfl, ?_⟩; have n0_ := Aside0.mk (Kd.R_mono (Kd.R_told (Kd.R_oldK2 (IsS90.apart (show IsS90 w _ g514 x515000_2 from by repeat (first | (with_reducible first | exact HI514.out | apply IsS90.alloc | apply IsS90.drewN | apply IsS90.drew) | exact HI514.out)) (by (with_reducible repeat (first | apply Kd.R_alloc | apply Kd.R_drewN | apply Kd.R_drew)); exact HO_10.out) (by decide)) hk) (Kd.R_base ho0)) (fun _ h_ => h_.1)); have n1_ := Aside0.mk (Kd.R_mono (Kd.R_told (Kd.R_oldK2 (IsS90.apart (show IsS90 w _ g514 x515000_2 from by repeat (first | (with_reducible first | exact HI514.out | apply IsS90.alloc | apply IsS90.drewN | apply IsS90.drew) | exact HI514.out)) (by (with_reducible repeat (first | apply Kd.R_alloc | apply Kd.R_drewN | apply Kd.R_drew)); exact HO_12.out) (by decide)) hk) (Kd.R_base ho0)) (fun _ h_ => h_.1)); have n2_ := Aside0.mk (IsS90.other (show IsS90 w _ g512 t536 from by repeat (first | (with_reducible first | exact HI512.out | apply IsS90.alloc | apply IsS90.drewN | apply IsS90.drew) | exact HI512.out)) (show IsS90 w _ g514 x515000_2 from by repeat (first | (with_reducible first | exact HI514.out | apply IsS90.alloc | apply IsS90.drewN | apply IsS90.drew) | exact HI514.out)) hk NB512_514.out); have n3_ := Aside0.mk (Kd.R_lower (Kd.R_new' (Kd.R_new' ho0 (Kd.R_lt (by (with_reducible repeat (first | apply Kd.R_alloc | apply Kd.R_drewN | apply Kd.R_drew)); exact HO_10.out))) (Kd.R_lt (by (with_reducible repeat (first | apply Kd.R_alloc | apply Kd.R_drewN | apply Kd.R_drew)); exact HO_12.out))) (below_size (by repeat (first | (with_reducible first | exact HB.out | apply below_alloc | apply pw_below_drewN | apply below_drew1 | refine below_set ?_ (IsS90.ge HI512.out) | refine below_set ?_ (IsS90.ge HI514.out)) | exact HB.out)))); have n4_ := Aside0.mk (hb); have n5_ := Aside0.mk (hi); clear HO_10; clear HO_12; clear HI512; clear HB; clear HI514; have HO_10 := n0_; have HO_12 := n1_; have HI512 := n2_; have HO539 := n3_; have HB := n4_; have HI514 := n5_; clear n0_ n1_ n2_ n3_ n4_ n5_; (try clear hb); (try clear hb2); (try clear hk); (try clear hi); (try clear ho0)) | ((with_reducible refine gate_dst (N := 112) rfl ?_); (try (refine gate_guard (by rfl) ?_; dsimp only)); refine Kd.R_lit k26 _ 26 ?hg (N := 112) ?hd (xs := ([] : List (S26))) (inner := []) (ok := fun _ => True) (okp := fun _ => True) ?hr ?hp (fun _ hk => hk) trivial (Below.refl _ _) (Nat.le_refl _) (by simp) ?_; (case hd => rfl); (case hg => rfl); (case hr => first | (go_simp; done) | (go_simp; rfl)); (case hp => exact (Reps.none _ _)); intro v543 w68 ho69 hb hg_ hnew_; clear hg_ hnew_; (first | rw [← Ny542.out] at ho69 | (simp only [Int.reduceToNat] at ho69; rw [← Ny542.out] at ho69)); have n0_ := Aside0.mk (Kd.R_elder' (by (with_reducible repeat (first | apply Kd.R_alloc | apply Kd.R_drewN | apply Kd.R_drew)); exact HO_10.out) (Kd.R_base ho69) hb); have n1_ := Aside0.mk (Kd.R_elder' (by (with_reducible repeat (first | apply Kd.R_alloc | apply Kd.R_drewN | apply Kd.R_drew)); exact HO_12.out) (Kd.R_base ho69) hb); have n2_ := Aside0.mk (Kd.R_elder' (by (with_reducible repeat (first | apply Kd.R_alloc | apply Kd.R_drewN | apply Kd.R_drew)); exact HO539.out) (Kd.R_base ho69) hb); have n3_ := Aside0.mk (Kd.R_lower (Kd.R_new' (Kd.R_new' (Kd.R_new' ho69 (Kd.R_lt (by (with_reducible repeat (first | apply Kd.R_alloc | apply Kd.R_drewN | apply Kd.R_drew)); exact HO_10.out))) (Kd.R_lt (by (with_reducible repeat (first | apply Kd.R_alloc | apply Kd.R_drewN | apply Kd.R_drew)); exact HO_12.out))) (Kd.R_lt (by (with_reducible repeat (first | apply Kd.R_alloc | apply Kd.R_drewN | apply Kd.R_drew)); exact HO539.out))) (below_size (by repeat (first | (with_reducible first | exact HB.out | apply below_alloc | apply pw_below_drewN | apply below_drew1 | refine below_set ?_ (IsS90.ge HI512.out) | refine below_set ?_ (IsS90.ge HI514.out)) | exact HB.out)))); have n4_ := Aside0.mk (IsS90.below (by repeat (first | (with_reducible first | exact HI512.out | apply IsS90.alloc | apply IsS90.drewN | apply IsS90.drew) | exact HI512.out)) hb); have n5_ := Aside0.mk (IsS90.below (by repeat (first | (with_reducible first | exact HI514.out | apply IsS90.alloc | apply IsS90.drewN | apply IsS90.drew) | exact HI514.out)) hb); have n6_ := Aside0.mk (below_step (by repeat (first | (with_reducible first | exact HB.out | apply below_alloc | apply pw_below_drewN | apply below_drew1 | refine below_set ?_ (IsS90.ge HI512.out) | refine below_set ?_ (IsS90.ge HI514.out)) | exact HB.out)) hb); clear HO_10; clear HO_12; clear HO539; clear HI512; clear HI514; clear HB; have HO_10 := n0_; have HO_12 := n1_; have HO539 := n2_; have HO544 := n3_; have HI512 := n4_; have HI514 := n5_; have HB := n6_; clear n0_ n1_ n2_ n3_ n4_ n5_ n6_; clear hb ho69; obtain ⟨Ao71, co71, eo71⟩ := Kd.R_slice HO_10.out; subst eo71) | ((with_reducible refine gate_builtin (b := .append) (xs := #[.tmp 112, .tmp 113]) rfl ?_); (try (refine gate_guard (by rfl) ?_; dsimp only)); at_builtin; refine Kd.R_append_rows k26 (w0 := w) w.heap.size rfl (.tmp 112) (.tmp 113) 22 26 (.agg #[(.string ⟨#[]⟩), (.string ⟨#[]⟩), (.bool false)]) 40 rfl Tryd.underlying22 info26 rfl (by decide) (by omega) v543 y542 t527 _ _ _ (fun k_ => some k_ ≠ (.slice Ao71 t527.length co71 : Value).ownBlock ∧ some k_ ≠ (v533 : Value).ownBlock ∧ some k_ ≠ (v538 : Value).ownBlock) (fun _ => False) rfl rfl ?aO ?aR (fun _ _ h => h) (fun _ h => h.elim) ?aF ?aB ?aS ?aL ?_; (case aR => repeat (first | exact (Kd.R_reads' HO_10.out).2.2 | (with_reducible refine Kd.C_alloc ?_ _) | (with_reducible refine Kd.C_drewN ?_ _) | (with_reducible refine Kd.C_drew ?_))); (case aB => exact (by repeat (first | (with_reducible first | exact HB.out | apply below_alloc | apply pw_below_drewN | apply below_drew1 | refine below_set ?_ (IsS90.ge HI512.out) | refine below_set ?_ (IsS90.ge HI514.out)) | exact HB.out))); (case aF => exact (fun k_ hk => ⟨Kd.fresh' (Kd.R_lt (by (with_reducible repeat (first | apply Kd.R_alloc | apply Kd.R_drewN | apply Kd.R_drew)); exact HO_10.out)) k_ hk, Kd.fresh' (Kd.R_lt (by (with_reducible repeat (first | apply Kd.R_alloc | apply Kd.R_drewN | apply Kd.R_drew)); exact HO_12.out)) k_ hk, Kd.fresh' (Kd.R_lt (by (with_reducible repeat (first | apply Kd.R_alloc | apply Kd.R_drewN | apply Kd.R_drew)); exact HO539.out)) k_ hk⟩)); (case aO => exact (by (with_reducible repeat (first | apply Kd.R_alloc | apply Kd.R_drewN | apply Kd.R_drew)); exact Kd.R_mono HO544.out (fun _ hk => ⟨hk.1.1.2, ⟨hk.1.2, hk.2⟩⟩))); (case aS => exact (below_size (by repeat (first | (with_reducible first | exact HB.out | apply below_alloc | apply pw_below_drewN | apply below_drew1 | refine below_set ?_ (IsS90.ge HI512.out) | refine below_set ?_ (IsS90.ge HI514.out)) | exact HB.out)))); (case aL => have := LMc60.out; omega); intro v546 w70 ho hb hg hat; rw [← Ny545.out] at ho; have n0_ := Aside0.mk (Kd.R_after (ok := (fun k_ => some k_ ≠ (v533 : Value).ownBlock ∧ some k_ ≠ (v538 : Value).ownBlock)) (by (with_reducible repeat (first | apply Kd.R_alloc | apply Kd.R_drewN | apply Kd.R_drew)); exact HO_10.out) hg hat); have n1_ := Aside0.mk (Kd.R_after (ok := (fun k_ => some k_ ≠ (.slice Ao71 t527.length co71 : Value).ownBlock ∧ some k_ ≠ (v538 : Value).ownBlock)) (by (with_reducible repeat (first | apply Kd.R_alloc | apply Kd.R_drewN | apply Kd.R_drew)); exact HO_12.out) hg hat); have n2_ := Aside0.mk (IsS90.grownT (by repeat (first | (with_reducible first | exact HI512.out | apply IsS90.alloc | apply IsS90.drewN | apply IsS90.drew) | exact HI512.out)) (by repeat (first | exact Below.refl _ _ | apply below_alloc | apply pw_below_drewN | apply below_drew1)) hg HO544.out (by decide)); have n3_ := Aside0.mk (IsS90.grownT (by repeat (first | (with_reducible first | exact HI514.out | apply IsS90.alloc | apply IsS90.drewN | apply IsS90.drew) | exact HI514.out)) (by repeat (first | exact Below.refl _ _ | apply below_alloc | apply pw_below_drewN | apply below_drew1)) hg HO544.out (by decide)); have n4_ := Aside0.mk (Kd.R_after (ok := (fun k_ => some k_ ≠ (.slice Ao71 t527.length co71 : Value).ownBlock ∧ some k_ ≠ (v533 : Value).ownBlock)) (by (with_reducible repeat (first | apply Kd.R_alloc | apply Kd.R_drewN | apply Kd.R_drew)); exact Kd.R_mono HO539.out (fun _ hk => ⟨⟨hk.1.1.2, hk.1.2⟩, hk.2⟩)) hg hat); have n5_ := Aside0.mk (hb); have n6_ := Aside0.mk (ho); clear HO_10; clear HO_12; clear HI512; clear HI514; clear HO539; clear HB; clear HO544; have HO_10 := n0_; have HO_12 := n1_; have HI512 := n2_; have HI514 := n3_; have HO539 := n4_; have HB := n5_; have HO547 := n6_; clear n0_ n1_ n2_ n3_ n4_ n5_ n6_; clear ho hb hg hat; obtain ⟨Ao73, co73, eo73⟩ := Kd.R_slice HO_12.out; subst eo73) | ((with_reducible refine gate_builtin (b := .append) (xs := #[.tmp 114, .tmp 115]) rfl ?_); (try (refine gate_guard (by rfl) ?_; dsimp only)); at_builtin; refine Kd.R_append_rows k26 (w0 := w) w.heap.size rfl (.tmp 114) (.tmp 115) 22 26 (.agg #[(.string ⟨#[]⟩), (.string ⟨#[]⟩), (.bool false)]) 40 rfl Tryd.underlying22 info26 rfl (by decide) (by omega) v546 y545 t532 _ _ _ (fun k_ => some k_ ≠ (.slice Ao71 t527.length co71 : Value).ownBlock ∧ some k_ ≠ (.slice Ao73 t532.length co73 : Value).ownBlock ∧ some k_ ≠ (v538 : Value).ownBlock) (fun _ => False) rfl rfl ?aO ?aR (fun _ _ h => h) (fun _ h => h.elim) ?aF ?aB ?aS ?aL ?_; (case aR => repeat (first | exact (Kd.R_reads' HO_12.out).2.2 | (with_reducible refine Kd.C_alloc ?_ _) | (with_reducible refine Kd.C_drewN ?_ _) | (with_reducible refine Kd.C_drew ?_))); (case aB => exact (by repeat (first | (with_reducible first | exact HB.out | apply below_alloc | apply pw_below_drewN | apply below_drew1 | refine below_set ?_ (IsS90.ge HI512.out) | refine below_set ?_ (IsS90.ge HI514.out)) | exact HB.out))); (case aF => exact (fun k_ hk => ⟨Kd.fresh' (Kd.R_lt (by (with_reducible repeat (first | apply Kd.R_alloc | apply Kd.R_drewN | apply Kd.R_drew)); exact HO_10.out)) k_ hk, Kd.fresh' (Kd.R_lt (by (with_reducible repeat (first | apply Kd.R_alloc | apply Kd.R_drewN | apply Kd.R_drew)); exact HO_12.out)) k_ hk, Kd.fresh' (Kd.R_lt (by (with_reducible repeat (first | apply Kd.R_alloc | apply Kd.R_drewN | apply Kd.R_drew)); exact HO539.out)) k_ hk⟩)); (case aO => exact (by (with_reducible repeat (first | apply Kd.R_alloc | apply Kd.R_drewN | apply Kd.R_drew)); exact HO547.out)); (case aS => exact (below_size (by repeat (first | (with_reducible first | exact HB.out | apply below_alloc | apply pw_below_drewN | apply below_drew1 | refine below_set ?_ (IsS90.ge HI512.out) | refine below_set ?_ (IsS90.ge HI514.out)) | exact HB.out)))); (case aL => have := LMc61.out; omega); intro v549 w72 ho hb hg hat; rw [← Ny548.out] at ho; have n0_ := Aside0.mk (Kd.R_after (ok := (fun k_ => some k_ ≠ (.slice Ao73 t532.length co73 : Value).ownBlock ∧ some k_ ≠ (v538 : Value).ownBlock)) (by (with_reducible repeat (first | apply Kd.R_alloc | apply Kd.R_drewN | apply Kd.R_drew)); exact HO_10.out) hg hat); have n1_ := Aside0.mk (Kd.R_after (ok := (fun k_ => some k_ ≠ (.slice Ao71 t527.length co71 : Value).ownBlock ∧ some k_ ≠ (v538 : Value).ownBlock)) (by (with_reducible repeat (first | apply Kd.R_alloc | apply Kd.R_drewN | apply Kd.R_drew)); exact HO_12.out) hg hat); have n2_ := Aside0.mk (IsS90.grownT (by repeat (first | (with_reducible first | exact HI512.out | apply IsS90.alloc | apply IsS90.drewN | apply IsS90.drew) | exact HI512.out)) (by repeat (first | exact Below.refl _ _ | apply below_alloc | apply pw_below_drewN | apply below_drew1)) hg HO547.out (by decide)); have n3_ := Aside0.mk (IsS90.grownT (by repeat (first | (with_reducible first | exact HI514.out | apply IsS90.alloc | apply IsS90.drewN | apply IsS90.drew) | exact HI514.out)) (by repeat (first | exact Below.refl _ _ | apply below_alloc | apply pw_below_drewN | apply below_drew1)) hg HO547.out (by decide)); have n4_ := Aside0.mk (Kd.R_after (ok := (fun k_ => some k_ ≠ (.slice Ao71 t527.length co71 : Value).ownBlock ∧ some k_ ≠ (.slice Ao73 t532.length co73 : Value).ownBlock)) (by (with_reducible repeat (first | apply Kd.R_alloc | apply Kd.R_drewN | apply Kd.R_drew)); exact HO539.out) hg hat); have n5_ := Aside0.mk (hb); have n6_ := Aside0.mk (ho); clear HO_10; clear HO_12; clear HI512; clear HI514; clear HO539; clear HB; clear HO547; have HO_10 := n0_; have HO_12 := n1_; have HI512 := n2_; have HI514 := n3_; have HO539 := n4_; have HB := n5_; have HO550 := n6_; clear n0_ n1_ n2_ n3_ n4_ n5_ n6_; clear ho hb hg hat; obtain ⟨Ao74, co74, eo74⟩ := Kd.R_slice HO539.out; subst eo74; obtain ⟨Ao75, co75, eo75⟩ := Kd.R_slice HO550.out; subst eo75) | (go_at_call 27; (with_reducible refine (nuncioref12_Same.calls kj37 _ _ t537 _ _ y548 true _ ?side1 ?side2 ?side3 ?side4 A62.out).mono ?_); (case side1 => repeat (first | exact (Kd.R_reads' HO539.out).2.2 | (with_reducible refine Kd.C_alloc ?_ _) | (with_reducible refine Kd.C_drewN ?_ _) | (with_reducible refine Kd.C_drew ?_))); (case side2 => exact (Kd.R_reads' HO539.out).2.1); (case side3 => repeat (first | exact (Kd.R_reads' HO550.out).2.2 | (with_reducible refine Kd.C_alloc ?_ _) | (with_reducible refine Kd.C_drewN ?_ _) | (with_reducible refine Kd.C_drew ?_))); (case side4 => exact (Kd.R_reads' HO550.out).2.1); rintro e w' ⟨rfl, ⟨nd, rfl⟩⟩) | (have _t : True := tk79; clear tk79 _t; go_at_call 29; (with_reducible refine (unpack_Decoder_Table.calls (w1 := w) g512 t536 t552 _ _ ?side1 (Below.refl _ _) A64.out).mono ?_); (case side1 => repeat (first | (with_reducible first | exact HI512.out | apply IsS90.alloc | apply IsS90.drewN | apply IsS90.drew) | exact HI512.out)); rintro e w76 ⟨g553, rfl, hi, hb, hb2⟩; have n0_ := Aside0.mk (Kd.R_below (by (with_reducible repeat (first | apply Kd.R_alloc | apply Kd.R_drewN | apply Kd.R_drew)); exact HO_10.out) hb2); have n1_ := Aside0.mk (Kd.R_below (by (with_reducible repeat (first | apply Kd.R_alloc | apply Kd.R_drewN | apply Kd.R_drew)); exact HO_12.out) hb2); have n2_ := Aside0.mk (Kd.R_below (by (with_reducible repeat (first | apply Kd.R_alloc | apply Kd.R_drewN | apply Kd.R_drew)); exact HO539.out) hb2); have n3_ := Aside0.mk (Kd.R_below (by (with_reducible repeat (first | apply Kd.R_alloc | apply Kd.R_drewN | apply Kd.R_drew)); exact HO550.out) hb2); have n4_ := Aside0.mk (IsS90.below (by repeat (first | (with_reducible first | exact HI512.out | apply IsS90.alloc | apply IsS90.drewN | apply IsS90.drew) | exact HI512.out)) hb2); have n5_ := Aside0.mk (IsS90.below (by repeat (first | (with_reducible first | exact HI514.out | apply IsS90.alloc | apply IsS90.drewN | apply IsS90.drew) | exact HI514.out)) hb2); have n6_ := Aside0.mk (below_step (by repeat (first | (with_reducible first | exact HB.out | apply below_alloc | apply pw_below_drewN | apply below_drew1 | refine below_set ?_ (IsS90.ge HI512.out) | refine below_set ?_ (IsS90.ge HI514.out)) | exact HB.out)) hb2); have n7_ := Aside0.mk ((show IsS77 w w76 g553 t552 from IsS77.rebase hi (below_size (by repeat (first | (with_reducible first | exact HB.out | apply below_alloc | apply pw_below_drewN | apply below_drew1 | refine below_set ?_ (IsS90.ge HI512.out) | refine below_set ?_ (IsS90.ge HI514.out)) | exact HB.out))))); have n8_ := Aside0.mk ((Nat.ne_of_gt (Nat.lt_of_le_of_lt (Nat.sub_le _ _) (Nat.lt_of_lt_of_le (IsS90.lt (show IsS90 w _ g512 t536 from by repeat (first | (with_reducible first | exact HI512.out | apply IsS90.alloc | apply IsS90.drewN | apply IsS90.drew) | exact HI512.out))) (IsS77.ge hi))) : g553 ≠ g512 - 1)); have n9_ := Aside0.mk ((Nat.ne_of_gt (Nat.lt_of_le_of_lt (Nat.sub_le _ _) (Nat.lt_of_lt_of_le (IsS90.lt (show IsS90 w _ g514 t541 from by repeat (first | (with_reducible first | exact HI514.out | apply IsS90.alloc | apply IsS90.drewN | apply IsS90.drew) | exact HI514.out))) (IsS77.ge hi))) : g553 ≠ g514 - 1)); have n10_ := Aside0.mk ((Nat.ne_of_lt (Nat.lt_of_lt_of_le (IsS90.lt (show IsS90 w _ g512 t536 from by repeat (first | (with_reducible first | exact HI512.out | apply IsS90.alloc | apply IsS90.drewN | apply IsS90.drew) | exact HI512.out))) (IsS77.ge hi)) : g512 ≠ g553)); have n11_ := Aside0.mk ((Nat.ne_of_gt (Nat.lt_of_lt_of_le (IsS90.lt (show IsS90 w _ g512 t536 from by repeat (first | (with_reducible first | exact HI512.out | apply IsS90.alloc | apply IsS90.drewN | apply IsS90.drew) | exact HI512.out))) (IsS77.ge hi)) : g553 ≠ g512)); have n12_ := Aside0.mk ((Nat.ne_of_lt (Nat.lt_of_lt_of_le (IsS90.lt (show IsS90 w _ g514 t541 from by repeat (first | (with_reducible first | exact HI514.out | apply IsS90.alloc | apply IsS90.drewN | apply IsS90.drew) | exact HI514.out))) (IsS77.ge hi)) : g514 ≠ g553)); have n13_ := Aside0.mk ((Nat.ne_of_gt (Nat.lt_of_lt_of_le (IsS90.lt (show IsS90 w _ g514 t541 from by repeat (first | (with_reducible first | exact HI514.out | apply IsS90.alloc | apply IsS90.drewN | apply IsS90.drew) | exact HI514.out))) (IsS77.ge hi)) : g553 ≠ g514)); clear HO_10; clear HO_12; clear HO539; clear HO550; clear HI512; clear HI514; clear HB; have HO_10 := n0_; have HO_12 := n1_; have HO539 := n2_; have HO550 := n3_; have HI512 := n4_; have HI514 := n5_; have HB := n6_; have HI553 := n7_; have NC553_512 := n8_; have NC553_514 := n9_; have NB512_553 := n10_; have NB553_512 := n11_; have NB514_553 := n12_; have NB553_514 := n13_; clear n0_ n1_ n2_ n3_ n4_ n5_ n6_ n7_ n8_ n9_ n10_ n11_ n12_ n13_; (try clear hb); (try clear hb2); (try clear hk); (try clear hi)) | (have _t : True := tk80; clear tk80 _t; go_at_call 29; (with_reducible refine (unpack_Decoder_Table.calls (w1 := w) g514 t541 t554 _ _ ?side1 (Below.refl _ _) A65.out).mono ?_); (case side1 => repeat (first | (with_reducible first | exact HI514.out | apply IsS90.alloc | apply IsS90.drewN | apply IsS90.drew) | exact HI514.out)); rintro e w77 ⟨g555, rfl, hi, hb, hb2⟩; have n0_ := Aside0.mk (Kd.R_below (by (with_reducible repeat (first | apply Kd.R_alloc | apply Kd.R_drewN | apply Kd.R_drew)); exact HO_10.out) hb2); have n1_ := Aside0.mk (Kd.R_below (by (with_reducible repeat (first | apply Kd.R_alloc | apply Kd.R_drewN | apply Kd.R_drew)); exact HO_12.out) hb2); have n2_ := Aside0.mk (Kd.R_below (by (with_reducible repeat (first | apply Kd.R_alloc | apply Kd.R_drewN | apply Kd.R_drew)); exact HO539.out) hb2); have n3_ := Aside0.mk (Kd.R_below (by (with_reducible repeat (first | apply Kd.R_alloc | apply Kd.R_drewN | apply Kd.R_drew)); exact HO550.out) hb2); have n4_ := Aside0.mk (IsS90.below (by repeat (first | (with_reducible first | exact HI512.out | apply IsS90.alloc | apply IsS90.drewN | apply IsS90.drew) | exact HI512.out)) hb2); have n5_ := Aside0.mk (IsS90.below (by repeat (first | (with_reducible first | exact HI514.out | apply IsS90.alloc | apply IsS90.drewN | apply IsS90.drew) | exact HI514.out)) hb2); have n6_ := Aside0.mk (IsS77.below (by repeat (first | (with_reducible first | exact HI553.out | apply IsS77.alloc | apply IsS77.drewN | apply IsS77.drew) | exact HI553.out)) hb2); have n7_ := Aside0.mk (below_step (by repeat (first | (with_reducible first | exact HB.out | apply below_alloc | apply pw_below_drewN | apply below_drew1 | refine below_set ?_ (IsS90.ge HI512.out) | refine below_set ?_ (IsS90.ge HI514.out) | refine below_set ?_ (IsS77.ge HI553.out)) | exact HB.out)) hb2); have n8_ := Aside0.mk ((show IsS77 w w77 g555 t554 from IsS77.rebase hi (below_size (by repeat (first | (with_reducible first | exact HB.out | apply below_alloc | apply pw_below_drewN | apply below_drew1 | refine below_set ?_ (IsS90.ge HI512.out) | refine below_set ?_ (IsS90.ge HI514.out) | refine below_set ?_ (IsS77.ge HI553.out)) | exact HB.out))))); have n9_ := Aside0.mk ((Nat.ne_of_gt (Nat.lt_of_le_of_lt (Nat.sub_le _ _) (Nat.lt_of_lt_of_le (IsS90.lt (show IsS90 w _ g512 t536 from by repeat (first | (with_reducible first | exact HI512.out | apply IsS90.alloc | apply IsS90.drewN | apply IsS90.drew) | exact HI512.out))) (IsS77.ge hi))) : g555 ≠ g512 - 1)); have n10_ := Aside0.mk ((Nat.ne_of_gt (Nat.lt_of_le_of_lt (Nat.sub_le _ _) (Nat.lt_of_lt_of_le (IsS90.lt (show IsS90 w _ g514 t541 from by repeat (first | (with_reducible first | exact HI514.out | apply IsS90.alloc | apply IsS90.drewN | apply IsS90.drew) | exact HI514.out))) (IsS77.ge hi))) : g555 ≠ g514 - 1)); have n11_ := Aside0.mk ((Nat.ne_of_lt (Nat.lt_of_lt_of_le (IsS90.lt (show IsS90 w _ g512 t536 from by repeat (first | (with_reducible first | exact HI512.out | apply IsS90.alloc | apply IsS90.drewN | apply IsS90.drew) | exact HI512.out))) (IsS77.ge hi)) : g512 ≠ g555)); have n12_ := Aside0.mk ((Nat.ne_of_gt (Nat.lt_of_lt_of_le (IsS90.lt (show IsS90 w _ g512 t536 from by repeat (first | (with_reducible first | exact HI512.out | apply IsS90.alloc | apply IsS90.drewN | apply IsS90.drew) | exact HI512.out))) (IsS77.ge hi)) : g555 ≠ g512)); have n13_ := Aside0.mk ((Nat.ne_of_lt (Nat.lt_of_lt_of_le (IsS90.lt (show IsS90 w _ g514 t541 from by repeat (first | (with_reducible first | exact HI514.out | apply IsS90.alloc | apply IsS90.drewN | apply IsS90.drew) | exact HI514.out))) (IsS77.ge hi)) : g514 ≠ g555)); have n14_ := Aside0.mk ((Nat.ne_of_gt (Nat.lt_of_lt_of_le (IsS90.lt (show IsS90 w _ g514 t541 from by repeat (first | (with_reducible first | exact HI514.out | apply IsS90.alloc | apply IsS90.drewN | apply IsS90.drew) | exact HI514.out))) (IsS77.ge hi)) : g555 ≠ g514)); have n15_ := Aside0.mk ((Nat.ne_of_lt (Nat.lt_of_lt_of_le (IsS77.lt (show IsS77 w _ g553 t552 from by repeat (first | (with_reducible first | exact HI553.out | apply IsS77.alloc | apply IsS77.drewN | apply IsS77.drew) | exact HI553.out))) (IsS77.ge hi)) : g553 ≠ g555)); have n16_ := Aside0.mk ((Nat.ne_of_gt (Nat.lt_of_lt_of_le (IsS77.lt (show IsS77 w _ g553 t552 from by repeat (first | (with_reducible first | exact HI553.out | apply IsS77.alloc | apply IsS77.drewN | apply IsS77.drew) | exact HI553.out))) (IsS77.ge hi)) : g555 ≠ g553)); clear HO_10; clear HO_12; clear HO539; clear HO550; clear HI512; clear HI514; clear HI553; clear HB; have HO_10 := n0_; have HO_12 := n1_; have HO539 := n2_; have HO550 := n3_; have HI512 := n4_; have HI514 := n5_; have HI553 := n6_; have HB := n7_; have HI555 := n8_; have NC555_512 := n9_; have NC555_514 := n10_; have NB512_555 := n11_; have NB555_512 := n12_; have NB514_555 := n13_; have NB555_514 := n14_; have NB553_555 := n15_; have NB555_553 := n16_; clear n0_ n1_ n2_ n3_ n4_ n5_ n6_ n7_ n8_ n9_ n10_ n11_ n12_ n13_ n14_ n15_ n16_; (try clear hb); (try clear hb2); (try clear hk); (try clear hi)) | (go_at_call 32; (with_reducible refine (nunciolaw12_same.calls (w1 := w) g553 t552 g555 t554 t556 _ ?side1 ?side2 A66.out).mono ?_); (case side1 => repeat (first | (with_reducible first | exact HI553.out | apply IsS77.alloc | apply IsS77.drewN | apply IsS77.drew) | exact HI553.out)); (case side2 => repeat (first | (with_reducible first | exact HI555.out | apply IsS77.alloc | apply IsS77.drewN | apply IsS77.drew) | exact HI555.out)); rintro e w78 ⟨rfl, hb⟩; have n0_ := Aside0.mk (Kd.R_below (by (with_reducible repeat (first | apply Kd.R_alloc | apply Kd.R_drewN | apply Kd.R_drew)); exact HO_10.out) hb); have n1_ := Aside0.mk (Kd.R_below (by (with_reducible repeat (first | apply Kd.R_alloc | apply Kd.R_drewN | apply Kd.R_drew)); exact HO_12.out) hb); have n2_ := Aside0.mk (Kd.R_below (by (with_reducible repeat (first | apply Kd.R_alloc | apply Kd.R_drewN | apply Kd.R_drew)); exact HO539.out) hb); have n3_ := Aside0.mk (Kd.R_below (by (with_reducible repeat (first | apply Kd.R_alloc | apply Kd.R_drewN | apply Kd.R_drew)); exact HO550.out) hb); have n4_ := Aside0.mk (IsS90.below (by repeat (first | (with_reducible first | exact HI512.out | apply IsS90.alloc | apply IsS90.drewN | apply IsS90.drew) | exact HI512.out)) hb); have n5_ := Aside0.mk (IsS90.below (by repeat (first | (with_reducible first | exact HI514.out | apply IsS90.alloc | apply IsS90.drewN | apply IsS90.drew) | exact HI514.out)) hb); have n6_ := Aside0.mk (IsS77.below (by repeat (first | (with_reducible first | exact HI553.out | apply IsS77.alloc | apply IsS77.drewN | apply IsS77.drew) | exact HI553.out)) hb); have n7_ := Aside0.mk (IsS77.below (by repeat (first | (with_reducible first | exact HI555.out | apply IsS77.alloc | apply IsS77.drewN | apply IsS77.drew) | exact HI555.out)) hb); have n8_ := Aside0.mk (below_step (by repeat (first | (with_reducible first | exact HB.out | apply below_alloc | apply pw_below_drewN | apply below_drew1 | refine below_set ?_ (IsS90.ge HI512.out) | refine below_set ?_ (IsS90.ge HI514.out) | refine below_set ?_ (IsS77.ge HI553.out) | refine below_set ?_ (IsS77.ge HI555.out)) | exact HB.out)) hb); clear HO_10; clear HO_12; clear HO539; clear HO550; clear HI512; clear HI514; clear HI553; clear HI555; clear HB; have HO_10 := n0_; have HO_12 := n1_; have HO539 := n2_; have HO550 := n3_; have HI512 := n4_; have HI514 := n5_; have HI553 := n6_; have HI555 := n7_; have HB := n8_; clear n0_ n1_ n2_ n3_ n4_ n5_ n6_ n7_ n8_; (try clear hb); (try clear hb2); (try clear hk); (try clear hi)))
                   go_ret
                   exact ⟨by first | rfl | (simp [errW_none, errW_some] <;> rfl) | (simp [*, errW_none, errW_some] <;> rfl) | (have e_ := EA18.out; subst e_; rfl), by repeat (first | (with_reducible first | exact HB.out | apply below_alloc | apply pw_below_drewN | apply below_drew1 | refine below_set ?_ (IsS90.ge HI512.out) | refine below_set ?_ (IsS90.ge HI514.out) | refine below_set ?_ (IsS77.ge HI553.out) | refine below_set ?_ (IsS77.ge HI555.out)) | exact HB.out)⟩
                  ·
                   replace c63 := Bool.eq_false_iff.mpr c63
                   subst c63
                   have H1 : (some false) = some r := by rw [if_neg (show ¬ (false = true) by decide)] at H; exact H
                   clear H
                   have H := H1
                   clear H1
                   exact absurd ((Option.some.inj H).trans HT.out) (by decide)
                 ·
                  rw [if_neg c61] at H
                  exact absurd H (by simp)
                ·
                 rw [if_neg c60] at H
                 exact absurd H (by simp)
               ·
                rw [if_neg c59] at H
                have c59b0 : (t540 == 0) = false := beq_eq_false_iff_ne.mpr c59
                have c59b1 : (t540 != 0) = true := bne_iff_ne.mpr c59
                exact absurd ((Option.some.inj H).trans HT.out) (by decide)
              ·
               rw [if_neg c57] at H
               exact absurd H (by simp)
 ·
  replace c5 := Bool.eq_false_iff.mpr c5
  subst c5
  have H1 : (some false) = some r := by rw [if_neg (show ¬ (false = true) by decide)] at H; exact H
  clear H
  have H := H1
  clear H1
  exact absurd ((Option.some.inj H).trans HT.out) (by decide)
def nunciolaw12_UnpackParts.Pure : Prop := ∀ (l0 : List ByteArray) (a1 : ByteArray) (a2 : ByteArray), (l0.length ≤ 9223372036854775807 ∧ l0.length * 16 ≤ 140737488351232 ∧ ∀ x_ ∈ l0, x_.size ≤ 140737488351232) → (a1.size ≤ 140737488351232) → (a2.size ≤ 140737488351232) → ∃ k, nunciolaw12_UnpackParts.f k l0 a1 a2 = some true
theorem nunciolaw12_UnpackParts.walk (P : nunciolaw12_UnpackParts.Pure) (A0 : Option Addr) (c0 : Nat) (l0 : List ByteArray) (a1 : ByteArray) (a2 : ByteArray) (w : World) (hE : EnvW w) (hr0 : Kd.C Kd.string w A0 l0.length l0) (hc0 : l0.length ≤ c0) (w0 : l0.length ≤ 9223372036854775807 ∧ l0.length * 16 ≤ 140737488351232 ∧ ∀ x_ ∈ l0, x_.size ≤ 140737488351232) (w1 : a1.size ≤ 140737488351232) (w2 : a2.size ≤ 140737488351232) :
  Calls Tryd.prog 7 #[.slice A0 l0.length c0, .string a1, .string a2] w fun e w' => e = .returned (.bool true) ∧ Below w.heap.size w w' := by
 obtain ⟨k, h⟩ := P l0 a1 a2 w0 w1 w2
 refine (nunciolaw12_UnpackParts.calls k _ _ l0 a1 a2 true w hE hr0 hc0 h rfl).mono ?_
 rintro e w' ⟨rfl, hd⟩
 exact ⟨rfl, hd⟩
end Go.Proofs.YtfkdocmhbmameaaDoor.Mine
