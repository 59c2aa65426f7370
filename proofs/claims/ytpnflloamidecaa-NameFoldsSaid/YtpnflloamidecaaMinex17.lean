-- Written by this repo's own printer (wip/print), which builds on the kit's.
import Derived.Test.YtpnflloamidecaaMinex0
import Derived.Test.YtpnflloamidecaaMinex2
import Derived.Test.YtpnflloamidecaaMinex3
import Derived.Test.YtpnflloamidecaaMinex4
import Derived.Test.YtpnflloamidecaaMinex9
import Derived.Test.YtpnflloamidecaaMinex14
import Derived.Test.YtpnflloamidecaaMinex15
import Derived.Test.YtpnflloamidecaaMinex16
namespace Go.Proofs.Ytpnflloamidecaa.Mine
open Go.RowKit Go.Proofs.YtpnflloamidecaaW.PrintWords Go.Proofs.YtpnflloamidecaaW.PrintLast Go.Proofs.YtpnflloamidecaaW.PrintMore
attribute [local go_sem] max2_int min2_int max_two min_two max_three min_three max_four min_four   -- for this text's walks alone
set_option linter.unusedVariables false
set_option linter.unusedSimpArgs false

/-! ### nunciolaw04_NameFolds: function 4 -/
def nunciolaw04_NameFolds.j0 : Nat → ByteArray → ByteArray → Bool → Option (Bool)
 | 0, _, _, _ => none
 | k + 1, x0, x1, x14 => if x14 = true then (some true) else ((name_Fold.f k x0).bind fun t274 => ((nuncioref04_Fold.f k x0).bind fun t275 => (if t274.toList = t275.toList then ((name_Same.f k x0 x1).bind fun t276 => ((nuncioref04_Same.f k x0 x1).bind fun t277 => (if (t276 == t277) = true then ((name_Under.f k x0 x1).bind fun t278 => ((nuncioref04_Under.f k x0 x1).bind fun t279 => (if (t278 == t279) = true then ((name_Under.f k x1 x0).bind fun t280 => ((nuncioref04_Under.f k x1 x0).bind fun t281 => (if (t280 == t281) = true then ((name_Fold.f k x0).bind fun t282 => ((name_Same.f k x0 t282).bind fun t283 => ((name_Is.f k x0).bind fun t284 => (some (t283 == t284))))) else (some false)))) else (some false)))) else (some false)))) else (some false))))
def nunciolaw04_NameFolds.f (k : Nat) (a0 : ByteArray) (a1 : ByteArray) : Option (Bool) := (nunciolaw04_awake.f k).bind fun t273 => (if t273 = true then (if (a0.size : Int) > 5000 then (nunciolaw04_NameFolds.j0 k a0 a1 true) else (nunciolaw04_NameFolds.j0 k a0 a1 (decide ((a1.size : Int) > 5000)))) else (some false))
theorem nunciolaw04_NameFolds.mono_l : ∀ k, (∀ y0 y1 y2, LeO (nunciolaw04_NameFolds.j0 k y0 y1 y2) (nunciolaw04_NameFolds.j0 (k + 1) y0 y1 y2))
 | 0 => fun _ _ _ r h => by simp [nunciolaw04_NameFolds.j0] at h
 | k + 1 => by
  have ih0 := nunciolaw04_NameFolds.mono_l k
  ·
   intro y0 y1 y2
   unfold nunciolaw04_NameFolds.j0
   repeat' first
   | (with_reducible exact ih0 _ _ _)
   | (with_reducible exact name_Fold.mono _ _)
   | (with_reducible exact name_Is.mono _ _)
   | (with_reducible exact name_Same.mono _ _ _)
   | (with_reducible exact name_Under.mono _ _ _)
   | (with_reducible exact nunciolaw04_awake.mono _)
   | (with_reducible exact nuncioref04_Fold.mono _ _)
   | (with_reducible exact nuncioref04_Same.mono _ _ _)
   | (with_reducible exact nuncioref04_Under.mono _ _ _)
   | (with_reducible exact LeO.refl _)
   | (with_reducible exact LeO.none _)
   | (with_reducible refine LeO.ite ?_ ?_)
   | (with_reducible refine LeO.bind ?_ (fun _ => ?_))
   | exact ih0 _ _ _
   | exact name_Fold.mono _ _
   | exact name_Is.mono _ _
   | exact name_Same.mono _ _ _
   | exact name_Under.mono _ _ _
   | exact nunciolaw04_awake.mono _
   | exact nuncioref04_Fold.mono _ _
   | exact nuncioref04_Same.mono _ _ _
   | exact nuncioref04_Under.mono _ _ _
   | exact LeO.none _
   | refine LeO.ite ?_ ?_
   | refine LeO.bind ?_ (fun _ => ?_)
theorem nunciolaw04_NameFolds.mono : ∀ a0 a1 k, LeO (nunciolaw04_NameFolds.f k a0 a1) (nunciolaw04_NameFolds.f (k + 1) a0 a1) := by
 intro a0 a1 k
 have ih0 := nunciolaw04_NameFolds.mono_l k
 unfold nunciolaw04_NameFolds.f
 repeat' first
   | (with_reducible exact ih0 _ _ _)
   | (with_reducible exact name_Fold.mono _ _)
   | (with_reducible exact name_Is.mono _ _)
   | (with_reducible exact name_Same.mono _ _ _)
   | (with_reducible exact name_Under.mono _ _ _)
   | (with_reducible exact nunciolaw04_awake.mono _)
   | (with_reducible exact nuncioref04_Fold.mono _ _)
   | (with_reducible exact nuncioref04_Same.mono _ _ _)
   | (with_reducible exact nuncioref04_Under.mono _ _ _)
   | (with_reducible exact LeO.refl _)
   | (with_reducible exact LeO.none _)
   | (with_reducible refine LeO.ite ?_ ?_)
   | (with_reducible refine LeO.bind ?_ (fun _ => ?_))
   | exact ih0 _ _ _
   | exact name_Fold.mono _ _
   | exact name_Is.mono _ _
   | exact name_Same.mono _ _ _
   | exact name_Under.mono _ _ _
   | exact nunciolaw04_awake.mono _
   | exact nuncioref04_Fold.mono _ _
   | exact nuncioref04_Same.mono _ _ _
   | exact nuncioref04_Under.mono _ _ _
   | exact LeO.none _
   | refine LeO.ite ?_ ?_
   | refine LeO.bind ?_ (fun _ => ?_)
set_option maxHeartbeats 8000000 in
set_option maxRecDepth 100000 in
theorem nunciolaw04_NameFolds.calls (k : Nat) (a0 : ByteArray) (a1 : ByteArray) (r : Bool) (w : World) (h : nunciolaw04_NameFolds.f k a0 a1 = some r) (hT : r = true) :
  Calls Try.prog 4 #[.string a0, .string a1] w fun e w' => e = .returned (.bool r) ∧ Below w.heap.size w w' := by
 have HB := Aside0.mk (Below.refl w.heap.size w)
 have HT := Aside0.mk hT
 clear hT
 have H : ((nunciolaw04_awake.f k).bind fun t273 => (if t273 = true then (if (a0.size : Int) > 5000 then (nunciolaw04_NameFolds.j0 k a0 a1 true) else (nunciolaw04_NameFolds.j0 k a0 a1 (decide ((a1.size : Int) > 5000)))) else (some false))) = some r := h
 clear h
 replace H := Option.bind_eq_some_iff.mp H
 obtain ⟨t273, A30, H⟩ := H
 replace H : (if t273 = true then (if (a0.size : Int) > 5000 then (nunciolaw04_NameFolds.j0 k a0 a1 true) else (nunciolaw04_NameFolds.j0 k a0 a1 (decide ((a1.size : Int) > 5000)))) else (some false)) = some r := H
 have A3 := Aside0.mk A30
 clear A30
 by_cases c4 : t273 = true
 ·
  subst c4
  have H1 : (if (a0.size : Int) > 5000 then (nunciolaw04_NameFolds.j0 k a0 a1 true) else (nunciolaw04_NameFolds.j0 k a0 a1 (decide ((a1.size : Int) > 5000)))) = some r := by rw [if_pos rfl] at H; exact H
  clear H
  have H := H1
  clear H1
  have HC5 := Aside0.mk H
  clear H
  go_enter Try.func4, Try.ntmps4
  go_upto_region 3 with (first | ((with_reducible refine gate_callee (f := 8) rfl ?_); refine goesL_ (some 5) rfl rfl Try.func8 (by kernel_rfl) rfl #[] rfl (by (try simp only [List.map_toArray, List.map_cons, List.map_nil]); first | done | rfl | (simp only [List.length_drop, List.length_take]; rfl)) ?_; (with_reducible refine (nunciolaw04_awake.calls k  true _ A3.out).mono ?_); rintro e w6 ⟨rfl, hb⟩; refine ⟨_, rfl, ?_⟩; have n0_ := Aside0.mk (below_step (by repeat (first | (with_reducible first | exact HB.out | apply below_alloc | apply pw_below_drewN | apply below_drew1) | exact HB.out)) hb); clear HB; have HB := n0_; clear n0_; (try clear hb); (try clear hb2); (try clear hk); (try clear hi)))
  (try simp only [Act.put, List.setIfInBounds_toArray, List.set_cons_zero, List.set_cons_succ])
  go_cut [14] (fun v14 wc => ∃ (kq : Nat) (x14_4 : Bool), v14 = .bool x14_4 ∧ Aside0 (nunciolaw04_NameFolds.j0 kq a0 a1 x14_4 = some r) ∧ Aside0 (kq ≤ k) ∧ Aside0 (Below w.heap.size w wc))
  case first =>
   have H := HC5.out
   clear HC5
   by_cases c7 : (a0.size : Int) > 5000
   ·
    rw [if_pos c7] at H
    have c7b0 : decide (5000 < (a0.size : Int)) = true := decide_eq_true c7
    have c7b1 : decide (5000 < a0.size) = true := decide_eq_true (by omega)
    clear c7
    (first | rw [c7b0] | (simp only [i64_w, i32_w]; rw [c7b0]) | skip)
    have H' := Aside0.mk H
    clear H
    go_wp2
    go_meet
    case rel => exact ⟨_, (true), (by first | rfl | (simp; done) | (simp [*]; done)), H', ⟨by first | omega | exact Nat.le_refl _⟩, ⟨by repeat (first | (with_reducible first | exact HB.out | apply below_alloc | apply pw_below_drewN | apply below_drew1) | exact HB.out)⟩⟩
   ·
    rw [if_neg c7] at H
    have c7b0 : decide (5000 < (a0.size : Int)) = false := decide_eq_false c7
    have c7b1 : decide (5000 < a0.size) = false := decide_eq_false (by omega)
    clear c7
    (first | rw [c7b0] | (simp only [i64_w, i32_w]; rw [c7b0]) | skip)
    have H' := Aside0.mk H
    clear H
    go_wp2
    go_meet
    case rel => exact ⟨_, (decide ((a1.size : Int) > 5000)), (by first | rfl | (simp; done) | (simp [*]; done)), H', ⟨by first | omega | exact Nat.le_refl _⟩, ⟨by repeat (first | (with_reducible first | exact HB.out | apply below_alloc | apply pw_below_drewN | apply below_drew1) | exact HB.out)⟩⟩
  case rest =>
   clear HC5
   try clear p2
   try clear c4
   try clear c7
   try clear c7b0
   try clear c7b1
   obtain ⟨kq, x14_4, rfl, HA, HJ4, HB⟩ := hcut
   cases kq with
   | zero => exact absurd HA.out (by simp [nunciolaw04_NameFolds.j0])
   | succ kj4 =>
    have H := HA.out
    clear HA
    simp only [nunciolaw04_NameFolds.j0] at H
    by_cases c8 : x14_4 = true
    ·
     subst c8
     have H1 : (some true) = some r := by rw [if_pos rfl] at H; exact H
     clear H
     have H := H1
     clear H1
     obtain rfl := Option.some.inj H
     go_wp2
     go_ret
     exact ⟨by first | rfl | (simp [errW_none, errW_some] <;> rfl) | (simp [*, errW_none, errW_some] <;> rfl), by repeat (first | (with_reducible first | exact HB.out | apply below_alloc | apply pw_below_drewN | apply below_drew1) | exact HB.out)⟩
    ·
     replace c8 := Bool.eq_false_iff.mpr c8
     subst c8
     have H1 : ((name_Fold.f kj4 a0).bind fun t274 => ((nuncioref04_Fold.f kj4 a0).bind fun t275 => (if t274.toList = t275.toList then ((name_Same.f kj4 a0 a1).bind fun t276 => ((nuncioref04_Same.f kj4 a0 a1).bind fun t277 => (if (t276 == t277) = true then ((name_Under.f kj4 a0 a1).bind fun t278 => ((nuncioref04_Under.f kj4 a0 a1).bind fun t279 => (if (t278 == t279) = true then ((name_Under.f kj4 a1 a0).bind fun t280 => ((nuncioref04_Under.f kj4 a1 a0).bind fun t281 => (if (t280 == t281) = true then ((name_Fold.f kj4 a0).bind fun t282 => ((name_Same.f kj4 a0 t282).bind fun t283 => ((name_Is.f kj4 a0).bind fun t284 => (some (t283 == t284))))) else (some false)))) else (some false)))) else (some false)))) else (some false)))) = some r := by rw [if_neg (show ¬ (false = true) by decide)] at H; exact H
     clear H
     have H := H1
     clear H1
     replace H := Option.bind_eq_some_iff.mp H
     obtain ⟨t274, A90, H⟩ := H
     replace H : ((nuncioref04_Fold.f kj4 a0).bind fun t275 => (if t274.toList = t275.toList then ((name_Same.f kj4 a0 a1).bind fun t276 => ((nuncioref04_Same.f kj4 a0 a1).bind fun t277 => (if (t276 == t277) = true then ((name_Under.f kj4 a0 a1).bind fun t278 => ((nuncioref04_Under.f kj4 a0 a1).bind fun t279 => (if (t278 == t279) = true then ((name_Under.f kj4 a1 a0).bind fun t280 => ((nuncioref04_Under.f kj4 a1 a0).bind fun t281 => (if (t280 == t281) = true then ((name_Fold.f kj4 a0).bind fun t282 => ((name_Same.f kj4 a0 t282).bind fun t283 => ((name_Is.f kj4 a0).bind fun t284 => (some (t283 == t284))))) else (some false)))) else (some false)))) else (some false)))) else (some false))) = some r := H
     have A9 := Aside0.mk A90
     clear A90
     replace H := Option.bind_eq_some_iff.mp H
     obtain ⟨t275, A100, H⟩ := H
     replace H : (if t274.toList = t275.toList then ((name_Same.f kj4 a0 a1).bind fun t276 => ((nuncioref04_Same.f kj4 a0 a1).bind fun t277 => (if (t276 == t277) = true then ((name_Under.f kj4 a0 a1).bind fun t278 => ((nuncioref04_Under.f kj4 a0 a1).bind fun t279 => (if (t278 == t279) = true then ((name_Under.f kj4 a1 a0).bind fun t280 => ((nuncioref04_Under.f kj4 a1 a0).bind fun t281 => (if (t280 == t281) = true then ((name_Fold.f kj4 a0).bind fun t282 => ((name_Same.f kj4 a0 t282).bind fun t283 => ((name_Is.f kj4 a0).bind fun t284 => (some (t283 == t284))))) else (some false)))) else (some false)))) else (some false)))) else (some false)) = some r := H
     have A10 := Aside0.mk A100
     clear A100
     by_cases c11 : t274.toList = t275.toList
     ·
      rw [if_pos c11] at H
      have c11b0 : (t274.toList == t275.toList) = true := beq_iff_eq.mpr c11
      have c11b1 : (t274.toList != t275.toList) = false := bne_eq_false_iff_eq.mpr c11
      clear c11
      replace H := Option.bind_eq_some_iff.mp H
      obtain ⟨t276, A120, H⟩ := H
      replace H : ((nuncioref04_Same.f kj4 a0 a1).bind fun t277 => (if (t276 == t277) = true then ((name_Under.f kj4 a0 a1).bind fun t278 => ((nuncioref04_Under.f kj4 a0 a1).bind fun t279 => (if (t278 == t279) = true then ((name_Under.f kj4 a1 a0).bind fun t280 => ((nuncioref04_Under.f kj4 a1 a0).bind fun t281 => (if (t280 == t281) = true then ((name_Fold.f kj4 a0).bind fun t282 => ((name_Same.f kj4 a0 t282).bind fun t283 => ((name_Is.f kj4 a0).bind fun t284 => (some (t283 == t284))))) else (some false)))) else (some false)))) else (some false))) = some r := H
      have A12 := Aside0.mk A120
      clear A120
      replace H := Option.bind_eq_some_iff.mp H
      obtain ⟨t277, A130, H⟩ := H
      replace H : (if (t276 == t277) = true then ((name_Under.f kj4 a0 a1).bind fun t278 => ((nuncioref04_Under.f kj4 a0 a1).bind fun t279 => (if (t278 == t279) = true then ((name_Under.f kj4 a1 a0).bind fun t280 => ((nuncioref04_Under.f kj4 a1 a0).bind fun t281 => (if (t280 == t281) = true then ((name_Fold.f kj4 a0).bind fun t282 => ((name_Same.f kj4 a0 t282).bind fun t283 => ((name_Is.f kj4 a0).bind fun t284 => (some (t283 == t284))))) else (some false)))) else (some false)))) else (some false)) = some r := H
      have A13 := Aside0.mk A130
      clear A130
      by_cases c14 : (t276 == t277) = true
      ·
       rw [if_pos c14] at H
       have c14b0 : (t276 == t277) = true := c14
       (try (have c14b1 : decide (t276 = t277) = true := by simpa using c14))
       (try (have c14b2 : (t276 == t277) = true := by simpa using c14))
       clear c14
       replace H := Option.bind_eq_some_iff.mp H
       obtain ⟨t278, A150, H⟩ := H
       replace H : ((nuncioref04_Under.f kj4 a0 a1).bind fun t279 => (if (t278 == t279) = true then ((name_Under.f kj4 a1 a0).bind fun t280 => ((nuncioref04_Under.f kj4 a1 a0).bind fun t281 => (if (t280 == t281) = true then ((name_Fold.f kj4 a0).bind fun t282 => ((name_Same.f kj4 a0 t282).bind fun t283 => ((name_Is.f kj4 a0).bind fun t284 => (some (t283 == t284))))) else (some false)))) else (some false))) = some r := H
       have A15 := Aside0.mk A150
       clear A150
       replace H := Option.bind_eq_some_iff.mp H
       obtain ⟨t279, A160, H⟩ := H
       replace H : (if (t278 == t279) = true then ((name_Under.f kj4 a1 a0).bind fun t280 => ((nuncioref04_Under.f kj4 a1 a0).bind fun t281 => (if (t280 == t281) = true then ((name_Fold.f kj4 a0).bind fun t282 => ((name_Same.f kj4 a0 t282).bind fun t283 => ((name_Is.f kj4 a0).bind fun t284 => (some (t283 == t284))))) else (some false)))) else (some false)) = some r := H
       have A16 := Aside0.mk A160
       clear A160
       by_cases c17 : (t278 == t279) = true
       ·
        rw [if_pos c17] at H
        have c17b0 : (t278 == t279) = true := c17
        (try (have c17b1 : decide (t278 = t279) = true := by simpa using c17))
        (try (have c17b2 : (t278 == t279) = true := by simpa using c17))
        clear c17
        replace H := Option.bind_eq_some_iff.mp H
        obtain ⟨t280, A180, H⟩ := H
        replace H : ((nuncioref04_Under.f kj4 a1 a0).bind fun t281 => (if (t280 == t281) = true then ((name_Fold.f kj4 a0).bind fun t282 => ((name_Same.f kj4 a0 t282).bind fun t283 => ((name_Is.f kj4 a0).bind fun t284 => (some (t283 == t284))))) else (some false))) = some r := H
        have A18 := Aside0.mk A180
        clear A180
        replace H := Option.bind_eq_some_iff.mp H
        obtain ⟨t281, A190, H⟩ := H
        replace H : (if (t280 == t281) = true then ((name_Fold.f kj4 a0).bind fun t282 => ((name_Same.f kj4 a0 t282).bind fun t283 => ((name_Is.f kj4 a0).bind fun t284 => (some (t283 == t284))))) else (some false)) = some r := H
        have A19 := Aside0.mk A190
        clear A190
        by_cases c20 : (t280 == t281) = true
        ·
         rw [if_pos c20] at H
         have c20b0 : (t280 == t281) = true := c20
         (try (have c20b1 : decide (t280 = t281) = true := by simpa using c20))
         (try (have c20b2 : (t280 == t281) = true := by simpa using c20))
         clear c20
         replace H := Option.bind_eq_some_iff.mp H
         obtain ⟨t282, A210, H⟩ := H
         replace H : ((name_Same.f kj4 a0 t282).bind fun t283 => ((name_Is.f kj4 a0).bind fun t284 => (some (t283 == t284)))) = some r := H
         have A21 := Aside0.mk A210
         clear A210
         (try (have EA21 := Aside0.mk (Option.some.inj (A9.out.symm.trans A21.out))))
         replace H := Option.bind_eq_some_iff.mp H
         obtain ⟨t283, A220, H⟩ := H
         replace H : ((name_Is.f kj4 a0).bind fun t284 => (some (t283 == t284))) = some r := H
         have A22 := Aside0.mk A220
         clear A220
         replace H := Option.bind_eq_some_iff.mp H
         obtain ⟨t284, A230, H⟩ := H
         replace H : (some (t283 == t284)) = some r := H
         have A23 := Aside0.mk A230
         clear A230
         obtain rfl := Option.some.inj H
         have tk35 : True := trivial
         have tk36 : True := trivial
         have tk37 : True := trivial
         have tk38 : True := trivial
         have tk39 : True := trivial
         have tk40 : True := trivial
         have tk41 : True := trivial
         have tk42 : True := trivial
         go_wp2_with (first | (have _t : True := tk35; clear tk35 _t; (with_reducible refine gate_callee (f := 16) rfl ?_); refine goesL_ (some 16) rfl rfl Try.func16 (by kernel_rfl) rfl #[.string a0] rfl (by (try simp only [List.map_toArray, List.map_cons, List.map_nil]); first | done | rfl | (simp only [List.length_drop, List.length_take]; rfl)) ?_; (with_reducible refine (name_Fold.calls kj4 a0 t274 _ A9.out).mono ?_); rintro e w24 ⟨rfl, hb⟩; refine ⟨_, rfl, ?_⟩; have n0_ := Aside0.mk (below_step (by repeat (first | (with_reducible first | exact HB.out | apply below_alloc | apply pw_below_drewN | apply below_drew1) | exact HB.out)) hb); clear HB; have HB := n0_; clear n0_; (try clear hb); (try clear hb2); (try clear hk); (try clear hi)) | ((with_reducible refine gate_callee (f := 17) rfl ?_); refine goesL_ (some 18) rfl rfl Try.func17 (by kernel_rfl) rfl #[.string a0] rfl (by (try simp only [List.map_toArray, List.map_cons, List.map_nil]); first | done | rfl | (simp only [List.length_drop, List.length_take]; rfl)) ?_; (with_reducible refine (nuncioref04_Fold.calls kj4 a0 t275 _ A10.out).mono ?_); rintro e w25 ⟨rfl, hb⟩; refine ⟨_, rfl, ?_⟩; have n0_ := Aside0.mk (below_step (by repeat (first | (with_reducible first | exact HB.out | apply below_alloc | apply pw_below_drewN | apply below_drew1) | exact HB.out)) hb); clear HB; have HB := n0_; clear n0_; (try clear hb); (try clear hb2); (try clear hk); (try clear hi)) | (have _t : True := tk36; clear tk36 _t; go_at_call 18; (with_reducible refine (name_Same.calls kj4 a0 a1 t276 _ A12.out).mono ?_); rintro e w26 ⟨rfl, hb⟩; have n0_ := Aside0.mk (below_step (by repeat (first | (with_reducible first | exact HB.out | apply below_alloc | apply pw_below_drewN | apply below_drew1) | exact HB.out)) hb); clear HB; have HB := n0_; clear n0_; (try clear hb); (try clear hb2); (try clear hk); (try clear hi)) | (go_at_call 19; (with_reducible refine (nuncioref04_Same.calls kj4 a0 a1 t277 _ A13.out).mono ?_); rintro e w27 ⟨rfl, hb⟩; have n0_ := Aside0.mk (below_step (by repeat (first | (with_reducible first | exact HB.out | apply below_alloc | apply pw_below_drewN | apply below_drew1) | exact HB.out)) hb); clear HB; have HB := n0_; clear n0_; (try clear hb); (try clear hb2); (try clear hk); (try clear hi)) | (have _t : True := tk37; clear tk37 _t; go_at_call 20; (with_reducible refine (name_Under.calls kj4 a0 a1 t278 _ A15.out).mono ?_); rintro e w28 ⟨rfl, hb⟩; have n0_ := Aside0.mk (below_step (by repeat (first | (with_reducible first | exact HB.out | apply below_alloc | apply pw_below_drewN | apply below_drew1) | exact HB.out)) hb); clear HB; have HB := n0_; clear n0_; (try clear hb); (try clear hb2); (try clear hk); (try clear hi)) | (have _t : True := tk38; clear tk38 _t; go_at_call 21; (with_reducible refine (nuncioref04_Under.calls kj4 a0 a1 t279 _ A16.out).mono ?_); rintro e w29 ⟨rfl, hb⟩; have n0_ := Aside0.mk (below_step (by repeat (first | (with_reducible first | exact HB.out | apply below_alloc | apply pw_below_drewN | apply below_drew1) | exact HB.out)) hb); clear HB; have HB := n0_; clear n0_; (try clear hb); (try clear hb2); (try clear hk); (try clear hi)) | (have _t : True := tk39; clear tk39 _t; go_at_call 20; (with_reducible refine (name_Under.calls kj4 a1 a0 t280 _ A18.out).mono ?_); rintro e w30 ⟨rfl, hb⟩; have n0_ := Aside0.mk (below_step (by repeat (first | (with_reducible first | exact HB.out | apply below_alloc | apply pw_below_drewN | apply below_drew1) | exact HB.out)) hb); clear HB; have HB := n0_; clear n0_; (try clear hb); (try clear hb2); (try clear hk); (try clear hi)) | (have _t : True := tk40; clear tk40 _t; go_at_call 21; (with_reducible refine (nuncioref04_Under.calls kj4 a1 a0 t281 _ A19.out).mono ?_); rintro e w31 ⟨rfl, hb⟩; have n0_ := Aside0.mk (below_step (by repeat (first | (with_reducible first | exact HB.out | apply below_alloc | apply pw_below_drewN | apply below_drew1) | exact HB.out)) hb); clear HB; have HB := n0_; clear n0_; (try clear hb); (try clear hb2); (try clear hk); (try clear hi)) | (have _t : True := tk41; clear tk41 _t; go_at_call 16; (with_reducible refine (name_Fold.calls kj4 a0 t282 _ A21.out).mono ?_); rintro e w32 ⟨rfl, hb⟩; have n0_ := Aside0.mk (below_step (by repeat (first | (with_reducible first | exact HB.out | apply below_alloc | apply pw_below_drewN | apply below_drew1) | exact HB.out)) hb); clear HB; have HB := n0_; clear n0_; (try clear hb); (try clear hb2); (try clear hk); (try clear hi)) | (have _t : True := tk42; clear tk42 _t; go_at_call 18; (with_reducible refine (name_Same.calls kj4 a0 t282 t283 _ A22.out).mono ?_); rintro e w33 ⟨rfl, hb⟩; have n0_ := Aside0.mk (below_step (by repeat (first | (with_reducible first | exact HB.out | apply below_alloc | apply pw_below_drewN | apply below_drew1) | exact HB.out)) hb); clear HB; have HB := n0_; clear n0_; (try clear hb); (try clear hb2); (try clear hk); (try clear hi)) | (go_at_call 13; (with_reducible refine (name_Is.calls kj4 a0 t284 _ A23.out).mono ?_); rintro e w34 ⟨rfl, hb⟩; have n0_ := Aside0.mk (below_step (by repeat (first | (with_reducible first | exact HB.out | apply below_alloc | apply pw_below_drewN | apply below_drew1) | exact HB.out)) hb); clear HB; have HB := n0_; clear n0_; (try clear hb); (try clear hb2); (try clear hk); (try clear hi)))
         go_ret
         exact ⟨by first | rfl | (simp [errW_none, errW_some] <;> rfl) | (simp [*, errW_none, errW_some] <;> rfl) | (have e_ := EA21.out; subst e_; rfl), by repeat (first | (with_reducible first | exact HB.out | apply below_alloc | apply pw_below_drewN | apply below_drew1) | exact HB.out)⟩
        ·
         rw [if_neg c20] at H
         have c20b0 : (t280 == t281) = false := by simpa using c20
         (try (have c20b1 : decide (t280 = t281) = false := by simpa using c20))
         (try (have c20b2 : (t280 == t281) = false := by simpa using c20))
         (try (have c20b3 : ¬ (t280 = t281) := by simpa using c20))
         clear c20
         exact absurd ((Option.some.inj H).trans HT.out) (by decide)
       ·
        rw [if_neg c17] at H
        have c17b0 : (t278 == t279) = false := by simpa using c17
        (try (have c17b1 : decide (t278 = t279) = false := by simpa using c17))
        (try (have c17b2 : (t278 == t279) = false := by simpa using c17))
        (try (have c17b3 : ¬ (t278 = t279) := by simpa using c17))
        clear c17
        exact absurd ((Option.some.inj H).trans HT.out) (by decide)
      ·
       rw [if_neg c14] at H
       have c14b0 : (t276 == t277) = false := by simpa using c14
       (try (have c14b1 : decide (t276 = t277) = false := by simpa using c14))
       (try (have c14b2 : (t276 == t277) = false := by simpa using c14))
       (try (have c14b3 : ¬ (t276 = t277) := by simpa using c14))
       clear c14
       exact absurd ((Option.some.inj H).trans HT.out) (by decide)
     ·
      rw [if_neg c11] at H
      have c11b0 : (t274.toList == t275.toList) = false := beq_eq_false_iff_ne.mpr c11
      have c11b1 : (t274.toList != t275.toList) = true := bne_iff_ne.mpr c11
      exact absurd ((Option.some.inj H).trans HT.out) (by decide)
 ·
  replace c4 := Bool.eq_false_iff.mpr c4
  subst c4
  have H1 : (some false) = some r := by rw [if_neg (show ¬ (false = true) by decide)] at H; exact H
  clear H
  have H := H1
  clear H1
  exact absurd ((Option.some.inj H).trans HT.out) (by decide)

/-- THE ONE PURE STATEMENT of nunciolaw04_NameFolds: yours. -/
def nunciolaw04_NameFolds.Pure : Prop := ∀ (a0 : ByteArray) (a1 : ByteArray), a0.size ≤ 140737488351232 → a1.size ≤ 140737488351232 → ∃ k, nunciolaw04_NameFolds.f k a0 a1 = some true
theorem nunciolaw04_NameFolds.walk (P : nunciolaw04_NameFolds.Pure) (a0 : ByteArray) (a1 : ByteArray) (w : World) (w0 : a0.size ≤ 140737488351232) (w1 : a1.size ≤ 140737488351232) :
  Calls Try.prog 4 #[.string a0, .string a1] w fun e w' => e = .returned (.bool true) ∧ Below w.heap.size w w' := by
 obtain ⟨k, h⟩ := P a0 a1 w0 w1
 refine (nunciolaw04_NameFolds.calls k a0 a1 true w h rfl).mono ?_
 rintro e w' ⟨rfl, hd⟩
 exact ⟨rfl, hd⟩

end Go.Proofs.Ytpnflloamidecaa.Mine
