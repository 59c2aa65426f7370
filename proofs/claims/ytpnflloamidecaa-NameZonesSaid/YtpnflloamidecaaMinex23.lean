-- Written by this repo's own printer (wip/print), which builds on the kit's.
import Derived.Test.YtpnflloamidecaaMinex0
import Derived.Test.YtpnflloamidecaaMinex1
import Derived.Test.YtpnflloamidecaaMinex2
import Derived.Test.YtpnflloamidecaaMinex3
import Derived.Test.YtpnflloamidecaaMinex4
import Derived.Test.YtpnflloamidecaaMinex9
import Derived.Test.YtpnflloamidecaaMinex14
namespace Go.Proofs.Ytpnflloamidecaa.Mine
open Go.RowKit Go.Proofs.YtpnflloamidecaaW.PrintWords Go.Proofs.YtpnflloamidecaaW.PrintLast Go.Proofs.YtpnflloamidecaaW.PrintMore
attribute [local go_sem] max2_int min2_int max_two min_two max_three min_three max_four min_four   -- for this text's walks alone
set_option linter.unusedVariables false
set_option linter.unusedSimpArgs false

/-! ### nunciolaw04_NameZones: function 7 -/
mutual
def nunciolaw04_NameZones.j0 : Nat → ByteArray → ByteArray → ByteArray → Bool → Option (Bool)
 | 0, _, _, _, _ => none
 | k + 1, x0, x1, x2, x33 => if x33 = true then (some true) else ((name_Under.f k x0 x0).bind fun t348 => (if t348 = true then ((name_Under.f k x0 (⟨#[0]⟩ : ByteArray)).bind fun t349 => (if t349 = true then ((name_Under.f k x0 x1).bind fun t350 => (if t350 = true then ((name_Under.f k x1 x0).bind fun t351 => ((name_Same.f k x0 x1).bind fun t352 => (nunciolaw04_NameZones.j1 k x0 x1 x2 (t351 != t352)))) else (nunciolaw04_NameZones.j1 k x0 x1 x2 false))) else (nunciolaw04_NameZones.j1 k x0 x1 x2 true))) else (nunciolaw04_NameZones.j1 k x0 x1 x2 true)))
def nunciolaw04_NameZones.j1 : Nat → ByteArray → ByteArray → ByteArray → Bool → Option (Bool)
 | 0, _, _, _, _ => none
 | k + 1, x0, x1, x2, x56 => if x56 = true then (some false) else ((some (([x2] : List ByteArray) : List ByteArray)).bind fun y353 => ((name_Labels.f k x0).bind fun t356 => (if y353.length + t356.length < 8796093022208 then ((name_Make.f k (y353 ++ t356)).bind fun bt362 => (if bt362.2 = 0 then ((name_Under.f k bt362.1 x0).bind fun t364 => (if t364 = true then ((name_Under.f k x0 bt362.1).bind fun t365 => (if t365 = true then (some false) else ((name_Under.f k x0 x1).bind fun t366 => (if t366 = true then ((name_Under.f k bt362.1 x1).bind fun t367 => (if t367 = true then (if (bt362.1.size : Int) = (wrap64 ((wrap64 ((x0.size : Int) + (x2.size : Int))) + 1)) then ((nuncioref02_Fold.f k bt362.1).bind fun t368 => ((name_Fold.f k bt362.1).bind fun t369 => (some (t368.toList == t369.toList)))) else (some false)) else (some false))) else (if (bt362.1.size : Int) = (wrap64 ((wrap64 ((x0.size : Int) + (x2.size : Int))) + 1)) then ((nuncioref02_Fold.f k bt362.1).bind fun t370 => ((name_Fold.f k bt362.1).bind fun t371 => (some (t370.toList == t371.toList)))) else (some false)))))) else (some false))) else (some (bt362.1.toList == ([] : List UInt8))))) else (none))))
end
def nunciolaw04_NameZones.f (k : Nat) (a0 : ByteArray) (a1 : ByteArray) (a2 : ByteArray) : Option (Bool) := (nunciolaw04_awake.f k).bind fun t345 => (if t345 = true then (if (a0.size : Int) > 5000 then (nunciolaw04_NameZones.j0 k a0 a1 a2 true) else (if (a1.size : Int) > 5000 then (nunciolaw04_NameZones.j0 k a0 a1 a2 true) else (if (a2.size : Int) > 100 then (nunciolaw04_NameZones.j0 k a0 a1 a2 true) else ((name_Is.f k a0).bind fun t346 => (if t346 = true then ((name_Is.f k a1).bind fun t347 => (nunciolaw04_NameZones.j0 k a0 a1 a2 (!t347))) else (nunciolaw04_NameZones.j0 k a0 a1 a2 true)))))) else (some false))
theorem nunciolaw04_NameZones.mono_l : ∀ k, (∀ y0 y1 y2 y3, LeO (nunciolaw04_NameZones.j0 k y0 y1 y2 y3) (nunciolaw04_NameZones.j0 (k + 1) y0 y1 y2 y3)) ∧ (∀ y0 y1 y2 y3, LeO (nunciolaw04_NameZones.j1 k y0 y1 y2 y3) (nunciolaw04_NameZones.j1 (k + 1) y0 y1 y2 y3))
 | 0 => ⟨fun _ _ _ _ r h => by simp [nunciolaw04_NameZones.j0] at h, fun _ _ _ _ r h => by simp [nunciolaw04_NameZones.j1] at h⟩
 | k + 1 => by
  obtain ⟨ih0, ih1⟩ := nunciolaw04_NameZones.mono_l k
  refine ⟨?_, ?_⟩
  ·
   intro y0 y1 y2 y3
   unfold nunciolaw04_NameZones.j0
   repeat' first
   | (with_reducible exact ih0 _ _ _ _)
   | (with_reducible exact ih1 _ _ _ _)
   | (with_reducible exact name_Fold.mono _ _)
   | (with_reducible exact name_Is.mono _ _)
   | (with_reducible exact name_Labels.mono _ _)
   | (with_reducible exact name_Make.mono _ _)
   | (with_reducible exact name_Same.mono _ _ _)
   | (with_reducible exact name_Under.mono _ _ _)
   | (with_reducible exact nunciolaw04_awake.mono _)
   | (with_reducible exact nuncioref02_Fold.mono _ _)
   | (with_reducible exact LeO.refl _)
   | (with_reducible exact LeO.none _)
   | (with_reducible refine LeO.ite ?_ ?_)
   | (with_reducible refine LeO.bind ?_ (fun _ => ?_))
   | exact ih0 _ _ _ _
   | exact ih1 _ _ _ _
   | exact name_Fold.mono _ _
   | exact name_Is.mono _ _
   | exact name_Labels.mono _ _
   | exact name_Make.mono _ _
   | exact name_Same.mono _ _ _
   | exact name_Under.mono _ _ _
   | exact nunciolaw04_awake.mono _
   | exact nuncioref02_Fold.mono _ _
   | exact LeO.none _
   | refine LeO.ite ?_ ?_
   | refine LeO.bind ?_ (fun _ => ?_)
  ·
   intro y0 y1 y2 y3
   unfold nunciolaw04_NameZones.j1
   repeat' first
   | (with_reducible exact ih0 _ _ _ _)
   | (with_reducible exact ih1 _ _ _ _)
   | (with_reducible exact name_Fold.mono _ _)
   | (with_reducible exact name_Is.mono _ _)
   | (with_reducible exact name_Labels.mono _ _)
   | (with_reducible exact name_Make.mono _ _)
   | (with_reducible exact name_Same.mono _ _ _)
   | (with_reducible exact name_Under.mono _ _ _)
   | (with_reducible exact nunciolaw04_awake.mono _)
   | (with_reducible exact nuncioref02_Fold.mono _ _)
   | (with_reducible exact LeO.refl _)
   | (with_reducible exact LeO.none _)
   | (with_reducible refine LeO.ite ?_ ?_)
   | (with_reducible refine LeO.bind ?_ (fun _ => ?_))
   | exact ih0 _ _ _ _
   | exact ih1 _ _ _ _
   | exact name_Fold.mono _ _
   | exact name_Is.mono _ _
   | exact name_Labels.mono _ _
   | exact name_Make.mono _ _
   | exact name_Same.mono _ _ _
   | exact name_Under.mono _ _ _
   | exact nunciolaw04_awake.mono _
   | exact nuncioref02_Fold.mono _ _
   | exact LeO.none _
   | refine LeO.ite ?_ ?_
   | refine LeO.bind ?_ (fun _ => ?_)
theorem nunciolaw04_NameZones.mono : ∀ a0 a1 a2 k, LeO (nunciolaw04_NameZones.f k a0 a1 a2) (nunciolaw04_NameZones.f (k + 1) a0 a1 a2) := by
 intro a0 a1 a2 k
 obtain ⟨ih0, ih1⟩ := nunciolaw04_NameZones.mono_l k
 unfold nunciolaw04_NameZones.f
 repeat' first
   | (with_reducible exact ih0 _ _ _ _)
   | (with_reducible exact ih1 _ _ _ _)
   | (with_reducible exact name_Fold.mono _ _)
   | (with_reducible exact name_Is.mono _ _)
   | (with_reducible exact name_Labels.mono _ _)
   | (with_reducible exact name_Make.mono _ _)
   | (with_reducible exact name_Same.mono _ _ _)
   | (with_reducible exact name_Under.mono _ _ _)
   | (with_reducible exact nunciolaw04_awake.mono _)
   | (with_reducible exact nuncioref02_Fold.mono _ _)
   | (with_reducible exact LeO.refl _)
   | (with_reducible exact LeO.none _)
   | (with_reducible refine LeO.ite ?_ ?_)
   | (with_reducible refine LeO.bind ?_ (fun _ => ?_))
   | exact ih0 _ _ _ _
   | exact ih1 _ _ _ _
   | exact name_Fold.mono _ _
   | exact name_Is.mono _ _
   | exact name_Labels.mono _ _
   | exact name_Make.mono _ _
   | exact name_Same.mono _ _ _
   | exact name_Under.mono _ _ _
   | exact nunciolaw04_awake.mono _
   | exact nuncioref02_Fold.mono _ _
   | exact LeO.none _
   | refine LeO.ite ?_ ?_
   | refine LeO.bind ?_ (fun _ => ?_)
set_option maxHeartbeats 8000000 in
set_option maxRecDepth 100000 in
theorem nunciolaw04_NameZones.calls (k : Nat) (a0 : ByteArray) (a1 : ByteArray) (a2 : ByteArray) (r : Bool) (w : World) (h : nunciolaw04_NameZones.f k a0 a1 a2 = some r) (hT : r = true) :
  Calls Try.prog 7 #[.string a0, .string a1, .string a2] w fun e w' => e = .returned (.bool r) ∧ Below w.heap.size w w' := by
 have HB := Aside0.mk (Below.refl w.heap.size w)
 have HT := Aside0.mk hT
 clear hT
 have H : ((nunciolaw04_awake.f k).bind fun t345 => (if t345 = true then (if (a0.size : Int) > 5000 then (nunciolaw04_NameZones.j0 k a0 a1 a2 true) else (if (a1.size : Int) > 5000 then (nunciolaw04_NameZones.j0 k a0 a1 a2 true) else (if (a2.size : Int) > 100 then (nunciolaw04_NameZones.j0 k a0 a1 a2 true) else ((name_Is.f k a0).bind fun t346 => (if t346 = true then ((name_Is.f k a1).bind fun t347 => (nunciolaw04_NameZones.j0 k a0 a1 a2 (!t347))) else (nunciolaw04_NameZones.j0 k a0 a1 a2 true)))))) else (some false))) = some r := h
 clear h
 replace H := Option.bind_eq_some_iff.mp H
 obtain ⟨t345, A40, H⟩ := H
 replace H : (if t345 = true then (if (a0.size : Int) > 5000 then (nunciolaw04_NameZones.j0 k a0 a1 a2 true) else (if (a1.size : Int) > 5000 then (nunciolaw04_NameZones.j0 k a0 a1 a2 true) else (if (a2.size : Int) > 100 then (nunciolaw04_NameZones.j0 k a0 a1 a2 true) else ((name_Is.f k a0).bind fun t346 => (if t346 = true then ((name_Is.f k a1).bind fun t347 => (nunciolaw04_NameZones.j0 k a0 a1 a2 (!t347))) else (nunciolaw04_NameZones.j0 k a0 a1 a2 true)))))) else (some false)) = some r := H
 have A4 := Aside0.mk A40
 clear A40
 by_cases c5 : t345 = true
 ·
  subst c5
  have H1 : (if (a0.size : Int) > 5000 then (nunciolaw04_NameZones.j0 k a0 a1 a2 true) else (if (a1.size : Int) > 5000 then (nunciolaw04_NameZones.j0 k a0 a1 a2 true) else (if (a2.size : Int) > 100 then (nunciolaw04_NameZones.j0 k a0 a1 a2 true) else ((name_Is.f k a0).bind fun t346 => (if t346 = true then ((name_Is.f k a1).bind fun t347 => (nunciolaw04_NameZones.j0 k a0 a1 a2 (!t347))) else (nunciolaw04_NameZones.j0 k a0 a1 a2 true)))))) = some r := by rw [if_pos rfl] at H; exact H
  clear H
  have H := H1
  clear H1
  have HC6 := Aside0.mk H
  clear H
  go_enter Try.func7, Try.ntmps7
  go_upto_region 3 with (first | ((with_reducible refine gate_callee (f := 8) rfl ?_); refine goesL_ (some 9) rfl rfl Try.func8 (by kernel_rfl) rfl #[] rfl (by (try simp only [List.map_toArray, List.map_cons, List.map_nil]); first | done | rfl | (simp only [List.length_drop, List.length_take]; rfl)) ?_; (with_reducible refine (nunciolaw04_awake.calls k  true _ A4.out).mono ?_); rintro e w7 ⟨rfl, hb⟩; refine ⟨_, rfl, ?_⟩; have n0_ := Aside0.mk (below_step (by repeat (first | (with_reducible first | exact HB.out | apply below_alloc | apply pw_below_drewN | apply below_drew1) | exact HB.out)) hb); clear HB; have HB := n0_; clear n0_; (try clear hb); (try clear hb2); (try clear hk); (try clear hi)))
  (try simp only [Act.put, List.setIfInBounds_toArray, List.set_cons_zero, List.set_cons_succ])
  go_cut [33] (fun v33 wc => ∃ (kq : Nat) (x33_5 : Bool), v33 = .bool x33_5 ∧ Aside0 (nunciolaw04_NameZones.j0 kq a0 a1 a2 x33_5 = some r) ∧ Aside0 (kq ≤ k) ∧ Aside0 (Below w.heap.size w wc))
  case first =>
   have H := HC6.out
   clear HC6
   by_cases c8 : (a0.size : Int) > 5000
   ·
    rw [if_pos c8] at H
    have c8b0 : decide (5000 < (a0.size : Int)) = true := decide_eq_true c8
    have c8b1 : decide (5000 < a0.size) = true := decide_eq_true (by omega)
    clear c8
    (first | rw [c8b0] | (simp only [i64_w, i32_w]; rw [c8b0]) | skip)
    have H' := Aside0.mk H
    clear H
    go_wp2
    go_meet
    case rel => exact ⟨_, (true), (by first | rfl | (simp; done) | (simp [*]; done)), H', ⟨by first | omega | exact Nat.le_refl _⟩, ⟨by repeat (first | (with_reducible first | exact HB.out | apply below_alloc | apply pw_below_drewN | apply below_drew1) | exact HB.out)⟩⟩
   ·
    rw [if_neg c8] at H
    have c8b0 : decide (5000 < (a0.size : Int)) = false := decide_eq_false c8
    have c8b1 : decide (5000 < a0.size) = false := decide_eq_false (by omega)
    clear c8
    (first | rw [c8b0] | (simp only [i64_w, i32_w]; rw [c8b0]) | skip)
    by_cases c9 : (a1.size : Int) > 5000
    ·
     rw [if_pos c9] at H
     have c9b0 : decide (5000 < (a1.size : Int)) = true := decide_eq_true c9
     have c9b1 : decide (5000 < a1.size) = true := decide_eq_true (by omega)
     clear c9
     have H' := Aside0.mk H
     clear H
     go_wp2
     go_meet
     case rel => exact ⟨_, (true), (by first | rfl | (simp; done) | (simp [*]; done)), H', ⟨by first | omega | exact Nat.le_refl _⟩, ⟨by repeat (first | (with_reducible first | exact HB.out | apply below_alloc | apply pw_below_drewN | apply below_drew1) | exact HB.out)⟩⟩
    ·
     rw [if_neg c9] at H
     have c9b0 : decide (5000 < (a1.size : Int)) = false := decide_eq_false c9
     have c9b1 : decide (5000 < a1.size) = false := decide_eq_false (by omega)
     clear c9
     by_cases c10 : (a2.size : Int) > 100
     ·
      rw [if_pos c10] at H
      have c10b0 : decide (100 < (a2.size : Int)) = true := decide_eq_true c10
      have c10b1 : decide (100 < a2.size) = true := decide_eq_true (by omega)
      clear c10
      have H' := Aside0.mk H
      clear H
      go_wp2
      go_meet
      case rel => exact ⟨_, (true), (by first | rfl | (simp; done) | (simp [*]; done)), H', ⟨by first | omega | exact Nat.le_refl _⟩, ⟨by repeat (first | (with_reducible first | exact HB.out | apply below_alloc | apply pw_below_drewN | apply below_drew1) | exact HB.out)⟩⟩
     ·
      rw [if_neg c10] at H
      have c10b0 : decide (100 < (a2.size : Int)) = false := decide_eq_false c10
      have c10b1 : decide (100 < a2.size) = false := decide_eq_false (by omega)
      clear c10
      replace H := Option.bind_eq_some_iff.mp H
      obtain ⟨t346, A110, H⟩ := H
      replace H : (if t346 = true then ((name_Is.f k a1).bind fun t347 => (nunciolaw04_NameZones.j0 k a0 a1 a2 (!t347))) else (nunciolaw04_NameZones.j0 k a0 a1 a2 true)) = some r := H
      have A11 := Aside0.mk A110
      clear A110
      by_cases c12 : t346 = true
      ·
       subst c12
       have H1 : ((name_Is.f k a1).bind fun t347 => (nunciolaw04_NameZones.j0 k a0 a1 a2 (!t347))) = some r := by rw [if_pos rfl] at H; exact H
       clear H
       have H := H1
       clear H1
       replace H := Option.bind_eq_some_iff.mp H
       obtain ⟨t347, A130, H⟩ := H
       replace H : (nunciolaw04_NameZones.j0 k a0 a1 a2 (!t347)) = some r := H
       have A13 := Aside0.mk A130
       clear A130
       have H' := Aside0.mk H
       clear H
       have tk16 : True := trivial
       have tk17 : True := trivial
       go_wp2_with (first | (have _t : True := tk16; clear tk16 _t; go_at_call 13; (with_reducible refine (name_Is.calls k a0 true _ A11.out).mono ?_); rintro e w14 ⟨rfl, hb⟩; have n0_ := Aside0.mk (below_step (by repeat (first | (with_reducible first | exact HB.out | apply below_alloc | apply pw_below_drewN | apply below_drew1) | exact HB.out)) hb); clear HB; have HB := n0_; clear n0_; (try clear hb); (try clear hb2); (try clear hk); (try clear hi)) | (have _t : True := tk17; clear tk17 _t; go_at_call 13; (with_reducible refine (name_Is.calls k a1 t347 _ A13.out).mono ?_); rintro e w15 ⟨rfl, hb⟩; have n0_ := Aside0.mk (below_step (by repeat (first | (with_reducible first | exact HB.out | apply below_alloc | apply pw_below_drewN | apply below_drew1) | exact HB.out)) hb); clear HB; have HB := n0_; clear n0_; (try clear hb); (try clear hb2); (try clear hk); (try clear hi)))
       go_meet
       case rel => exact ⟨_, (!t347), (by first | rfl | (simp; done) | (simp [*]; done)), H', ⟨by first | omega | exact Nat.le_refl _⟩, ⟨by repeat (first | (with_reducible first | exact HB.out | apply below_alloc | apply pw_below_drewN | apply below_drew1) | exact HB.out)⟩⟩
      ·
       replace c12 := Bool.eq_false_iff.mpr c12
       subst c12
       have H1 : (nunciolaw04_NameZones.j0 k a0 a1 a2 true) = some r := by rw [if_neg (show ¬ (false = true) by decide)] at H; exact H
       clear H
       have H := H1
       clear H1
       have H' := Aside0.mk H
       clear H
       go_wp2_with (first | (go_at_call 13; (with_reducible refine (name_Is.calls k a0 false _ A11.out).mono ?_); rintro e w18 ⟨rfl, hb⟩; have n0_ := Aside0.mk (below_step (by repeat (first | (with_reducible first | exact HB.out | apply below_alloc | apply pw_below_drewN | apply below_drew1) | exact HB.out)) hb); clear HB; have HB := n0_; clear n0_; (try clear hb); (try clear hb2); (try clear hk); (try clear hi)))
       go_meet
       case rel => exact ⟨_, (true), (by first | rfl | (simp; done) | (simp [*]; done)), H', ⟨by first | omega | exact Nat.le_refl _⟩, ⟨by repeat (first | (with_reducible first | exact HB.out | apply below_alloc | apply pw_below_drewN | apply below_drew1) | exact HB.out)⟩⟩
  case rest =>
   clear HC6
   try clear c1
   try clear p2
   try clear c5
   try clear c7
   try clear c8
   try clear c8b0
   try clear c8b1
   try clear c9
   try clear c9b0
   try clear c9b1
   try clear c10
   try clear c10b0
   try clear c10b1
   try clear c12
   obtain ⟨kq, x33_5, rfl, HA, HJ5, HB⟩ := hcut
   cases kq with
   | zero => exact absurd HA.out (by simp [nunciolaw04_NameZones.j0])
   | succ kj5 =>
    have H := HA.out
    clear HA
    simp only [nunciolaw04_NameZones.j0] at H
    by_cases c19 : x33_5 = true
    ·
     subst c19
     have H1 : (some true) = some r := by rw [if_pos rfl] at H; exact H
     clear H
     have H := H1
     clear H1
     obtain rfl := Option.some.inj H
     go_wp2
     go_ret
     exact ⟨by first | rfl | (simp [errW_none, errW_some] <;> rfl) | (simp [*, errW_none, errW_some] <;> rfl), by repeat (first | (with_reducible first | exact HB.out | apply below_alloc | apply pw_below_drewN | apply below_drew1) | exact HB.out)⟩
    ·
     replace c19 := Bool.eq_false_iff.mpr c19
     subst c19
     have H1 : ((name_Under.f kj5 a0 a0).bind fun t348 => (if t348 = true then ((name_Under.f kj5 a0 (⟨#[0]⟩ : ByteArray)).bind fun t349 => (if t349 = true then ((name_Under.f kj5 a0 a1).bind fun t350 => (if t350 = true then ((name_Under.f kj5 a1 a0).bind fun t351 => ((name_Same.f kj5 a0 a1).bind fun t352 => (nunciolaw04_NameZones.j1 kj5 a0 a1 a2 (t351 != t352)))) else (nunciolaw04_NameZones.j1 kj5 a0 a1 a2 false))) else (nunciolaw04_NameZones.j1 kj5 a0 a1 a2 true))) else (nunciolaw04_NameZones.j1 kj5 a0 a1 a2 true))) = some r := by rw [if_neg (show ¬ (false = true) by decide)] at H; exact H
     clear H
     have H := H1
     clear H1
     have HC20 := Aside0.mk H
     clear H
     go_upto_region 5 with (fail)
     go_cut [56] (fun v56 wc => ∃ (kq : Nat) (x56_19 : Bool), v56 = .bool x56_19 ∧ Aside0 (nunciolaw04_NameZones.j1 kq a0 a1 a2 x56_19 = some r) ∧ Aside0 (kq ≤ kj5) ∧ Aside0 (Below w.heap.size w wc))
     case first =>
      have H := HC20.out
      clear HC20
      replace H := Option.bind_eq_some_iff.mp H
      obtain ⟨t348, A210, H⟩ := H
      replace H : (if t348 = true then ((name_Under.f kj5 a0 (⟨#[0]⟩ : ByteArray)).bind fun t349 => (if t349 = true then ((name_Under.f kj5 a0 a1).bind fun t350 => (if t350 = true then ((name_Under.f kj5 a1 a0).bind fun t351 => ((name_Same.f kj5 a0 a1).bind fun t352 => (nunciolaw04_NameZones.j1 kj5 a0 a1 a2 (t351 != t352)))) else (nunciolaw04_NameZones.j1 kj5 a0 a1 a2 false))) else (nunciolaw04_NameZones.j1 kj5 a0 a1 a2 true))) else (nunciolaw04_NameZones.j1 kj5 a0 a1 a2 true)) = some r := H
      have A21 := Aside0.mk A210
      clear A210
      by_cases c22 : t348 = true
      ·
       subst c22
       have H1 : ((name_Under.f kj5 a0 (⟨#[0]⟩ : ByteArray)).bind fun t349 => (if t349 = true then ((name_Under.f kj5 a0 a1).bind fun t350 => (if t350 = true then ((name_Under.f kj5 a1 a0).bind fun t351 => ((name_Same.f kj5 a0 a1).bind fun t352 => (nunciolaw04_NameZones.j1 kj5 a0 a1 a2 (t351 != t352)))) else (nunciolaw04_NameZones.j1 kj5 a0 a1 a2 false))) else (nunciolaw04_NameZones.j1 kj5 a0 a1 a2 true))) = some r := by rw [if_pos rfl] at H; exact H
       clear H
       have H := H1
       clear H1
       replace H := Option.bind_eq_some_iff.mp H
       obtain ⟨t349, A230, H⟩ := H
       replace H : (if t349 = true then ((name_Under.f kj5 a0 a1).bind fun t350 => (if t350 = true then ((name_Under.f kj5 a1 a0).bind fun t351 => ((name_Same.f kj5 a0 a1).bind fun t352 => (nunciolaw04_NameZones.j1 kj5 a0 a1 a2 (t351 != t352)))) else (nunciolaw04_NameZones.j1 kj5 a0 a1 a2 false))) else (nunciolaw04_NameZones.j1 kj5 a0 a1 a2 true)) = some r := H
       have A23 := Aside0.mk A230
       clear A230
       by_cases c24 : t349 = true
       ·
        subst c24
        have H1 : ((name_Under.f kj5 a0 a1).bind fun t350 => (if t350 = true then ((name_Under.f kj5 a1 a0).bind fun t351 => ((name_Same.f kj5 a0 a1).bind fun t352 => (nunciolaw04_NameZones.j1 kj5 a0 a1 a2 (t351 != t352)))) else (nunciolaw04_NameZones.j1 kj5 a0 a1 a2 false))) = some r := by rw [if_pos rfl] at H; exact H
        clear H
        have H := H1
        clear H1
        replace H := Option.bind_eq_some_iff.mp H
        obtain ⟨t350, A250, H⟩ := H
        replace H : (if t350 = true then ((name_Under.f kj5 a1 a0).bind fun t351 => ((name_Same.f kj5 a0 a1).bind fun t352 => (nunciolaw04_NameZones.j1 kj5 a0 a1 a2 (t351 != t352)))) else (nunciolaw04_NameZones.j1 kj5 a0 a1 a2 false)) = some r := H
        have A25 := Aside0.mk A250
        clear A250
        by_cases c26 : t350 = true
        ·
         subst c26
         have H1 : ((name_Under.f kj5 a1 a0).bind fun t351 => ((name_Same.f kj5 a0 a1).bind fun t352 => (nunciolaw04_NameZones.j1 kj5 a0 a1 a2 (t351 != t352)))) = some r := by rw [if_pos rfl] at H; exact H
         clear H
         have H := H1
         clear H1
         replace H := Option.bind_eq_some_iff.mp H
         obtain ⟨t351, A270, H⟩ := H
         replace H : ((name_Same.f kj5 a0 a1).bind fun t352 => (nunciolaw04_NameZones.j1 kj5 a0 a1 a2 (t351 != t352))) = some r := H
         have A27 := Aside0.mk A270
         clear A270
         replace H := Option.bind_eq_some_iff.mp H
         obtain ⟨t352, A280, H⟩ := H
         replace H : (nunciolaw04_NameZones.j1 kj5 a0 a1 a2 (t351 != t352)) = some r := H
         have A28 := Aside0.mk A280
         clear A280
         have H' := Aside0.mk H
         clear H
         have tk34 : True := trivial
         have tk35 : True := trivial
         have tk36 : True := trivial
         have tk37 : True := trivial
         go_wp2_with (first | (have _t : True := tk34; clear tk34 _t; (with_reducible refine gate_callee (f := 20) rfl ?_); refine goesL_ (some 36) rfl rfl Try.func20 (by kernel_rfl) rfl #[.string a0, .string a0] rfl (by (try simp only [List.map_toArray, List.map_cons, List.map_nil]); first | done | rfl | (simp only [List.length_drop, List.length_take]; rfl)) ?_; (with_reducible refine (name_Under.calls kj5 a0 a0 true _ A21.out).mono ?_); rintro e w29 ⟨rfl, hb⟩; refine ⟨_, rfl, ?_⟩; have n0_ := Aside0.mk (below_step (by repeat (first | (with_reducible first | exact HB.out | apply below_alloc | apply pw_below_drewN | apply below_drew1) | exact HB.out)) hb); clear HB; have HB := n0_; clear n0_; (try clear hb); (try clear hb2); (try clear hk); (try clear hi)) | (have _t : True := tk35; clear tk35 _t; go_at_call 20; (with_reducible refine (name_Under.calls kj5 a0 (⟨#[0]⟩ : ByteArray) true _ A23.out).mono ?_); rintro e w30 ⟨rfl, hb⟩; have n0_ := Aside0.mk (below_step (by repeat (first | (with_reducible first | exact HB.out | apply below_alloc | apply pw_below_drewN | apply below_drew1) | exact HB.out)) hb); clear HB; have HB := n0_; clear n0_; (try clear hb); (try clear hb2); (try clear hk); (try clear hi)) | (have _t : True := tk36; clear tk36 _t; go_at_call 20; (with_reducible refine (name_Under.calls kj5 a0 a1 true _ A25.out).mono ?_); rintro e w31 ⟨rfl, hb⟩; have n0_ := Aside0.mk (below_step (by repeat (first | (with_reducible first | exact HB.out | apply below_alloc | apply pw_below_drewN | apply below_drew1) | exact HB.out)) hb); clear HB; have HB := n0_; clear n0_; (try clear hb); (try clear hb2); (try clear hk); (try clear hi)) | (have _t : True := tk37; clear tk37 _t; go_at_call 20; (with_reducible refine (name_Under.calls kj5 a1 a0 t351 _ A27.out).mono ?_); rintro e w32 ⟨rfl, hb⟩; have n0_ := Aside0.mk (below_step (by repeat (first | (with_reducible first | exact HB.out | apply below_alloc | apply pw_below_drewN | apply below_drew1) | exact HB.out)) hb); clear HB; have HB := n0_; clear n0_; (try clear hb); (try clear hb2); (try clear hk); (try clear hi)) | (go_at_call 18; (with_reducible refine (name_Same.calls kj5 a0 a1 t352 _ A28.out).mono ?_); rintro e w33 ⟨rfl, hb⟩; have n0_ := Aside0.mk (below_step (by repeat (first | (with_reducible first | exact HB.out | apply below_alloc | apply pw_below_drewN | apply below_drew1) | exact HB.out)) hb); clear HB; have HB := n0_; clear n0_; (try clear hb); (try clear hb2); (try clear hk); (try clear hi)))
         go_meet
         case rel => exact ⟨_, ((t351 != t352)), (by first | rfl | (simp; done) | (simp [*]; done)), H', ⟨by have := HJ5.out; first | omega | exact Nat.le_refl _⟩, ⟨by repeat (first | (with_reducible first | exact HB.out | apply below_alloc | apply pw_below_drewN | apply below_drew1) | exact HB.out)⟩⟩
        ·
         replace c26 := Bool.eq_false_iff.mpr c26
         subst c26
         have H1 : (nunciolaw04_NameZones.j1 kj5 a0 a1 a2 false) = some r := by rw [if_neg (show ¬ (false = true) by decide)] at H; exact H
         clear H
         have H := H1
         clear H1
         have H' := Aside0.mk H
         clear H
         have tk41 : True := trivial
         have tk42 : True := trivial
         have tk43 : True := trivial
         go_wp2_with (first | (have _t : True := tk41; clear tk41 _t; (with_reducible refine gate_callee (f := 20) rfl ?_); refine goesL_ (some 36) rfl rfl Try.func20 (by kernel_rfl) rfl #[.string a0, .string a0] rfl (by (try simp only [List.map_toArray, List.map_cons, List.map_nil]); first | done | rfl | (simp only [List.length_drop, List.length_take]; rfl)) ?_; (with_reducible refine (name_Under.calls kj5 a0 a0 true _ A21.out).mono ?_); rintro e w38 ⟨rfl, hb⟩; refine ⟨_, rfl, ?_⟩; have n0_ := Aside0.mk (below_step (by repeat (first | (with_reducible first | exact HB.out | apply below_alloc | apply pw_below_drewN | apply below_drew1) | exact HB.out)) hb); clear HB; have HB := n0_; clear n0_; (try clear hb); (try clear hb2); (try clear hk); (try clear hi)) | (have _t : True := tk42; clear tk42 _t; go_at_call 20; (with_reducible refine (name_Under.calls kj5 a0 (⟨#[0]⟩ : ByteArray) true _ A23.out).mono ?_); rintro e w39 ⟨rfl, hb⟩; have n0_ := Aside0.mk (below_step (by repeat (first | (with_reducible first | exact HB.out | apply below_alloc | apply pw_below_drewN | apply below_drew1) | exact HB.out)) hb); clear HB; have HB := n0_; clear n0_; (try clear hb); (try clear hb2); (try clear hk); (try clear hi)) | (have _t : True := tk43; clear tk43 _t; go_at_call 20; (with_reducible refine (name_Under.calls kj5 a0 a1 false _ A25.out).mono ?_); rintro e w40 ⟨rfl, hb⟩; have n0_ := Aside0.mk (below_step (by repeat (first | (with_reducible first | exact HB.out | apply below_alloc | apply pw_below_drewN | apply below_drew1) | exact HB.out)) hb); clear HB; have HB := n0_; clear n0_; (try clear hb); (try clear hb2); (try clear hk); (try clear hi)))
         go_meet
         case rel => exact ⟨_, (false), (by first | rfl | (simp; done) | (simp [*]; done)), H', ⟨by have := HJ5.out; first | omega | exact Nat.le_refl _⟩, ⟨by repeat (first | (with_reducible first | exact HB.out | apply below_alloc | apply pw_below_drewN | apply below_drew1) | exact HB.out)⟩⟩
       ·
        replace c24 := Bool.eq_false_iff.mpr c24
        subst c24
        have H1 : (nunciolaw04_NameZones.j1 kj5 a0 a1 a2 true) = some r := by rw [if_neg (show ¬ (false = true) by decide)] at H; exact H
        clear H
        have H := H1
        clear H1
        have H' := Aside0.mk H
        clear H
        have tk46 : True := trivial
        have tk47 : True := trivial
        go_wp2_with (first | (have _t : True := tk46; clear tk46 _t; (with_reducible refine gate_callee (f := 20) rfl ?_); refine goesL_ (some 36) rfl rfl Try.func20 (by kernel_rfl) rfl #[.string a0, .string a0] rfl (by (try simp only [List.map_toArray, List.map_cons, List.map_nil]); first | done | rfl | (simp only [List.length_drop, List.length_take]; rfl)) ?_; (with_reducible refine (name_Under.calls kj5 a0 a0 true _ A21.out).mono ?_); rintro e w44 ⟨rfl, hb⟩; refine ⟨_, rfl, ?_⟩; have n0_ := Aside0.mk (below_step (by repeat (first | (with_reducible first | exact HB.out | apply below_alloc | apply pw_below_drewN | apply below_drew1) | exact HB.out)) hb); clear HB; have HB := n0_; clear n0_; (try clear hb); (try clear hb2); (try clear hk); (try clear hi)) | (have _t : True := tk47; clear tk47 _t; go_at_call 20; (with_reducible refine (name_Under.calls kj5 a0 (⟨#[0]⟩ : ByteArray) false _ A23.out).mono ?_); rintro e w45 ⟨rfl, hb⟩; have n0_ := Aside0.mk (below_step (by repeat (first | (with_reducible first | exact HB.out | apply below_alloc | apply pw_below_drewN | apply below_drew1) | exact HB.out)) hb); clear HB; have HB := n0_; clear n0_; (try clear hb); (try clear hb2); (try clear hk); (try clear hi)))
        go_meet
        case rel => exact ⟨_, (true), (by first | rfl | (simp; done) | (simp [*]; done)), H', ⟨by have := HJ5.out; first | omega | exact Nat.le_refl _⟩, ⟨by repeat (first | (with_reducible first | exact HB.out | apply below_alloc | apply pw_below_drewN | apply below_drew1) | exact HB.out)⟩⟩
      ·
       replace c22 := Bool.eq_false_iff.mpr c22
       subst c22
       have H1 : (nunciolaw04_NameZones.j1 kj5 a0 a1 a2 true) = some r := by rw [if_neg (show ¬ (false = true) by decide)] at H; exact H
       clear H
       have H := H1
       clear H1
       have H' := Aside0.mk H
       clear H
       go_wp2_with (first | ((with_reducible refine gate_callee (f := 20) rfl ?_); refine goesL_ (some 36) rfl rfl Try.func20 (by kernel_rfl) rfl #[.string a0, .string a0] rfl (by (try simp only [List.map_toArray, List.map_cons, List.map_nil]); first | done | rfl | (simp only [List.length_drop, List.length_take]; rfl)) ?_; (with_reducible refine (name_Under.calls kj5 a0 a0 false _ A21.out).mono ?_); rintro e w48 ⟨rfl, hb⟩; refine ⟨_, rfl, ?_⟩; have n0_ := Aside0.mk (below_step (by repeat (first | (with_reducible first | exact HB.out | apply below_alloc | apply pw_below_drewN | apply below_drew1) | exact HB.out)) hb); clear HB; have HB := n0_; clear n0_; (try clear hb); (try clear hb2); (try clear hk); (try clear hi)))
       go_meet
       case rel => exact ⟨_, (true), (by first | rfl | (simp; done) | (simp [*]; done)), H', ⟨by have := HJ5.out; first | omega | exact Nat.le_refl _⟩, ⟨by repeat (first | (with_reducible first | exact HB.out | apply below_alloc | apply pw_below_drewN | apply below_drew1) | exact HB.out)⟩⟩
     case rest =>
      clear HC20
      try clear c1
      try clear c2
      try clear p2
      try clear c5
      try clear c7
      try clear c8
      try clear c8b0
      try clear c8b1
      try clear c9
      try clear c9b0
      try clear c9b1
      try clear c10
      try clear c10b0
      try clear c10b1
      try clear c12
      try clear c19
      try clear c20
      try clear c22
      try clear c24
      try clear c26
      try clear p2
      obtain ⟨kq, x56_19, rfl, HA, HJ19, HB⟩ := hcut
      cases kq with
      | zero => exact absurd HA.out (by simp [nunciolaw04_NameZones.j1])
      | succ kj19 =>
       have H := HA.out
       clear HA
       simp only [nunciolaw04_NameZones.j1] at H
       by_cases c49 : x56_19 = true
       ·
        subst c49
        have H1 : (some false) = some r := by rw [if_pos rfl] at H; exact H
        clear H
        have H := H1
        clear H1
        exact absurd ((Option.some.inj H).trans HT.out) (by decide)
       ·
        replace c49 := Bool.eq_false_iff.mpr c49
        subst c49
        have H1 : ((some (([a2] : List ByteArray) : List ByteArray)).bind fun y353 => ((name_Labels.f kj19 a0).bind fun t356 => (if y353.length + t356.length < 8796093022208 then ((name_Make.f kj19 (y353 ++ t356)).bind fun bt362 => (if bt362.2 = 0 then ((name_Under.f kj19 bt362.1 a0).bind fun t364 => (if t364 = true then ((name_Under.f kj19 a0 bt362.1).bind fun t365 => (if t365 = true then (some false) else ((name_Under.f kj19 a0 a1).bind fun t366 => (if t366 = true then ((name_Under.f kj19 bt362.1 a1).bind fun t367 => (if t367 = true then (if (bt362.1.size : Int) = (wrap64 ((wrap64 ((a0.size : Int) + (a2.size : Int))) + 1)) then ((nuncioref02_Fold.f kj19 bt362.1).bind fun t368 => ((name_Fold.f kj19 bt362.1).bind fun t369 => (some (t368.toList == t369.toList)))) else (some false)) else (some false))) else (if (bt362.1.size : Int) = (wrap64 ((wrap64 ((a0.size : Int) + (a2.size : Int))) + 1)) then ((nuncioref02_Fold.f kj19 bt362.1).bind fun t370 => ((name_Fold.f kj19 bt362.1).bind fun t371 => (some (t370.toList == t371.toList)))) else (some false)))))) else (some false))) else (some (bt362.1.toList == ([] : List UInt8))))) else (none)))) = some r := by rw [if_neg (show ¬ (false = true) by decide)] at H; exact H
        clear H
        have H := H1
        clear H1
        obtain ⟨y353, hy353⟩ : ∃ y_ : List ByteArray, y_ = (([a2] : List ByteArray)) := ⟨_, rfl⟩
        replace H : ((name_Labels.f kj19 a0).bind fun t356 => (if y353.length + t356.length < 8796093022208 then ((name_Make.f kj19 (y353 ++ t356)).bind fun bt362 => (if bt362.2 = 0 then ((name_Under.f kj19 bt362.1 a0).bind fun t364 => (if t364 = true then ((name_Under.f kj19 a0 bt362.1).bind fun t365 => (if t365 = true then (some false) else ((name_Under.f kj19 a0 a1).bind fun t366 => (if t366 = true then ((name_Under.f kj19 bt362.1 a1).bind fun t367 => (if t367 = true then (if (bt362.1.size : Int) = (wrap64 ((wrap64 ((a0.size : Int) + (a2.size : Int))) + 1)) then ((nuncioref02_Fold.f kj19 bt362.1).bind fun t368 => ((name_Fold.f kj19 bt362.1).bind fun t369 => (some (t368.toList == t369.toList)))) else (some false)) else (some false))) else (if (bt362.1.size : Int) = (wrap64 ((wrap64 ((a0.size : Int) + (a2.size : Int))) + 1)) then ((nuncioref02_Fold.f kj19 bt362.1).bind fun t370 => ((name_Fold.f kj19 bt362.1).bind fun t371 => (some (t370.toList == t371.toList)))) else (some false)))))) else (some false))) else (some (bt362.1.toList == ([] : List UInt8))))) else (none))) = some r := by first | (rw [hy353]; with_reducible exact H) | (have H2_ := (Option.bind_some _ _).symm.trans H; rw [hy353]; with_reducible exact H2_) | (have H2_ := (Option.bind_some _ _).symm.trans H; with_reducible exact H2_) | with_reducible exact H | (rw [hy353]; exact H) | exact H
        have Ny353 := Aside0.mk hy353
        clear hy353
        replace H := Option.bind_eq_some_iff.mp H
        obtain ⟨t356, A500, H⟩ := H
        replace H : (if y353.length + t356.length < 8796093022208 then ((name_Make.f kj19 (y353 ++ t356)).bind fun bt362 => (if bt362.2 = 0 then ((name_Under.f kj19 bt362.1 a0).bind fun t364 => (if t364 = true then ((name_Under.f kj19 a0 bt362.1).bind fun t365 => (if t365 = true then (some false) else ((name_Under.f kj19 a0 a1).bind fun t366 => (if t366 = true then ((name_Under.f kj19 bt362.1 a1).bind fun t367 => (if t367 = true then (if (bt362.1.size : Int) = (wrap64 ((wrap64 ((a0.size : Int) + (a2.size : Int))) + 1)) then ((nuncioref02_Fold.f kj19 bt362.1).bind fun t368 => ((name_Fold.f kj19 bt362.1).bind fun t369 => (some (t368.toList == t369.toList)))) else (some false)) else (some false))) else (if (bt362.1.size : Int) = (wrap64 ((wrap64 ((a0.size : Int) + (a2.size : Int))) + 1)) then ((nuncioref02_Fold.f kj19 bt362.1).bind fun t370 => ((name_Fold.f kj19 bt362.1).bind fun t371 => (some (t370.toList == t371.toList)))) else (some false)))))) else (some false))) else (some (bt362.1.toList == ([] : List UInt8))))) else (none)) = some r := H
        have A50 := Aside0.mk A500
        clear A500
        by_cases c51 : y353.length + t356.length < 8796093022208
        ·
         rw [if_pos c51] at H
         have LMc51 := Aside0.mk c51
         clear c51
         obtain ⟨y359, hy359⟩ : ∃ y_ : List ByteArray, y_ = (y353 ++ t356) := ⟨_, rfl⟩
         replace H : ((name_Make.f kj19 y359).bind fun bt362 => (if bt362.2 = 0 then ((name_Under.f kj19 bt362.1 a0).bind fun t364 => (if t364 = true then ((name_Under.f kj19 a0 bt362.1).bind fun t365 => (if t365 = true then (some false) else ((name_Under.f kj19 a0 a1).bind fun t366 => (if t366 = true then ((name_Under.f kj19 bt362.1 a1).bind fun t367 => (if t367 = true then (if (bt362.1.size : Int) = (wrap64 ((wrap64 ((a0.size : Int) + (a2.size : Int))) + 1)) then ((nuncioref02_Fold.f kj19 bt362.1).bind fun t368 => ((name_Fold.f kj19 bt362.1).bind fun t369 => (some (t368.toList == t369.toList)))) else (some false)) else (some false))) else (if (bt362.1.size : Int) = (wrap64 ((wrap64 ((a0.size : Int) + (a2.size : Int))) + 1)) then ((nuncioref02_Fold.f kj19 bt362.1).bind fun t370 => ((name_Fold.f kj19 bt362.1).bind fun t371 => (some (t370.toList == t371.toList)))) else (some false)))))) else (some false))) else (some (bt362.1.toList == ([] : List UInt8))))) = some r := by first | (rw [hy359]; with_reducible exact H) | (have H2_ := (Option.bind_some _ _).symm.trans H; rw [hy359]; with_reducible exact H2_) | (have H2_ := (Option.bind_some _ _).symm.trans H; with_reducible exact H2_) | with_reducible exact H | (rw [hy359]; exact H) | exact H
         have Ny359 := Aside0.mk hy359
         clear hy359
         replace H := Option.bind_eq_some_iff.mp H
         obtain ⟨⟨t362, t363⟩, A520, H⟩ := H
         replace H : (if t363 = 0 then ((name_Under.f kj19 t362 a0).bind fun t364 => (if t364 = true then ((name_Under.f kj19 a0 t362).bind fun t365 => (if t365 = true then (some false) else ((name_Under.f kj19 a0 a1).bind fun t366 => (if t366 = true then ((name_Under.f kj19 t362 a1).bind fun t367 => (if t367 = true then (if (t362.size : Int) = (wrap64 ((wrap64 ((a0.size : Int) + (a2.size : Int))) + 1)) then ((nuncioref02_Fold.f kj19 t362).bind fun t368 => ((name_Fold.f kj19 t362).bind fun t369 => (some (t368.toList == t369.toList)))) else (some false)) else (some false))) else (if (t362.size : Int) = (wrap64 ((wrap64 ((a0.size : Int) + (a2.size : Int))) + 1)) then ((nuncioref02_Fold.f kj19 t362).bind fun t370 => ((name_Fold.f kj19 t362).bind fun t371 => (some (t370.toList == t371.toList)))) else (some false)))))) else (some false))) else (some (t362.toList == ([] : List UInt8)))) = some r := H
         have A52 := Aside0.mk A520
         clear A520
         by_cases c53 : t363 = 0
         ·
          rw [if_pos c53] at H
          have c53b0 : (t363 == 0) = true := beq_iff_eq.mpr c53
          have c53b1 : (t363 != 0) = false := bne_eq_false_iff_eq.mpr c53
          clear c53
          replace H := Option.bind_eq_some_iff.mp H
          obtain ⟨t364, A540, H⟩ := H
          replace H : (if t364 = true then ((name_Under.f kj19 a0 t362).bind fun t365 => (if t365 = true then (some false) else ((name_Under.f kj19 a0 a1).bind fun t366 => (if t366 = true then ((name_Under.f kj19 t362 a1).bind fun t367 => (if t367 = true then (if (t362.size : Int) = (wrap64 ((wrap64 ((a0.size : Int) + (a2.size : Int))) + 1)) then ((nuncioref02_Fold.f kj19 t362).bind fun t368 => ((name_Fold.f kj19 t362).bind fun t369 => (some (t368.toList == t369.toList)))) else (some false)) else (some false))) else (if (t362.size : Int) = (wrap64 ((wrap64 ((a0.size : Int) + (a2.size : Int))) + 1)) then ((nuncioref02_Fold.f kj19 t362).bind fun t370 => ((name_Fold.f kj19 t362).bind fun t371 => (some (t370.toList == t371.toList)))) else (some false)))))) else (some false)) = some r := H
          have A54 := Aside0.mk A540
          clear A540
          by_cases c55 : t364 = true
          ·
           subst c55
           have H1 : ((name_Under.f kj19 a0 t362).bind fun t365 => (if t365 = true then (some false) else ((name_Under.f kj19 a0 a1).bind fun t366 => (if t366 = true then ((name_Under.f kj19 t362 a1).bind fun t367 => (if t367 = true then (if (t362.size : Int) = (wrap64 ((wrap64 ((a0.size : Int) + (a2.size : Int))) + 1)) then ((nuncioref02_Fold.f kj19 t362).bind fun t368 => ((name_Fold.f kj19 t362).bind fun t369 => (some (t368.toList == t369.toList)))) else (some false)) else (some false))) else (if (t362.size : Int) = (wrap64 ((wrap64 ((a0.size : Int) + (a2.size : Int))) + 1)) then ((nuncioref02_Fold.f kj19 t362).bind fun t370 => ((name_Fold.f kj19 t362).bind fun t371 => (some (t370.toList == t371.toList)))) else (some false)))))) = some r := by rw [if_pos rfl] at H; exact H
           clear H
           have H := H1
           clear H1
           replace H := Option.bind_eq_some_iff.mp H
           obtain ⟨t365, A560, H⟩ := H
           replace H : (if t365 = true then (some false) else ((name_Under.f kj19 a0 a1).bind fun t366 => (if t366 = true then ((name_Under.f kj19 t362 a1).bind fun t367 => (if t367 = true then (if (t362.size : Int) = (wrap64 ((wrap64 ((a0.size : Int) + (a2.size : Int))) + 1)) then ((nuncioref02_Fold.f kj19 t362).bind fun t368 => ((name_Fold.f kj19 t362).bind fun t369 => (some (t368.toList == t369.toList)))) else (some false)) else (some false))) else (if (t362.size : Int) = (wrap64 ((wrap64 ((a0.size : Int) + (a2.size : Int))) + 1)) then ((nuncioref02_Fold.f kj19 t362).bind fun t370 => ((name_Fold.f kj19 t362).bind fun t371 => (some (t370.toList == t371.toList)))) else (some false))))) = some r := H
           have A56 := Aside0.mk A560
           clear A560
           by_cases c57 : t365 = true
           ·
            subst c57
            have H1 : (some false) = some r := by rw [if_pos rfl] at H; exact H
            clear H
            have H := H1
            clear H1
            exact absurd ((Option.some.inj H).trans HT.out) (by decide)
           ·
            replace c57 := Bool.eq_false_iff.mpr c57
            subst c57
            have H1 : ((name_Under.f kj19 a0 a1).bind fun t366 => (if t366 = true then ((name_Under.f kj19 t362 a1).bind fun t367 => (if t367 = true then (if (t362.size : Int) = (wrap64 ((wrap64 ((a0.size : Int) + (a2.size : Int))) + 1)) then ((nuncioref02_Fold.f kj19 t362).bind fun t368 => ((name_Fold.f kj19 t362).bind fun t369 => (some (t368.toList == t369.toList)))) else (some false)) else (some false))) else (if (t362.size : Int) = (wrap64 ((wrap64 ((a0.size : Int) + (a2.size : Int))) + 1)) then ((nuncioref02_Fold.f kj19 t362).bind fun t370 => ((name_Fold.f kj19 t362).bind fun t371 => (some (t370.toList == t371.toList)))) else (some false)))) = some r := by rw [if_neg (show ¬ (false = true) by decide)] at H; exact H
            clear H
            have H := H1
            clear H1
            replace H := Option.bind_eq_some_iff.mp H
            obtain ⟨t366, A580, H⟩ := H
            replace H : (if t366 = true then ((name_Under.f kj19 t362 a1).bind fun t367 => (if t367 = true then (if (t362.size : Int) = (wrap64 ((wrap64 ((a0.size : Int) + (a2.size : Int))) + 1)) then ((nuncioref02_Fold.f kj19 t362).bind fun t368 => ((name_Fold.f kj19 t362).bind fun t369 => (some (t368.toList == t369.toList)))) else (some false)) else (some false))) else (if (t362.size : Int) = (wrap64 ((wrap64 ((a0.size : Int) + (a2.size : Int))) + 1)) then ((nuncioref02_Fold.f kj19 t362).bind fun t370 => ((name_Fold.f kj19 t362).bind fun t371 => (some (t370.toList == t371.toList)))) else (some false))) = some r := H
            have A58 := Aside0.mk A580
            clear A580
            by_cases c59 : t366 = true
            ·
             subst c59
             have H1 : ((name_Under.f kj19 t362 a1).bind fun t367 => (if t367 = true then (if (t362.size : Int) = (wrap64 ((wrap64 ((a0.size : Int) + (a2.size : Int))) + 1)) then ((nuncioref02_Fold.f kj19 t362).bind fun t368 => ((name_Fold.f kj19 t362).bind fun t369 => (some (t368.toList == t369.toList)))) else (some false)) else (some false))) = some r := by rw [if_pos rfl] at H; exact H
             clear H
             have H := H1
             clear H1
             replace H := Option.bind_eq_some_iff.mp H
             obtain ⟨t367, A600, H⟩ := H
             replace H : (if t367 = true then (if (t362.size : Int) = (wrap64 ((wrap64 ((a0.size : Int) + (a2.size : Int))) + 1)) then ((nuncioref02_Fold.f kj19 t362).bind fun t368 => ((name_Fold.f kj19 t362).bind fun t369 => (some (t368.toList == t369.toList)))) else (some false)) else (some false)) = some r := H
             have A60 := Aside0.mk A600
             clear A600
             by_cases c61 : t367 = true
             ·
              subst c61
              have H1 : (if (t362.size : Int) = (wrap64 ((wrap64 ((a0.size : Int) + (a2.size : Int))) + 1)) then ((nuncioref02_Fold.f kj19 t362).bind fun t368 => ((name_Fold.f kj19 t362).bind fun t369 => (some (t368.toList == t369.toList)))) else (some false)) = some r := by rw [if_pos rfl] at H; exact H
              clear H
              have H := H1
              clear H1
              by_cases c62 : (t362.size : Int) = (wrap64 ((wrap64 ((a0.size : Int) + (a2.size : Int))) + 1))
              ·
               rw [if_pos c62] at H
               have c62b0 : ((t362.size : Int) == (wrap64 ((wrap64 ((a0.size : Int) + (a2.size : Int))) + 1))) = true := beq_iff_eq.mpr c62
               have c62b1 : ((t362.size : Int) != (wrap64 ((wrap64 ((a0.size : Int) + (a2.size : Int))) + 1))) = false := bne_eq_false_iff_eq.mpr c62
               clear c62
               replace H := Option.bind_eq_some_iff.mp H
               obtain ⟨t368, A630, H⟩ := H
               replace H : ((name_Fold.f kj19 t362).bind fun t369 => (some (t368.toList == t369.toList))) = some r := H
               have A63 := Aside0.mk A630
               clear A630
               replace H := Option.bind_eq_some_iff.mp H
               obtain ⟨t369, A640, H⟩ := H
               replace H : (some (t368.toList == t369.toList)) = some r := H
               have A64 := Aside0.mk A640
               clear A640
               obtain rfl := Option.some.inj H
               have tk78 : True := trivial
               have tk79 : True := trivial
               have tk80 : True := trivial
               have tk81 : True := trivial
               go_wp2_with (first | ((with_reducible refine gate_dst (N := 59) rfl ?_); (try (refine gate_guard (by rfl) ?_; dsimp only)); refine Kd.R_lit Kd.string _ 9 ?hg (N := 59) ?hd (xs := ([a2] : List ByteArray)) (inner := [.string a2]) (ok := fun _ => True) (okp := fun _ => True) ?hr ?hp (fun _ hk => hk) trivial (Below.refl _ _) (Nat.le_refl _) (by simp) ?_; (case hd => rfl); (case hg => rfl); (case hr => first | (go_simp; done) | (go_simp; rfl)); (case hp => exact (Reps.one (show Kd.M Kd.string _ _ _ a2 [.string a2] from rfl) (Reps.none _ _))); intro v354 w65 ho66 hb hg_ hnew_; clear hg_ hnew_; (first | rw [← Ny353.out] at ho66 | (simp only [Int.reduceToNat] at ho66; rw [← Ny353.out] at ho66)); have n0_ := Aside0.mk (Kd.R_lower ho66 (below_size (by repeat (first | (with_reducible first | exact HB.out | apply below_alloc | apply pw_below_drewN | apply below_drew1) | exact HB.out)))); have n1_ := Aside0.mk (below_step (by repeat (first | (with_reducible first | exact HB.out | apply below_alloc | apply pw_below_drewN | apply below_drew1) | exact HB.out)) hb); clear HB; have HO355 := n0_; have HB := n1_; clear n0_ n1_; clear hb ho66) | ((with_reducible refine gate_callee (f := 15) rfl ?_); refine goesL_ (some 61) rfl rfl Try.func15 (by kernel_rfl) rfl #[.string a0] rfl (by (try simp only [List.map_toArray, List.map_cons, List.map_nil]); first | done | rfl | (simp only [List.length_drop, List.length_take]; rfl)) ?_; (with_reducible refine (name_Labels.calls kj19 a0 t356 _ A50.out).mono ?_); rintro e w67 ⟨v357, rfl, ho0, hb⟩; refine ⟨_, rfl, ?_⟩; have n0_ := Aside0.mk (Kd.R_elder' (by (with_reducible repeat (first | apply Kd.R_alloc | apply Kd.R_drewN | apply Kd.R_drew)); exact HO355.out) (Kd.R_base ho0) hb); have n1_ := Aside0.mk (Kd.R_lower (Kd.R_new' ho0 (Kd.R_lt (by (with_reducible repeat (first | apply Kd.R_alloc | apply Kd.R_drewN | apply Kd.R_drew)); exact HO355.out))) (below_size (by repeat (first | (with_reducible first | exact HB.out | apply below_alloc | apply pw_below_drewN | apply below_drew1) | exact HB.out)))); have n2_ := Aside0.mk (below_step (by repeat (first | (with_reducible first | exact HB.out | apply below_alloc | apply pw_below_drewN | apply below_drew1) | exact HB.out)) hb); clear HO355; clear HB; have HO355 := n0_; have HO358 := n1_; have HB := n2_; clear n0_ n1_ n2_; (try clear hb); (try clear hb2); (try clear hk); (try clear hi); (try clear ho0); obtain ⟨Ao69, co69, eo69⟩ := Kd.R_slice HO358.out; subst eo69) | ((with_reducible refine gate_builtin (b := .append) (xs := #[.tmp 59, .tmp 61]) rfl ?_); (try (refine gate_guard (by rfl) ?_; dsimp only)); at_builtin; refine Kd.R_append_rows Kd.string (w0 := w) w.heap.size rfl (.tmp 59) (.tmp 61) 22 9 (.string ⟨#[]⟩) 16 rfl Try.underlying22 info9 rfl (by decide) (by omega) v354 y353 t356 _ _ _ (fun k_ => some k_ ≠ (.slice Ao69 t356.length co69 : Value).ownBlock) (fun _ => False) rfl rfl ?aO ?aR (fun _ _ h => h) (fun _ h => h.elim) ?aF ?aB ?aS ?aL ?_; (case aR => repeat (first | exact (Kd.R_reads' HO358.out).2.2 | (with_reducible refine Kd.C_alloc ?_ _) | (with_reducible refine Kd.C_drewN ?_ _) | (with_reducible refine Kd.C_drew ?_))); (case aB => exact (by repeat (first | (with_reducible first | exact HB.out | apply below_alloc | apply pw_below_drewN | apply below_drew1) | exact HB.out))); (case aF => exact (fun k_ hk => Kd.fresh' (Kd.R_lt (by (with_reducible repeat (first | apply Kd.R_alloc | apply Kd.R_drewN | apply Kd.R_drew)); exact HO358.out)) k_ hk)); (case aO => exact (by (with_reducible repeat (first | apply Kd.R_alloc | apply Kd.R_drewN | apply Kd.R_drew)); exact Kd.R_mono HO355.out (fun _ hk => hk.2))); (case aS => exact (below_size (by repeat (first | (with_reducible first | exact HB.out | apply below_alloc | apply pw_below_drewN | apply below_drew1) | exact HB.out)))); (case aL => have := LMc51.out; omega); intro v360 w68 ho hb hg hat; rw [← Ny359.out] at ho; have n0_ := Aside0.mk (Kd.R_after (ok := (fun _ => True)) (by (with_reducible repeat (first | apply Kd.R_alloc | apply Kd.R_drewN | apply Kd.R_drew)); exact HO358.out) hg hat); have n1_ := Aside0.mk (hb); have n2_ := Aside0.mk (ho); clear HO358; clear HB; clear HO355; have HO358 := n0_; have HB := n1_; have HO361 := n2_; clear n0_ n1_ n2_; clear ho hb hg hat; obtain ⟨Ao70, co70, eo70⟩ := Kd.R_slice HO361.out; subst eo70) | ((with_reducible refine gate_callee (f := 10) rfl ?_); refine goesL_ (some 63) rfl rfl Try.func10 (by kernel_rfl) rfl #[.slice Ao70 y359.length co70] rfl (by (try simp only [List.map_toArray, List.map_cons, List.map_nil]); first | done | rfl | (simp only [List.length_drop, List.length_take]; rfl)) ?_; (with_reducible refine (name_Make.calls kj19 _ _ y359 t362 t363 _ ?side1 ?side2 A52.out).mono ?_); (case side1 => repeat (first | exact (Kd.R_reads' HO361.out).2.2 | (with_reducible refine Kd.C_alloc ?_ _) | (with_reducible refine Kd.C_drewN ?_ _) | (with_reducible refine Kd.C_drew ?_))); (case side2 => exact (Kd.R_reads' HO361.out).2.1); rintro e w71 ⟨rfl, hb⟩; refine ⟨_, rfl, ?_⟩; have n0_ := Aside0.mk (Kd.R_below (by (with_reducible repeat (first | apply Kd.R_alloc | apply Kd.R_drewN | apply Kd.R_drew)); exact HO358.out) hb); have n1_ := Aside0.mk (Kd.R_below (by (with_reducible repeat (first | apply Kd.R_alloc | apply Kd.R_drewN | apply Kd.R_drew)); exact HO361.out) hb); have n2_ := Aside0.mk (below_step (by repeat (first | (with_reducible first | exact HB.out | apply below_alloc | apply pw_below_drewN | apply below_drew1) | exact HB.out)) hb); clear HO358; clear HO361; clear HB; have HO358 := n0_; have HO361 := n1_; have HB := n2_; clear n0_ n1_ n2_; (try clear hb); (try clear hb2); (try clear hk); (try clear hi)) | (have _t : True := tk78; clear tk78 _t; (with_reducible refine gate_callee (f := 20) rfl ?_); refine goesL_ (some 72) rfl rfl Try.func20 (by kernel_rfl) rfl #[.string t362, .string a0] rfl (by (try simp only [List.map_toArray, List.map_cons, List.map_nil]); first | done | rfl | (simp only [List.length_drop, List.length_take]; rfl)) ?_; (with_reducible refine (name_Under.calls kj19 t362 a0 true _ A54.out).mono ?_); rintro e w72 ⟨rfl, hb⟩; refine ⟨_, rfl, ?_⟩; have n0_ := Aside0.mk (Kd.R_below (by (with_reducible repeat (first | apply Kd.R_alloc | apply Kd.R_drewN | apply Kd.R_drew)); exact HO358.out) hb); have n1_ := Aside0.mk (Kd.R_below (by (with_reducible repeat (first | apply Kd.R_alloc | apply Kd.R_drewN | apply Kd.R_drew)); exact HO361.out) hb); have n2_ := Aside0.mk (below_step (by repeat (first | (with_reducible first | exact HB.out | apply below_alloc | apply pw_below_drewN | apply below_drew1) | exact HB.out)) hb); clear HO358; clear HO361; clear HB; have HO358 := n0_; have HO361 := n1_; have HB := n2_; clear n0_ n1_ n2_; (try clear hb); (try clear hb2); (try clear hk); (try clear hi)) | (have _t : True := tk79; clear tk79 _t; go_at_call 20; (with_reducible refine (name_Under.calls kj19 a0 t362 false _ A56.out).mono ?_); rintro e w73 ⟨rfl, hb⟩; have n0_ := Aside0.mk (Kd.R_below (by (with_reducible repeat (first | apply Kd.R_alloc | apply Kd.R_drewN | apply Kd.R_drew)); exact HO358.out) hb); have n1_ := Aside0.mk (Kd.R_below (by (with_reducible repeat (first | apply Kd.R_alloc | apply Kd.R_drewN | apply Kd.R_drew)); exact HO361.out) hb); have n2_ := Aside0.mk (below_step (by repeat (first | (with_reducible first | exact HB.out | apply below_alloc | apply pw_below_drewN | apply below_drew1) | exact HB.out)) hb); clear HO358; clear HO361; clear HB; have HO358 := n0_; have HO361 := n1_; have HB := n2_; clear n0_ n1_ n2_; (try clear hb); (try clear hb2); (try clear hk); (try clear hi)) | (have _t : True := tk80; clear tk80 _t; go_at_call 20; (with_reducible refine (name_Under.calls kj19 a0 a1 true _ A58.out).mono ?_); rintro e w74 ⟨rfl, hb⟩; have n0_ := Aside0.mk (Kd.R_below (by (with_reducible repeat (first | apply Kd.R_alloc | apply Kd.R_drewN | apply Kd.R_drew)); exact HO358.out) hb); have n1_ := Aside0.mk (Kd.R_below (by (with_reducible repeat (first | apply Kd.R_alloc | apply Kd.R_drewN | apply Kd.R_drew)); exact HO361.out) hb); have n2_ := Aside0.mk (below_step (by repeat (first | (with_reducible first | exact HB.out | apply below_alloc | apply pw_below_drewN | apply below_drew1) | exact HB.out)) hb); clear HO358; clear HO361; clear HB; have HO358 := n0_; have HO361 := n1_; have HB := n2_; clear n0_ n1_ n2_; (try clear hb); (try clear hb2); (try clear hk); (try clear hi)) | (have _t : True := tk81; clear tk81 _t; go_at_call 20; (with_reducible refine (name_Under.calls kj19 t362 a1 true _ A60.out).mono ?_); rintro e w75 ⟨rfl, hb⟩; have n0_ := Aside0.mk (Kd.R_below (by (with_reducible repeat (first | apply Kd.R_alloc | apply Kd.R_drewN | apply Kd.R_drew)); exact HO358.out) hb); have n1_ := Aside0.mk (Kd.R_below (by (with_reducible repeat (first | apply Kd.R_alloc | apply Kd.R_drewN | apply Kd.R_drew)); exact HO361.out) hb); have n2_ := Aside0.mk (below_step (by repeat (first | (with_reducible first | exact HB.out | apply below_alloc | apply pw_below_drewN | apply below_drew1) | exact HB.out)) hb); clear HO358; clear HO361; clear HB; have HO358 := n0_; have HO361 := n1_; have HB := n2_; clear n0_ n1_ n2_; (try clear hb); (try clear hb2); (try clear hk); (try clear hi)) | (go_at_call 26; (with_reducible refine (nuncioref02_Fold.calls kj19 t362 t368 _ A63.out).mono ?_); rintro e w76 ⟨rfl, hb⟩; have n0_ := Aside0.mk (Kd.R_below (by (with_reducible repeat (first | apply Kd.R_alloc | apply Kd.R_drewN | apply Kd.R_drew)); exact HO358.out) hb); have n1_ := Aside0.mk (Kd.R_below (by (with_reducible repeat (first | apply Kd.R_alloc | apply Kd.R_drewN | apply Kd.R_drew)); exact HO361.out) hb); have n2_ := Aside0.mk (below_step (by repeat (first | (with_reducible first | exact HB.out | apply below_alloc | apply pw_below_drewN | apply below_drew1) | exact HB.out)) hb); clear HO358; clear HO361; clear HB; have HO358 := n0_; have HO361 := n1_; have HB := n2_; clear n0_ n1_ n2_; (try clear hb); (try clear hb2); (try clear hk); (try clear hi)) | (go_at_call 16; (with_reducible refine (name_Fold.calls kj19 t362 t369 _ A64.out).mono ?_); rintro e w77 ⟨rfl, hb⟩; have n0_ := Aside0.mk (Kd.R_below (by (with_reducible repeat (first | apply Kd.R_alloc | apply Kd.R_drewN | apply Kd.R_drew)); exact HO358.out) hb); have n1_ := Aside0.mk (Kd.R_below (by (with_reducible repeat (first | apply Kd.R_alloc | apply Kd.R_drewN | apply Kd.R_drew)); exact HO361.out) hb); have n2_ := Aside0.mk (below_step (by repeat (first | (with_reducible first | exact HB.out | apply below_alloc | apply pw_below_drewN | apply below_drew1) | exact HB.out)) hb); clear HO358; clear HO361; clear HB; have HO358 := n0_; have HO361 := n1_; have HB := n2_; clear n0_ n1_ n2_; (try clear hb); (try clear hb2); (try clear hk); (try clear hi)))
               go_ret
               exact ⟨by first | rfl | (simp [errW_none, errW_some] <;> rfl) | (simp [*, errW_none, errW_some] <;> rfl), by repeat (first | (with_reducible first | exact HB.out | apply below_alloc | apply pw_below_drewN | apply below_drew1) | exact HB.out)⟩
              ·
               rw [if_neg c62] at H
               have c62b0 : ((t362.size : Int) == (wrap64 ((wrap64 ((a0.size : Int) + (a2.size : Int))) + 1))) = false := beq_eq_false_iff_ne.mpr c62
               have c62b1 : ((t362.size : Int) != (wrap64 ((wrap64 ((a0.size : Int) + (a2.size : Int))) + 1))) = true := bne_iff_ne.mpr c62
               exact absurd ((Option.some.inj H).trans HT.out) (by decide)
             ·
              replace c61 := Bool.eq_false_iff.mpr c61
              subst c61
              have H1 : (some false) = some r := by rw [if_neg (show ¬ (false = true) by decide)] at H; exact H
              clear H
              have H := H1
              clear H1
              exact absurd ((Option.some.inj H).trans HT.out) (by decide)
            ·
             replace c59 := Bool.eq_false_iff.mpr c59
             subst c59
             have H1 : (if (t362.size : Int) = (wrap64 ((wrap64 ((a0.size : Int) + (a2.size : Int))) + 1)) then ((nuncioref02_Fold.f kj19 t362).bind fun t370 => ((name_Fold.f kj19 t362).bind fun t371 => (some (t370.toList == t371.toList)))) else (some false)) = some r := by rw [if_neg (show ¬ (false = true) by decide)] at H; exact H
             clear H
             have H := H1
             clear H1
             by_cases c82 : (t362.size : Int) = (wrap64 ((wrap64 ((a0.size : Int) + (a2.size : Int))) + 1))
             ·
              rw [if_pos c82] at H
              have c82b0 : ((t362.size : Int) == (wrap64 ((wrap64 ((a0.size : Int) + (a2.size : Int))) + 1))) = true := beq_iff_eq.mpr c82
              have c82b1 : ((t362.size : Int) != (wrap64 ((wrap64 ((a0.size : Int) + (a2.size : Int))) + 1))) = false := bne_eq_false_iff_eq.mpr c82
              clear c82
              replace H := Option.bind_eq_some_iff.mp H
              obtain ⟨t370, A830, H⟩ := H
              replace H : ((name_Fold.f kj19 t362).bind fun t371 => (some (t370.toList == t371.toList))) = some r := H
              have A83 := Aside0.mk A830
              clear A830
              replace H := Option.bind_eq_some_iff.mp H
              obtain ⟨t371, A840, H⟩ := H
              replace H : (some (t370.toList == t371.toList)) = some r := H
              have A84 := Aside0.mk A840
              clear A840
              obtain rfl := Option.some.inj H
              have tk97 : True := trivial
              have tk98 : True := trivial
              have tk99 : True := trivial
              go_wp2_with (first | ((with_reducible refine gate_dst (N := 59) rfl ?_); (try (refine gate_guard (by rfl) ?_; dsimp only)); refine Kd.R_lit Kd.string _ 9 ?hg (N := 59) ?hd (xs := ([a2] : List ByteArray)) (inner := [.string a2]) (ok := fun _ => True) (okp := fun _ => True) ?hr ?hp (fun _ hk => hk) trivial (Below.refl _ _) (Nat.le_refl _) (by simp) ?_; (case hd => rfl); (case hg => rfl); (case hr => first | (go_simp; done) | (go_simp; rfl)); (case hp => exact (Reps.one (show Kd.M Kd.string _ _ _ a2 [.string a2] from rfl) (Reps.none _ _))); intro v354 w85 ho86 hb hg_ hnew_; clear hg_ hnew_; (first | rw [← Ny353.out] at ho86 | (simp only [Int.reduceToNat] at ho86; rw [← Ny353.out] at ho86)); have n0_ := Aside0.mk (Kd.R_lower ho86 (below_size (by repeat (first | (with_reducible first | exact HB.out | apply below_alloc | apply pw_below_drewN | apply below_drew1) | exact HB.out)))); have n1_ := Aside0.mk (below_step (by repeat (first | (with_reducible first | exact HB.out | apply below_alloc | apply pw_below_drewN | apply below_drew1) | exact HB.out)) hb); clear HB; have HO355 := n0_; have HB := n1_; clear n0_ n1_; clear hb ho86) | ((with_reducible refine gate_callee (f := 15) rfl ?_); refine goesL_ (some 61) rfl rfl Try.func15 (by kernel_rfl) rfl #[.string a0] rfl (by (try simp only [List.map_toArray, List.map_cons, List.map_nil]); first | done | rfl | (simp only [List.length_drop, List.length_take]; rfl)) ?_; (with_reducible refine (name_Labels.calls kj19 a0 t356 _ A50.out).mono ?_); rintro e w87 ⟨v357, rfl, ho0, hb⟩; refine ⟨_, rfl, ?_⟩; have n0_ := Aside0.mk (Kd.R_elder' (by (with_reducible repeat (first | apply Kd.R_alloc | apply Kd.R_drewN | apply Kd.R_drew)); exact HO355.out) (Kd.R_base ho0) hb); have n1_ := Aside0.mk (Kd.R_lower (Kd.R_new' ho0 (Kd.R_lt (by (with_reducible repeat (first | apply Kd.R_alloc | apply Kd.R_drewN | apply Kd.R_drew)); exact HO355.out))) (below_size (by repeat (first | (with_reducible first | exact HB.out | apply below_alloc | apply pw_below_drewN | apply below_drew1) | exact HB.out)))); have n2_ := Aside0.mk (below_step (by repeat (first | (with_reducible first | exact HB.out | apply below_alloc | apply pw_below_drewN | apply below_drew1) | exact HB.out)) hb); clear HO355; clear HB; have HO355 := n0_; have HO358 := n1_; have HB := n2_; clear n0_ n1_ n2_; (try clear hb); (try clear hb2); (try clear hk); (try clear hi); (try clear ho0); obtain ⟨Ao89, co89, eo89⟩ := Kd.R_slice HO358.out; subst eo89) | ((with_reducible refine gate_builtin (b := .append) (xs := #[.tmp 59, .tmp 61]) rfl ?_); (try (refine gate_guard (by rfl) ?_; dsimp only)); at_builtin; refine Kd.R_append_rows Kd.string (w0 := w) w.heap.size rfl (.tmp 59) (.tmp 61) 22 9 (.string ⟨#[]⟩) 16 rfl Try.underlying22 info9 rfl (by decide) (by omega) v354 y353 t356 _ _ _ (fun k_ => some k_ ≠ (.slice Ao89 t356.length co89 : Value).ownBlock) (fun _ => False) rfl rfl ?aO ?aR (fun _ _ h => h) (fun _ h => h.elim) ?aF ?aB ?aS ?aL ?_; (case aR => repeat (first | exact (Kd.R_reads' HO358.out).2.2 | (with_reducible refine Kd.C_alloc ?_ _) | (with_reducible refine Kd.C_drewN ?_ _) | (with_reducible refine Kd.C_drew ?_))); (case aB => exact (by repeat (first | (with_reducible first | exact HB.out | apply below_alloc | apply pw_below_drewN | apply below_drew1) | exact HB.out))); (case aF => exact (fun k_ hk => Kd.fresh' (Kd.R_lt (by (with_reducible repeat (first | apply Kd.R_alloc | apply Kd.R_drewN | apply Kd.R_drew)); exact HO358.out)) k_ hk)); (case aO => exact (by (with_reducible repeat (first | apply Kd.R_alloc | apply Kd.R_drewN | apply Kd.R_drew)); exact Kd.R_mono HO355.out (fun _ hk => hk.2))); (case aS => exact (below_size (by repeat (first | (with_reducible first | exact HB.out | apply below_alloc | apply pw_below_drewN | apply below_drew1) | exact HB.out)))); (case aL => have := LMc51.out; omega); intro v360 w88 ho hb hg hat; rw [← Ny359.out] at ho; have n0_ := Aside0.mk (Kd.R_after (ok := (fun _ => True)) (by (with_reducible repeat (first | apply Kd.R_alloc | apply Kd.R_drewN | apply Kd.R_drew)); exact HO358.out) hg hat); have n1_ := Aside0.mk (hb); have n2_ := Aside0.mk (ho); clear HO358; clear HB; clear HO355; have HO358 := n0_; have HB := n1_; have HO361 := n2_; clear n0_ n1_ n2_; clear ho hb hg hat; obtain ⟨Ao90, co90, eo90⟩ := Kd.R_slice HO361.out; subst eo90) | ((with_reducible refine gate_callee (f := 10) rfl ?_); refine goesL_ (some 63) rfl rfl Try.func10 (by kernel_rfl) rfl #[.slice Ao90 y359.length co90] rfl (by (try simp only [List.map_toArray, List.map_cons, List.map_nil]); first | done | rfl | (simp only [List.length_drop, List.length_take]; rfl)) ?_; (with_reducible refine (name_Make.calls kj19 _ _ y359 t362 t363 _ ?side1 ?side2 A52.out).mono ?_); (case side1 => repeat (first | exact (Kd.R_reads' HO361.out).2.2 | (with_reducible refine Kd.C_alloc ?_ _) | (with_reducible refine Kd.C_drewN ?_ _) | (with_reducible refine Kd.C_drew ?_))); (case side2 => exact (Kd.R_reads' HO361.out).2.1); rintro e w91 ⟨rfl, hb⟩; refine ⟨_, rfl, ?_⟩; have n0_ := Aside0.mk (Kd.R_below (by (with_reducible repeat (first | apply Kd.R_alloc | apply Kd.R_drewN | apply Kd.R_drew)); exact HO358.out) hb); have n1_ := Aside0.mk (Kd.R_below (by (with_reducible repeat (first | apply Kd.R_alloc | apply Kd.R_drewN | apply Kd.R_drew)); exact HO361.out) hb); have n2_ := Aside0.mk (below_step (by repeat (first | (with_reducible first | exact HB.out | apply below_alloc | apply pw_below_drewN | apply below_drew1) | exact HB.out)) hb); clear HO358; clear HO361; clear HB; have HO358 := n0_; have HO361 := n1_; have HB := n2_; clear n0_ n1_ n2_; (try clear hb); (try clear hb2); (try clear hk); (try clear hi)) | (have _t : True := tk97; clear tk97 _t; (with_reducible refine gate_callee (f := 20) rfl ?_); refine goesL_ (some 72) rfl rfl Try.func20 (by kernel_rfl) rfl #[.string t362, .string a0] rfl (by (try simp only [List.map_toArray, List.map_cons, List.map_nil]); first | done | rfl | (simp only [List.length_drop, List.length_take]; rfl)) ?_; (with_reducible refine (name_Under.calls kj19 t362 a0 true _ A54.out).mono ?_); rintro e w92 ⟨rfl, hb⟩; refine ⟨_, rfl, ?_⟩; have n0_ := Aside0.mk (Kd.R_below (by (with_reducible repeat (first | apply Kd.R_alloc | apply Kd.R_drewN | apply Kd.R_drew)); exact HO358.out) hb); have n1_ := Aside0.mk (Kd.R_below (by (with_reducible repeat (first | apply Kd.R_alloc | apply Kd.R_drewN | apply Kd.R_drew)); exact HO361.out) hb); have n2_ := Aside0.mk (below_step (by repeat (first | (with_reducible first | exact HB.out | apply below_alloc | apply pw_below_drewN | apply below_drew1) | exact HB.out)) hb); clear HO358; clear HO361; clear HB; have HO358 := n0_; have HO361 := n1_; have HB := n2_; clear n0_ n1_ n2_; (try clear hb); (try clear hb2); (try clear hk); (try clear hi)) | (have _t : True := tk98; clear tk98 _t; go_at_call 20; (with_reducible refine (name_Under.calls kj19 a0 t362 false _ A56.out).mono ?_); rintro e w93 ⟨rfl, hb⟩; have n0_ := Aside0.mk (Kd.R_below (by (with_reducible repeat (first | apply Kd.R_alloc | apply Kd.R_drewN | apply Kd.R_drew)); exact HO358.out) hb); have n1_ := Aside0.mk (Kd.R_below (by (with_reducible repeat (first | apply Kd.R_alloc | apply Kd.R_drewN | apply Kd.R_drew)); exact HO361.out) hb); have n2_ := Aside0.mk (below_step (by repeat (first | (with_reducible first | exact HB.out | apply below_alloc | apply pw_below_drewN | apply below_drew1) | exact HB.out)) hb); clear HO358; clear HO361; clear HB; have HO358 := n0_; have HO361 := n1_; have HB := n2_; clear n0_ n1_ n2_; (try clear hb); (try clear hb2); (try clear hk); (try clear hi)) | (have _t : True := tk99; clear tk99 _t; go_at_call 20; (with_reducible refine (name_Under.calls kj19 a0 a1 false _ A58.out).mono ?_); rintro e w94 ⟨rfl, hb⟩; have n0_ := Aside0.mk (Kd.R_below (by (with_reducible repeat (first | apply Kd.R_alloc | apply Kd.R_drewN | apply Kd.R_drew)); exact HO358.out) hb); have n1_ := Aside0.mk (Kd.R_below (by (with_reducible repeat (first | apply Kd.R_alloc | apply Kd.R_drewN | apply Kd.R_drew)); exact HO361.out) hb); have n2_ := Aside0.mk (below_step (by repeat (first | (with_reducible first | exact HB.out | apply below_alloc | apply pw_below_drewN | apply below_drew1) | exact HB.out)) hb); clear HO358; clear HO361; clear HB; have HO358 := n0_; have HO361 := n1_; have HB := n2_; clear n0_ n1_ n2_; (try clear hb); (try clear hb2); (try clear hk); (try clear hi)) | (go_at_call 26; (with_reducible refine (nuncioref02_Fold.calls kj19 t362 t370 _ A83.out).mono ?_); rintro e w95 ⟨rfl, hb⟩; have n0_ := Aside0.mk (Kd.R_below (by (with_reducible repeat (first | apply Kd.R_alloc | apply Kd.R_drewN | apply Kd.R_drew)); exact HO358.out) hb); have n1_ := Aside0.mk (Kd.R_below (by (with_reducible repeat (first | apply Kd.R_alloc | apply Kd.R_drewN | apply Kd.R_drew)); exact HO361.out) hb); have n2_ := Aside0.mk (below_step (by repeat (first | (with_reducible first | exact HB.out | apply below_alloc | apply pw_below_drewN | apply below_drew1) | exact HB.out)) hb); clear HO358; clear HO361; clear HB; have HO358 := n0_; have HO361 := n1_; have HB := n2_; clear n0_ n1_ n2_; (try clear hb); (try clear hb2); (try clear hk); (try clear hi)) | (go_at_call 16; (with_reducible refine (name_Fold.calls kj19 t362 t371 _ A84.out).mono ?_); rintro e w96 ⟨rfl, hb⟩; have n0_ := Aside0.mk (Kd.R_below (by (with_reducible repeat (first | apply Kd.R_alloc | apply Kd.R_drewN | apply Kd.R_drew)); exact HO358.out) hb); have n1_ := Aside0.mk (Kd.R_below (by (with_reducible repeat (first | apply Kd.R_alloc | apply Kd.R_drewN | apply Kd.R_drew)); exact HO361.out) hb); have n2_ := Aside0.mk (below_step (by repeat (first | (with_reducible first | exact HB.out | apply below_alloc | apply pw_below_drewN | apply below_drew1) | exact HB.out)) hb); clear HO358; clear HO361; clear HB; have HO358 := n0_; have HO361 := n1_; have HB := n2_; clear n0_ n1_ n2_; (try clear hb); (try clear hb2); (try clear hk); (try clear hi)))
              go_ret
              exact ⟨by first | rfl | (simp [errW_none, errW_some] <;> rfl) | (simp [*, errW_none, errW_some] <;> rfl), by repeat (first | (with_reducible first | exact HB.out | apply below_alloc | apply pw_below_drewN | apply below_drew1) | exact HB.out)⟩
             ·
              rw [if_neg c82] at H
              have c82b0 : ((t362.size : Int) == (wrap64 ((wrap64 ((a0.size : Int) + (a2.size : Int))) + 1))) = false := beq_eq_false_iff_ne.mpr c82
              have c82b1 : ((t362.size : Int) != (wrap64 ((wrap64 ((a0.size : Int) + (a2.size : Int))) + 1))) = true := bne_iff_ne.mpr c82
              exact absurd ((Option.some.inj H).trans HT.out) (by decide)
          ·
           replace c55 := Bool.eq_false_iff.mpr c55
           subst c55
           have H1 : (some false) = some r := by rw [if_neg (show ¬ (false = true) by decide)] at H; exact H
           clear H
           have H := H1
           clear H1
           exact absurd ((Option.some.inj H).trans HT.out) (by decide)
         ·
          rw [if_neg c53] at H
          have c53b0 : (t363 == 0) = false := beq_eq_false_iff_ne.mpr c53
          have c53b1 : (t363 != 0) = true := bne_iff_ne.mpr c53
          obtain rfl := Option.some.inj H
          go_wp2_with (first | ((with_reducible refine gate_dst (N := 59) rfl ?_); (try (refine gate_guard (by rfl) ?_; dsimp only)); refine Kd.R_lit Kd.string _ 9 ?hg (N := 59) ?hd (xs := ([a2] : List ByteArray)) (inner := [.string a2]) (ok := fun _ => True) (okp := fun _ => True) ?hr ?hp (fun _ hk => hk) trivial (Below.refl _ _) (Nat.le_refl _) (by simp) ?_; (case hd => rfl); (case hg => rfl); (case hr => first | (go_simp; done) | (go_simp; rfl)); (case hp => exact (Reps.one (show Kd.M Kd.string _ _ _ a2 [.string a2] from rfl) (Reps.none _ _))); intro v354 w100 ho101 hb hg_ hnew_; clear hg_ hnew_; (first | rw [← Ny353.out] at ho101 | (simp only [Int.reduceToNat] at ho101; rw [← Ny353.out] at ho101)); have n0_ := Aside0.mk (Kd.R_lower ho101 (below_size (by repeat (first | (with_reducible first | exact HB.out | apply below_alloc | apply pw_below_drewN | apply below_drew1) | exact HB.out)))); have n1_ := Aside0.mk (below_step (by repeat (first | (with_reducible first | exact HB.out | apply below_alloc | apply pw_below_drewN | apply below_drew1) | exact HB.out)) hb); clear HB; have HO355 := n0_; have HB := n1_; clear n0_ n1_; clear hb ho101) | ((with_reducible refine gate_callee (f := 15) rfl ?_); refine goesL_ (some 61) rfl rfl Try.func15 (by kernel_rfl) rfl #[.string a0] rfl (by (try simp only [List.map_toArray, List.map_cons, List.map_nil]); first | done | rfl | (simp only [List.length_drop, List.length_take]; rfl)) ?_; (with_reducible refine (name_Labels.calls kj19 a0 t356 _ A50.out).mono ?_); rintro e w102 ⟨v357, rfl, ho0, hb⟩; refine ⟨_, rfl, ?_⟩; have n0_ := Aside0.mk (Kd.R_elder' (by (with_reducible repeat (first | apply Kd.R_alloc | apply Kd.R_drewN | apply Kd.R_drew)); exact HO355.out) (Kd.R_base ho0) hb); have n1_ := Aside0.mk (Kd.R_lower (Kd.R_new' ho0 (Kd.R_lt (by (with_reducible repeat (first | apply Kd.R_alloc | apply Kd.R_drewN | apply Kd.R_drew)); exact HO355.out))) (below_size (by repeat (first | (with_reducible first | exact HB.out | apply below_alloc | apply pw_below_drewN | apply below_drew1) | exact HB.out)))); have n2_ := Aside0.mk (below_step (by repeat (first | (with_reducible first | exact HB.out | apply below_alloc | apply pw_below_drewN | apply below_drew1) | exact HB.out)) hb); clear HO355; clear HB; have HO355 := n0_; have HO358 := n1_; have HB := n2_; clear n0_ n1_ n2_; (try clear hb); (try clear hb2); (try clear hk); (try clear hi); (try clear ho0); obtain ⟨Ao104, co104, eo104⟩ := Kd.R_slice HO358.out; subst eo104) | ((with_reducible refine gate_builtin (b := .append) (xs := #[.tmp 59, .tmp 61]) rfl ?_); (try (refine gate_guard (by rfl) ?_; dsimp only)); at_builtin; refine Kd.R_append_rows Kd.string (w0 := w) w.heap.size rfl (.tmp 59) (.tmp 61) 22 9 (.string ⟨#[]⟩) 16 rfl Try.underlying22 info9 rfl (by decide) (by omega) v354 y353 t356 _ _ _ (fun k_ => some k_ ≠ (.slice Ao104 t356.length co104 : Value).ownBlock) (fun _ => False) rfl rfl ?aO ?aR (fun _ _ h => h) (fun _ h => h.elim) ?aF ?aB ?aS ?aL ?_; (case aR => repeat (first | exact (Kd.R_reads' HO358.out).2.2 | (with_reducible refine Kd.C_alloc ?_ _) | (with_reducible refine Kd.C_drewN ?_ _) | (with_reducible refine Kd.C_drew ?_))); (case aB => exact (by repeat (first | (with_reducible first | exact HB.out | apply below_alloc | apply pw_below_drewN | apply below_drew1) | exact HB.out))); (case aF => exact (fun k_ hk => Kd.fresh' (Kd.R_lt (by (with_reducible repeat (first | apply Kd.R_alloc | apply Kd.R_drewN | apply Kd.R_drew)); exact HO358.out)) k_ hk)); (case aO => exact (by (with_reducible repeat (first | apply Kd.R_alloc | apply Kd.R_drewN | apply Kd.R_drew)); exact Kd.R_mono HO355.out (fun _ hk => hk.2))); (case aS => exact (below_size (by repeat (first | (with_reducible first | exact HB.out | apply below_alloc | apply pw_below_drewN | apply below_drew1) | exact HB.out)))); (case aL => have := LMc51.out; omega); intro v360 w103 ho hb hg hat; rw [← Ny359.out] at ho; have n0_ := Aside0.mk (Kd.R_after (ok := (fun _ => True)) (by (with_reducible repeat (first | apply Kd.R_alloc | apply Kd.R_drewN | apply Kd.R_drew)); exact HO358.out) hg hat); have n1_ := Aside0.mk (hb); have n2_ := Aside0.mk (ho); clear HO358; clear HB; clear HO355; have HO358 := n0_; have HB := n1_; have HO361 := n2_; clear n0_ n1_ n2_; clear ho hb hg hat; obtain ⟨Ao105, co105, eo105⟩ := Kd.R_slice HO361.out; subst eo105) | ((with_reducible refine gate_callee (f := 10) rfl ?_); refine goesL_ (some 63) rfl rfl Try.func10 (by kernel_rfl) rfl #[.slice Ao105 y359.length co105] rfl (by (try simp only [List.map_toArray, List.map_cons, List.map_nil]); first | done | rfl | (simp only [List.length_drop, List.length_take]; rfl)) ?_; (with_reducible refine (name_Make.calls kj19 _ _ y359 t362 t363 _ ?side1 ?side2 A52.out).mono ?_); (case side1 => repeat (first | exact (Kd.R_reads' HO361.out).2.2 | (with_reducible refine Kd.C_alloc ?_ _) | (with_reducible refine Kd.C_drewN ?_ _) | (with_reducible refine Kd.C_drew ?_))); (case side2 => exact (Kd.R_reads' HO361.out).2.1); rintro e w106 ⟨rfl, hb⟩; refine ⟨_, rfl, ?_⟩; have n0_ := Aside0.mk (Kd.R_below (by (with_reducible repeat (first | apply Kd.R_alloc | apply Kd.R_drewN | apply Kd.R_drew)); exact HO358.out) hb); have n1_ := Aside0.mk (Kd.R_below (by (with_reducible repeat (first | apply Kd.R_alloc | apply Kd.R_drewN | apply Kd.R_drew)); exact HO361.out) hb); have n2_ := Aside0.mk (below_step (by repeat (first | (with_reducible first | exact HB.out | apply below_alloc | apply pw_below_drewN | apply below_drew1) | exact HB.out)) hb); clear HO358; clear HO361; clear HB; have HO358 := n0_; have HO361 := n1_; have HB := n2_; clear n0_ n1_ n2_; (try clear hb); (try clear hb2); (try clear hk); (try clear hi)))
          go_ret
          exact ⟨by first | rfl | (simp [errW_none, errW_some] <;> rfl) | (simp [*, errW_none, errW_some] <;> rfl), by repeat (first | (with_reducible first | exact HB.out | apply below_alloc | apply pw_below_drewN | apply below_drew1) | exact HB.out)⟩
        ·
         rw [if_neg c51] at H
         exact absurd H (by simp)
 ·
  replace c5 := Bool.eq_false_iff.mpr c5
  subst c5
  have H1 : (some false) = some r := by rw [if_neg (show ¬ (false = true) by decide)] at H; exact H
  clear H
  have H := H1
  clear H1
  exact absurd ((Option.some.inj H).trans HT.out) (by decide)

/-- THE ONE PURE STATEMENT of nunciolaw04_NameZones: yours. -/
def nunciolaw04_NameZones.Pure : Prop := ∀ (a0 : ByteArray) (a1 : ByteArray) (a2 : ByteArray), a0.size ≤ 140737488351232 → a1.size ≤ 140737488351232 → a2.size ≤ 140737488351232 → ∃ k, nunciolaw04_NameZones.f k a0 a1 a2 = some true
theorem nunciolaw04_NameZones.walk (P : nunciolaw04_NameZones.Pure) (a0 : ByteArray) (a1 : ByteArray) (a2 : ByteArray) (w : World) (w0 : a0.size ≤ 140737488351232) (w1 : a1.size ≤ 140737488351232) (w2 : a2.size ≤ 140737488351232) :
  Calls Try.prog 7 #[.string a0, .string a1, .string a2] w fun e w' => e = .returned (.bool true) ∧ Below w.heap.size w w' := by
 obtain ⟨k, h⟩ := P a0 a1 a2 w0 w1 w2
 refine (nunciolaw04_NameZones.calls k a0 a1 a2 true w h rfl).mono ?_
 rintro e w' ⟨rfl, hd⟩
 exact ⟨rfl, hd⟩

end Go.Proofs.Ytpnflloamidecaa.Mine
