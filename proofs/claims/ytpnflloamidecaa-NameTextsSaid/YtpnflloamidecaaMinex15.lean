-- Written by this repo's own printer (wip/print), which builds on the kit's.
import Derived.Test.YtpnflloamidecaaMinex0
import Derived.Test.YtpnflloamidecaaMinex14
namespace Go.Proofs.Ytpnflloamidecaa.Mine
open Go.RowKit Go.Proofs.YtpnflloamidecaaW.PrintWords Go.Proofs.YtpnflloamidecaaW.PrintLast Go.Proofs.YtpnflloamidecaaW.PrintMore
attribute [local go_sem] max2_int min2_int max_two min_two max_three min_three max_four min_four   -- for this text's walks alone
set_option linter.unusedVariables false
set_option linter.unusedSimpArgs false

/-! ### nuncioref04_Same: function 19 -/
def nuncioref04_Same.f (k : Nat) (a0 : ByteArray) (a1 : ByteArray) : Option (Bool) := (nuncioref04_Is.f k a0).bind fun t257 => (if t257 = true then ((nuncioref04_Is.f k a1).bind fun t258 => (if t258 = true then ((nuncioref04_Fold.f k a0).bind fun t259 => ((nuncioref04_Fold.f k a1).bind fun t260 => (some (t259.toList == t260.toList)))) else (some false))) else (some false))
theorem nuncioref04_Same.mono : ∀ a0 a1 k, LeO (nuncioref04_Same.f k a0 a1) (nuncioref04_Same.f (k + 1) a0 a1) := by
 intro a0 a1 k
 unfold nuncioref04_Same.f
 repeat' first
   | (with_reducible exact nuncioref04_Fold.mono _ _)
   | (with_reducible exact nuncioref04_Is.mono _ _)
   | (with_reducible exact LeO.refl _)
   | (with_reducible exact LeO.none _)
   | (with_reducible refine LeO.ite ?_ ?_)
   | (with_reducible refine LeO.bind ?_ (fun _ => ?_))
   | exact nuncioref04_Fold.mono _ _
   | exact nuncioref04_Is.mono _ _
   | exact LeO.none _
   | refine LeO.ite ?_ ?_
   | refine LeO.bind ?_ (fun _ => ?_)
set_option maxHeartbeats 8000000 in
set_option maxRecDepth 100000 in
theorem nuncioref04_Same.calls (k : Nat) (a0 : ByteArray) (a1 : ByteArray) (r : Bool) (w : World) (h : nuncioref04_Same.f k a0 a1 = some r) :
  Calls Try.prog 19 #[.string a0, .string a1] w fun e w' => e = .returned (.bool r) ∧ Below w.heap.size w w' := by
 have HB := Aside0.mk (Below.refl w.heap.size w)
 have H : ((nuncioref04_Is.f k a0).bind fun t257 => (if t257 = true then ((nuncioref04_Is.f k a1).bind fun t258 => (if t258 = true then ((nuncioref04_Fold.f k a0).bind fun t259 => ((nuncioref04_Fold.f k a1).bind fun t260 => (some (t259.toList == t260.toList)))) else (some false))) else (some false))) = some r := h
 clear h
 replace H := Option.bind_eq_some_iff.mp H
 obtain ⟨t257, A30, H⟩ := H
 replace H : (if t257 = true then ((nuncioref04_Is.f k a1).bind fun t258 => (if t258 = true then ((nuncioref04_Fold.f k a0).bind fun t259 => ((nuncioref04_Fold.f k a1).bind fun t260 => (some (t259.toList == t260.toList)))) else (some false))) else (some false)) = some r := H
 have A3 := Aside0.mk A30
 clear A30
 by_cases c4 : t257 = true
 ·
  subst c4
  have H1 : ((nuncioref04_Is.f k a1).bind fun t258 => (if t258 = true then ((nuncioref04_Fold.f k a0).bind fun t259 => ((nuncioref04_Fold.f k a1).bind fun t260 => (some (t259.toList == t260.toList)))) else (some false))) = some r := by rw [if_pos rfl] at H; exact H
  clear H
  have H := H1
  clear H1
  replace H := Option.bind_eq_some_iff.mp H
  obtain ⟨t258, A50, H⟩ := H
  replace H : (if t258 = true then ((nuncioref04_Fold.f k a0).bind fun t259 => ((nuncioref04_Fold.f k a1).bind fun t260 => (some (t259.toList == t260.toList)))) else (some false)) = some r := H
  have A5 := Aside0.mk A50
  clear A50
  by_cases c6 : t258 = true
  ·
   subst c6
   have H1 : ((nuncioref04_Fold.f k a0).bind fun t259 => ((nuncioref04_Fold.f k a1).bind fun t260 => (some (t259.toList == t260.toList)))) = some r := by rw [if_pos rfl] at H; exact H
   clear H
   have H := H1
   clear H1
   replace H := Option.bind_eq_some_iff.mp H
   obtain ⟨t259, A70, H⟩ := H
   replace H : ((nuncioref04_Fold.f k a1).bind fun t260 => (some (t259.toList == t260.toList))) = some r := H
   have A7 := Aside0.mk A70
   clear A70
   replace H := Option.bind_eq_some_iff.mp H
   obtain ⟨t260, A80, H⟩ := H
   replace H : (some (t259.toList == t260.toList)) = some r := H
   have A8 := Aside0.mk A80
   clear A80
   obtain rfl := Option.some.inj H
   go_enter Try.func19, Try.ntmps19
   have tk13 : True := trivial
   have tk14 : True := trivial
   have tk15 : True := trivial
   have tk16 : True := trivial
   go_wp2_with (first | (have _t : True := tk13; clear tk13 _t; (with_reducible refine gate_callee (f := 31) rfl ?_); refine goesL_ (some 6) rfl rfl Try.func31 (by kernel_rfl) rfl #[.string a0] rfl (by (try simp only [List.map_toArray, List.map_cons, List.map_nil]); first | done | rfl | (simp only [List.length_drop, List.length_take]; rfl)) ?_; (with_reducible refine (nuncioref04_Is.calls k a0 true _ A3.out).mono ?_); rintro e w9 ⟨rfl, hb⟩; refine ⟨_, rfl, ?_⟩; have n0_ := Aside0.mk (below_step (by repeat (first | (with_reducible first | exact HB.out | apply below_alloc | apply pw_below_drewN | apply below_drew1) | exact HB.out)) hb); clear HB; have HB := n0_; clear n0_; (try clear hb); (try clear hb2); (try clear hk); (try clear hi)) | (have _t : True := tk14; clear tk14 _t; go_at_call 31; (with_reducible refine (nuncioref04_Is.calls k a1 true _ A5.out).mono ?_); rintro e w10 ⟨rfl, hb⟩; have n0_ := Aside0.mk (below_step (by repeat (first | (with_reducible first | exact HB.out | apply below_alloc | apply pw_below_drewN | apply below_drew1) | exact HB.out)) hb); clear HB; have HB := n0_; clear n0_; (try clear hb); (try clear hb2); (try clear hk); (try clear hi)) | (have _t : True := tk15; clear tk15 _t; go_at_call 17; (with_reducible refine (nuncioref04_Fold.calls k a0 t259 _ A7.out).mono ?_); rintro e w11 ⟨rfl, hb⟩; have n0_ := Aside0.mk (below_step (by repeat (first | (with_reducible first | exact HB.out | apply below_alloc | apply pw_below_drewN | apply below_drew1) | exact HB.out)) hb); clear HB; have HB := n0_; clear n0_; (try clear hb); (try clear hb2); (try clear hk); (try clear hi)) | (have _t : True := tk16; clear tk16 _t; go_at_call 17; (with_reducible refine (nuncioref04_Fold.calls k a1 t260 _ A8.out).mono ?_); rintro e w12 ⟨rfl, hb⟩; have n0_ := Aside0.mk (below_step (by repeat (first | (with_reducible first | exact HB.out | apply below_alloc | apply pw_below_drewN | apply below_drew1) | exact HB.out)) hb); clear HB; have HB := n0_; clear n0_; (try clear hb); (try clear hb2); (try clear hk); (try clear hi)))
   go_ret
   exact ⟨by first | rfl | (simp [errW_none, errW_some] <;> rfl) | (simp [*, errW_none, errW_some] <;> rfl), by repeat (first | (with_reducible first | exact HB.out | apply below_alloc | apply pw_below_drewN | apply below_drew1) | exact HB.out)⟩
  ·
   replace c6 := Bool.eq_false_iff.mpr c6
   subst c6
   have H1 : (some false) = some r := by rw [if_neg (show ¬ (false = true) by decide)] at H; exact H
   clear H
   have H := H1
   clear H1
   obtain rfl := Option.some.inj H
   go_enter Try.func19, Try.ntmps19
   have tk19 : True := trivial
   have tk20 : True := trivial
   go_wp2_with (first | (have _t : True := tk19; clear tk19 _t; (with_reducible refine gate_callee (f := 31) rfl ?_); refine goesL_ (some 6) rfl rfl Try.func31 (by kernel_rfl) rfl #[.string a0] rfl (by (try simp only [List.map_toArray, List.map_cons, List.map_nil]); first | done | rfl | (simp only [List.length_drop, List.length_take]; rfl)) ?_; (with_reducible refine (nuncioref04_Is.calls k a0 true _ A3.out).mono ?_); rintro e w17 ⟨rfl, hb⟩; refine ⟨_, rfl, ?_⟩; have n0_ := Aside0.mk (below_step (by repeat (first | (with_reducible first | exact HB.out | apply below_alloc | apply pw_below_drewN | apply below_drew1) | exact HB.out)) hb); clear HB; have HB := n0_; clear n0_; (try clear hb); (try clear hb2); (try clear hk); (try clear hi)) | (have _t : True := tk20; clear tk20 _t; go_at_call 31; (with_reducible refine (nuncioref04_Is.calls k a1 false _ A5.out).mono ?_); rintro e w18 ⟨rfl, hb⟩; have n0_ := Aside0.mk (below_step (by repeat (first | (with_reducible first | exact HB.out | apply below_alloc | apply pw_below_drewN | apply below_drew1) | exact HB.out)) hb); clear HB; have HB := n0_; clear n0_; (try clear hb); (try clear hb2); (try clear hk); (try clear hi)))
   go_ret
   exact ⟨by first | rfl | (simp [errW_none, errW_some] <;> rfl) | (simp [*, errW_none, errW_some] <;> rfl), by repeat (first | (with_reducible first | exact HB.out | apply below_alloc | apply pw_below_drewN | apply below_drew1) | exact HB.out)⟩
 ·
  replace c4 := Bool.eq_false_iff.mpr c4
  subst c4
  have H1 : (some false) = some r := by rw [if_neg (show ¬ (false = true) by decide)] at H; exact H
  clear H
  have H := H1
  clear H1
  obtain rfl := Option.some.inj H
  go_enter Try.func19, Try.ntmps19
  go_wp2_with (first | ((with_reducible refine gate_callee (f := 31) rfl ?_); refine goesL_ (some 6) rfl rfl Try.func31 (by kernel_rfl) rfl #[.string a0] rfl (by (try simp only [List.map_toArray, List.map_cons, List.map_nil]); first | done | rfl | (simp only [List.length_drop, List.length_take]; rfl)) ?_; (with_reducible refine (nuncioref04_Is.calls k a0 false _ A3.out).mono ?_); rintro e w21 ⟨rfl, hb⟩; refine ⟨_, rfl, ?_⟩; have n0_ := Aside0.mk (below_step (by repeat (first | (with_reducible first | exact HB.out | apply below_alloc | apply pw_below_drewN | apply below_drew1) | exact HB.out)) hb); clear HB; have HB := n0_; clear n0_; (try clear hb); (try clear hb2); (try clear hk); (try clear hi)))
  go_ret
  exact ⟨by first | rfl | (simp [errW_none, errW_some] <;> rfl) | (simp [*, errW_none, errW_some] <;> rfl), by repeat (first | (with_reducible first | exact HB.out | apply below_alloc | apply pw_below_drewN | apply below_drew1) | exact HB.out)⟩

end Go.Proofs.Ytpnflloamidecaa.Mine
