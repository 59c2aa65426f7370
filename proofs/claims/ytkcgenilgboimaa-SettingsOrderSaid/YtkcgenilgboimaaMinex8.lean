-- Written by this repo's own printer (wip/print), which builds on the kit's.
import Derived.Test.YtkcgenilgboimaaMinex0
import Derived.Test.YtkcgenilgboimaaMinex1
import Derived.Test.YtkcgenilgboimaaMinex4
import Derived.Test.YtkcgenilgboimaaMinex6
namespace Go.Proofs.Ytkcgenilgboimaa.Mine
open Go.RowKit Go.Proofs.YtkcgenilgboimaaW.PrintWords Go.Proofs.YtkcgenilgboimaaW.PrintLast Go.Proofs.YtkcgenilgboimaaW.PrintMore
attribute [local go_sem] max2_int min2_int max_two min_two max_three min_three max_four min_four   -- for this text's walks alone
set_option linter.unusedVariables false
set_option linter.unusedSimpArgs false

attribute [local go_sem high] eqA26
/-! ### nunciolaw16_SettingsOrder_p0: function 4 -/
def nunciolaw16_SettingsOrder_p0.j0 : Nat → Bool → List (S42) → List (S42) → Bool → Option (Bool)
 | 0, _, _, _, _ => none
 | k + 1, x0, x1, x2, x25 => if x25 = true then (some true) else ((settings_Defaults.f).bind fun bt182 => ((settings_Apply.f k bt182.1 bt182.2.1 bt182.2.2.1 bt182.2.2.2.1 bt182.2.2.2.2.1 bt182.2.2.2.2.2 x0 x1).bind fun bt189 => ((settings_Apply.f k bt189.1 bt189.2.1 bt189.2.2.1 bt189.2.2.2.1 bt189.2.2.2.2.1 bt189.2.2.2.2.2.1 x0 x2).bind fun bt197 => ((some (([] : List (S42)) : List (S42))).bind fun y205 => (if y205.length + x1.length < 17592186044416 then ((some (y205 ++ x1 : List (S42))).bind fun y208 => (if y208.length + x2.length < 17592186044416 then ((settings_Apply.f k bt182.1 bt182.2.1 bt182.2.2.1 bt182.2.2.2.1 bt182.2.2.2.2.1 bt182.2.2.2.2.2 x0 (y208 ++ x2)).bind fun bt214 => (if bt189.2.2.2.2.2.2 = 0 then (none) else (if bt214.2.2.2.2.2.2 = bt189.2.2.2.2.2.2 then (if (bt214.1 == bt182.1 && (bt214.2.1 == bt182.2.1 && (bt214.2.2.1 == bt182.2.2.1 && (bt214.2.2.2.1 == bt182.2.2.2.1 && (bt214.2.2.2.2.1 == bt182.2.2.2.2.1 && (bt214.2.2.2.2.2.1 == bt182.2.2.2.2.2)))))) = true then (some (bt189.1 == bt182.1 && (bt189.2.1 == bt182.2.1 && (bt189.2.2.1 == bt182.2.2.1 && (bt189.2.2.2.1 == bt182.2.2.2.1 && (bt189.2.2.2.2.1 == bt182.2.2.2.2.1 && (bt189.2.2.2.2.2.1 == bt182.2.2.2.2.2))))))) else (some false)) else (some false)))) else (none))) else (none))))))
def nunciolaw16_SettingsOrder_p0.f (k : Nat) (a0 : Bool) (l1 : List (S42)) (l2 : List (S42)) : Option (Bool) := (nunciolaw16_awake.f k).bind fun t181 => (if t181 = true then (if (l1.length : Int) > 2000 then (nunciolaw16_SettingsOrder_p0.j0 k a0 l1 l2 true) else (nunciolaw16_SettingsOrder_p0.j0 k a0 l1 l2 (decide ((l2.length : Int) > 2000)))) else (some false))
theorem nunciolaw16_SettingsOrder_p0.mono_l : ∀ k, (∀ y0 y1 y2 y3, LeO (nunciolaw16_SettingsOrder_p0.j0 k y0 y1 y2 y3) (nunciolaw16_SettingsOrder_p0.j0 (k + 1) y0 y1 y2 y3))
 | 0 => fun _ _ _ _ r h => by simp [nunciolaw16_SettingsOrder_p0.j0] at h
 | k + 1 => by
  have ih0 := nunciolaw16_SettingsOrder_p0.mono_l k
  ·
   intro y0 y1 y2 y3
   unfold nunciolaw16_SettingsOrder_p0.j0
   repeat' first
   | (with_reducible exact ih0 _ _ _ _)
   | (with_reducible exact nunciolaw16_awake.mono _)
   | (with_reducible exact settings_Apply.mono _ _ _ _ _ _ _ _ _)
   | (with_reducible exact LeO.refl _)
   | (with_reducible exact LeO.none _)
   | (with_reducible refine LeO.ite ?_ ?_)
   | (with_reducible refine LeO.bind ?_ (fun _ => ?_))
   | exact ih0 _ _ _ _
   | exact nunciolaw16_awake.mono _
   | exact settings_Apply.mono _ _ _ _ _ _ _ _ _
   | exact LeO.none _
   | refine LeO.ite ?_ ?_
   | refine LeO.bind ?_ (fun _ => ?_)
theorem nunciolaw16_SettingsOrder_p0.mono : ∀ a0 a1 a2 k, LeO (nunciolaw16_SettingsOrder_p0.f k a0 a1 a2) (nunciolaw16_SettingsOrder_p0.f (k + 1) a0 a1 a2) := by
 intro a0 a1 a2 k
 have ih0 := nunciolaw16_SettingsOrder_p0.mono_l k
 unfold nunciolaw16_SettingsOrder_p0.f
 repeat' first
   | (with_reducible exact ih0 _ _ _ _)
   | (with_reducible exact nunciolaw16_awake.mono _)
   | (with_reducible exact settings_Apply.mono _ _ _ _ _ _ _ _ _)
   | (with_reducible exact LeO.refl _)
   | (with_reducible exact LeO.none _)
   | (with_reducible refine LeO.ite ?_ ?_)
   | (with_reducible refine LeO.bind ?_ (fun _ => ?_))
   | exact ih0 _ _ _ _
   | exact nunciolaw16_awake.mono _
   | exact settings_Apply.mono _ _ _ _ _ _ _ _ _
   | exact LeO.none _
   | refine LeO.ite ?_ ?_
   | refine LeO.bind ?_ (fun _ => ?_)
def nunciolaw16_SettingsOrder_p0.T8 : Bool × List (List Nat × List Nat) := (true, [([], []), ([], []), ([], []), ([], []), ([2, 3], [2, 3]), ([], []), ([4, 5, 4], [4, 5]), ([0, 1, 6, 6], [0, 1, 6]), ([7], [7]), ([8], [8]), ([8], [8]), ([], []), ([11, 9, 7, 0, 1, 2, 3, 4, 5, 6, 7, 8, 9, 11], [9, 11]), ([10, 12, 0, 1, 2, 3, 4, 5, 6, 7, 8, 9, 10, 11, 12], [10])])
def nunciolaw16_SettingsOrder_p0.B8 : List Nat := [0, 0, 0, 0, 12, 0, 60, 127, 255, 511, 511, 0, 3071, 8191]
theorem nunciolaw16_SettingsOrder_p0.tab8 : rtab .any (opsOf Try.f4 8) = nunciolaw16_SettingsOrder_p0.T8 := by kernel_rfl
theorem nunciolaw16_SettingsOrder_p0.bits8 : waitsOk nunciolaw16_SettingsOrder_p0.T8.2 nunciolaw16_SettingsOrder_p0.B8 = true := by kernel_rfl
set_option maxHeartbeats 8000000 in
set_option maxRecDepth 100000 in
theorem nunciolaw16_SettingsOrder_p0.calls (k : Nat) (a0 : Bool) (A1 : Option Addr) (c1 : Nat) (l1 : List (S42)) (A2 : Option Addr) (c2 : Nat) (l2 : List (S42)) (r : Bool) (w : World) (hr1 : Kd.C k42 w A1 l1.length l1) (hc1 : l1.length ≤ c1) (hr2 : Kd.C k42 w A2 l2.length l2) (hc2 : l2.length ≤ c2) (h : nunciolaw16_SettingsOrder_p0.f k a0 l1 l2 = some r) (hT : r = true) :
  Calls Try.prog 4 #[.bool a0, .slice A1 l1.length c1, .slice A2 l2.length c2] w fun e w' => e = .returned (.bool r) ∧ Below w.heap.size w w' := by
 have hu26 := Try.underlying26
 have HR1 := Aside0.mk hr1
 have HC1 := Aside0.mk hc1
 clear hr1 hc1
 have HR2 := Aside0.mk hr2
 have HC2 := Aside0.mk hc2
 clear hr2 hc2
 have HB := Aside0.mk (Below.refl w.heap.size w)
 have HT := Aside0.mk hT
 clear hT
 have H : ((nunciolaw16_awake.f k).bind fun t181 => (if t181 = true then (if (l1.length : Int) > 2000 then (nunciolaw16_SettingsOrder_p0.j0 k a0 l1 l2 true) else (nunciolaw16_SettingsOrder_p0.j0 k a0 l1 l2 (decide ((l2.length : Int) > 2000)))) else (some false))) = some r := h
 clear h
 replace H := Option.bind_eq_some_iff.mp H
 obtain ⟨t181, A40, H⟩ := H
 replace H : (if t181 = true then (if (l1.length : Int) > 2000 then (nunciolaw16_SettingsOrder_p0.j0 k a0 l1 l2 true) else (nunciolaw16_SettingsOrder_p0.j0 k a0 l1 l2 (decide ((l2.length : Int) > 2000)))) else (some false)) = some r := H
 have A4 := Aside0.mk A40
 clear A40
 by_cases c5 : t181 = true
 ·
  subst c5
  have H1 : (if (l1.length : Int) > 2000 then (nunciolaw16_SettingsOrder_p0.j0 k a0 l1 l2 true) else (nunciolaw16_SettingsOrder_p0.j0 k a0 l1 l2 (decide ((l2.length : Int) > 2000)))) = some r := by rw [if_pos rfl] at H; exact H
  clear H
  have H := H1
  clear H1
  have HC6 := Aside0.mk H
  clear H
  go_enter Try.func4, Try.ntmps4
  go_upto_region 3 with (first | ((with_reducible refine gate_callee (f := 8) rfl ?_); refine goesL_ (some 16) rfl rfl Try.func8 (by kernel_rfl) rfl #[] rfl (by (try simp only [List.map_toArray, List.map_cons, List.map_nil]); first | done | rfl | (simp only [List.length_drop, List.length_take]; rfl)) ?_; (with_reducible refine (nunciolaw16_awake.calls k  true _ A4.out).mono ?_); rintro e w7 ⟨rfl, hb⟩; refine ⟨_, rfl, ?_⟩; have n0_ := Aside0.mk (below_step (by repeat (first | (with_reducible first | exact HB.out | apply below_alloc | apply pw_below_drewN | apply below_drew1) | exact HB.out)) hb); clear HB; have HB := n0_; clear n0_; (try clear hb); (try clear hb2); (try clear hk); (try clear hi)))
  (try simp only [Act.put, List.setIfInBounds_toArray, List.set_cons_zero, List.set_cons_succ])
  go_cut [25] (fun v25 wc => ∃ (kq : Nat) (x25_5 : Bool), v25 = .bool x25_5 ∧ Aside0 (nunciolaw16_SettingsOrder_p0.j0 kq a0 l1 l2 x25_5 = some r) ∧ Aside0 (kq ≤ k) ∧ Aside0 (Below w.heap.size w wc))
  case first =>
   have H := HC6.out
   clear HC6
   by_cases c8 : (l1.length : Int) > 2000
   ·
    rw [if_pos c8] at H
    have c8b0 : decide (2000 < (l1.length : Int)) = true := decide_eq_true c8
    have c8b1 : decide (2000 < l1.length) = true := decide_eq_true (by omega)
    clear c8
    (first | rw [c8b0] | rw [c8b1] | (simp only [i64_w, i32_w]; rw [c8b0]) | skip)
    have H' := Aside0.mk H
    clear H
    go_wp2
    go_meet
    case rel => exact ⟨_, (true), (by first | rfl | (simp; done) | (simp [*]; done)), H', ⟨by first | omega | exact Nat.le_refl _⟩, ⟨by repeat (first | (with_reducible first | exact HB.out | apply below_alloc | apply pw_below_drewN | apply below_drew1) | exact HB.out)⟩⟩
   ·
    rw [if_neg c8] at H
    have c8b0 : decide (2000 < (l1.length : Int)) = false := decide_eq_false c8
    have c8b1 : decide (2000 < l1.length) = false := decide_eq_false (by omega)
    clear c8
    (first | rw [c8b0] | rw [c8b1] | (simp only [i64_w, i32_w]; rw [c8b0]) | skip)
    have H' := Aside0.mk H
    clear H
    go_wp2
    go_meet
    case rel => exact ⟨_, (decide ((l2.length : Int) > 2000)), (by first | rfl | (simp; done) | (simp [*]; done)), H', ⟨by first | omega | exact Nat.le_refl _⟩, ⟨by repeat (first | (with_reducible first | exact HB.out | apply below_alloc | apply pw_below_drewN | apply below_drew1) | exact HB.out)⟩⟩
  case rest =>
   clear HC6
   try clear c1
   try clear c2
   try clear p2
   try clear c4
   try clear c5
   try clear c8
   try clear c8b0
   try clear c8b1
   obtain ⟨kq, x25_5, rfl, HA, HJ5, HB⟩ := hcut
   cases kq with
   | zero => exact absurd HA.out (by simp [nunciolaw16_SettingsOrder_p0.j0])
   | succ kj5 =>
    have H := HA.out
    clear HA
    simp only [nunciolaw16_SettingsOrder_p0.j0] at H
    by_cases c9 : x25_5 = true
    ·
     subst c9
     have H1 : (some true) = some r := by rw [if_pos rfl] at H; exact H
     clear H
     have H := H1
     clear H1
     obtain rfl := Option.some.inj H
     go_wp2
     go_ret
     exact ⟨by first | rfl | (simp [errW_none, errW_some] <;> rfl) | (simp [*, errW_none, errW_some] <;> rfl), by repeat (first | (with_reducible first | exact HB.out | apply below_alloc | apply pw_below_drewN | apply below_drew1) | exact HB.out)⟩
    ·
     replace c9 := Bool.eq_false_iff.mpr c9
     subst c9
     have H1 : ((settings_Defaults.f).bind fun bt182 => ((settings_Apply.f kj5 bt182.1 bt182.2.1 bt182.2.2.1 bt182.2.2.2.1 bt182.2.2.2.2.1 bt182.2.2.2.2.2 a0 l1).bind fun bt189 => ((settings_Apply.f kj5 bt189.1 bt189.2.1 bt189.2.2.1 bt189.2.2.2.1 bt189.2.2.2.2.1 bt189.2.2.2.2.2.1 a0 l2).bind fun bt197 => ((some (([] : List (S42)) : List (S42))).bind fun y205 => (if y205.length + l1.length < 17592186044416 then ((some (y205 ++ l1 : List (S42))).bind fun y208 => (if y208.length + l2.length < 17592186044416 then ((settings_Apply.f kj5 bt182.1 bt182.2.1 bt182.2.2.1 bt182.2.2.2.1 bt182.2.2.2.2.1 bt182.2.2.2.2.2 a0 (y208 ++ l2)).bind fun bt214 => (if bt189.2.2.2.2.2.2 = 0 then (none) else (if bt214.2.2.2.2.2.2 = bt189.2.2.2.2.2.2 then (if (bt214.1 == bt182.1 && (bt214.2.1 == bt182.2.1 && (bt214.2.2.1 == bt182.2.2.1 && (bt214.2.2.2.1 == bt182.2.2.2.1 && (bt214.2.2.2.2.1 == bt182.2.2.2.2.1 && (bt214.2.2.2.2.2.1 == bt182.2.2.2.2.2)))))) = true then (some (bt189.1 == bt182.1 && (bt189.2.1 == bt182.2.1 && (bt189.2.2.1 == bt182.2.2.1 && (bt189.2.2.2.1 == bt182.2.2.2.1 && (bt189.2.2.2.2.1 == bt182.2.2.2.2.1 && (bt189.2.2.2.2.2.1 == bt182.2.2.2.2.2))))))) else (some false)) else (some false)))) else (none))) else (none)))))) = some r := by rw [if_neg (show ¬ (false = true) by decide)] at H; exact H
     clear H
     have H := H1
     clear H1
     replace H := Option.bind_eq_some_iff.mp H
     obtain ⟨⟨t182, t183, t184, t185, t186, t187⟩, A100, H⟩ := H
     replace H : ((settings_Apply.f kj5 t182 t183 t184 t185 t186 t187 a0 l1).bind fun bt189 => ((settings_Apply.f kj5 bt189.1 bt189.2.1 bt189.2.2.1 bt189.2.2.2.1 bt189.2.2.2.2.1 bt189.2.2.2.2.2.1 a0 l2).bind fun bt197 => ((some (([] : List (S42)) : List (S42))).bind fun y205 => (if y205.length + l1.length < 17592186044416 then ((some (y205 ++ l1 : List (S42))).bind fun y208 => (if y208.length + l2.length < 17592186044416 then ((settings_Apply.f kj5 t182 t183 t184 t185 t186 t187 a0 (y208 ++ l2)).bind fun bt214 => (if bt189.2.2.2.2.2.2 = 0 then (none) else (if bt214.2.2.2.2.2.2 = bt189.2.2.2.2.2.2 then (if (bt214.1 == t182 && (bt214.2.1 == t183 && (bt214.2.2.1 == t184 && (bt214.2.2.2.1 == t185 && (bt214.2.2.2.2.1 == t186 && (bt214.2.2.2.2.2.1 == t187)))))) = true then (some (bt189.1 == t182 && (bt189.2.1 == t183 && (bt189.2.2.1 == t184 && (bt189.2.2.2.1 == t185 && (bt189.2.2.2.2.1 == t186 && (bt189.2.2.2.2.2.1 == t187))))))) else (some false)) else (some false)))) else (none))) else (none))))) = some r := H
     have A10 := Aside0.mk A100
     clear A100
     replace H := Option.bind_eq_some_iff.mp H
     obtain ⟨⟨t189, t190, t191, t192, t193, t194, t195⟩, A110, H⟩ := H
     replace H : ((settings_Apply.f kj5 t189 t190 t191 t192 t193 t194 a0 l2).bind fun bt197 => ((some (([] : List (S42)) : List (S42))).bind fun y205 => (if y205.length + l1.length < 17592186044416 then ((some (y205 ++ l1 : List (S42))).bind fun y208 => (if y208.length + l2.length < 17592186044416 then ((settings_Apply.f kj5 t182 t183 t184 t185 t186 t187 a0 (y208 ++ l2)).bind fun bt214 => (if t195 = 0 then (none) else (if bt214.2.2.2.2.2.2 = t195 then (if (bt214.1 == t182 && (bt214.2.1 == t183 && (bt214.2.2.1 == t184 && (bt214.2.2.2.1 == t185 && (bt214.2.2.2.2.1 == t186 && (bt214.2.2.2.2.2.1 == t187)))))) = true then (some (t189 == t182 && (t190 == t183 && (t191 == t184 && (t192 == t185 && (t193 == t186 && (t194 == t187))))))) else (some false)) else (some false)))) else (none))) else (none)))) = some r := H
     have A11 := Aside0.mk A110
     clear A110
     replace H := Option.bind_eq_some_iff.mp H
     obtain ⟨⟨t197, t198, t199, t200, t201, t202, t203⟩, A120, H⟩ := H
     replace H : ((some (([] : List (S42)) : List (S42))).bind fun y205 => (if y205.length + l1.length < 17592186044416 then ((some (y205 ++ l1 : List (S42))).bind fun y208 => (if y208.length + l2.length < 17592186044416 then ((settings_Apply.f kj5 t182 t183 t184 t185 t186 t187 a0 (y208 ++ l2)).bind fun bt214 => (if t195 = 0 then (none) else (if bt214.2.2.2.2.2.2 = t195 then (if (bt214.1 == t182 && (bt214.2.1 == t183 && (bt214.2.2.1 == t184 && (bt214.2.2.2.1 == t185 && (bt214.2.2.2.2.1 == t186 && (bt214.2.2.2.2.2.1 == t187)))))) = true then (some (t189 == t182 && (t190 == t183 && (t191 == t184 && (t192 == t185 && (t193 == t186 && (t194 == t187))))))) else (some false)) else (some false)))) else (none))) else (none))) = some r := H
     have A12 := Aside0.mk A120
     clear A120
     obtain ⟨y205, hy205⟩ : ∃ y_ : List (S42), y_ = (([] : List (S42))) := ⟨_, rfl⟩
     replace H : (if y205.length + l1.length < 17592186044416 then ((some (y205 ++ l1 : List (S42))).bind fun y208 => (if y208.length + l2.length < 17592186044416 then ((settings_Apply.f kj5 t182 t183 t184 t185 t186 t187 a0 (y208 ++ l2)).bind fun bt214 => (if t195 = 0 then (none) else (if bt214.2.2.2.2.2.2 = t195 then (if (bt214.1 == t182 && (bt214.2.1 == t183 && (bt214.2.2.1 == t184 && (bt214.2.2.2.1 == t185 && (bt214.2.2.2.2.1 == t186 && (bt214.2.2.2.2.2.1 == t187)))))) = true then (some (t189 == t182 && (t190 == t183 && (t191 == t184 && (t192 == t185 && (t193 == t186 && (t194 == t187))))))) else (some false)) else (some false)))) else (none))) else (none)) = some r := by first | (rw [hy205]; with_reducible exact H) | (have H2_ := (Option.bind_some _ _).symm.trans H; rw [hy205]; with_reducible exact H2_) | (have H2_ := (Option.bind_some _ _).symm.trans H; with_reducible exact H2_) | with_reducible exact H | (rw [hy205]; exact H) | exact H
     have Ny205 := Aside0.mk hy205
     clear hy205
     by_cases c13 : y205.length + l1.length < 17592186044416
     ·
      rw [if_pos c13] at H
      have LMc13 := Aside0.mk c13
      clear c13
      obtain ⟨y208, hy208⟩ : ∃ y_ : List (S42), y_ = (y205 ++ l1) := ⟨_, rfl⟩
      replace H : (if y208.length + l2.length < 17592186044416 then ((settings_Apply.f kj5 t182 t183 t184 t185 t186 t187 a0 (y208 ++ l2)).bind fun bt214 => (if t195 = 0 then (none) else (if bt214.2.2.2.2.2.2 = t195 then (if (bt214.1 == t182 && (bt214.2.1 == t183 && (bt214.2.2.1 == t184 && (bt214.2.2.2.1 == t185 && (bt214.2.2.2.2.1 == t186 && (bt214.2.2.2.2.2.1 == t187)))))) = true then (some (t189 == t182 && (t190 == t183 && (t191 == t184 && (t192 == t185 && (t193 == t186 && (t194 == t187))))))) else (some false)) else (some false)))) else (none)) = some r := by first | (rw [hy208]; with_reducible exact H) | (have H2_ := (Option.bind_some _ _).symm.trans H; rw [hy208]; with_reducible exact H2_) | (have H2_ := (Option.bind_some _ _).symm.trans H; with_reducible exact H2_) | with_reducible exact H | (rw [hy208]; exact H) | exact H
      have Ny208 := Aside0.mk hy208
      clear hy208
      by_cases c14 : y208.length + l2.length < 17592186044416
      ·
       rw [if_pos c14] at H
       have LMc14 := Aside0.mk c14
       clear c14
       obtain ⟨y211, hy211⟩ : ∃ y_ : List (S42), y_ = (y208 ++ l2) := ⟨_, rfl⟩
       replace H : ((settings_Apply.f kj5 t182 t183 t184 t185 t186 t187 a0 y211).bind fun bt214 => (if t195 = 0 then (none) else (if bt214.2.2.2.2.2.2 = t195 then (if (bt214.1 == t182 && (bt214.2.1 == t183 && (bt214.2.2.1 == t184 && (bt214.2.2.2.1 == t185 && (bt214.2.2.2.2.1 == t186 && (bt214.2.2.2.2.2.1 == t187)))))) = true then (some (t189 == t182 && (t190 == t183 && (t191 == t184 && (t192 == t185 && (t193 == t186 && (t194 == t187))))))) else (some false)) else (some false)))) = some r := by first | (rw [hy211]; with_reducible exact H) | (have H2_ := (Option.bind_some _ _).symm.trans H; rw [hy211]; with_reducible exact H2_) | (have H2_ := (Option.bind_some _ _).symm.trans H; with_reducible exact H2_) | with_reducible exact H | (rw [hy211]; exact H) | exact H
       have Ny211 := Aside0.mk hy211
       clear hy211
       replace H := Option.bind_eq_some_iff.mp H
       obtain ⟨⟨t214, t215, t216, t217, t218, t219, t220⟩, A150, H⟩ := H
       replace H : (if t195 = 0 then (none) else (if t220 = t195 then (if (t214 == t182 && (t215 == t183 && (t216 == t184 && (t217 == t185 && (t218 == t186 && (t219 == t187)))))) = true then (some (t189 == t182 && (t190 == t183 && (t191 == t184 && (t192 == t185 && (t193 == t186 && (t194 == t187))))))) else (some false)) else (some false))) = some r := H
       have A15 := Aside0.mk A150
       clear A150
       by_cases c16 : t195 = 0
       ·
        rw [if_pos c16] at H
        exact absurd H (by simp)
       ·
        rw [if_neg c16] at H
        have c16b0 : (t195 == 0) = false := beq_eq_false_iff_ne.mpr c16
        have c16b1 : (t195 != 0) = true := bne_iff_ne.mpr c16
        by_cases c17 : t220 = t195
        ·
         rw [if_pos c17] at H
         have c17b0 : (t220 == t195) = true := beq_iff_eq.mpr c17
         have c17b1 : (t220 != t195) = false := bne_eq_false_iff_eq.mpr c17
         clear c17
         by_cases c18 : (t214 == t182 && (t215 == t183 && (t216 == t184 && (t217 == t185 && (t218 == t186 && (t219 == t187)))))) = true
         ·
          rw [if_pos c18] at H
          have c18b0 : (t214 == t182 && (t215 == t183 && (t216 == t184 && (t217 == t185 && (t218 == t186 && (t219 == t187)))))) = true := c18
          (try (have c18b1 : decide (t214 = t182 && (t215 == t183 && (t216 == t184 && (t217 == t185 && (t218 == t186 && (t219 == t187)))))) = true := by simpa using c18))
          (try (have c18b2 : (t214 == t182 && (t215 == t183 && (t216 == t184 && (t217 == t185 && (t218 == t186 && (t219 == t187)))))) = true := by simpa using c18))
          clear c18
          (try (have c18b9 := c18b0; simp only [beq_true, beq_false] at c18b9))
          obtain rfl := Option.some.inj H
          try go_wp2_with (first | ((with_reducible refine gate_callee (f := 10) rfl ?_); refine goesL_ (some 26) rfl rfl Try.func10 (by kernel_rfl) rfl #[] rfl (by (try simp only [List.map_toArray, List.map_cons, List.map_nil]); first | done | rfl | (simp only [List.length_drop, List.length_take]; rfl)) ?_; (with_reducible refine (settings_Defaults.calls  t182 t183 t184 t185 t186 t187 _ A10.out).mono ?_); rintro e w19 ⟨rfl, hb⟩; refine ⟨_, rfl, ?_⟩; have n0_ := Aside0.mk (below_step (by repeat (first | (with_reducible first | exact HB.out | apply below_alloc | apply pw_below_drewN | apply below_drew1) | exact HB.out)) hb); clear HB; have HB := n0_; clear n0_; (try clear hb); (try clear hb2); (try clear hk); (try clear hi)) | ((with_reducible refine gate_dst (N := 7) rfl ?_); (try (refine gate_guard (by rfl) ?_; dsimp only)); refine box_event ?hg (N := 7) ?hd (cs := #[.int .u32 0, .int .u32 0, .int .u32 0, .int .u32 0, .int .u32 0, .bool false]) (t := 26) ?hr ?_; (case hd => rfl); (case hg => rfl); (case hr => first | (go_simp; done) | (go_simp; rfl)); intro gb188 hg w20 hbox hb; have n0_ := Aside0.mk (below_step (by repeat (first | (with_reducible first | exact HB.out | apply below_alloc | apply pw_below_drewN | apply below_drew1) | exact HB.out)) hb); have n1_ := Aside0.mk (hbox); have n2_ := Aside0.mk ((by rw [hg]; exact (below_size (by repeat (first | (with_reducible first | exact HB.out | apply below_alloc | apply pw_below_drewN | apply below_drew1) | exact HB.out))) : w.heap.size ≤ gb188)); have n3_ := Aside0.mk ((by rw [hg]; exact (below_size (by repeat (first | (with_reducible first | exact HB.out | apply below_alloc | apply pw_below_drewN | apply below_drew1) | exact HB.out))) : w.heap.size ≤ gb188)); clear HB; have HB := n0_; have BK188 := n1_; have GW188 := n2_; have GE188 := n3_; clear n0_ n1_ n2_ n3_; clear hb hbox hg; have hcz21_0 : w20.cell? ⟨gb188, 0, none⟩ = some (.int .u32 0) := (blk_cell BK188.out 0).trans rfl; have hcz21_1 : w20.cell? ⟨gb188, 1, none⟩ = some (.int .u32 0) := (blk_cell BK188.out 1).trans rfl; have hcz21_2 : w20.cell? ⟨gb188, 2, none⟩ = some (.int .u32 0) := (blk_cell BK188.out 2).trans rfl; have hcz21_3 : w20.cell? ⟨gb188, 3, none⟩ = some (.int .u32 0) := (blk_cell BK188.out 3).trans rfl; have hcz21_4 : w20.cell? ⟨gb188, 4, none⟩ = some (.int .u32 0) := (blk_cell BK188.out 4).trans rfl; have hcz21_5 : w20.cell? ⟨gb188, 5, none⟩ = some (.bool false) := (blk_cell BK188.out 5).trans rfl; have hfz21_0 := blk_frozen BK188.out 0; have hfz21_1 := blk_frozen BK188.out 1; have hfz21_2 := blk_frozen BK188.out 2; have hfz21_3 := blk_frozen BK188.out 3; have hfz21_4 := blk_frozen BK188.out 4; have hfz21_5 := blk_frozen BK188.out 5) | ((with_reducible refine gate_callee (f := 9) rfl ?_); refine goesL_ (some 31) rfl rfl Try.func9 (by kernel_rfl) rfl #[.agg #[.int .u32 t182, .int .u32 t183, .int .u32 t184, .int .u32 t185, .int .u32 t186, .bool t187], .bool a0, .slice A1 l1.length c1] rfl (by (try simp only [List.map_toArray, List.map_cons, List.map_nil]); first | done | rfl | (simp only [List.length_drop, List.length_take]; rfl)) ?_; (with_reducible refine (settings_Apply.calls kj5 t182 t183 t184 t185 t186 t187 a0 _ _ l1 t189 t190 t191 t192 t193 t194 t195 _ ?side1 ?side2 A11.out).mono ?_); (case side1 => exact Kd.C_below HR1.out (by repeat (first | (with_reducible first | exact HB.out | apply below_alloc | apply pw_below_drewN | apply below_drew1 | refine below_set ?_ GE188.out) | exact HB.out))); (case side2 => exact HC1.out); rintro e w22 ⟨rfl, hb⟩; refine ⟨_, rfl, ?_⟩; have n0_ := Aside0.mk (blk_below (g := gb188) (o := .cells #[.int .u32 t182, .int .u32 t183, .int .u32 t184, .int .u32 t185, .int .u32 t186, .bool t187] 26 (0, 0)) (by (with_reducible repeat (first | refine blk_drewN ?_ _ | refine blk_drew ?_ | refine blk_alloc ?_ _)); refine blk_put (cs := #[.int .u32 t182, .int .u32 t183, .int .u32 t184, .int .u32 t185, .int .u32 t186, .bool false]) ?_ 5 _ rfl; (with_reducible repeat (first | refine blk_drewN ?_ _ | refine blk_drew ?_ | refine blk_alloc ?_ _)); refine blk_put (cs := #[.int .u32 t182, .int .u32 t183, .int .u32 t184, .int .u32 t185, .int .u32 0, .bool false]) ?_ 4 _ rfl; (with_reducible repeat (first | refine blk_drewN ?_ _ | refine blk_drew ?_ | refine blk_alloc ?_ _)); refine blk_put (cs := #[.int .u32 t182, .int .u32 t183, .int .u32 t184, .int .u32 0, .int .u32 0, .bool false]) ?_ 3 _ rfl; (with_reducible repeat (first | refine blk_drewN ?_ _ | refine blk_drew ?_ | refine blk_alloc ?_ _)); refine blk_put (cs := #[.int .u32 t182, .int .u32 t183, .int .u32 0, .int .u32 0, .int .u32 0, .bool false]) ?_ 2 _ rfl; (with_reducible repeat (first | refine blk_drewN ?_ _ | refine blk_drew ?_ | refine blk_alloc ?_ _)); refine blk_put (cs := #[.int .u32 t182, .int .u32 0, .int .u32 0, .int .u32 0, .int .u32 0, .bool false]) ?_ 1 _ rfl; (with_reducible repeat (first | refine blk_drewN ?_ _ | refine blk_drew ?_ | refine blk_alloc ?_ _)); refine blk_put (cs := #[.int .u32 0, .int .u32 0, .int .u32 0, .int .u32 0, .int .u32 0, .bool false]) ?_ 0 _ rfl; (with_reducible repeat (first | refine blk_drewN ?_ _ | refine blk_drew ?_ | refine blk_alloc ?_ _)); exact BK188.out) hb); have n1_ := Aside0.mk (below_step (by repeat (first | (with_reducible first | exact HB.out | apply below_alloc | apply pw_below_drewN | apply below_drew1 | refine below_set ?_ GE188.out) | exact HB.out)) hb); clear BK188; clear HB; have BK188 := n0_; have HB := n1_; clear n0_ n1_; (try clear hb); (try clear hb2); (try clear hk); (try clear hi)) | ((with_reducible refine gate_dst (N := 8) rfl ?_); (try (refine gate_guard (by rfl) ?_; dsimp only)); refine box_event ?hg (N := 8) ?hd (cs := #[.int .u32 0, .int .u32 0, .int .u32 0, .int .u32 0, .int .u32 0, .bool false]) (t := 26) ?hr ?_; (case hd => rfl); (case hg => rfl); (case hr => first | (go_simp; done) | (go_simp; rfl)); intro gb196 hg w23 hbox hb; have n0_ := Aside0.mk (blk_below (g := gb188) (o := .cells #[.int .u32 t182, .int .u32 t183, .int .u32 t184, .int .u32 t185, .int .u32 t186, .bool t187] 26 (0, 0)) (by (with_reducible repeat (first | refine blk_drewN ?_ _ | refine blk_drew ?_ | refine blk_alloc ?_ _)); exact BK188.out) hb); have n1_ := Aside0.mk (below_step (by repeat (first | (with_reducible first | exact HB.out | apply below_alloc | apply pw_below_drewN | apply below_drew1 | refine below_set ?_ GE188.out) | exact HB.out)) hb); have n2_ := Aside0.mk (hbox); have n3_ := Aside0.mk ((by rw [hg]; exact (below_size (by repeat (first | (with_reducible first | exact HB.out | apply below_alloc | apply pw_below_drewN | apply below_drew1 | refine below_set ?_ GE188.out) | exact HB.out))) : w.heap.size ≤ gb196)); have n4_ := Aside0.mk ((by rw [hg]; exact (below_size (by repeat (first | (with_reducible first | exact HB.out | apply below_alloc | apply pw_below_drewN | apply below_drew1 | refine below_set ?_ GE188.out) | exact HB.out))) : w.heap.size ≤ gb196)); have n5_ := Aside0.mk ((by rw [hg]; exact Nat.ne_of_lt (blk_lt (g := gb188) (o := .cells #[.int .u32 t182, .int .u32 t183, .int .u32 t184, .int .u32 t185, .int .u32 t186, .bool t187] 26 (0, 0)) (by (with_reducible repeat (first | refine blk_drewN ?_ _ | refine blk_drew ?_ | refine blk_alloc ?_ _)); exact BK188.out)) : gb188 ≠ gb196)); have n6_ := Aside0.mk ((by rw [hg]; exact Nat.ne_of_gt (blk_lt (g := gb188) (o := .cells #[.int .u32 t182, .int .u32 t183, .int .u32 t184, .int .u32 t185, .int .u32 t186, .bool t187] 26 (0, 0)) (by (with_reducible repeat (first | refine blk_drewN ?_ _ | refine blk_drew ?_ | refine blk_alloc ?_ _)); exact BK188.out)) : gb196 ≠ gb188)); clear BK188; clear HB; have BK188 := n0_; have HB := n1_; have BK196 := n2_; have GW196 := n3_; have GE196 := n4_; have NB188_196 := n5_; have NB196_188 := n6_; clear n0_ n1_ n2_ n3_ n4_ n5_ n6_; clear hb hbox hg; have hnb24 := NB196_188.out; have hnc24 := NB188_196.out; have hcz25_0 : w23.cell? ⟨gb196, 0, none⟩ = some (.int .u32 0) := (blk_cell BK196.out 0).trans rfl; have hcz25_1 : w23.cell? ⟨gb196, 1, none⟩ = some (.int .u32 0) := (blk_cell BK196.out 1).trans rfl; have hcz25_2 : w23.cell? ⟨gb196, 2, none⟩ = some (.int .u32 0) := (blk_cell BK196.out 2).trans rfl; have hcz25_3 : w23.cell? ⟨gb196, 3, none⟩ = some (.int .u32 0) := (blk_cell BK196.out 3).trans rfl; have hcz25_4 : w23.cell? ⟨gb196, 4, none⟩ = some (.int .u32 0) := (blk_cell BK196.out 4).trans rfl; have hcz25_5 : w23.cell? ⟨gb196, 5, none⟩ = some (.bool false) := (blk_cell BK196.out 5).trans rfl; have hfz25_0 := blk_frozen BK196.out 0; have hfz25_1 := blk_frozen BK196.out 1; have hfz25_2 := blk_frozen BK196.out 2; have hfz25_3 := blk_frozen BK196.out 3; have hfz25_4 := blk_frozen BK196.out 4; have hfz25_5 := blk_frozen BK196.out 5) | ((with_reducible refine gate_callee (f := 9) rfl ?_); refine goesL_ (some 38) rfl rfl Try.func9 (by kernel_rfl) rfl #[.agg #[.int .u32 t189, .int .u32 t190, .int .u32 t191, .int .u32 t192, .int .u32 t193, .bool t194], .bool a0, .slice A2 l2.length c2] rfl (by (try simp only [List.map_toArray, List.map_cons, List.map_nil]); first | done | rfl | (simp only [List.length_drop, List.length_take]; rfl)) ?_; (with_reducible refine (settings_Apply.calls kj5 t189 t190 t191 t192 t193 t194 a0 _ _ l2 t197 t198 t199 t200 t201 t202 t203 _ ?side1 ?side2 A12.out).mono ?_); (case side1 => exact Kd.C_below HR2.out (by repeat (first | (with_reducible first | exact HB.out | apply below_alloc | apply pw_below_drewN | apply below_drew1 | refine below_set ?_ GE188.out | refine below_set ?_ GE196.out) | exact HB.out))); (case side2 => exact HC2.out); rintro e w26 ⟨rfl, hb⟩; refine ⟨_, rfl, ?_⟩; have n0_ := Aside0.mk (blk_below (g := gb188) (o := .cells #[.int .u32 t182, .int .u32 t183, .int .u32 t184, .int .u32 t185, .int .u32 t186, .bool t187] 26 (0, 0)) (by (with_reducible repeat (first | refine blk_drewN ?_ _ | refine blk_drew ?_ | refine blk_alloc ?_ _)); refine blk_far ?_ NB188_196.out _; (with_reducible repeat (first | refine blk_drewN ?_ _ | refine blk_drew ?_ | refine blk_alloc ?_ _)); refine blk_far ?_ NB188_196.out _; (with_reducible repeat (first | refine blk_drewN ?_ _ | refine blk_drew ?_ | refine blk_alloc ?_ _)); refine blk_far ?_ NB188_196.out _; (with_reducible repeat (first | refine blk_drewN ?_ _ | refine blk_drew ?_ | refine blk_alloc ?_ _)); refine blk_far ?_ NB188_196.out _; (with_reducible repeat (first | refine blk_drewN ?_ _ | refine blk_drew ?_ | refine blk_alloc ?_ _)); refine blk_far ?_ NB188_196.out _; (with_reducible repeat (first | refine blk_drewN ?_ _ | refine blk_drew ?_ | refine blk_alloc ?_ _)); refine blk_far ?_ NB188_196.out _; (with_reducible repeat (first | refine blk_drewN ?_ _ | refine blk_drew ?_ | refine blk_alloc ?_ _)); exact BK188.out) hb); have n1_ := Aside0.mk (blk_below (g := gb196) (o := .cells #[.int .u32 t189, .int .u32 t190, .int .u32 t191, .int .u32 t192, .int .u32 t193, .bool t194] 26 (0, 0)) (by (with_reducible repeat (first | refine blk_drewN ?_ _ | refine blk_drew ?_ | refine blk_alloc ?_ _)); refine blk_put (cs := #[.int .u32 t189, .int .u32 t190, .int .u32 t191, .int .u32 t192, .int .u32 t193, .bool false]) ?_ 5 _ rfl; (with_reducible repeat (first | refine blk_drewN ?_ _ | refine blk_drew ?_ | refine blk_alloc ?_ _)); refine blk_put (cs := #[.int .u32 t189, .int .u32 t190, .int .u32 t191, .int .u32 t192, .int .u32 0, .bool false]) ?_ 4 _ rfl; (with_reducible repeat (first | refine blk_drewN ?_ _ | refine blk_drew ?_ | refine blk_alloc ?_ _)); refine blk_put (cs := #[.int .u32 t189, .int .u32 t190, .int .u32 t191, .int .u32 0, .int .u32 0, .bool false]) ?_ 3 _ rfl; (with_reducible repeat (first | refine blk_drewN ?_ _ | refine blk_drew ?_ | refine blk_alloc ?_ _)); refine blk_put (cs := #[.int .u32 t189, .int .u32 t190, .int .u32 0, .int .u32 0, .int .u32 0, .bool false]) ?_ 2 _ rfl; (with_reducible repeat (first | refine blk_drewN ?_ _ | refine blk_drew ?_ | refine blk_alloc ?_ _)); refine blk_put (cs := #[.int .u32 t189, .int .u32 0, .int .u32 0, .int .u32 0, .int .u32 0, .bool false]) ?_ 1 _ rfl; (with_reducible repeat (first | refine blk_drewN ?_ _ | refine blk_drew ?_ | refine blk_alloc ?_ _)); refine blk_put (cs := #[.int .u32 0, .int .u32 0, .int .u32 0, .int .u32 0, .int .u32 0, .bool false]) ?_ 0 _ rfl; (with_reducible repeat (first | refine blk_drewN ?_ _ | refine blk_drew ?_ | refine blk_alloc ?_ _)); exact BK196.out) hb); have n2_ := Aside0.mk (below_step (by repeat (first | (with_reducible first | exact HB.out | apply below_alloc | apply pw_below_drewN | apply below_drew1 | refine below_set ?_ GE188.out | refine below_set ?_ GE196.out) | exact HB.out)) hb); clear BK188; clear BK196; clear HB; have BK188 := n0_; have BK196 := n1_; have HB := n2_; clear n0_ n1_ n2_; (try clear hb); (try clear hb2); (try clear hk); (try clear hi)) | ((with_reducible refine gate_dst (N := 10) rfl ?_); (try (refine gate_guard (by rfl) ?_; dsimp only)); refine box_event ?hg (N := 10) ?hd (cs := #[.int .u32 0, .int .u32 0, .int .u32 0, .int .u32 0, .int .u32 0, .bool false]) (t := 26) ?hr ?_; (case hd => rfl); (case hg => rfl); (case hr => first | (go_simp; done) | (go_simp; rfl)); intro gb204 hg w27 hbox hb; have n0_ := Aside0.mk (blk_below (g := gb188) (o := .cells #[.int .u32 t182, .int .u32 t183, .int .u32 t184, .int .u32 t185, .int .u32 t186, .bool t187] 26 (0, 0)) (by (with_reducible repeat (first | refine blk_drewN ?_ _ | refine blk_drew ?_ | refine blk_alloc ?_ _)); exact BK188.out) hb); have n1_ := Aside0.mk (blk_below (g := gb196) (o := .cells #[.int .u32 t189, .int .u32 t190, .int .u32 t191, .int .u32 t192, .int .u32 t193, .bool t194] 26 (0, 0)) (by (with_reducible repeat (first | refine blk_drewN ?_ _ | refine blk_drew ?_ | refine blk_alloc ?_ _)); exact BK196.out) hb); have n2_ := Aside0.mk (below_step (by repeat (first | (with_reducible first | exact HB.out | apply below_alloc | apply pw_below_drewN | apply below_drew1 | refine below_set ?_ GE188.out | refine below_set ?_ GE196.out) | exact HB.out)) hb); have n3_ := Aside0.mk (hbox); have n4_ := Aside0.mk ((by rw [hg]; exact (below_size (by repeat (first | (with_reducible first | exact HB.out | apply below_alloc | apply pw_below_drewN | apply below_drew1 | refine below_set ?_ GE188.out | refine below_set ?_ GE196.out) | exact HB.out))) : w.heap.size ≤ gb204)); have n5_ := Aside0.mk ((by rw [hg]; exact (below_size (by repeat (first | (with_reducible first | exact HB.out | apply below_alloc | apply pw_below_drewN | apply below_drew1 | refine below_set ?_ GE188.out | refine below_set ?_ GE196.out) | exact HB.out))) : w.heap.size ≤ gb204)); have n6_ := Aside0.mk ((by rw [hg]; exact Nat.ne_of_lt (blk_lt (g := gb188) (o := .cells #[.int .u32 t182, .int .u32 t183, .int .u32 t184, .int .u32 t185, .int .u32 t186, .bool t187] 26 (0, 0)) (by (with_reducible repeat (first | refine blk_drewN ?_ _ | refine blk_drew ?_ | refine blk_alloc ?_ _)); exact BK188.out)) : gb188 ≠ gb204)); have n7_ := Aside0.mk ((by rw [hg]; exact Nat.ne_of_gt (blk_lt (g := gb188) (o := .cells #[.int .u32 t182, .int .u32 t183, .int .u32 t184, .int .u32 t185, .int .u32 t186, .bool t187] 26 (0, 0)) (by (with_reducible repeat (first | refine blk_drewN ?_ _ | refine blk_drew ?_ | refine blk_alloc ?_ _)); exact BK188.out)) : gb204 ≠ gb188)); have n8_ := Aside0.mk ((by rw [hg]; exact Nat.ne_of_lt (blk_lt (g := gb196) (o := .cells #[.int .u32 t189, .int .u32 t190, .int .u32 t191, .int .u32 t192, .int .u32 t193, .bool t194] 26 (0, 0)) (by (with_reducible repeat (first | refine blk_drewN ?_ _ | refine blk_drew ?_ | refine blk_alloc ?_ _)); exact BK196.out)) : gb196 ≠ gb204)); have n9_ := Aside0.mk ((by rw [hg]; exact Nat.ne_of_gt (blk_lt (g := gb196) (o := .cells #[.int .u32 t189, .int .u32 t190, .int .u32 t191, .int .u32 t192, .int .u32 t193, .bool t194] 26 (0, 0)) (by (with_reducible repeat (first | refine blk_drewN ?_ _ | refine blk_drew ?_ | refine blk_alloc ?_ _)); exact BK196.out)) : gb204 ≠ gb196)); clear BK188; clear BK196; clear HB; have BK188 := n0_; have BK196 := n1_; have HB := n2_; have BK204 := n3_; have GW204 := n4_; have GE204 := n5_; have NB188_204 := n6_; have NB204_188 := n7_; have NB196_204 := n8_; have NB204_196 := n9_; clear n0_ n1_ n2_ n3_ n4_ n5_ n6_ n7_ n8_ n9_; clear hb hbox hg; have hnb28 := NB204_188.out; have hnc28 := NB188_204.out; have hnb29 := NB204_196.out; have hnc29 := NB196_204.out; have hcz30_0 : w27.cell? ⟨gb204, 0, none⟩ = some (.int .u32 0) := (blk_cell BK204.out 0).trans rfl; have hcz30_1 : w27.cell? ⟨gb204, 1, none⟩ = some (.int .u32 0) := (blk_cell BK204.out 1).trans rfl; have hcz30_2 : w27.cell? ⟨gb204, 2, none⟩ = some (.int .u32 0) := (blk_cell BK204.out 2).trans rfl; have hcz30_3 : w27.cell? ⟨gb204, 3, none⟩ = some (.int .u32 0) := (blk_cell BK204.out 3).trans rfl; have hcz30_4 : w27.cell? ⟨gb204, 4, none⟩ = some (.int .u32 0) := (blk_cell BK204.out 4).trans rfl; have hcz30_5 : w27.cell? ⟨gb204, 5, none⟩ = some (.bool false) := (blk_cell BK204.out 5).trans rfl; have hfz30_0 := blk_frozen BK204.out 0; have hfz30_1 := blk_frozen BK204.out 1; have hfz30_2 := blk_frozen BK204.out 2; have hfz30_3 := blk_frozen BK204.out 3; have hfz30_4 := blk_frozen BK204.out 4; have hfz30_5 := blk_frozen BK204.out 5))
          have n0_ : Aside0 (((((((w27.setCell ⟨gb204, 0, none⟩ (.int .u32 t197)).setCell ⟨gb204, 1, none⟩ (.int .u32 t198)).setCell ⟨gb204, 2, none⟩ (.int .u32 t199)).setCell ⟨gb204, 3, none⟩ (.int .u32 t200)).setCell ⟨gb204, 4, none⟩ (.int .u32 t201)).setCell ⟨gb204, 5, none⟩ (.bool t202)).heap[gb188]? = some (.cells #[.int .u32 t182, .int .u32 t183, .int .u32 t184, .int .u32 t185, .int .u32 t186, .bool t187] 26 (0, 0))) := ⟨by (with_reducible repeat (first | refine blk_drewN ?_ _ | refine blk_drew ?_ | refine blk_alloc ?_ _)); refine blk_far ?_ NB188_204.out _; (with_reducible repeat (first | refine blk_drewN ?_ _ | refine blk_drew ?_ | refine blk_alloc ?_ _)); refine blk_far ?_ NB188_204.out _; (with_reducible repeat (first | refine blk_drewN ?_ _ | refine blk_drew ?_ | refine blk_alloc ?_ _)); refine blk_far ?_ NB188_204.out _; (with_reducible repeat (first | refine blk_drewN ?_ _ | refine blk_drew ?_ | refine blk_alloc ?_ _)); refine blk_far ?_ NB188_204.out _; (with_reducible repeat (first | refine blk_drewN ?_ _ | refine blk_drew ?_ | refine blk_alloc ?_ _)); refine blk_far ?_ NB188_204.out _; (with_reducible repeat (first | refine blk_drewN ?_ _ | refine blk_drew ?_ | refine blk_alloc ?_ _)); refine blk_far ?_ NB188_204.out _; (with_reducible repeat (first | refine blk_drewN ?_ _ | refine blk_drew ?_ | refine blk_alloc ?_ _)); exact BK188.out⟩
          have n1_ : Aside0 (((((((w27.setCell ⟨gb204, 0, none⟩ (.int .u32 t197)).setCell ⟨gb204, 1, none⟩ (.int .u32 t198)).setCell ⟨gb204, 2, none⟩ (.int .u32 t199)).setCell ⟨gb204, 3, none⟩ (.int .u32 t200)).setCell ⟨gb204, 4, none⟩ (.int .u32 t201)).setCell ⟨gb204, 5, none⟩ (.bool t202)).heap[gb196]? = some (.cells #[.int .u32 t189, .int .u32 t190, .int .u32 t191, .int .u32 t192, .int .u32 t193, .bool t194] 26 (0, 0))) := ⟨by (with_reducible repeat (first | refine blk_drewN ?_ _ | refine blk_drew ?_ | refine blk_alloc ?_ _)); refine blk_far ?_ NB196_204.out _; (with_reducible repeat (first | refine blk_drewN ?_ _ | refine blk_drew ?_ | refine blk_alloc ?_ _)); refine blk_far ?_ NB196_204.out _; (with_reducible repeat (first | refine blk_drewN ?_ _ | refine blk_drew ?_ | refine blk_alloc ?_ _)); refine blk_far ?_ NB196_204.out _; (with_reducible repeat (first | refine blk_drewN ?_ _ | refine blk_drew ?_ | refine blk_alloc ?_ _)); refine blk_far ?_ NB196_204.out _; (with_reducible repeat (first | refine blk_drewN ?_ _ | refine blk_drew ?_ | refine blk_alloc ?_ _)); refine blk_far ?_ NB196_204.out _; (with_reducible repeat (first | refine blk_drewN ?_ _ | refine blk_drew ?_ | refine blk_alloc ?_ _)); refine blk_far ?_ NB196_204.out _; (with_reducible repeat (first | refine blk_drewN ?_ _ | refine blk_drew ?_ | refine blk_alloc ?_ _)); exact BK196.out⟩
          have n2_ : Aside0 (((((((w27.setCell ⟨gb204, 0, none⟩ (.int .u32 t197)).setCell ⟨gb204, 1, none⟩ (.int .u32 t198)).setCell ⟨gb204, 2, none⟩ (.int .u32 t199)).setCell ⟨gb204, 3, none⟩ (.int .u32 t200)).setCell ⟨gb204, 4, none⟩ (.int .u32 t201)).setCell ⟨gb204, 5, none⟩ (.bool t202)).heap[gb204]? = some (.cells #[.int .u32 t197, .int .u32 t198, .int .u32 t199, .int .u32 t200, .int .u32 t201, .bool t202] 26 (0, 0))) := ⟨by (with_reducible repeat (first | refine blk_drewN ?_ _ | refine blk_drew ?_ | refine blk_alloc ?_ _)); refine blk_put (cs := #[.int .u32 t197, .int .u32 t198, .int .u32 t199, .int .u32 t200, .int .u32 t201, .bool false]) ?_ 5 _ rfl; (with_reducible repeat (first | refine blk_drewN ?_ _ | refine blk_drew ?_ | refine blk_alloc ?_ _)); refine blk_put (cs := #[.int .u32 t197, .int .u32 t198, .int .u32 t199, .int .u32 t200, .int .u32 0, .bool false]) ?_ 4 _ rfl; (with_reducible repeat (first | refine blk_drewN ?_ _ | refine blk_drew ?_ | refine blk_alloc ?_ _)); refine blk_put (cs := #[.int .u32 t197, .int .u32 t198, .int .u32 t199, .int .u32 0, .int .u32 0, .bool false]) ?_ 3 _ rfl; (with_reducible repeat (first | refine blk_drewN ?_ _ | refine blk_drew ?_ | refine blk_alloc ?_ _)); refine blk_put (cs := #[.int .u32 t197, .int .u32 t198, .int .u32 0, .int .u32 0, .int .u32 0, .bool false]) ?_ 2 _ rfl; (with_reducible repeat (first | refine blk_drewN ?_ _ | refine blk_drew ?_ | refine blk_alloc ?_ _)); refine blk_put (cs := #[.int .u32 t197, .int .u32 0, .int .u32 0, .int .u32 0, .int .u32 0, .bool false]) ?_ 1 _ rfl; (with_reducible repeat (first | refine blk_drewN ?_ _ | refine blk_drew ?_ | refine blk_alloc ?_ _)); refine blk_put (cs := #[.int .u32 0, .int .u32 0, .int .u32 0, .int .u32 0, .int .u32 0, .bool false]) ?_ 0 _ rfl; (with_reducible repeat (first | refine blk_drewN ?_ _ | refine blk_drew ?_ | refine blk_alloc ?_ _)); exact BK204.out⟩
          have n3_ : Aside0 (Below w.heap.size w ((((((w27.setCell ⟨gb204, 0, none⟩ (.int .u32 t197)).setCell ⟨gb204, 1, none⟩ (.int .u32 t198)).setCell ⟨gb204, 2, none⟩ (.int .u32 t199)).setCell ⟨gb204, 3, none⟩ (.int .u32 t200)).setCell ⟨gb204, 4, none⟩ (.int .u32 t201)).setCell ⟨gb204, 5, none⟩ (.bool t202))) := ⟨by repeat (first | (with_reducible first | exact HB.out | apply below_alloc | apply pw_below_drewN | apply below_drew1 | refine below_set ?_ GE188.out | refine below_set ?_ GE196.out | refine below_set ?_ GE204.out) | exact HB.out)⟩
          (try clear BK188)
          (try clear BK196)
          (try clear BK204)
          (try clear HB)
          generalize ((((((w27.setCell ⟨gb204, 0, none⟩ (.int .u32 t197)).setCell ⟨gb204, 1, none⟩ (.int .u32 t198)).setCell ⟨gb204, 2, none⟩ (.int .u32 t199)).setCell ⟨gb204, 3, none⟩ (.int .u32 t200)).setCell ⟨gb204, 4, none⟩ (.int .u32 t201)).setCell ⟨gb204, 5, none⟩ (.bool t202)) = w31 at n0_ n1_ n2_ n3_ ⊢
          have BK188 := n0_
          have BK196 := n1_
          have BK204 := n2_
          have HB := n3_
          clear n0_ n1_ n2_ n3_
          have n0_ := Aside0.mk (blk_drew BK188.out)
          have n1_ := Aside0.mk (blk_drew BK196.out)
          have n2_ := Aside0.mk (blk_drew BK204.out)
          have n3_ := Aside0.mk (below_drew1 HB.out)
          clear BK188
          clear BK196
          clear BK204
          clear HB
          have BK188 := n0_
          have BK196 := n1_
          have BK204 := n2_
          have HB := n3_
          clear n0_ n1_ n2_ n3_
          refine start_ (n := 14) (S := fun w' => w'.cell? ⟨gb188, 0, none⟩ = some (.int .u32 t182) ∧ w'.cell? ⟨gb188, 1, none⟩ = some (.int .u32 t183) ∧ w'.cell? ⟨gb188, 2, none⟩ = some (.int .u32 t184) ∧ w'.cell? ⟨gb188, 3, none⟩ = some (.int .u32 t185) ∧ w'.cell? ⟨gb188, 4, none⟩ = some (.int .u32 t186) ∧ w'.cell? ⟨gb188, 5, none⟩ = some (.bool t187)) (ds := []) #[false, false, false, false, false, false, false, false, false, false, false, false, false, false] (by kernel_rfl) rfl rfl ⟨(blk_cell BK188.out 0).trans rfl, (blk_cell BK188.out 1).trans rfl, (blk_cell BK188.out 2).trans rfl, (blk_cell BK188.out 3).trans rfl, (blk_cell BK188.out 4).trans rfl, (blk_cell BK188.out 5).trans rfl⟩ (fun hHeld => ?_); refine with_tabW nunciolaw16_SettingsOrder_p0.tab8 nunciolaw16_SettingsOrder_p0.bits8 (fun HT_ HW_ => ?_)
          generalize w31.drew = w32 at BK188 BK196 BK204 HB hHeld ⊢
          refine pure_ (i := 1) (N := some 43) (v := ?_) (a' := ?_) #[false, true, false, false, false, false, false, false, false, false, false, false, false, false] rfl rfl (any_of HT_.out (by kernel_rfl)) (fun _ _ _ h => h) (Or.inl ⟨by rfl, ?_⟩) ?_ ?_
          rotate_left
          ·
           intro w'
           go_simp
           with_reducible rfl
          rotate_left
          ·
           simp only [Act.put, List.setIfInBounds_toArray, List.set_cons_zero, List.set_cons_succ, i64_w, i32_w]
           rfl
          refine pure_ (i := 3) (N := some 45) (v := ?_) (a' := ?_) #[false, true, false, true, false, false, false, false, false, false, false, false, false, false] rfl rfl (any_of HT_.out (by kernel_rfl)) (fun _ _ _ h => h) (Or.inl ⟨by rfl, ?_⟩) ?_ ?_
          rotate_left
          ·
           intro w'
           go_simp
           with_reducible rfl
          rotate_left
          ·
           simp only [Act.put, List.setIfInBounds_toArray, List.set_cons_zero, List.set_cons_succ, i64_w, i32_w]
           rfl
          refine pure_ (i := 5) (N := some 47) (v := ?_) (a' := ?_) #[false, true, false, true, false, true, false, false, false, false, false, false, false, false] rfl rfl (any_of HT_.out (by kernel_rfl)) (fun _ _ _ h => h) (Or.inl ⟨by rfl, ?_⟩) ?_ ?_
          rotate_left
          ·
           intro w'
           go_simp
           with_reducible rfl
          rotate_left
          ·
           simp only [Act.put, List.setIfInBounds_toArray, List.set_cons_zero, List.set_cons_succ, i64_w, i32_w]
           rfl
          refine take_ (i := 0) (N := some 42) (v := ?_) (a' := ?_) #[true, true, false, true, false, true, false, false, false, false, false, false, false, false] rfl rfl (take_ofW HT_.out HW_.out (by kernel_rfl)) (fun _ _ _ h => h) (Or.inl ⟨by rfl, ?_⟩) hHeld ?_ ?_
          rotate_left
          ·
           rintro w' ⟨s0, s1, s2, s3, s4, s5⟩
           go_simp
           with_reducible rfl
          rotate_left
          ·
           simp only [Act.put, List.setIfInBounds_toArray, List.set_cons_zero, List.set_cons_succ, i64_w, i32_w]
           rfl
          refine join_ (σ := Value × Value × Value × Nat) 2 #[true, true, true, true, true, true, true, true, true, true, true, true, false, false] (fun s_ => [(44, s_.1), (46, s_.2.1), (48, s_.2.2.1), (49, .tuple #[.agg #[.int .u32 t214, .int .u32 t215, .int .u32 t216, .int .u32 t217, .int .u32 t218, .bool t219], .int .u32 t220]), (12, .pointer (some ⟨s_.2.2.2, 0, none⟩)), (41, .tuple #[.agg #[.int .u32 t214, .int .u32 t215, .int .u32 t216, .int .u32 t217, .int .u32 t218, .bool t219], .int .u32 t220]), (50, .agg #[.int .u32 t214, .int .u32 t215, .int .u32 t216, .int .u32 t217, .int .u32 t218, .bool t219]), (51, .int .u32 t220)]) (fun s_ w' => (w'.cell? ⟨gb188, 0, none⟩ = some (.int .u32 t182) ∧ w'.cell? ⟨gb188, 1, none⟩ = some (.int .u32 t183) ∧ w'.cell? ⟨gb188, 2, none⟩ = some (.int .u32 t184) ∧ w'.cell? ⟨gb188, 3, none⟩ = some (.int .u32 t185) ∧ w'.cell? ⟨gb188, 4, none⟩ = some (.int .u32 t186) ∧ w'.cell? ⟨gb188, 5, none⟩ = some (.bool t187)) ∧ (Kd.R k42 42 w' w.heap.size (fun _ => True) s_.2.2.1 y211) ∧ (w'.heap[gb188]? = some (.cells #[.int .u32 t182, .int .u32 t183, .int .u32 t184, .int .u32 t185, .int .u32 t186, .bool t187] 26 (0, 0))) ∧ (w'.heap[gb196]? = some (.cells #[.int .u32 t189, .int .u32 t190, .int .u32 t191, .int .u32 t192, .int .u32 t193, .bool t194] 26 (0, 0))) ∧ (w'.heap[gb204]? = some (.cells #[.int .u32 t197, .int .u32 t198, .int .u32 t199, .int .u32 t200, .int .u32 t201, .bool t202] 26 (0, 0))) ∧ (w'.heap[s_.2.2.2]? = some (.cells #[.int .u32 0, .int .u32 0, .int .u32 0, .int .u32 0, .int .u32 0, .bool false] 26 (0, 0))) ∧ (w.heap.size ≤ s_.2.2.2) ∧ (w.heap.size ≤ s_.2.2.2) ∧ (gb188 ≠ s_.2.2.2) ∧ (s_.2.2.2 ≠ gb188) ∧ (gb196 ≠ s_.2.2.2) ∧ (s_.2.2.2 ≠ gb196) ∧ (gb204 ≠ s_.2.2.2) ∧ (s_.2.2.2 ≠ gb204) ∧ (Below w.heap.size w w')) ?_ ?_
          rotate_left
          ·
           intro hJ2_4_6_7_11
           refine join_ (σ := Value × Value × Value) 3 #[true, true, true, true, true, true, true, true, true, true, true, false, false, false] (fun s_ => [(44, s_.1), (46, s_.2.1), (48, s_.2.2), (49, .tuple #[.agg #[.int .u32 t214, .int .u32 t215, .int .u32 t216, .int .u32 t217, .int .u32 t218, .bool t219], .int .u32 t220]), (41, .tuple #[.agg #[.int .u32 t214, .int .u32 t215, .int .u32 t216, .int .u32 t217, .int .u32 t218, .bool t219], .int .u32 t220]), (50, .agg #[.int .u32 t214, .int .u32 t215, .int .u32 t216, .int .u32 t217, .int .u32 t218, .bool t219]), (51, .int .u32 t220)]) (fun s_ w' => (w'.cell? ⟨gb188, 0, none⟩ = some (.int .u32 t182) ∧ w'.cell? ⟨gb188, 1, none⟩ = some (.int .u32 t183) ∧ w'.cell? ⟨gb188, 2, none⟩ = some (.int .u32 t184) ∧ w'.cell? ⟨gb188, 3, none⟩ = some (.int .u32 t185) ∧ w'.cell? ⟨gb188, 4, none⟩ = some (.int .u32 t186) ∧ w'.cell? ⟨gb188, 5, none⟩ = some (.bool t187)) ∧ (Kd.R k42 42 w' w.heap.size (fun _ => True) s_.2.2 y211) ∧ (w'.heap[gb188]? = some (.cells #[.int .u32 t182, .int .u32 t183, .int .u32 t184, .int .u32 t185, .int .u32 t186, .bool t187] 26 (0, 0))) ∧ (w'.heap[gb196]? = some (.cells #[.int .u32 t189, .int .u32 t190, .int .u32 t191, .int .u32 t192, .int .u32 t193, .bool t194] 26 (0, 0))) ∧ (w'.heap[gb204]? = some (.cells #[.int .u32 t197, .int .u32 t198, .int .u32 t199, .int .u32 t200, .int .u32 t201, .bool t202] 26 (0, 0))) ∧ (Below w.heap.size w w')) ?_ ?_
           rotate_left
           ·
            intro hJ2_4_6_7
            refine join_ (σ := Value × Value × Value × Nat) 6 #[true, true, true, true, true, true, true, false, false, false, false, true, false, false] (fun s_ => [(44, s_.1), (46, s_.2.1), (48, s_.2.2.1), (12, .pointer (some ⟨s_.2.2.2, 0, none⟩))]) (fun s_ w' => (w'.cell? ⟨gb188, 0, none⟩ = some (.int .u32 t182) ∧ w'.cell? ⟨gb188, 1, none⟩ = some (.int .u32 t183) ∧ w'.cell? ⟨gb188, 2, none⟩ = some (.int .u32 t184) ∧ w'.cell? ⟨gb188, 3, none⟩ = some (.int .u32 t185) ∧ w'.cell? ⟨gb188, 4, none⟩ = some (.int .u32 t186) ∧ w'.cell? ⟨gb188, 5, none⟩ = some (.bool t187)) ∧ (Kd.R k42 42 w' w.heap.size (fun _ => True) s_.2.2.1 y211) ∧ (w'.heap[gb188]? = some (.cells #[.int .u32 t182, .int .u32 t183, .int .u32 t184, .int .u32 t185, .int .u32 t186, .bool t187] 26 (0, 0))) ∧ (w'.heap[gb196]? = some (.cells #[.int .u32 t189, .int .u32 t190, .int .u32 t191, .int .u32 t192, .int .u32 t193, .bool t194] 26 (0, 0))) ∧ (w'.heap[gb204]? = some (.cells #[.int .u32 t197, .int .u32 t198, .int .u32 t199, .int .u32 t200, .int .u32 t201, .bool t202] 26 (0, 0))) ∧ (w'.heap[s_.2.2.2]? = some (.cells #[.int .u32 0, .int .u32 0, .int .u32 0, .int .u32 0, .int .u32 0, .bool false] 26 (0, 0))) ∧ (w.heap.size ≤ s_.2.2.2) ∧ (w.heap.size ≤ s_.2.2.2) ∧ (gb188 ≠ s_.2.2.2) ∧ (s_.2.2.2 ≠ gb188) ∧ (gb196 ≠ s_.2.2.2) ∧ (s_.2.2.2 ≠ gb196) ∧ (gb204 ≠ s_.2.2.2) ∧ (s_.2.2.2 ≠ gb204) ∧ (Below w.heap.size w w')) ?_ ?_
            rotate_left
            ·
             intro hJ2_4_6_11
             refine join_ (σ := Value × Value × Value) 7 #[true, true, true, true, true, true, true, false, false, false, false, false, false, false] (fun s_ => [(44, s_.1), (46, s_.2.1), (48, s_.2.2)]) (fun s_ w' => (w'.cell? ⟨gb188, 0, none⟩ = some (.int .u32 t182) ∧ w'.cell? ⟨gb188, 1, none⟩ = some (.int .u32 t183) ∧ w'.cell? ⟨gb188, 2, none⟩ = some (.int .u32 t184) ∧ w'.cell? ⟨gb188, 3, none⟩ = some (.int .u32 t185) ∧ w'.cell? ⟨gb188, 4, none⟩ = some (.int .u32 t186) ∧ w'.cell? ⟨gb188, 5, none⟩ = some (.bool t187)) ∧ (Kd.R k42 42 w' w.heap.size (fun _ => True) s_.2.2 y211) ∧ (w'.heap[gb188]? = some (.cells #[.int .u32 t182, .int .u32 t183, .int .u32 t184, .int .u32 t185, .int .u32 t186, .bool t187] 26 (0, 0))) ∧ (w'.heap[gb196]? = some (.cells #[.int .u32 t189, .int .u32 t190, .int .u32 t191, .int .u32 t192, .int .u32 t193, .bool t194] 26 (0, 0))) ∧ (w'.heap[gb204]? = some (.cells #[.int .u32 t197, .int .u32 t198, .int .u32 t199, .int .u32 t200, .int .u32 t201, .bool t202] 26 (0, 0))) ∧ (Below w.heap.size w w')) ?_ ?_
             rotate_left
             ·
              intro hJ2_4_6
              refine join_ (σ := Value × Value × Nat) 7 #[true, true, true, true, true, true, false, false, false, false, false, true, false, false] (fun s_ => [(44, s_.1), (46, s_.2.1), (12, .pointer (some ⟨s_.2.2, 0, none⟩))]) (fun s_ w' => (w'.cell? ⟨gb188, 0, none⟩ = some (.int .u32 t182) ∧ w'.cell? ⟨gb188, 1, none⟩ = some (.int .u32 t183) ∧ w'.cell? ⟨gb188, 2, none⟩ = some (.int .u32 t184) ∧ w'.cell? ⟨gb188, 3, none⟩ = some (.int .u32 t185) ∧ w'.cell? ⟨gb188, 4, none⟩ = some (.int .u32 t186) ∧ w'.cell? ⟨gb188, 5, none⟩ = some (.bool t187)) ∧ (Kd.R k42 42 w' w.heap.size (fun _ => True) s_.2.1 y208) ∧ (w'.heap[gb188]? = some (.cells #[.int .u32 t182, .int .u32 t183, .int .u32 t184, .int .u32 t185, .int .u32 t186, .bool t187] 26 (0, 0))) ∧ (w'.heap[gb196]? = some (.cells #[.int .u32 t189, .int .u32 t190, .int .u32 t191, .int .u32 t192, .int .u32 t193, .bool t194] 26 (0, 0))) ∧ (w'.heap[gb204]? = some (.cells #[.int .u32 t197, .int .u32 t198, .int .u32 t199, .int .u32 t200, .int .u32 t201, .bool t202] 26 (0, 0))) ∧ (w'.heap[s_.2.2]? = some (.cells #[.int .u32 0, .int .u32 0, .int .u32 0, .int .u32 0, .int .u32 0, .bool false] 26 (0, 0))) ∧ (w.heap.size ≤ s_.2.2) ∧ (w.heap.size ≤ s_.2.2) ∧ (gb188 ≠ s_.2.2) ∧ (s_.2.2 ≠ gb188) ∧ (gb196 ≠ s_.2.2) ∧ (s_.2.2 ≠ gb196) ∧ (gb204 ≠ s_.2.2) ∧ (s_.2.2 ≠ gb204) ∧ (Below w.heap.size w w')) ?_ ?_
              rotate_left
              ·
               intro hJ2_4_11
               refine join_ (σ := Value × Value) 8 #[true, true, true, true, true, true, false, false, false, false, false, false, false, false] (fun s_ => [(44, s_.1), (46, s_.2)]) (fun s_ w' => (w'.cell? ⟨gb188, 0, none⟩ = some (.int .u32 t182) ∧ w'.cell? ⟨gb188, 1, none⟩ = some (.int .u32 t183) ∧ w'.cell? ⟨gb188, 2, none⟩ = some (.int .u32 t184) ∧ w'.cell? ⟨gb188, 3, none⟩ = some (.int .u32 t185) ∧ w'.cell? ⟨gb188, 4, none⟩ = some (.int .u32 t186) ∧ w'.cell? ⟨gb188, 5, none⟩ = some (.bool t187)) ∧ (Kd.R k42 42 w' w.heap.size (fun _ => True) s_.2 y208) ∧ (w'.heap[gb188]? = some (.cells #[.int .u32 t182, .int .u32 t183, .int .u32 t184, .int .u32 t185, .int .u32 t186, .bool t187] 26 (0, 0))) ∧ (w'.heap[gb196]? = some (.cells #[.int .u32 t189, .int .u32 t190, .int .u32 t191, .int .u32 t192, .int .u32 t193, .bool t194] 26 (0, 0))) ∧ (w'.heap[gb204]? = some (.cells #[.int .u32 t197, .int .u32 t198, .int .u32 t199, .int .u32 t200, .int .u32 t201, .bool t202] 26 (0, 0))) ∧ (Below w.heap.size w w')) ?_ ?_
               rotate_left
               ·
                intro hJ2_4
                refine join_ (σ := Value × Nat) 8 #[true, true, true, true, false, true, false, false, false, false, false, true, false, false] (fun s_ => [(44, s_.1), (12, .pointer (some ⟨s_.2, 0, none⟩))]) (fun s_ w' => (w'.cell? ⟨gb188, 0, none⟩ = some (.int .u32 t182) ∧ w'.cell? ⟨gb188, 1, none⟩ = some (.int .u32 t183) ∧ w'.cell? ⟨gb188, 2, none⟩ = some (.int .u32 t184) ∧ w'.cell? ⟨gb188, 3, none⟩ = some (.int .u32 t185) ∧ w'.cell? ⟨gb188, 4, none⟩ = some (.int .u32 t186) ∧ w'.cell? ⟨gb188, 5, none⟩ = some (.bool t187)) ∧ (Kd.R k42 42 w' w.heap.size (fun _ => True) s_.1 y205) ∧ (w'.heap[gb188]? = some (.cells #[.int .u32 t182, .int .u32 t183, .int .u32 t184, .int .u32 t185, .int .u32 t186, .bool t187] 26 (0, 0))) ∧ (w'.heap[gb196]? = some (.cells #[.int .u32 t189, .int .u32 t190, .int .u32 t191, .int .u32 t192, .int .u32 t193, .bool t194] 26 (0, 0))) ∧ (w'.heap[gb204]? = some (.cells #[.int .u32 t197, .int .u32 t198, .int .u32 t199, .int .u32 t200, .int .u32 t201, .bool t202] 26 (0, 0))) ∧ (w'.heap[s_.2]? = some (.cells #[.int .u32 0, .int .u32 0, .int .u32 0, .int .u32 0, .int .u32 0, .bool false] 26 (0, 0))) ∧ (w.heap.size ≤ s_.2) ∧ (w.heap.size ≤ s_.2) ∧ (gb188 ≠ s_.2) ∧ (s_.2 ≠ gb188) ∧ (gb196 ≠ s_.2) ∧ (s_.2 ≠ gb196) ∧ (gb204 ≠ s_.2) ∧ (s_.2 ≠ gb204) ∧ (Below w.heap.size w w')) ?_ ?_
                rotate_left
                ·
                 intro hJ2_11
                 refine join_ (σ := Value) 9 #[true, true, true, true, false, true, false, false, false, false, false, false, false, false] (fun s_ => [(44, s_)]) (fun s_ w' => (w'.cell? ⟨gb188, 0, none⟩ = some (.int .u32 t182) ∧ w'.cell? ⟨gb188, 1, none⟩ = some (.int .u32 t183) ∧ w'.cell? ⟨gb188, 2, none⟩ = some (.int .u32 t184) ∧ w'.cell? ⟨gb188, 3, none⟩ = some (.int .u32 t185) ∧ w'.cell? ⟨gb188, 4, none⟩ = some (.int .u32 t186) ∧ w'.cell? ⟨gb188, 5, none⟩ = some (.bool t187)) ∧ (Kd.R k42 42 w' w.heap.size (fun _ => True) s_ y205) ∧ (w'.heap[gb188]? = some (.cells #[.int .u32 t182, .int .u32 t183, .int .u32 t184, .int .u32 t185, .int .u32 t186, .bool t187] 26 (0, 0))) ∧ (w'.heap[gb196]? = some (.cells #[.int .u32 t189, .int .u32 t190, .int .u32 t191, .int .u32 t192, .int .u32 t193, .bool t194] 26 (0, 0))) ∧ (w'.heap[gb204]? = some (.cells #[.int .u32 t197, .int .u32 t198, .int .u32 t199, .int .u32 t200, .int .u32 t201, .bool t202] 26 (0, 0))) ∧ (Below w.heap.size w w')) ?_ ?_
                 rotate_left
                 ·
                  intro hJ2
                  refine join_ (σ := Nat) 9 #[true, true, false, true, false, true, false, false, false, false, false, true, false, false] (fun s_ => [(12, .pointer (some ⟨s_, 0, none⟩))]) (fun s_ w' => (w'.cell? ⟨gb188, 0, none⟩ = some (.int .u32 t182) ∧ w'.cell? ⟨gb188, 1, none⟩ = some (.int .u32 t183) ∧ w'.cell? ⟨gb188, 2, none⟩ = some (.int .u32 t184) ∧ w'.cell? ⟨gb188, 3, none⟩ = some (.int .u32 t185) ∧ w'.cell? ⟨gb188, 4, none⟩ = some (.int .u32 t186) ∧ w'.cell? ⟨gb188, 5, none⟩ = some (.bool t187)) ∧ (w'.heap[gb188]? = some (.cells #[.int .u32 t182, .int .u32 t183, .int .u32 t184, .int .u32 t185, .int .u32 t186, .bool t187] 26 (0, 0))) ∧ (w'.heap[gb196]? = some (.cells #[.int .u32 t189, .int .u32 t190, .int .u32 t191, .int .u32 t192, .int .u32 t193, .bool t194] 26 (0, 0))) ∧ (w'.heap[gb204]? = some (.cells #[.int .u32 t197, .int .u32 t198, .int .u32 t199, .int .u32 t200, .int .u32 t201, .bool t202] 26 (0, 0))) ∧ (w'.heap[s_]? = some (.cells #[.int .u32 0, .int .u32 0, .int .u32 0, .int .u32 0, .int .u32 0, .bool false] 26 (0, 0))) ∧ (w.heap.size ≤ s_) ∧ (w.heap.size ≤ s_) ∧ (gb188 ≠ s_) ∧ (s_ ≠ gb188) ∧ (gb196 ≠ s_) ∧ (s_ ≠ gb196) ∧ (gb204 ≠ s_) ∧ (s_ ≠ gb204) ∧ (Below w.heap.size w w')) ?_ ?_
                  rotate_left
                  ·
                   intro hJ11
                   refine two_ (i := 2) (j := 11) (Ni := some 44) (Nj := some 12) #[true, true, true, true, false, true, false, false, false, false, false, false, false, false] #[true, true, false, true, false, true, false, false, false, false, false, true, false, false] rfl rfl rfl rfl (two_of HT_.out (by kernel_rfl)) (by decide) (by decide) (fun K hK => ?_) (fun K hK => ?_)
                   ·
                    skip
                    refine Kd.R_lit_step k42 _ 42 ?hg (N := 44) ?hd (xs := ([] : List (S42))) (inner := []) (ok := fun _ => True) (okp := fun _ => True) ?hr ?hp (fun _ hk => hk) trivial (Below.refl _ _) (Nat.le_refl _) (by simp) ?_; (case hd => rfl); (case hg => rfl); (case hr => first | (go_simp; done) | (go_simp; rfl)); (case hp => exact (Reps.none _ _))
                    intro v206 w33 ho34 hb hg_ hnew_
                    clear hg_ hnew_
                    (first | rw [← Ny205.out] at ho34 | (simp only [Int.reduceToNat] at ho34; rw [← Ny205.out] at ho34))
                    have n0_ := Aside0.mk (Kd.R_lower ho34 (below_size (by repeat (first | (with_reducible first | exact HB.out | apply below_alloc | apply pw_below_drewN | apply below_drew1 | refine below_set ?_ GE188.out | refine below_set ?_ GE196.out | refine below_set ?_ GE204.out) | exact HB.out))))
                    have n1_ := Aside0.mk (blk_below (g := gb188) (o := .cells #[.int .u32 t182, .int .u32 t183, .int .u32 t184, .int .u32 t185, .int .u32 t186, .bool t187] 26 (0, 0)) (by (with_reducible repeat (first | refine blk_drewN ?_ _ | refine blk_drew ?_ | refine blk_alloc ?_ _)); exact BK188.out) hb)
                    have n2_ := Aside0.mk (blk_below (g := gb196) (o := .cells #[.int .u32 t189, .int .u32 t190, .int .u32 t191, .int .u32 t192, .int .u32 t193, .bool t194] 26 (0, 0)) (by (with_reducible repeat (first | refine blk_drewN ?_ _ | refine blk_drew ?_ | refine blk_alloc ?_ _)); exact BK196.out) hb)
                    have n3_ := Aside0.mk (blk_below (g := gb204) (o := .cells #[.int .u32 t197, .int .u32 t198, .int .u32 t199, .int .u32 t200, .int .u32 t201, .bool t202] 26 (0, 0)) (by (with_reducible repeat (first | refine blk_drewN ?_ _ | refine blk_drew ?_ | refine blk_alloc ?_ _)); exact BK204.out) hb)
                    have n4_ := Aside0.mk (below_step (by repeat (first | (with_reducible first | exact HB.out | apply below_alloc | apply pw_below_drewN | apply below_drew1 | refine below_set ?_ GE188.out | refine below_set ?_ GE196.out | refine below_set ?_ GE204.out) | exact HB.out)) hb)
                    clear BK188
                    clear BK196
                    clear BK204
                    clear HB
                    have HO207 := n0_
                    have BK188 := n1_
                    have BK196 := n2_
                    have BK204 := n3_
                    have HB := n4_
                    clear n0_ n1_ n2_ n3_ n4_
                    clear hb ho34
                    refine hK.out _ _ ⟨(blk_cell BK188.out 0).trans rfl, (blk_cell BK188.out 1).trans rfl, (blk_cell BK188.out 2).trans rfl, (blk_cell BK188.out 3).trans rfl, (blk_cell BK188.out 4).trans rfl, (blk_cell BK188.out 5).trans rfl⟩ (fun hHeld => ?_)
                    clear hK K
                    refine norm_ (a' := ?_) ?_ ?_
                    rotate_left
                    ·
                     show Act.put _ (some 44) _ = _
                     simp only [Act.put, List.setIfInBounds_toArray, List.set_cons_zero, List.set_cons_succ, i64_w, i32_w]
                     rfl
                    exact norm_ (by first | (simp only [putAll, Act.put, List.setIfInBounds_toArray, List.set_cons_zero, List.set_cons_succ]; done) | (simp only [putAll, Act.put, List.setIfInBounds_toArray, List.set_cons_zero, List.set_cons_succ]; rfl)) (hJ2 (v206) _ ⟨hHeld, (by (with_reducible repeat (first | apply Kd.R_alloc | apply Kd.R_drewN | apply Kd.R_drew)); exact HO207.out), (by (with_reducible repeat (first | refine blk_drewN ?_ _ | refine blk_drew ?_ | refine blk_alloc ?_ _)); exact BK188.out), (by (with_reducible repeat (first | refine blk_drewN ?_ _ | refine blk_drew ?_ | refine blk_alloc ?_ _)); exact BK196.out), (by (with_reducible repeat (first | refine blk_drewN ?_ _ | refine blk_drew ?_ | refine blk_alloc ?_ _)); exact BK204.out), (by repeat (first | (with_reducible first | exact HB.out | apply below_alloc | apply pw_below_drewN | apply below_drew1 | refine below_set ?_ GE188.out | refine below_set ?_ GE196.out | refine below_set ?_ GE204.out) | exact HB.out))⟩)
                   ·
                    skip
                    refine box_step ?hg (N := 12) ?hd (cs := #[.int .u32 0, .int .u32 0, .int .u32 0, .int .u32 0, .int .u32 0, .bool false]) (t := 26) ?hr ?_; (case hd => rfl); (case hg => rfl); (case hr => first | (go_simp; done) | (go_simp; rfl))
                    intro gb221 hg w33 hbox hb
                    have n0_ := Aside0.mk (blk_below (g := gb188) (o := .cells #[.int .u32 t182, .int .u32 t183, .int .u32 t184, .int .u32 t185, .int .u32 t186, .bool t187] 26 (0, 0)) (by (with_reducible repeat (first | refine blk_drewN ?_ _ | refine blk_drew ?_ | refine blk_alloc ?_ _)); exact BK188.out) hb)
                    have n1_ := Aside0.mk (blk_below (g := gb196) (o := .cells #[.int .u32 t189, .int .u32 t190, .int .u32 t191, .int .u32 t192, .int .u32 t193, .bool t194] 26 (0, 0)) (by (with_reducible repeat (first | refine blk_drewN ?_ _ | refine blk_drew ?_ | refine blk_alloc ?_ _)); exact BK196.out) hb)
                    have n2_ := Aside0.mk (blk_below (g := gb204) (o := .cells #[.int .u32 t197, .int .u32 t198, .int .u32 t199, .int .u32 t200, .int .u32 t201, .bool t202] 26 (0, 0)) (by (with_reducible repeat (first | refine blk_drewN ?_ _ | refine blk_drew ?_ | refine blk_alloc ?_ _)); exact BK204.out) hb)
                    have n3_ := Aside0.mk (below_step (by repeat (first | (with_reducible first | exact HB.out | apply below_alloc | apply pw_below_drewN | apply below_drew1 | refine below_set ?_ GE188.out | refine below_set ?_ GE196.out | refine below_set ?_ GE204.out) | exact HB.out)) hb)
                    have n4_ := Aside0.mk (hbox)
                    have n5_ := Aside0.mk ((by rw [hg]; exact (below_size (by repeat (first | (with_reducible first | exact HB.out | apply below_alloc | apply pw_below_drewN | apply below_drew1 | refine below_set ?_ GE188.out | refine below_set ?_ GE196.out | refine below_set ?_ GE204.out) | exact HB.out))) : w.heap.size ≤ gb221))
                    have n6_ := Aside0.mk ((by rw [hg]; exact (below_size (by repeat (first | (with_reducible first | exact HB.out | apply below_alloc | apply pw_below_drewN | apply below_drew1 | refine below_set ?_ GE188.out | refine below_set ?_ GE196.out | refine below_set ?_ GE204.out) | exact HB.out))) : w.heap.size ≤ gb221))
                    have n7_ := Aside0.mk ((by rw [hg]; exact Nat.ne_of_lt (blk_lt (g := gb188) (o := .cells #[.int .u32 t182, .int .u32 t183, .int .u32 t184, .int .u32 t185, .int .u32 t186, .bool t187] 26 (0, 0)) (by (with_reducible repeat (first | refine blk_drewN ?_ _ | refine blk_drew ?_ | refine blk_alloc ?_ _)); exact BK188.out)) : gb188 ≠ gb221))
                    have n8_ := Aside0.mk ((by rw [hg]; exact Nat.ne_of_gt (blk_lt (g := gb188) (o := .cells #[.int .u32 t182, .int .u32 t183, .int .u32 t184, .int .u32 t185, .int .u32 t186, .bool t187] 26 (0, 0)) (by (with_reducible repeat (first | refine blk_drewN ?_ _ | refine blk_drew ?_ | refine blk_alloc ?_ _)); exact BK188.out)) : gb221 ≠ gb188))
                    have n9_ := Aside0.mk ((by rw [hg]; exact Nat.ne_of_lt (blk_lt (g := gb196) (o := .cells #[.int .u32 t189, .int .u32 t190, .int .u32 t191, .int .u32 t192, .int .u32 t193, .bool t194] 26 (0, 0)) (by (with_reducible repeat (first | refine blk_drewN ?_ _ | refine blk_drew ?_ | refine blk_alloc ?_ _)); exact BK196.out)) : gb196 ≠ gb221))
                    have n10_ := Aside0.mk ((by rw [hg]; exact Nat.ne_of_gt (blk_lt (g := gb196) (o := .cells #[.int .u32 t189, .int .u32 t190, .int .u32 t191, .int .u32 t192, .int .u32 t193, .bool t194] 26 (0, 0)) (by (with_reducible repeat (first | refine blk_drewN ?_ _ | refine blk_drew ?_ | refine blk_alloc ?_ _)); exact BK196.out)) : gb221 ≠ gb196))
                    have n11_ := Aside0.mk ((by rw [hg]; exact Nat.ne_of_lt (blk_lt (g := gb204) (o := .cells #[.int .u32 t197, .int .u32 t198, .int .u32 t199, .int .u32 t200, .int .u32 t201, .bool t202] 26 (0, 0)) (by (with_reducible repeat (first | refine blk_drewN ?_ _ | refine blk_drew ?_ | refine blk_alloc ?_ _)); exact BK204.out)) : gb204 ≠ gb221))
                    have n12_ := Aside0.mk ((by rw [hg]; exact Nat.ne_of_gt (blk_lt (g := gb204) (o := .cells #[.int .u32 t197, .int .u32 t198, .int .u32 t199, .int .u32 t200, .int .u32 t201, .bool t202] 26 (0, 0)) (by (with_reducible repeat (first | refine blk_drewN ?_ _ | refine blk_drew ?_ | refine blk_alloc ?_ _)); exact BK204.out)) : gb221 ≠ gb204))
                    clear BK188
                    clear BK196
                    clear BK204
                    clear HB
                    have BK188 := n0_
                    have BK196 := n1_
                    have BK204 := n2_
                    have HB := n3_
                    have BK221 := n4_
                    have GW221 := n5_
                    have GE221 := n6_
                    have NB188_221 := n7_
                    have NB221_188 := n8_
                    have NB196_221 := n9_
                    have NB221_196 := n10_
                    have NB204_221 := n11_
                    have NB221_204 := n12_
                    clear n0_ n1_ n2_ n3_ n4_ n5_ n6_ n7_ n8_ n9_ n10_ n11_ n12_
                    clear hb hbox hg
                    refine hK.out _ _ ⟨(blk_cell BK188.out 0).trans rfl, (blk_cell BK188.out 1).trans rfl, (blk_cell BK188.out 2).trans rfl, (blk_cell BK188.out 3).trans rfl, (blk_cell BK188.out 4).trans rfl, (blk_cell BK188.out 5).trans rfl⟩ (fun hHeld => ?_)
                    clear hK K
                    refine norm_ (a' := ?_) ?_ ?_
                    rotate_left
                    ·
                     show Act.put _ (some 12) _ = _
                     simp only [Act.put, List.setIfInBounds_toArray, List.set_cons_zero, List.set_cons_succ, i64_w, i32_w]
                     rfl
                    exact norm_ (by first | (simp only [putAll, Act.put, List.setIfInBounds_toArray, List.set_cons_zero, List.set_cons_succ]; done) | (simp only [putAll, Act.put, List.setIfInBounds_toArray, List.set_cons_zero, List.set_cons_succ]; rfl)) (hJ11 (gb221) _ ⟨hHeld, (by (with_reducible repeat (first | refine blk_drewN ?_ _ | refine blk_drew ?_ | refine blk_alloc ?_ _)); exact BK188.out), (by (with_reducible repeat (first | refine blk_drewN ?_ _ | refine blk_drew ?_ | refine blk_alloc ?_ _)); exact BK196.out), (by (with_reducible repeat (first | refine blk_drewN ?_ _ | refine blk_drew ?_ | refine blk_alloc ?_ _)); exact BK204.out), (by (with_reducible repeat (first | refine blk_drewN ?_ _ | refine blk_drew ?_ | refine blk_alloc ?_ _)); exact BK221.out), GW221.out, GE221.out, NB188_221.out, NB221_188.out, NB196_221.out, NB221_196.out, NB204_221.out, NB221_204.out, (by repeat (first | (with_reducible first | exact HB.out | apply below_alloc | apply pw_below_drewN | apply below_drew1 | refine below_set ?_ GE188.out | refine below_set ?_ GE196.out | refine below_set ?_ GE204.out | refine below_set ?_ GE221.out) | exact HB.out))⟩)
                  ·
                   skip
                   rintro gb221 w34 ⟨hS_, h0_, h1_, h2_, h3_, h4_, h5_, h6_, h7_, h8_, h9_, h10_, h11_, h12_⟩
                   have n0_ : Aside0 (w34.heap[gb188]? = some (.cells #[.int .u32 t182, .int .u32 t183, .int .u32 t184, .int .u32 t185, .int .u32 t186, .bool t187] 26 (0, 0))) := ⟨h0_⟩
                   have n1_ : Aside0 (w34.heap[gb196]? = some (.cells #[.int .u32 t189, .int .u32 t190, .int .u32 t191, .int .u32 t192, .int .u32 t193, .bool t194] 26 (0, 0))) := ⟨h1_⟩
                   have n2_ : Aside0 (w34.heap[gb204]? = some (.cells #[.int .u32 t197, .int .u32 t198, .int .u32 t199, .int .u32 t200, .int .u32 t201, .bool t202] 26 (0, 0))) := ⟨h2_⟩
                   have n3_ : Aside0 (w34.heap[gb221]? = some (.cells #[.int .u32 0, .int .u32 0, .int .u32 0, .int .u32 0, .int .u32 0, .bool false] 26 (0, 0))) := ⟨h3_⟩
                   have n4_ : Aside0 (w.heap.size ≤ gb221) := ⟨h4_⟩
                   have n5_ : Aside0 (w.heap.size ≤ gb221) := ⟨h5_⟩
                   have n6_ : Aside0 (gb188 ≠ gb221) := ⟨h6_⟩
                   have n7_ : Aside0 (gb221 ≠ gb188) := ⟨h7_⟩
                   have n8_ : Aside0 (gb196 ≠ gb221) := ⟨h8_⟩
                   have n9_ : Aside0 (gb221 ≠ gb196) := ⟨h9_⟩
                   have n10_ : Aside0 (gb204 ≠ gb221) := ⟨h10_⟩
                   have n11_ : Aside0 (gb221 ≠ gb204) := ⟨h11_⟩
                   have n12_ : Aside0 (Below w.heap.size w w34) := ⟨h12_⟩
                   clear BK188
                   clear BK196
                   clear BK204
                   clear HB
                   clear h0_ h1_ h2_ h3_ h4_ h5_ h6_ h7_ h8_ h9_ h10_ h11_ h12_
                   have BK188 := n0_
                   have BK196 := n1_
                   have BK204 := n2_
                   have BK221 := n3_
                   have GW221 := n4_
                   have GE221 := n5_
                   have NB188_221 := n6_
                   have NB221_188 := n7_
                   have NB196_221 := n8_
                   have NB221_196 := n9_
                   have NB204_221 := n10_
                   have NB221_204 := n11_
                   have HB := n12_
                   clear n0_ n1_ n2_ n3_ n4_ n5_ n6_ n7_ n8_ n9_ n10_ n11_ n12_
                   have hHeld : w34.cell? ⟨gb188, 0, none⟩ = some (.int .u32 t182) ∧ w34.cell? ⟨gb188, 1, none⟩ = some (.int .u32 t183) ∧ w34.cell? ⟨gb188, 2, none⟩ = some (.int .u32 t184) ∧ w34.cell? ⟨gb188, 3, none⟩ = some (.int .u32 t185) ∧ w34.cell? ⟨gb188, 4, none⟩ = some (.int .u32 t186) ∧ w34.cell? ⟨gb188, 5, none⟩ = some (.bool t187) := hS_
                   refine norm_ (a' := ?_) ?_ ?_
                   rotate_left
                   ·
                    simp only [putAll, Act.put, List.setIfInBounds_toArray, List.set_cons_zero, List.set_cons_succ]
                    rfl
                   refine one_ (i := 2) (N := some 44) #[true, true, true, true, false, true, false, false, false, false, false, true, false, false] rfl rfl (one_of HT_.out (by kernel_rfl)) (by decide) (fun K hK => ?_)
                   refine Kd.R_lit_step k42 _ 42 ?hg (N := 44) ?hd (xs := ([] : List (S42))) (inner := []) (ok := fun _ => True) (okp := fun _ => True) ?hr ?hp (fun _ hk => hk) trivial (Below.refl _ _) (Nat.le_refl _) (by simp) ?_; (case hd => rfl); (case hg => rfl); (case hr => first | (go_simp; done) | (go_simp; rfl)); (case hp => exact (Reps.none _ _))
                   intro v206 w35 ho36 hb hg_ hnew_
                   clear hg_ hnew_
                   (first | rw [← Ny205.out] at ho36 | (simp only [Int.reduceToNat] at ho36; rw [← Ny205.out] at ho36))
                   have n0_ := Aside0.mk (Kd.R_lower ho36 (below_size (by repeat (first | (with_reducible first | exact HB.out | apply below_alloc | apply pw_below_drewN | apply below_drew1 | refine below_set ?_ GE188.out | refine below_set ?_ GE196.out | refine below_set ?_ GE204.out | refine below_set ?_ GE221.out) | exact HB.out))))
                   have n1_ := Aside0.mk (blk_below (g := gb188) (o := .cells #[.int .u32 t182, .int .u32 t183, .int .u32 t184, .int .u32 t185, .int .u32 t186, .bool t187] 26 (0, 0)) (by (with_reducible repeat (first | refine blk_drewN ?_ _ | refine blk_drew ?_ | refine blk_alloc ?_ _)); exact BK188.out) hb)
                   have n2_ := Aside0.mk (blk_below (g := gb196) (o := .cells #[.int .u32 t189, .int .u32 t190, .int .u32 t191, .int .u32 t192, .int .u32 t193, .bool t194] 26 (0, 0)) (by (with_reducible repeat (first | refine blk_drewN ?_ _ | refine blk_drew ?_ | refine blk_alloc ?_ _)); exact BK196.out) hb)
                   have n3_ := Aside0.mk (blk_below (g := gb204) (o := .cells #[.int .u32 t197, .int .u32 t198, .int .u32 t199, .int .u32 t200, .int .u32 t201, .bool t202] 26 (0, 0)) (by (with_reducible repeat (first | refine blk_drewN ?_ _ | refine blk_drew ?_ | refine blk_alloc ?_ _)); exact BK204.out) hb)
                   have n4_ := Aside0.mk (blk_below (g := gb221) (o := .cells #[.int .u32 0, .int .u32 0, .int .u32 0, .int .u32 0, .int .u32 0, .bool false] 26 (0, 0)) (by (with_reducible repeat (first | refine blk_drewN ?_ _ | refine blk_drew ?_ | refine blk_alloc ?_ _)); exact BK221.out) hb)
                   have n5_ := Aside0.mk (below_step (by repeat (first | (with_reducible first | exact HB.out | apply below_alloc | apply pw_below_drewN | apply below_drew1 | refine below_set ?_ GE188.out | refine below_set ?_ GE196.out | refine below_set ?_ GE204.out | refine below_set ?_ GE221.out) | exact HB.out)) hb)
                   clear BK188
                   clear BK196
                   clear BK204
                   clear BK221
                   clear HB
                   have HO207 := n0_
                   have BK188 := n1_
                   have BK196 := n2_
                   have BK204 := n3_
                   have BK221 := n4_
                   have HB := n5_
                   clear n0_ n1_ n2_ n3_ n4_ n5_
                   clear hb ho36
                   refine hK.out _ _ ⟨(blk_cell BK188.out 0).trans rfl, (blk_cell BK188.out 1).trans rfl, (blk_cell BK188.out 2).trans rfl, (blk_cell BK188.out 3).trans rfl, (blk_cell BK188.out 4).trans rfl, (blk_cell BK188.out 5).trans rfl⟩ (fun hHeld => ?_)
                   clear hK K
                   refine norm_ (a' := ?_) ?_ ?_
                   rotate_left
                   ·
                    show Act.put _ (some 44) _ = _
                    simp only [Act.put, List.setIfInBounds_toArray, List.set_cons_zero, List.set_cons_succ, i64_w, i32_w]
                    rfl
                   exact norm_ (by first | (simp only [putAll, Act.put, List.setIfInBounds_toArray, List.set_cons_zero, List.set_cons_succ]; done) | (simp only [putAll, Act.put, List.setIfInBounds_toArray, List.set_cons_zero, List.set_cons_succ]; rfl)) (hJ2_11 (v206, gb221) _ ⟨hHeld, (by (with_reducible repeat (first | apply Kd.R_alloc | apply Kd.R_drewN | apply Kd.R_drew)); exact HO207.out), (by (with_reducible repeat (first | refine blk_drewN ?_ _ | refine blk_drew ?_ | refine blk_alloc ?_ _)); exact BK188.out), (by (with_reducible repeat (first | refine blk_drewN ?_ _ | refine blk_drew ?_ | refine blk_alloc ?_ _)); exact BK196.out), (by (with_reducible repeat (first | refine blk_drewN ?_ _ | refine blk_drew ?_ | refine blk_alloc ?_ _)); exact BK204.out), (by (with_reducible repeat (first | refine blk_drewN ?_ _ | refine blk_drew ?_ | refine blk_alloc ?_ _)); exact BK221.out), GW221.out, GE221.out, NB188_221.out, NB221_188.out, NB196_221.out, NB221_196.out, NB204_221.out, NB221_204.out, (by repeat (first | (with_reducible first | exact HB.out | apply below_alloc | apply pw_below_drewN | apply below_drew1 | refine below_set ?_ GE188.out | refine below_set ?_ GE196.out | refine below_set ?_ GE204.out | refine below_set ?_ GE221.out) | exact HB.out))⟩)
                 ·
                  skip
                  rintro v206 w35 ⟨hS_, h0_, h1_, h2_, h3_, h4_⟩
                  have n0_ : Aside0 (Kd.R k42 42 w35 w.heap.size (fun _ => True) v206 y205) := ⟨h0_⟩
                  have n1_ : Aside0 (w35.heap[gb188]? = some (.cells #[.int .u32 t182, .int .u32 t183, .int .u32 t184, .int .u32 t185, .int .u32 t186, .bool t187] 26 (0, 0))) := ⟨h1_⟩
                  have n2_ : Aside0 (w35.heap[gb196]? = some (.cells #[.int .u32 t189, .int .u32 t190, .int .u32 t191, .int .u32 t192, .int .u32 t193, .bool t194] 26 (0, 0))) := ⟨h2_⟩
                  have n3_ : Aside0 (w35.heap[gb204]? = some (.cells #[.int .u32 t197, .int .u32 t198, .int .u32 t199, .int .u32 t200, .int .u32 t201, .bool t202] 26 (0, 0))) := ⟨h3_⟩
                  have n4_ : Aside0 (Below w.heap.size w w35) := ⟨h4_⟩
                  clear BK188
                  clear BK196
                  clear BK204
                  clear HB
                  clear h0_ h1_ h2_ h3_ h4_
                  have HO207 := n0_
                  have BK188 := n1_
                  have BK196 := n2_
                  have BK204 := n3_
                  have HB := n4_
                  clear n0_ n1_ n2_ n3_ n4_
                  have hHeld : w35.cell? ⟨gb188, 0, none⟩ = some (.int .u32 t182) ∧ w35.cell? ⟨gb188, 1, none⟩ = some (.int .u32 t183) ∧ w35.cell? ⟨gb188, 2, none⟩ = some (.int .u32 t184) ∧ w35.cell? ⟨gb188, 3, none⟩ = some (.int .u32 t185) ∧ w35.cell? ⟨gb188, 4, none⟩ = some (.int .u32 t186) ∧ w35.cell? ⟨gb188, 5, none⟩ = some (.bool t187) := hS_
                  refine norm_ (a' := ?_) ?_ ?_
                  rotate_left
                  ·
                   simp only [putAll, Act.put, List.setIfInBounds_toArray, List.set_cons_zero, List.set_cons_succ]
                   rfl
                  refine two_ (i := 4) (j := 11) (Ni := some 46) (Nj := some 12) #[true, true, true, true, true, true, false, false, false, false, false, false, false, false] #[true, true, true, true, false, true, false, false, false, false, false, true, false, false] rfl rfl rfl rfl (two_of HT_.out (by kernel_rfl)) (by decide) (by decide) (fun K hK => ?_) (fun K hK => ?_)
                  ·
                   skip
                   refine Kd.R_append_rows_step k42 (w0 := w) w.heap.size (by rfl) (.tmp 44) (.tmp 45) 22 42 (.agg #[(.int .u16 0), (.int .u32 0)]) 8 rfl Try.underlying22 info42 rfl (by decide) (by omega) v206 y205 l1 _ _ _ (fun _ => True) (fun _ => False) rfl rfl ?aO ?aR (fun _ _ h => h) (fun _ h => h.elim) ?aF ?aB ?aS ?aL ?_
                   (case aR => repeat (first | exact (Kd.C_below HR1.out HB.out) | (with_reducible refine Kd.C_alloc ?_ _) | (with_reducible refine Kd.C_drewN ?_ _) | (with_reducible refine Kd.C_drew ?_)))
                   (case aB => exact (by repeat (first | (with_reducible first | exact HB.out | apply below_alloc | apply pw_below_drewN | apply below_drew1 | refine below_set ?_ GE188.out | refine below_set ?_ GE196.out | refine below_set ?_ GE204.out) | exact HB.out)))
                   (case aF => exact (fun _ _ => trivial))
                   (case aO => exact (by (with_reducible repeat (first | apply Kd.R_alloc | apply Kd.R_drewN | apply Kd.R_drew)); exact HO207.out))
                   (case aS => exact (below_size (by repeat (first | (with_reducible first | exact HB.out | apply below_alloc | apply pw_below_drewN | apply below_drew1 | refine below_set ?_ GE188.out | refine below_set ?_ GE196.out | refine below_set ?_ GE204.out) | exact HB.out))))
                   (case aL => have := LMc13.out; omega)
                   intro v209 w36 ho hb hg hat
                   rw [← Ny208.out] at ho
                   have n0_ := Aside0.mk (blk_grown (g := gb188) (o := .cells #[.int .u32 t182, .int .u32 t183, .int .u32 t184, .int .u32 t185, .int .u32 t186, .bool t187] 26 (0, 0)) (by (with_reducible repeat (first | refine blk_drewN ?_ _ | refine blk_drew ?_ | refine blk_alloc ?_ _)); exact BK188.out) hg (Kd.R_ne HO207.out BK188.out (by decide)))
                   have n1_ := Aside0.mk (blk_grown (g := gb196) (o := .cells #[.int .u32 t189, .int .u32 t190, .int .u32 t191, .int .u32 t192, .int .u32 t193, .bool t194] 26 (0, 0)) (by (with_reducible repeat (first | refine blk_drewN ?_ _ | refine blk_drew ?_ | refine blk_alloc ?_ _)); exact BK196.out) hg (Kd.R_ne HO207.out BK196.out (by decide)))
                   have n2_ := Aside0.mk (blk_grown (g := gb204) (o := .cells #[.int .u32 t197, .int .u32 t198, .int .u32 t199, .int .u32 t200, .int .u32 t201, .bool t202] 26 (0, 0)) (by (with_reducible repeat (first | refine blk_drewN ?_ _ | refine blk_drew ?_ | refine blk_alloc ?_ _)); exact BK204.out) hg (Kd.R_ne HO207.out BK204.out (by decide)))
                   have n3_ := Aside0.mk (hb)
                   have n4_ := Aside0.mk (ho)
                   clear BK188
                   clear BK196
                   clear BK204
                   clear HB
                   clear HO207
                   have BK188 := n0_
                   have BK196 := n1_
                   have BK204 := n2_
                   have HB := n3_
                   have HO210 := n4_
                   clear n0_ n1_ n2_ n3_ n4_
                   clear ho hb hg hat
                   refine hK.out _ _ ⟨(blk_cell BK188.out 0).trans rfl, (blk_cell BK188.out 1).trans rfl, (blk_cell BK188.out 2).trans rfl, (blk_cell BK188.out 3).trans rfl, (blk_cell BK188.out 4).trans rfl, (blk_cell BK188.out 5).trans rfl⟩ (fun hHeld => ?_)
                   clear hK K
                   refine norm_ (a' := ?_) ?_ ?_
                   rotate_left
                   ·
                    show Act.put _ (some 46) _ = _
                    simp only [Act.put, List.setIfInBounds_toArray, List.set_cons_zero, List.set_cons_succ, i64_w, i32_w]
                    rfl
                   exact norm_ (by first | (simp only [putAll, Act.put, List.setIfInBounds_toArray, List.set_cons_zero, List.set_cons_succ]; done) | (simp only [putAll, Act.put, List.setIfInBounds_toArray, List.set_cons_zero, List.set_cons_succ]; rfl)) (hJ2_4 (v206, v209) _ ⟨hHeld, (by (with_reducible repeat (first | apply Kd.R_alloc | apply Kd.R_drewN | apply Kd.R_drew)); exact HO210.out), (by (with_reducible repeat (first | refine blk_drewN ?_ _ | refine blk_drew ?_ | refine blk_alloc ?_ _)); exact BK188.out), (by (with_reducible repeat (first | refine blk_drewN ?_ _ | refine blk_drew ?_ | refine blk_alloc ?_ _)); exact BK196.out), (by (with_reducible repeat (first | refine blk_drewN ?_ _ | refine blk_drew ?_ | refine blk_alloc ?_ _)); exact BK204.out), (by repeat (first | (with_reducible first | exact HB.out | apply below_alloc | apply pw_below_drewN | apply below_drew1 | refine below_set ?_ GE188.out | refine below_set ?_ GE196.out | refine below_set ?_ GE204.out) | exact HB.out))⟩)
                  ·
                   skip
                   refine box_step ?hg (N := 12) ?hd (cs := #[.int .u32 0, .int .u32 0, .int .u32 0, .int .u32 0, .int .u32 0, .bool false]) (t := 26) ?hr ?_; (case hd => rfl); (case hg => rfl); (case hr => first | (go_simp; done) | (go_simp; rfl))
                   intro gb221 hg w36 hbox hb
                   have n0_ := Aside0.mk (Kd.R_below (by (with_reducible repeat (first | apply Kd.R_alloc | apply Kd.R_drewN | apply Kd.R_drew)); exact HO207.out) hb)
                   have n1_ := Aside0.mk (blk_below (g := gb188) (o := .cells #[.int .u32 t182, .int .u32 t183, .int .u32 t184, .int .u32 t185, .int .u32 t186, .bool t187] 26 (0, 0)) (by (with_reducible repeat (first | refine blk_drewN ?_ _ | refine blk_drew ?_ | refine blk_alloc ?_ _)); exact BK188.out) hb)
                   have n2_ := Aside0.mk (blk_below (g := gb196) (o := .cells #[.int .u32 t189, .int .u32 t190, .int .u32 t191, .int .u32 t192, .int .u32 t193, .bool t194] 26 (0, 0)) (by (with_reducible repeat (first | refine blk_drewN ?_ _ | refine blk_drew ?_ | refine blk_alloc ?_ _)); exact BK196.out) hb)
                   have n3_ := Aside0.mk (blk_below (g := gb204) (o := .cells #[.int .u32 t197, .int .u32 t198, .int .u32 t199, .int .u32 t200, .int .u32 t201, .bool t202] 26 (0, 0)) (by (with_reducible repeat (first | refine blk_drewN ?_ _ | refine blk_drew ?_ | refine blk_alloc ?_ _)); exact BK204.out) hb)
                   have n4_ := Aside0.mk (below_step (by repeat (first | (with_reducible first | exact HB.out | apply below_alloc | apply pw_below_drewN | apply below_drew1 | refine below_set ?_ GE188.out | refine below_set ?_ GE196.out | refine below_set ?_ GE204.out) | exact HB.out)) hb)
                   have n5_ := Aside0.mk (hbox)
                   have n6_ := Aside0.mk ((by rw [hg]; exact (below_size (by repeat (first | (with_reducible first | exact HB.out | apply below_alloc | apply pw_below_drewN | apply below_drew1 | refine below_set ?_ GE188.out | refine below_set ?_ GE196.out | refine below_set ?_ GE204.out) | exact HB.out))) : w.heap.size ≤ gb221))
                   have n7_ := Aside0.mk ((by rw [hg]; exact (below_size (by repeat (first | (with_reducible first | exact HB.out | apply below_alloc | apply pw_below_drewN | apply below_drew1 | refine below_set ?_ GE188.out | refine below_set ?_ GE196.out | refine below_set ?_ GE204.out) | exact HB.out))) : w.heap.size ≤ gb221))
                   have n8_ := Aside0.mk ((by rw [hg]; exact Nat.ne_of_lt (blk_lt (g := gb188) (o := .cells #[.int .u32 t182, .int .u32 t183, .int .u32 t184, .int .u32 t185, .int .u32 t186, .bool t187] 26 (0, 0)) (by (with_reducible repeat (first | refine blk_drewN ?_ _ | refine blk_drew ?_ | refine blk_alloc ?_ _)); exact BK188.out)) : gb188 ≠ gb221))
                   have n9_ := Aside0.mk ((by rw [hg]; exact Nat.ne_of_gt (blk_lt (g := gb188) (o := .cells #[.int .u32 t182, .int .u32 t183, .int .u32 t184, .int .u32 t185, .int .u32 t186, .bool t187] 26 (0, 0)) (by (with_reducible repeat (first | refine blk_drewN ?_ _ | refine blk_drew ?_ | refine blk_alloc ?_ _)); exact BK188.out)) : gb221 ≠ gb188))
                   have n10_ := Aside0.mk ((by rw [hg]; exact Nat.ne_of_lt (blk_lt (g := gb196) (o := .cells #[.int .u32 t189, .int .u32 t190, .int .u32 t191, .int .u32 t192, .int .u32 t193, .bool t194] 26 (0, 0)) (by (with_reducible repeat (first | refine blk_drewN ?_ _ | refine blk_drew ?_ | refine blk_alloc ?_ _)); exact BK196.out)) : gb196 ≠ gb221))
                   have n11_ := Aside0.mk ((by rw [hg]; exact Nat.ne_of_gt (blk_lt (g := gb196) (o := .cells #[.int .u32 t189, .int .u32 t190, .int .u32 t191, .int .u32 t192, .int .u32 t193, .bool t194] 26 (0, 0)) (by (with_reducible repeat (first | refine blk_drewN ?_ _ | refine blk_drew ?_ | refine blk_alloc ?_ _)); exact BK196.out)) : gb221 ≠ gb196))
                   have n12_ := Aside0.mk ((by rw [hg]; exact Nat.ne_of_lt (blk_lt (g := gb204) (o := .cells #[.int .u32 t197, .int .u32 t198, .int .u32 t199, .int .u32 t200, .int .u32 t201, .bool t202] 26 (0, 0)) (by (with_reducible repeat (first | refine blk_drewN ?_ _ | refine blk_drew ?_ | refine blk_alloc ?_ _)); exact BK204.out)) : gb204 ≠ gb221))
                   have n13_ := Aside0.mk ((by rw [hg]; exact Nat.ne_of_gt (blk_lt (g := gb204) (o := .cells #[.int .u32 t197, .int .u32 t198, .int .u32 t199, .int .u32 t200, .int .u32 t201, .bool t202] 26 (0, 0)) (by (with_reducible repeat (first | refine blk_drewN ?_ _ | refine blk_drew ?_ | refine blk_alloc ?_ _)); exact BK204.out)) : gb221 ≠ gb204))
                   clear HO207
                   clear BK188
                   clear BK196
                   clear BK204
                   clear HB
                   have HO207 := n0_
                   have BK188 := n1_
                   have BK196 := n2_
                   have BK204 := n3_
                   have HB := n4_
                   have BK221 := n5_
                   have GW221 := n6_
                   have GE221 := n7_
                   have NB188_221 := n8_
                   have NB221_188 := n9_
                   have NB196_221 := n10_
                   have NB221_196 := n11_
                   have NB204_221 := n12_
                   have NB221_204 := n13_
                   clear n0_ n1_ n2_ n3_ n4_ n5_ n6_ n7_ n8_ n9_ n10_ n11_ n12_ n13_
                   clear hb hbox hg
                   refine hK.out _ _ ⟨(blk_cell BK188.out 0).trans rfl, (blk_cell BK188.out 1).trans rfl, (blk_cell BK188.out 2).trans rfl, (blk_cell BK188.out 3).trans rfl, (blk_cell BK188.out 4).trans rfl, (blk_cell BK188.out 5).trans rfl⟩ (fun hHeld => ?_)
                   clear hK K
                   refine norm_ (a' := ?_) ?_ ?_
                   rotate_left
                   ·
                    show Act.put _ (some 12) _ = _
                    simp only [Act.put, List.setIfInBounds_toArray, List.set_cons_zero, List.set_cons_succ, i64_w, i32_w]
                    rfl
                   exact norm_ (by first | (simp only [putAll, Act.put, List.setIfInBounds_toArray, List.set_cons_zero, List.set_cons_succ]; done) | (simp only [putAll, Act.put, List.setIfInBounds_toArray, List.set_cons_zero, List.set_cons_succ]; rfl)) (hJ2_11 (v206, gb221) _ ⟨hHeld, (by (with_reducible repeat (first | apply Kd.R_alloc | apply Kd.R_drewN | apply Kd.R_drew)); exact HO207.out), (by (with_reducible repeat (first | refine blk_drewN ?_ _ | refine blk_drew ?_ | refine blk_alloc ?_ _)); exact BK188.out), (by (with_reducible repeat (first | refine blk_drewN ?_ _ | refine blk_drew ?_ | refine blk_alloc ?_ _)); exact BK196.out), (by (with_reducible repeat (first | refine blk_drewN ?_ _ | refine blk_drew ?_ | refine blk_alloc ?_ _)); exact BK204.out), (by (with_reducible repeat (first | refine blk_drewN ?_ _ | refine blk_drew ?_ | refine blk_alloc ?_ _)); exact BK221.out), GW221.out, GE221.out, NB188_221.out, NB221_188.out, NB196_221.out, NB221_196.out, NB204_221.out, NB221_204.out, (by repeat (first | (with_reducible first | exact HB.out | apply below_alloc | apply pw_below_drewN | apply below_drew1 | refine below_set ?_ GE188.out | refine below_set ?_ GE196.out | refine below_set ?_ GE204.out | refine below_set ?_ GE221.out) | exact HB.out))⟩)
                ·
                 skip
                 rintro ⟨v206, gb221⟩ w36 ⟨hS_, h0_, h1_, h2_, h3_, h4_, h5_, h6_, h7_, h8_, h9_, h10_, h11_, h12_, h13_⟩
                 have n0_ : Aside0 (Kd.R k42 42 w36 w.heap.size (fun _ => True) v206 y205) := ⟨h0_⟩
                 have n1_ : Aside0 (w36.heap[gb188]? = some (.cells #[.int .u32 t182, .int .u32 t183, .int .u32 t184, .int .u32 t185, .int .u32 t186, .bool t187] 26 (0, 0))) := ⟨h1_⟩
                 have n2_ : Aside0 (w36.heap[gb196]? = some (.cells #[.int .u32 t189, .int .u32 t190, .int .u32 t191, .int .u32 t192, .int .u32 t193, .bool t194] 26 (0, 0))) := ⟨h2_⟩
                 have n3_ : Aside0 (w36.heap[gb204]? = some (.cells #[.int .u32 t197, .int .u32 t198, .int .u32 t199, .int .u32 t200, .int .u32 t201, .bool t202] 26 (0, 0))) := ⟨h3_⟩
                 have n4_ : Aside0 (w36.heap[gb221]? = some (.cells #[.int .u32 0, .int .u32 0, .int .u32 0, .int .u32 0, .int .u32 0, .bool false] 26 (0, 0))) := ⟨h4_⟩
                 have n5_ : Aside0 (w.heap.size ≤ gb221) := ⟨h5_⟩
                 have n6_ : Aside0 (w.heap.size ≤ gb221) := ⟨h6_⟩
                 have n7_ : Aside0 (gb188 ≠ gb221) := ⟨h7_⟩
                 have n8_ : Aside0 (gb221 ≠ gb188) := ⟨h8_⟩
                 have n9_ : Aside0 (gb196 ≠ gb221) := ⟨h9_⟩
                 have n10_ : Aside0 (gb221 ≠ gb196) := ⟨h10_⟩
                 have n11_ : Aside0 (gb204 ≠ gb221) := ⟨h11_⟩
                 have n12_ : Aside0 (gb221 ≠ gb204) := ⟨h12_⟩
                 have n13_ : Aside0 (Below w.heap.size w w36) := ⟨h13_⟩
                 clear BK188
                 clear BK196
                 clear BK204
                 clear HB
                 clear h0_ h1_ h2_ h3_ h4_ h5_ h6_ h7_ h8_ h9_ h10_ h11_ h12_ h13_
                 have HO207 := n0_
                 have BK188 := n1_
                 have BK196 := n2_
                 have BK204 := n3_
                 have BK221 := n4_
                 have GW221 := n5_
                 have GE221 := n6_
                 have NB188_221 := n7_
                 have NB221_188 := n8_
                 have NB196_221 := n9_
                 have NB221_196 := n10_
                 have NB204_221 := n11_
                 have NB221_204 := n12_
                 have HB := n13_
                 clear n0_ n1_ n2_ n3_ n4_ n5_ n6_ n7_ n8_ n9_ n10_ n11_ n12_ n13_
                 have hHeld : w36.cell? ⟨gb188, 0, none⟩ = some (.int .u32 t182) ∧ w36.cell? ⟨gb188, 1, none⟩ = some (.int .u32 t183) ∧ w36.cell? ⟨gb188, 2, none⟩ = some (.int .u32 t184) ∧ w36.cell? ⟨gb188, 3, none⟩ = some (.int .u32 t185) ∧ w36.cell? ⟨gb188, 4, none⟩ = some (.int .u32 t186) ∧ w36.cell? ⟨gb188, 5, none⟩ = some (.bool t187) := hS_
                 refine norm_ (a' := ?_) ?_ ?_
                 rotate_left
                 ·
                  simp only [putAll, Act.put, List.setIfInBounds_toArray, List.set_cons_zero, List.set_cons_succ]
                  rfl
                 refine one_ (i := 4) (N := some 46) #[true, true, true, true, true, true, false, false, false, false, false, true, false, false] rfl rfl (one_of HT_.out (by kernel_rfl)) (by decide) (fun K hK => ?_)
                 refine Kd.R_append_rows_step k42 (w0 := w) w.heap.size (by rfl) (.tmp 44) (.tmp 45) 22 42 (.agg #[(.int .u16 0), (.int .u32 0)]) 8 rfl Try.underlying22 info42 rfl (by decide) (by omega) v206 y205 l1 _ _ _ (fun _ => True) (fun _ => False) rfl rfl ?aO ?aR (fun _ _ h => h) (fun _ h => h.elim) ?aF ?aB ?aS ?aL ?_
                 (case aR => repeat (first | exact (Kd.C_below HR1.out HB.out) | (with_reducible refine Kd.C_alloc ?_ _) | (with_reducible refine Kd.C_drewN ?_ _) | (with_reducible refine Kd.C_drew ?_)))
                 (case aB => exact (by repeat (first | (with_reducible first | exact HB.out | apply below_alloc | apply pw_below_drewN | apply below_drew1 | refine below_set ?_ GE188.out | refine below_set ?_ GE196.out | refine below_set ?_ GE204.out | refine below_set ?_ GE221.out) | exact HB.out)))
                 (case aF => exact (fun _ _ => trivial))
                 (case aO => exact (by (with_reducible repeat (first | apply Kd.R_alloc | apply Kd.R_drewN | apply Kd.R_drew)); exact HO207.out))
                 (case aS => exact (below_size (by repeat (first | (with_reducible first | exact HB.out | apply below_alloc | apply pw_below_drewN | apply below_drew1 | refine below_set ?_ GE188.out | refine below_set ?_ GE196.out | refine below_set ?_ GE204.out | refine below_set ?_ GE221.out) | exact HB.out))))
                 (case aL => have := LMc13.out; omega)
                 intro v209 w37 ho hb hg hat
                 rw [← Ny208.out] at ho
                 have n0_ := Aside0.mk (blk_grown (g := gb188) (o := .cells #[.int .u32 t182, .int .u32 t183, .int .u32 t184, .int .u32 t185, .int .u32 t186, .bool t187] 26 (0, 0)) (by (with_reducible repeat (first | refine blk_drewN ?_ _ | refine blk_drew ?_ | refine blk_alloc ?_ _)); exact BK188.out) hg (Kd.R_ne HO207.out BK188.out (by decide)))
                 have n1_ := Aside0.mk (blk_grown (g := gb196) (o := .cells #[.int .u32 t189, .int .u32 t190, .int .u32 t191, .int .u32 t192, .int .u32 t193, .bool t194] 26 (0, 0)) (by (with_reducible repeat (first | refine blk_drewN ?_ _ | refine blk_drew ?_ | refine blk_alloc ?_ _)); exact BK196.out) hg (Kd.R_ne HO207.out BK196.out (by decide)))
                 have n2_ := Aside0.mk (blk_grown (g := gb204) (o := .cells #[.int .u32 t197, .int .u32 t198, .int .u32 t199, .int .u32 t200, .int .u32 t201, .bool t202] 26 (0, 0)) (by (with_reducible repeat (first | refine blk_drewN ?_ _ | refine blk_drew ?_ | refine blk_alloc ?_ _)); exact BK204.out) hg (Kd.R_ne HO207.out BK204.out (by decide)))
                 have n3_ := Aside0.mk (blk_grown (g := gb221) (o := .cells #[.int .u32 0, .int .u32 0, .int .u32 0, .int .u32 0, .int .u32 0, .bool false] 26 (0, 0)) (by (with_reducible repeat (first | refine blk_drewN ?_ _ | refine blk_drew ?_ | refine blk_alloc ?_ _)); exact BK221.out) hg (Kd.R_ne HO207.out BK221.out (by decide)))
                 have n4_ := Aside0.mk (hb)
                 have n5_ := Aside0.mk (ho)
                 clear BK188
                 clear BK196
                 clear BK204
                 clear BK221
                 clear HB
                 clear HO207
                 have BK188 := n0_
                 have BK196 := n1_
                 have BK204 := n2_
                 have BK221 := n3_
                 have HB := n4_
                 have HO210 := n5_
                 clear n0_ n1_ n2_ n3_ n4_ n5_
                 clear ho hb hg hat
                 refine hK.out _ _ ⟨(blk_cell BK188.out 0).trans rfl, (blk_cell BK188.out 1).trans rfl, (blk_cell BK188.out 2).trans rfl, (blk_cell BK188.out 3).trans rfl, (blk_cell BK188.out 4).trans rfl, (blk_cell BK188.out 5).trans rfl⟩ (fun hHeld => ?_)
                 clear hK K
                 refine norm_ (a' := ?_) ?_ ?_
                 rotate_left
                 ·
                  show Act.put _ (some 46) _ = _
                  simp only [Act.put, List.setIfInBounds_toArray, List.set_cons_zero, List.set_cons_succ, i64_w, i32_w]
                  rfl
                 exact norm_ (by first | (simp only [putAll, Act.put, List.setIfInBounds_toArray, List.set_cons_zero, List.set_cons_succ]; done) | (simp only [putAll, Act.put, List.setIfInBounds_toArray, List.set_cons_zero, List.set_cons_succ]; rfl)) (hJ2_4_11 (v206, v209, gb221) _ ⟨hHeld, (by (with_reducible repeat (first | apply Kd.R_alloc | apply Kd.R_drewN | apply Kd.R_drew)); exact HO210.out), (by (with_reducible repeat (first | refine blk_drewN ?_ _ | refine blk_drew ?_ | refine blk_alloc ?_ _)); exact BK188.out), (by (with_reducible repeat (first | refine blk_drewN ?_ _ | refine blk_drew ?_ | refine blk_alloc ?_ _)); exact BK196.out), (by (with_reducible repeat (first | refine blk_drewN ?_ _ | refine blk_drew ?_ | refine blk_alloc ?_ _)); exact BK204.out), (by (with_reducible repeat (first | refine blk_drewN ?_ _ | refine blk_drew ?_ | refine blk_alloc ?_ _)); exact BK221.out), GW221.out, GE221.out, NB188_221.out, NB221_188.out, NB196_221.out, NB221_196.out, NB204_221.out, NB221_204.out, (by repeat (first | (with_reducible first | exact HB.out | apply below_alloc | apply pw_below_drewN | apply below_drew1 | refine below_set ?_ GE188.out | refine below_set ?_ GE196.out | refine below_set ?_ GE204.out | refine below_set ?_ GE221.out) | exact HB.out))⟩)
               ·
                skip
                rintro ⟨v206, v209⟩ w36 ⟨hS_, h0_, h1_, h2_, h3_, h4_⟩
                have n0_ : Aside0 (Kd.R k42 42 w36 w.heap.size (fun _ => True) v209 y208) := ⟨h0_⟩
                have n1_ : Aside0 (w36.heap[gb188]? = some (.cells #[.int .u32 t182, .int .u32 t183, .int .u32 t184, .int .u32 t185, .int .u32 t186, .bool t187] 26 (0, 0))) := ⟨h1_⟩
                have n2_ : Aside0 (w36.heap[gb196]? = some (.cells #[.int .u32 t189, .int .u32 t190, .int .u32 t191, .int .u32 t192, .int .u32 t193, .bool t194] 26 (0, 0))) := ⟨h2_⟩
                have n3_ : Aside0 (w36.heap[gb204]? = some (.cells #[.int .u32 t197, .int .u32 t198, .int .u32 t199, .int .u32 t200, .int .u32 t201, .bool t202] 26 (0, 0))) := ⟨h3_⟩
                have n4_ : Aside0 (Below w.heap.size w w36) := ⟨h4_⟩
                clear BK188
                clear BK196
                clear BK204
                clear HB
                clear h0_ h1_ h2_ h3_ h4_
                have HO210 := n0_
                have BK188 := n1_
                have BK196 := n2_
                have BK204 := n3_
                have HB := n4_
                clear n0_ n1_ n2_ n3_ n4_
                have hHeld : w36.cell? ⟨gb188, 0, none⟩ = some (.int .u32 t182) ∧ w36.cell? ⟨gb188, 1, none⟩ = some (.int .u32 t183) ∧ w36.cell? ⟨gb188, 2, none⟩ = some (.int .u32 t184) ∧ w36.cell? ⟨gb188, 3, none⟩ = some (.int .u32 t185) ∧ w36.cell? ⟨gb188, 4, none⟩ = some (.int .u32 t186) ∧ w36.cell? ⟨gb188, 5, none⟩ = some (.bool t187) := hS_
                refine norm_ (a' := ?_) ?_ ?_
                rotate_left
                ·
                 simp only [putAll, Act.put, List.setIfInBounds_toArray, List.set_cons_zero, List.set_cons_succ]
                 rfl
                refine two_ (i := 6) (j := 11) (Ni := some 48) (Nj := some 12) #[true, true, true, true, true, true, true, false, false, false, false, false, false, false] #[true, true, true, true, true, true, false, false, false, false, false, true, false, false] rfl rfl rfl rfl (two_of HT_.out (by kernel_rfl)) (by decide) (by decide) (fun K hK => ?_) (fun K hK => ?_)
                ·
                 skip
                 refine Kd.R_append_rows_step k42 (w0 := w) w.heap.size (by rfl) (.tmp 46) (.tmp 47) 22 42 (.agg #[(.int .u16 0), (.int .u32 0)]) 8 rfl Try.underlying22 info42 rfl (by decide) (by omega) v209 y208 l2 _ _ _ (fun _ => True) (fun _ => False) rfl rfl ?aO ?aR (fun _ _ h => h) (fun _ h => h.elim) ?aF ?aB ?aS ?aL ?_
                 (case aR => repeat (first | exact (Kd.C_below HR2.out HB.out) | (with_reducible refine Kd.C_alloc ?_ _) | (with_reducible refine Kd.C_drewN ?_ _) | (with_reducible refine Kd.C_drew ?_)))
                 (case aB => exact (by repeat (first | (with_reducible first | exact HB.out | apply below_alloc | apply pw_below_drewN | apply below_drew1 | refine below_set ?_ GE188.out | refine below_set ?_ GE196.out | refine below_set ?_ GE204.out) | exact HB.out)))
                 (case aF => exact (fun _ _ => trivial))
                 (case aO => exact (by (with_reducible repeat (first | apply Kd.R_alloc | apply Kd.R_drewN | apply Kd.R_drew)); exact HO210.out))
                 (case aS => exact (below_size (by repeat (first | (with_reducible first | exact HB.out | apply below_alloc | apply pw_below_drewN | apply below_drew1 | refine below_set ?_ GE188.out | refine below_set ?_ GE196.out | refine below_set ?_ GE204.out) | exact HB.out))))
                 (case aL => have := LMc14.out; omega)
                 intro v212 w37 ho hb hg hat
                 rw [← Ny211.out] at ho
                 have n0_ := Aside0.mk (blk_grown (g := gb188) (o := .cells #[.int .u32 t182, .int .u32 t183, .int .u32 t184, .int .u32 t185, .int .u32 t186, .bool t187] 26 (0, 0)) (by (with_reducible repeat (first | refine blk_drewN ?_ _ | refine blk_drew ?_ | refine blk_alloc ?_ _)); exact BK188.out) hg (Kd.R_ne HO210.out BK188.out (by decide)))
                 have n1_ := Aside0.mk (blk_grown (g := gb196) (o := .cells #[.int .u32 t189, .int .u32 t190, .int .u32 t191, .int .u32 t192, .int .u32 t193, .bool t194] 26 (0, 0)) (by (with_reducible repeat (first | refine blk_drewN ?_ _ | refine blk_drew ?_ | refine blk_alloc ?_ _)); exact BK196.out) hg (Kd.R_ne HO210.out BK196.out (by decide)))
                 have n2_ := Aside0.mk (blk_grown (g := gb204) (o := .cells #[.int .u32 t197, .int .u32 t198, .int .u32 t199, .int .u32 t200, .int .u32 t201, .bool t202] 26 (0, 0)) (by (with_reducible repeat (first | refine blk_drewN ?_ _ | refine blk_drew ?_ | refine blk_alloc ?_ _)); exact BK204.out) hg (Kd.R_ne HO210.out BK204.out (by decide)))
                 have n3_ := Aside0.mk (hb)
                 have n4_ := Aside0.mk (ho)
                 clear BK188
                 clear BK196
                 clear BK204
                 clear HB
                 clear HO210
                 have BK188 := n0_
                 have BK196 := n1_
                 have BK204 := n2_
                 have HB := n3_
                 have HO213 := n4_
                 clear n0_ n1_ n2_ n3_ n4_
                 clear ho hb hg hat
                 refine hK.out _ _ ⟨(blk_cell BK188.out 0).trans rfl, (blk_cell BK188.out 1).trans rfl, (blk_cell BK188.out 2).trans rfl, (blk_cell BK188.out 3).trans rfl, (blk_cell BK188.out 4).trans rfl, (blk_cell BK188.out 5).trans rfl⟩ (fun hHeld => ?_)
                 clear hK K
                 refine norm_ (a' := ?_) ?_ ?_
                 rotate_left
                 ·
                  show Act.put _ (some 48) _ = _
                  simp only [Act.put, List.setIfInBounds_toArray, List.set_cons_zero, List.set_cons_succ, i64_w, i32_w]
                  rfl
                 exact norm_ (by first | (simp only [putAll, Act.put, List.setIfInBounds_toArray, List.set_cons_zero, List.set_cons_succ]; done) | (simp only [putAll, Act.put, List.setIfInBounds_toArray, List.set_cons_zero, List.set_cons_succ]; rfl)) (hJ2_4_6 (v206, v209, v212) _ ⟨hHeld, (by (with_reducible repeat (first | apply Kd.R_alloc | apply Kd.R_drewN | apply Kd.R_drew)); exact HO213.out), (by (with_reducible repeat (first | refine blk_drewN ?_ _ | refine blk_drew ?_ | refine blk_alloc ?_ _)); exact BK188.out), (by (with_reducible repeat (first | refine blk_drewN ?_ _ | refine blk_drew ?_ | refine blk_alloc ?_ _)); exact BK196.out), (by (with_reducible repeat (first | refine blk_drewN ?_ _ | refine blk_drew ?_ | refine blk_alloc ?_ _)); exact BK204.out), (by repeat (first | (with_reducible first | exact HB.out | apply below_alloc | apply pw_below_drewN | apply below_drew1 | refine below_set ?_ GE188.out | refine below_set ?_ GE196.out | refine below_set ?_ GE204.out) | exact HB.out))⟩)
                ·
                 skip
                 refine box_step ?hg (N := 12) ?hd (cs := #[.int .u32 0, .int .u32 0, .int .u32 0, .int .u32 0, .int .u32 0, .bool false]) (t := 26) ?hr ?_; (case hd => rfl); (case hg => rfl); (case hr => first | (go_simp; done) | (go_simp; rfl))
                 intro gb221 hg w37 hbox hb
                 have n0_ := Aside0.mk (Kd.R_below (by (with_reducible repeat (first | apply Kd.R_alloc | apply Kd.R_drewN | apply Kd.R_drew)); exact HO210.out) hb)
                 have n1_ := Aside0.mk (blk_below (g := gb188) (o := .cells #[.int .u32 t182, .int .u32 t183, .int .u32 t184, .int .u32 t185, .int .u32 t186, .bool t187] 26 (0, 0)) (by (with_reducible repeat (first | refine blk_drewN ?_ _ | refine blk_drew ?_ | refine blk_alloc ?_ _)); exact BK188.out) hb)
                 have n2_ := Aside0.mk (blk_below (g := gb196) (o := .cells #[.int .u32 t189, .int .u32 t190, .int .u32 t191, .int .u32 t192, .int .u32 t193, .bool t194] 26 (0, 0)) (by (with_reducible repeat (first | refine blk_drewN ?_ _ | refine blk_drew ?_ | refine blk_alloc ?_ _)); exact BK196.out) hb)
                 have n3_ := Aside0.mk (blk_below (g := gb204) (o := .cells #[.int .u32 t197, .int .u32 t198, .int .u32 t199, .int .u32 t200, .int .u32 t201, .bool t202] 26 (0, 0)) (by (with_reducible repeat (first | refine blk_drewN ?_ _ | refine blk_drew ?_ | refine blk_alloc ?_ _)); exact BK204.out) hb)
                 have n4_ := Aside0.mk (below_step (by repeat (first | (with_reducible first | exact HB.out | apply below_alloc | apply pw_below_drewN | apply below_drew1 | refine below_set ?_ GE188.out | refine below_set ?_ GE196.out | refine below_set ?_ GE204.out) | exact HB.out)) hb)
                 have n5_ := Aside0.mk (hbox)
                 have n6_ := Aside0.mk ((by rw [hg]; exact (below_size (by repeat (first | (with_reducible first | exact HB.out | apply below_alloc | apply pw_below_drewN | apply below_drew1 | refine below_set ?_ GE188.out | refine below_set ?_ GE196.out | refine below_set ?_ GE204.out) | exact HB.out))) : w.heap.size ≤ gb221))
                 have n7_ := Aside0.mk ((by rw [hg]; exact (below_size (by repeat (first | (with_reducible first | exact HB.out | apply below_alloc | apply pw_below_drewN | apply below_drew1 | refine below_set ?_ GE188.out | refine below_set ?_ GE196.out | refine below_set ?_ GE204.out) | exact HB.out))) : w.heap.size ≤ gb221))
                 have n8_ := Aside0.mk ((by rw [hg]; exact Nat.ne_of_lt (blk_lt (g := gb188) (o := .cells #[.int .u32 t182, .int .u32 t183, .int .u32 t184, .int .u32 t185, .int .u32 t186, .bool t187] 26 (0, 0)) (by (with_reducible repeat (first | refine blk_drewN ?_ _ | refine blk_drew ?_ | refine blk_alloc ?_ _)); exact BK188.out)) : gb188 ≠ gb221))
                 have n9_ := Aside0.mk ((by rw [hg]; exact Nat.ne_of_gt (blk_lt (g := gb188) (o := .cells #[.int .u32 t182, .int .u32 t183, .int .u32 t184, .int .u32 t185, .int .u32 t186, .bool t187] 26 (0, 0)) (by (with_reducible repeat (first | refine blk_drewN ?_ _ | refine blk_drew ?_ | refine blk_alloc ?_ _)); exact BK188.out)) : gb221 ≠ gb188))
                 have n10_ := Aside0.mk ((by rw [hg]; exact Nat.ne_of_lt (blk_lt (g := gb196) (o := .cells #[.int .u32 t189, .int .u32 t190, .int .u32 t191, .int .u32 t192, .int .u32 t193, .bool t194] 26 (0, 0)) (by (with_reducible repeat (first | refine blk_drewN ?_ _ | refine blk_drew ?_ | refine blk_alloc ?_ _)); exact BK196.out)) : gb196 ≠ gb221))
                 have n11_ := Aside0.mk ((by rw [hg]; exact Nat.ne_of_gt (blk_lt (g := gb196) (o := .cells #[.int .u32 t189, .int .u32 t190, .int .u32 t191, .int .u32 t192, .int .u32 t193, .bool t194] 26 (0, 0)) (by (with_reducible repeat (first | refine blk_drewN ?_ _ | refine blk_drew ?_ | refine blk_alloc ?_ _)); exact BK196.out)) : gb221 ≠ gb196))
                 have n12_ := Aside0.mk ((by rw [hg]; exact Nat.ne_of_lt (blk_lt (g := gb204) (o := .cells #[.int .u32 t197, .int .u32 t198, .int .u32 t199, .int .u32 t200, .int .u32 t201, .bool t202] 26 (0, 0)) (by (with_reducible repeat (first | refine blk_drewN ?_ _ | refine blk_drew ?_ | refine blk_alloc ?_ _)); exact BK204.out)) : gb204 ≠ gb221))
                 have n13_ := Aside0.mk ((by rw [hg]; exact Nat.ne_of_gt (blk_lt (g := gb204) (o := .cells #[.int .u32 t197, .int .u32 t198, .int .u32 t199, .int .u32 t200, .int .u32 t201, .bool t202] 26 (0, 0)) (by (with_reducible repeat (first | refine blk_drewN ?_ _ | refine blk_drew ?_ | refine blk_alloc ?_ _)); exact BK204.out)) : gb221 ≠ gb204))
                 clear HO210
                 clear BK188
                 clear BK196
                 clear BK204
                 clear HB
                 have HO210 := n0_
                 have BK188 := n1_
                 have BK196 := n2_
                 have BK204 := n3_
                 have HB := n4_
                 have BK221 := n5_
                 have GW221 := n6_
                 have GE221 := n7_
                 have NB188_221 := n8_
                 have NB221_188 := n9_
                 have NB196_221 := n10_
                 have NB221_196 := n11_
                 have NB204_221 := n12_
                 have NB221_204 := n13_
                 clear n0_ n1_ n2_ n3_ n4_ n5_ n6_ n7_ n8_ n9_ n10_ n11_ n12_ n13_
                 clear hb hbox hg
                 refine hK.out _ _ ⟨(blk_cell BK188.out 0).trans rfl, (blk_cell BK188.out 1).trans rfl, (blk_cell BK188.out 2).trans rfl, (blk_cell BK188.out 3).trans rfl, (blk_cell BK188.out 4).trans rfl, (blk_cell BK188.out 5).trans rfl⟩ (fun hHeld => ?_)
                 clear hK K
                 refine norm_ (a' := ?_) ?_ ?_
                 rotate_left
                 ·
                  show Act.put _ (some 12) _ = _
                  simp only [Act.put, List.setIfInBounds_toArray, List.set_cons_zero, List.set_cons_succ, i64_w, i32_w]
                  rfl
                 exact norm_ (by first | (simp only [putAll, Act.put, List.setIfInBounds_toArray, List.set_cons_zero, List.set_cons_succ]; done) | (simp only [putAll, Act.put, List.setIfInBounds_toArray, List.set_cons_zero, List.set_cons_succ]; rfl)) (hJ2_4_11 (v206, v209, gb221) _ ⟨hHeld, (by (with_reducible repeat (first | apply Kd.R_alloc | apply Kd.R_drewN | apply Kd.R_drew)); exact HO210.out), (by (with_reducible repeat (first | refine blk_drewN ?_ _ | refine blk_drew ?_ | refine blk_alloc ?_ _)); exact BK188.out), (by (with_reducible repeat (first | refine blk_drewN ?_ _ | refine blk_drew ?_ | refine blk_alloc ?_ _)); exact BK196.out), (by (with_reducible repeat (first | refine blk_drewN ?_ _ | refine blk_drew ?_ | refine blk_alloc ?_ _)); exact BK204.out), (by (with_reducible repeat (first | refine blk_drewN ?_ _ | refine blk_drew ?_ | refine blk_alloc ?_ _)); exact BK221.out), GW221.out, GE221.out, NB188_221.out, NB221_188.out, NB196_221.out, NB221_196.out, NB204_221.out, NB221_204.out, (by repeat (first | (with_reducible first | exact HB.out | apply below_alloc | apply pw_below_drewN | apply below_drew1 | refine below_set ?_ GE188.out | refine below_set ?_ GE196.out | refine below_set ?_ GE204.out | refine below_set ?_ GE221.out) | exact HB.out))⟩)
              ·
               skip
               rintro ⟨v206, v209, gb221⟩ w37 ⟨hS_, h0_, h1_, h2_, h3_, h4_, h5_, h6_, h7_, h8_, h9_, h10_, h11_, h12_, h13_⟩
               have n0_ : Aside0 (Kd.R k42 42 w37 w.heap.size (fun _ => True) v209 y208) := ⟨h0_⟩
               have n1_ : Aside0 (w37.heap[gb188]? = some (.cells #[.int .u32 t182, .int .u32 t183, .int .u32 t184, .int .u32 t185, .int .u32 t186, .bool t187] 26 (0, 0))) := ⟨h1_⟩
               have n2_ : Aside0 (w37.heap[gb196]? = some (.cells #[.int .u32 t189, .int .u32 t190, .int .u32 t191, .int .u32 t192, .int .u32 t193, .bool t194] 26 (0, 0))) := ⟨h2_⟩
               have n3_ : Aside0 (w37.heap[gb204]? = some (.cells #[.int .u32 t197, .int .u32 t198, .int .u32 t199, .int .u32 t200, .int .u32 t201, .bool t202] 26 (0, 0))) := ⟨h3_⟩
               have n4_ : Aside0 (w37.heap[gb221]? = some (.cells #[.int .u32 0, .int .u32 0, .int .u32 0, .int .u32 0, .int .u32 0, .bool false] 26 (0, 0))) := ⟨h4_⟩
               have n5_ : Aside0 (w.heap.size ≤ gb221) := ⟨h5_⟩
               have n6_ : Aside0 (w.heap.size ≤ gb221) := ⟨h6_⟩
               have n7_ : Aside0 (gb188 ≠ gb221) := ⟨h7_⟩
               have n8_ : Aside0 (gb221 ≠ gb188) := ⟨h8_⟩
               have n9_ : Aside0 (gb196 ≠ gb221) := ⟨h9_⟩
               have n10_ : Aside0 (gb221 ≠ gb196) := ⟨h10_⟩
               have n11_ : Aside0 (gb204 ≠ gb221) := ⟨h11_⟩
               have n12_ : Aside0 (gb221 ≠ gb204) := ⟨h12_⟩
               have n13_ : Aside0 (Below w.heap.size w w37) := ⟨h13_⟩
               clear BK188
               clear BK196
               clear BK204
               clear HB
               clear h0_ h1_ h2_ h3_ h4_ h5_ h6_ h7_ h8_ h9_ h10_ h11_ h12_ h13_
               have HO210 := n0_
               have BK188 := n1_
               have BK196 := n2_
               have BK204 := n3_
               have BK221 := n4_
               have GW221 := n5_
               have GE221 := n6_
               have NB188_221 := n7_
               have NB221_188 := n8_
               have NB196_221 := n9_
               have NB221_196 := n10_
               have NB204_221 := n11_
               have NB221_204 := n12_
               have HB := n13_
               clear n0_ n1_ n2_ n3_ n4_ n5_ n6_ n7_ n8_ n9_ n10_ n11_ n12_ n13_
               have hHeld : w37.cell? ⟨gb188, 0, none⟩ = some (.int .u32 t182) ∧ w37.cell? ⟨gb188, 1, none⟩ = some (.int .u32 t183) ∧ w37.cell? ⟨gb188, 2, none⟩ = some (.int .u32 t184) ∧ w37.cell? ⟨gb188, 3, none⟩ = some (.int .u32 t185) ∧ w37.cell? ⟨gb188, 4, none⟩ = some (.int .u32 t186) ∧ w37.cell? ⟨gb188, 5, none⟩ = some (.bool t187) := hS_
               refine norm_ (a' := ?_) ?_ ?_
               rotate_left
               ·
                simp only [putAll, Act.put, List.setIfInBounds_toArray, List.set_cons_zero, List.set_cons_succ]
                rfl
               refine one_ (i := 6) (N := some 48) #[true, true, true, true, true, true, true, false, false, false, false, true, false, false] rfl rfl (one_of HT_.out (by kernel_rfl)) (by decide) (fun K hK => ?_)
               refine Kd.R_append_rows_step k42 (w0 := w) w.heap.size (by rfl) (.tmp 46) (.tmp 47) 22 42 (.agg #[(.int .u16 0), (.int .u32 0)]) 8 rfl Try.underlying22 info42 rfl (by decide) (by omega) v209 y208 l2 _ _ _ (fun _ => True) (fun _ => False) rfl rfl ?aO ?aR (fun _ _ h => h) (fun _ h => h.elim) ?aF ?aB ?aS ?aL ?_
               (case aR => repeat (first | exact (Kd.C_below HR2.out HB.out) | (with_reducible refine Kd.C_alloc ?_ _) | (with_reducible refine Kd.C_drewN ?_ _) | (with_reducible refine Kd.C_drew ?_)))
               (case aB => exact (by repeat (first | (with_reducible first | exact HB.out | apply below_alloc | apply pw_below_drewN | apply below_drew1 | refine below_set ?_ GE188.out | refine below_set ?_ GE196.out | refine below_set ?_ GE204.out | refine below_set ?_ GE221.out) | exact HB.out)))
               (case aF => exact (fun _ _ => trivial))
               (case aO => exact (by (with_reducible repeat (first | apply Kd.R_alloc | apply Kd.R_drewN | apply Kd.R_drew)); exact HO210.out))
               (case aS => exact (below_size (by repeat (first | (with_reducible first | exact HB.out | apply below_alloc | apply pw_below_drewN | apply below_drew1 | refine below_set ?_ GE188.out | refine below_set ?_ GE196.out | refine below_set ?_ GE204.out | refine below_set ?_ GE221.out) | exact HB.out))))
               (case aL => have := LMc14.out; omega)
               intro v212 w38 ho hb hg hat
               rw [← Ny211.out] at ho
               have n0_ := Aside0.mk (blk_grown (g := gb188) (o := .cells #[.int .u32 t182, .int .u32 t183, .int .u32 t184, .int .u32 t185, .int .u32 t186, .bool t187] 26 (0, 0)) (by (with_reducible repeat (first | refine blk_drewN ?_ _ | refine blk_drew ?_ | refine blk_alloc ?_ _)); exact BK188.out) hg (Kd.R_ne HO210.out BK188.out (by decide)))
               have n1_ := Aside0.mk (blk_grown (g := gb196) (o := .cells #[.int .u32 t189, .int .u32 t190, .int .u32 t191, .int .u32 t192, .int .u32 t193, .bool t194] 26 (0, 0)) (by (with_reducible repeat (first | refine blk_drewN ?_ _ | refine blk_drew ?_ | refine blk_alloc ?_ _)); exact BK196.out) hg (Kd.R_ne HO210.out BK196.out (by decide)))
               have n2_ := Aside0.mk (blk_grown (g := gb204) (o := .cells #[.int .u32 t197, .int .u32 t198, .int .u32 t199, .int .u32 t200, .int .u32 t201, .bool t202] 26 (0, 0)) (by (with_reducible repeat (first | refine blk_drewN ?_ _ | refine blk_drew ?_ | refine blk_alloc ?_ _)); exact BK204.out) hg (Kd.R_ne HO210.out BK204.out (by decide)))
               have n3_ := Aside0.mk (blk_grown (g := gb221) (o := .cells #[.int .u32 0, .int .u32 0, .int .u32 0, .int .u32 0, .int .u32 0, .bool false] 26 (0, 0)) (by (with_reducible repeat (first | refine blk_drewN ?_ _ | refine blk_drew ?_ | refine blk_alloc ?_ _)); exact BK221.out) hg (Kd.R_ne HO210.out BK221.out (by decide)))
               have n4_ := Aside0.mk (hb)
               have n5_ := Aside0.mk (ho)
               clear BK188
               clear BK196
               clear BK204
               clear BK221
               clear HB
               clear HO210
               have BK188 := n0_
               have BK196 := n1_
               have BK204 := n2_
               have BK221 := n3_
               have HB := n4_
               have HO213 := n5_
               clear n0_ n1_ n2_ n3_ n4_ n5_
               clear ho hb hg hat
               refine hK.out _ _ ⟨(blk_cell BK188.out 0).trans rfl, (blk_cell BK188.out 1).trans rfl, (blk_cell BK188.out 2).trans rfl, (blk_cell BK188.out 3).trans rfl, (blk_cell BK188.out 4).trans rfl, (blk_cell BK188.out 5).trans rfl⟩ (fun hHeld => ?_)
               clear hK K
               refine norm_ (a' := ?_) ?_ ?_
               rotate_left
               ·
                show Act.put _ (some 48) _ = _
                simp only [Act.put, List.setIfInBounds_toArray, List.set_cons_zero, List.set_cons_succ, i64_w, i32_w]
                rfl
               exact norm_ (by first | (simp only [putAll, Act.put, List.setIfInBounds_toArray, List.set_cons_zero, List.set_cons_succ]; done) | (simp only [putAll, Act.put, List.setIfInBounds_toArray, List.set_cons_zero, List.set_cons_succ]; rfl)) (hJ2_4_6_11 (v206, v209, v212, gb221) _ ⟨hHeld, (by (with_reducible repeat (first | apply Kd.R_alloc | apply Kd.R_drewN | apply Kd.R_drew)); exact HO213.out), (by (with_reducible repeat (first | refine blk_drewN ?_ _ | refine blk_drew ?_ | refine blk_alloc ?_ _)); exact BK188.out), (by (with_reducible repeat (first | refine blk_drewN ?_ _ | refine blk_drew ?_ | refine blk_alloc ?_ _)); exact BK196.out), (by (with_reducible repeat (first | refine blk_drewN ?_ _ | refine blk_drew ?_ | refine blk_alloc ?_ _)); exact BK204.out), (by (with_reducible repeat (first | refine blk_drewN ?_ _ | refine blk_drew ?_ | refine blk_alloc ?_ _)); exact BK221.out), GW221.out, GE221.out, NB188_221.out, NB221_188.out, NB196_221.out, NB221_196.out, NB204_221.out, NB221_204.out, (by repeat (first | (with_reducible first | exact HB.out | apply below_alloc | apply pw_below_drewN | apply below_drew1 | refine below_set ?_ GE188.out | refine below_set ?_ GE196.out | refine below_set ?_ GE204.out | refine below_set ?_ GE221.out) | exact HB.out))⟩)
             ·
              skip
              rintro ⟨v206, v209, v212⟩ w37 ⟨hS_, h0_, h1_, h2_, h3_, h4_⟩
              have n0_ : Aside0 (Kd.R k42 42 w37 w.heap.size (fun _ => True) v212 y211) := ⟨h0_⟩
              have n1_ : Aside0 (w37.heap[gb188]? = some (.cells #[.int .u32 t182, .int .u32 t183, .int .u32 t184, .int .u32 t185, .int .u32 t186, .bool t187] 26 (0, 0))) := ⟨h1_⟩
              have n2_ : Aside0 (w37.heap[gb196]? = some (.cells #[.int .u32 t189, .int .u32 t190, .int .u32 t191, .int .u32 t192, .int .u32 t193, .bool t194] 26 (0, 0))) := ⟨h2_⟩
              have n3_ : Aside0 (w37.heap[gb204]? = some (.cells #[.int .u32 t197, .int .u32 t198, .int .u32 t199, .int .u32 t200, .int .u32 t201, .bool t202] 26 (0, 0))) := ⟨h3_⟩
              have n4_ : Aside0 (Below w.heap.size w w37) := ⟨h4_⟩
              clear BK188
              clear BK196
              clear BK204
              clear HB
              clear h0_ h1_ h2_ h3_ h4_
              have HO213 := n0_
              have BK188 := n1_
              have BK196 := n2_
              have BK204 := n3_
              have HB := n4_
              clear n0_ n1_ n2_ n3_ n4_
              have hHeld : w37.cell? ⟨gb188, 0, none⟩ = some (.int .u32 t182) ∧ w37.cell? ⟨gb188, 1, none⟩ = some (.int .u32 t183) ∧ w37.cell? ⟨gb188, 2, none⟩ = some (.int .u32 t184) ∧ w37.cell? ⟨gb188, 3, none⟩ = some (.int .u32 t185) ∧ w37.cell? ⟨gb188, 4, none⟩ = some (.int .u32 t186) ∧ w37.cell? ⟨gb188, 5, none⟩ = some (.bool t187) := hS_
              obtain ⟨Ao38, co38, eo38⟩ := Kd.R_slice HO213.out
              (first | subst eo38 | (injection eo38 with f1_ f2_ f3_; have f4_ := f1_.symm; have f5_ := f3_.symm; clear f1_ f2_ f3_; subst f4_; subst f5_))
              refine norm_ (a' := ?_) ?_ ?_
              rotate_left
              ·
               simp only [putAll, Act.put, List.setIfInBounds_toArray, List.set_cons_zero, List.set_cons_succ]
               rfl
              refine two_ (i := 7) (j := 11) (Ni := some 49) (Nj := some 12) #[true, true, true, true, true, true, true, true, false, false, false, false, false, false] #[true, true, true, true, true, true, true, false, false, false, false, true, false, false] rfl rfl rfl rfl (two_of HT_.out (by kernel_rfl)) (by decide) (by decide) (fun K hK => ?_) (fun K hK => ?_)
              ·
               skip
               refine goes_ Try.func9 (by kernel_rfl) rfl #[.agg #[.int .u32 t182, .int .u32 t183, .int .u32 t184, .int .u32 t185, .int .u32 t186, .bool t187], .bool a0, .slice Ao38 y211.length co38] (by rfl) rfl rfl (by (try simp only [List.map_toArray, List.map_cons, List.map_nil]); first | done | rfl | (simp only [List.length_drop, List.length_take]; rfl)) ?_
               with_reducible refine (settings_Apply.calls kj5 t182 t183 t184 t185 t186 t187 a0 _ _ y211 t214 t215 t216 t217 t218 t219 t220 _ ?side1 ?side2 A15.out).mono ?_
               (case side1 => repeat (first | exact (Kd.R_reads' HO213.out).2.2 | (with_reducible refine Kd.C_alloc ?_ _) | (with_reducible refine Kd.C_drewN ?_ _) | (with_reducible refine Kd.C_drew ?_)))
               (case side2 => exact (Kd.R_reads' HO213.out).2.1)
               rintro e w39 ⟨rfl, hb⟩
               refine ⟨_, rfl, ?_⟩
               have n0_ := Aside0.mk (Kd.R_below (by (with_reducible repeat (first | apply Kd.R_alloc | apply Kd.R_drewN | apply Kd.R_drew)); exact HO213.out) hb)
               have n1_ := Aside0.mk (blk_below (g := gb188) (o := .cells #[.int .u32 t182, .int .u32 t183, .int .u32 t184, .int .u32 t185, .int .u32 t186, .bool t187] 26 (0, 0)) (by (with_reducible repeat (first | refine blk_drewN ?_ _ | refine blk_drew ?_ | refine blk_alloc ?_ _)); exact BK188.out) hb)
               have n2_ := Aside0.mk (blk_below (g := gb196) (o := .cells #[.int .u32 t189, .int .u32 t190, .int .u32 t191, .int .u32 t192, .int .u32 t193, .bool t194] 26 (0, 0)) (by (with_reducible repeat (first | refine blk_drewN ?_ _ | refine blk_drew ?_ | refine blk_alloc ?_ _)); exact BK196.out) hb)
               have n3_ := Aside0.mk (blk_below (g := gb204) (o := .cells #[.int .u32 t197, .int .u32 t198, .int .u32 t199, .int .u32 t200, .int .u32 t201, .bool t202] 26 (0, 0)) (by (with_reducible repeat (first | refine blk_drewN ?_ _ | refine blk_drew ?_ | refine blk_alloc ?_ _)); exact BK204.out) hb)
               have n4_ := Aside0.mk (below_step (by repeat (first | (with_reducible first | exact HB.out | apply below_alloc | apply pw_below_drewN | apply below_drew1 | refine below_set ?_ GE188.out | refine below_set ?_ GE196.out | refine below_set ?_ GE204.out) | exact HB.out)) hb)
               clear HO213
               clear BK188
               clear BK196
               clear BK204
               clear HB
               have HO213 := n0_
               have BK188 := n1_
               have BK196 := n2_
               have BK204 := n3_
               have HB := n4_
               clear n0_ n1_ n2_ n3_ n4_
               (try clear hb)
               (try clear hb2)
               (try clear hk)
               (try clear hi)
               refine hK.out _ _ ⟨(blk_cell BK188.out 0).trans rfl, (blk_cell BK188.out 1).trans rfl, (blk_cell BK188.out 2).trans rfl, (blk_cell BK188.out 3).trans rfl, (blk_cell BK188.out 4).trans rfl, (blk_cell BK188.out 5).trans rfl⟩ (fun hHeld => ?_)
               clear hK K
               refine norm_ (a' := ?_) ?_ ?_
               rotate_left
               ·
                show Act.put _ (some 49) _ = _
                simp only [Act.put, List.setIfInBounds_toArray, List.set_cons_zero, List.set_cons_succ, i64_w, i32_w]
                rfl
               refine pure_ (i := 8) (N := some 41) (v := ?_) (a' := ?_) #[true, true, true, true, true, true, true, true, true, false, false, false, false, false] rfl rfl (any_of HT_.out (by kernel_rfl)) (fun _ _ _ h => h) (Or.inl ⟨by rfl, ?_⟩) ?_ ?_
               rotate_left
               ·
                intro w'
                go_simp
                with_reducible rfl
               rotate_left
               ·
                simp only [Act.put, List.setIfInBounds_toArray, List.set_cons_zero, List.set_cons_succ, i64_w, i32_w]
                rfl
               refine pure_ (i := 9) (N := some 50) (v := ?_) (a' := ?_) #[true, true, true, true, true, true, true, true, true, true, false, false, false, false] rfl rfl (any_of HT_.out (by kernel_rfl)) (fun _ _ _ h => h) (Or.inl ⟨by rfl, ?_⟩) ?_ ?_
               rotate_left
               ·
                intro w'
                go_simp
                with_reducible rfl
               rotate_left
               ·
                simp only [Act.put, List.setIfInBounds_toArray, List.set_cons_zero, List.set_cons_succ, i64_w, i32_w]
                rfl
               refine pure_ (i := 10) (N := some 51) (v := ?_) (a' := ?_) #[true, true, true, true, true, true, true, true, true, true, true, false, false, false] rfl rfl (any_of HT_.out (by kernel_rfl)) (fun _ _ _ h => h) (Or.inl ⟨by rfl, ?_⟩) ?_ ?_
               rotate_left
               ·
                intro w'
                go_simp
                with_reducible rfl
               rotate_left
               ·
                simp only [Act.put, List.setIfInBounds_toArray, List.set_cons_zero, List.set_cons_succ, i64_w, i32_w]
                rfl
               exact norm_ (by first | (simp only [putAll, Act.put, List.setIfInBounds_toArray, List.set_cons_zero, List.set_cons_succ]; done) | (simp only [putAll, Act.put, List.setIfInBounds_toArray, List.set_cons_zero, List.set_cons_succ]; rfl)) (hJ2_4_6_7 (v206, v209, .slice Ao38 y211.length co38) _ ⟨hHeld, (by (with_reducible repeat (first | apply Kd.R_alloc | apply Kd.R_drewN | apply Kd.R_drew)); exact HO213.out), (by (with_reducible repeat (first | refine blk_drewN ?_ _ | refine blk_drew ?_ | refine blk_alloc ?_ _)); exact BK188.out), (by (with_reducible repeat (first | refine blk_drewN ?_ _ | refine blk_drew ?_ | refine blk_alloc ?_ _)); exact BK196.out), (by (with_reducible repeat (first | refine blk_drewN ?_ _ | refine blk_drew ?_ | refine blk_alloc ?_ _)); exact BK204.out), (by repeat (first | (with_reducible first | exact HB.out | apply below_alloc | apply pw_below_drewN | apply below_drew1 | refine below_set ?_ GE188.out | refine below_set ?_ GE196.out | refine below_set ?_ GE204.out) | exact HB.out))⟩)
              ·
               skip
               refine box_step ?hg (N := 12) ?hd (cs := #[.int .u32 0, .int .u32 0, .int .u32 0, .int .u32 0, .int .u32 0, .bool false]) (t := 26) ?hr ?_; (case hd => rfl); (case hg => rfl); (case hr => first | (go_simp; done) | (go_simp; rfl))
               intro gb221 hg w38 hbox hb
               have n0_ := Aside0.mk (Kd.R_below (by (with_reducible repeat (first | apply Kd.R_alloc | apply Kd.R_drewN | apply Kd.R_drew)); exact HO213.out) hb)
               have n1_ := Aside0.mk (blk_below (g := gb188) (o := .cells #[.int .u32 t182, .int .u32 t183, .int .u32 t184, .int .u32 t185, .int .u32 t186, .bool t187] 26 (0, 0)) (by (with_reducible repeat (first | refine blk_drewN ?_ _ | refine blk_drew ?_ | refine blk_alloc ?_ _)); exact BK188.out) hb)
               have n2_ := Aside0.mk (blk_below (g := gb196) (o := .cells #[.int .u32 t189, .int .u32 t190, .int .u32 t191, .int .u32 t192, .int .u32 t193, .bool t194] 26 (0, 0)) (by (with_reducible repeat (first | refine blk_drewN ?_ _ | refine blk_drew ?_ | refine blk_alloc ?_ _)); exact BK196.out) hb)
               have n3_ := Aside0.mk (blk_below (g := gb204) (o := .cells #[.int .u32 t197, .int .u32 t198, .int .u32 t199, .int .u32 t200, .int .u32 t201, .bool t202] 26 (0, 0)) (by (with_reducible repeat (first | refine blk_drewN ?_ _ | refine blk_drew ?_ | refine blk_alloc ?_ _)); exact BK204.out) hb)
               have n4_ := Aside0.mk (below_step (by repeat (first | (with_reducible first | exact HB.out | apply below_alloc | apply pw_below_drewN | apply below_drew1 | refine below_set ?_ GE188.out | refine below_set ?_ GE196.out | refine below_set ?_ GE204.out) | exact HB.out)) hb)
               have n5_ := Aside0.mk (hbox)
               have n6_ := Aside0.mk ((by rw [hg]; exact (below_size (by repeat (first | (with_reducible first | exact HB.out | apply below_alloc | apply pw_below_drewN | apply below_drew1 | refine below_set ?_ GE188.out | refine below_set ?_ GE196.out | refine below_set ?_ GE204.out) | exact HB.out))) : w.heap.size ≤ gb221))
               have n7_ := Aside0.mk ((by rw [hg]; exact (below_size (by repeat (first | (with_reducible first | exact HB.out | apply below_alloc | apply pw_below_drewN | apply below_drew1 | refine below_set ?_ GE188.out | refine below_set ?_ GE196.out | refine below_set ?_ GE204.out) | exact HB.out))) : w.heap.size ≤ gb221))
               have n8_ := Aside0.mk ((by rw [hg]; exact Nat.ne_of_lt (blk_lt (g := gb188) (o := .cells #[.int .u32 t182, .int .u32 t183, .int .u32 t184, .int .u32 t185, .int .u32 t186, .bool t187] 26 (0, 0)) (by (with_reducible repeat (first | refine blk_drewN ?_ _ | refine blk_drew ?_ | refine blk_alloc ?_ _)); exact BK188.out)) : gb188 ≠ gb221))
               have n9_ := Aside0.mk ((by rw [hg]; exact Nat.ne_of_gt (blk_lt (g := gb188) (o := .cells #[.int .u32 t182, .int .u32 t183, .int .u32 t184, .int .u32 t185, .int .u32 t186, .bool t187] 26 (0, 0)) (by (with_reducible repeat (first | refine blk_drewN ?_ _ | refine blk_drew ?_ | refine blk_alloc ?_ _)); exact BK188.out)) : gb221 ≠ gb188))
               have n10_ := Aside0.mk ((by rw [hg]; exact Nat.ne_of_lt (blk_lt (g := gb196) (o := .cells #[.int .u32 t189, .int .u32 t190, .int .u32 t191, .int .u32 t192, .int .u32 t193, .bool t194] 26 (0, 0)) (by (with_reducible repeat (first | refine blk_drewN ?_ _ | refine blk_drew ?_ | refine blk_alloc ?_ _)); exact BK196.out)) : gb196 ≠ gb221))
               have n11_ := Aside0.mk ((by rw [hg]; exact Nat.ne_of_gt (blk_lt (g := gb196) (o := .cells #[.int .u32 t189, .int .u32 t190, .int .u32 t191, .int .u32 t192, .int .u32 t193, .bool t194] 26 (0, 0)) (by (with_reducible repeat (first | refine blk_drewN ?_ _ | refine blk_drew ?_ | refine blk_alloc ?_ _)); exact BK196.out)) : gb221 ≠ gb196))
               have n12_ := Aside0.mk ((by rw [hg]; exact Nat.ne_of_lt (blk_lt (g := gb204) (o := .cells #[.int .u32 t197, .int .u32 t198, .int .u32 t199, .int .u32 t200, .int .u32 t201, .bool t202] 26 (0, 0)) (by (with_reducible repeat (first | refine blk_drewN ?_ _ | refine blk_drew ?_ | refine blk_alloc ?_ _)); exact BK204.out)) : gb204 ≠ gb221))
               have n13_ := Aside0.mk ((by rw [hg]; exact Nat.ne_of_gt (blk_lt (g := gb204) (o := .cells #[.int .u32 t197, .int .u32 t198, .int .u32 t199, .int .u32 t200, .int .u32 t201, .bool t202] 26 (0, 0)) (by (with_reducible repeat (first | refine blk_drewN ?_ _ | refine blk_drew ?_ | refine blk_alloc ?_ _)); exact BK204.out)) : gb221 ≠ gb204))
               clear HO213
               clear BK188
               clear BK196
               clear BK204
               clear HB
               have HO213 := n0_
               have BK188 := n1_
               have BK196 := n2_
               have BK204 := n3_
               have HB := n4_
               have BK221 := n5_
               have GW221 := n6_
               have GE221 := n7_
               have NB188_221 := n8_
               have NB221_188 := n9_
               have NB196_221 := n10_
               have NB221_196 := n11_
               have NB204_221 := n12_
               have NB221_204 := n13_
               clear n0_ n1_ n2_ n3_ n4_ n5_ n6_ n7_ n8_ n9_ n10_ n11_ n12_ n13_
               clear hb hbox hg
               refine hK.out _ _ ⟨(blk_cell BK188.out 0).trans rfl, (blk_cell BK188.out 1).trans rfl, (blk_cell BK188.out 2).trans rfl, (blk_cell BK188.out 3).trans rfl, (blk_cell BK188.out 4).trans rfl, (blk_cell BK188.out 5).trans rfl⟩ (fun hHeld => ?_)
               clear hK K
               refine norm_ (a' := ?_) ?_ ?_
               rotate_left
               ·
                show Act.put _ (some 12) _ = _
                simp only [Act.put, List.setIfInBounds_toArray, List.set_cons_zero, List.set_cons_succ, i64_w, i32_w]
                rfl
               exact norm_ (by first | (simp only [putAll, Act.put, List.setIfInBounds_toArray, List.set_cons_zero, List.set_cons_succ]; done) | (simp only [putAll, Act.put, List.setIfInBounds_toArray, List.set_cons_zero, List.set_cons_succ]; rfl)) (hJ2_4_6_11 (v206, v209, .slice Ao38 y211.length co38, gb221) _ ⟨hHeld, (by (with_reducible repeat (first | apply Kd.R_alloc | apply Kd.R_drewN | apply Kd.R_drew)); exact HO213.out), (by (with_reducible repeat (first | refine blk_drewN ?_ _ | refine blk_drew ?_ | refine blk_alloc ?_ _)); exact BK188.out), (by (with_reducible repeat (first | refine blk_drewN ?_ _ | refine blk_drew ?_ | refine blk_alloc ?_ _)); exact BK196.out), (by (with_reducible repeat (first | refine blk_drewN ?_ _ | refine blk_drew ?_ | refine blk_alloc ?_ _)); exact BK204.out), (by (with_reducible repeat (first | refine blk_drewN ?_ _ | refine blk_drew ?_ | refine blk_alloc ?_ _)); exact BK221.out), GW221.out, GE221.out, NB188_221.out, NB221_188.out, NB196_221.out, NB221_196.out, NB204_221.out, NB221_204.out, (by repeat (first | (with_reducible first | exact HB.out | apply below_alloc | apply pw_below_drewN | apply below_drew1 | refine below_set ?_ GE188.out | refine below_set ?_ GE196.out | refine below_set ?_ GE204.out | refine below_set ?_ GE221.out) | exact HB.out))⟩)
            ·
             skip
             rintro ⟨v206, v209, v212, gb221⟩ w38 ⟨hS_, h0_, h1_, h2_, h3_, h4_, h5_, h6_, h7_, h8_, h9_, h10_, h11_, h12_, h13_⟩
             have n0_ : Aside0 (Kd.R k42 42 w38 w.heap.size (fun _ => True) v212 y211) := ⟨h0_⟩
             have n1_ : Aside0 (w38.heap[gb188]? = some (.cells #[.int .u32 t182, .int .u32 t183, .int .u32 t184, .int .u32 t185, .int .u32 t186, .bool t187] 26 (0, 0))) := ⟨h1_⟩
             have n2_ : Aside0 (w38.heap[gb196]? = some (.cells #[.int .u32 t189, .int .u32 t190, .int .u32 t191, .int .u32 t192, .int .u32 t193, .bool t194] 26 (0, 0))) := ⟨h2_⟩
             have n3_ : Aside0 (w38.heap[gb204]? = some (.cells #[.int .u32 t197, .int .u32 t198, .int .u32 t199, .int .u32 t200, .int .u32 t201, .bool t202] 26 (0, 0))) := ⟨h3_⟩
             have n4_ : Aside0 (w38.heap[gb221]? = some (.cells #[.int .u32 0, .int .u32 0, .int .u32 0, .int .u32 0, .int .u32 0, .bool false] 26 (0, 0))) := ⟨h4_⟩
             have n5_ : Aside0 (w.heap.size ≤ gb221) := ⟨h5_⟩
             have n6_ : Aside0 (w.heap.size ≤ gb221) := ⟨h6_⟩
             have n7_ : Aside0 (gb188 ≠ gb221) := ⟨h7_⟩
             have n8_ : Aside0 (gb221 ≠ gb188) := ⟨h8_⟩
             have n9_ : Aside0 (gb196 ≠ gb221) := ⟨h9_⟩
             have n10_ : Aside0 (gb221 ≠ gb196) := ⟨h10_⟩
             have n11_ : Aside0 (gb204 ≠ gb221) := ⟨h11_⟩
             have n12_ : Aside0 (gb221 ≠ gb204) := ⟨h12_⟩
             have n13_ : Aside0 (Below w.heap.size w w38) := ⟨h13_⟩
             clear BK188
             clear BK196
             clear BK204
             clear HB
             clear h0_ h1_ h2_ h3_ h4_ h5_ h6_ h7_ h8_ h9_ h10_ h11_ h12_ h13_
             have HO213 := n0_
             have BK188 := n1_
             have BK196 := n2_
             have BK204 := n3_
             have BK221 := n4_
             have GW221 := n5_
             have GE221 := n6_
             have NB188_221 := n7_
             have NB221_188 := n8_
             have NB196_221 := n9_
             have NB221_196 := n10_
             have NB204_221 := n11_
             have NB221_204 := n12_
             have HB := n13_
             clear n0_ n1_ n2_ n3_ n4_ n5_ n6_ n7_ n8_ n9_ n10_ n11_ n12_ n13_
             have hHeld : w38.cell? ⟨gb188, 0, none⟩ = some (.int .u32 t182) ∧ w38.cell? ⟨gb188, 1, none⟩ = some (.int .u32 t183) ∧ w38.cell? ⟨gb188, 2, none⟩ = some (.int .u32 t184) ∧ w38.cell? ⟨gb188, 3, none⟩ = some (.int .u32 t185) ∧ w38.cell? ⟨gb188, 4, none⟩ = some (.int .u32 t186) ∧ w38.cell? ⟨gb188, 5, none⟩ = some (.bool t187) := hS_
             obtain ⟨Ao39, co39, eo39⟩ := Kd.R_slice HO213.out
             (first | subst eo39 | (injection eo39 with f1_ f2_ f3_; have f4_ := f1_.symm; have f5_ := f3_.symm; clear f1_ f2_ f3_; subst f4_; subst f5_))
             refine norm_ (a' := ?_) ?_ ?_
             rotate_left
             ·
              simp only [putAll, Act.put, List.setIfInBounds_toArray, List.set_cons_zero, List.set_cons_succ]
              rfl
             refine one_ (i := 7) (N := some 49) #[true, true, true, true, true, true, true, true, false, false, false, true, false, false] rfl rfl (one_of HT_.out (by kernel_rfl)) (by decide) (fun K hK => ?_)
             refine goes_ Try.func9 (by kernel_rfl) rfl #[.agg #[.int .u32 t182, .int .u32 t183, .int .u32 t184, .int .u32 t185, .int .u32 t186, .bool t187], .bool a0, .slice Ao39 y211.length co39] (by rfl) rfl rfl (by (try simp only [List.map_toArray, List.map_cons, List.map_nil]); first | done | rfl | (simp only [List.length_drop, List.length_take]; rfl)) ?_
             with_reducible refine (settings_Apply.calls kj5 t182 t183 t184 t185 t186 t187 a0 _ _ y211 t214 t215 t216 t217 t218 t219 t220 _ ?side1 ?side2 A15.out).mono ?_
             (case side1 => repeat (first | exact (Kd.R_reads' HO213.out).2.2 | (with_reducible refine Kd.C_alloc ?_ _) | (with_reducible refine Kd.C_drewN ?_ _) | (with_reducible refine Kd.C_drew ?_)))
             (case side2 => exact (Kd.R_reads' HO213.out).2.1)
             rintro e w40 ⟨rfl, hb⟩
             refine ⟨_, rfl, ?_⟩
             have n0_ := Aside0.mk (Kd.R_below (by (with_reducible repeat (first | apply Kd.R_alloc | apply Kd.R_drewN | apply Kd.R_drew)); exact HO213.out) hb)
             have n1_ := Aside0.mk (blk_below (g := gb188) (o := .cells #[.int .u32 t182, .int .u32 t183, .int .u32 t184, .int .u32 t185, .int .u32 t186, .bool t187] 26 (0, 0)) (by (with_reducible repeat (first | refine blk_drewN ?_ _ | refine blk_drew ?_ | refine blk_alloc ?_ _)); exact BK188.out) hb)
             have n2_ := Aside0.mk (blk_below (g := gb196) (o := .cells #[.int .u32 t189, .int .u32 t190, .int .u32 t191, .int .u32 t192, .int .u32 t193, .bool t194] 26 (0, 0)) (by (with_reducible repeat (first | refine blk_drewN ?_ _ | refine blk_drew ?_ | refine blk_alloc ?_ _)); exact BK196.out) hb)
             have n3_ := Aside0.mk (blk_below (g := gb204) (o := .cells #[.int .u32 t197, .int .u32 t198, .int .u32 t199, .int .u32 t200, .int .u32 t201, .bool t202] 26 (0, 0)) (by (with_reducible repeat (first | refine blk_drewN ?_ _ | refine blk_drew ?_ | refine blk_alloc ?_ _)); exact BK204.out) hb)
             have n4_ := Aside0.mk (blk_below (g := gb221) (o := .cells #[.int .u32 0, .int .u32 0, .int .u32 0, .int .u32 0, .int .u32 0, .bool false] 26 (0, 0)) (by (with_reducible repeat (first | refine blk_drewN ?_ _ | refine blk_drew ?_ | refine blk_alloc ?_ _)); exact BK221.out) hb)
             have n5_ := Aside0.mk (below_step (by repeat (first | (with_reducible first | exact HB.out | apply below_alloc | apply pw_below_drewN | apply below_drew1 | refine below_set ?_ GE188.out | refine below_set ?_ GE196.out | refine below_set ?_ GE204.out | refine below_set ?_ GE221.out) | exact HB.out)) hb)
             clear HO213
             clear BK188
             clear BK196
             clear BK204
             clear BK221
             clear HB
             have HO213 := n0_
             have BK188 := n1_
             have BK196 := n2_
             have BK204 := n3_
             have BK221 := n4_
             have HB := n5_
             clear n0_ n1_ n2_ n3_ n4_ n5_
             (try clear hb)
             (try clear hb2)
             (try clear hk)
             (try clear hi)
             refine hK.out _ _ ⟨(blk_cell BK188.out 0).trans rfl, (blk_cell BK188.out 1).trans rfl, (blk_cell BK188.out 2).trans rfl, (blk_cell BK188.out 3).trans rfl, (blk_cell BK188.out 4).trans rfl, (blk_cell BK188.out 5).trans rfl⟩ (fun hHeld => ?_)
             clear hK K
             refine norm_ (a' := ?_) ?_ ?_
             rotate_left
             ·
              show Act.put _ (some 49) _ = _
              simp only [Act.put, List.setIfInBounds_toArray, List.set_cons_zero, List.set_cons_succ, i64_w, i32_w]
              rfl
             refine pure_ (i := 8) (N := some 41) (v := ?_) (a' := ?_) #[true, true, true, true, true, true, true, true, true, false, false, true, false, false] rfl rfl (any_of HT_.out (by kernel_rfl)) (fun _ _ _ h => h) (Or.inl ⟨by rfl, ?_⟩) ?_ ?_
             rotate_left
             ·
              intro w'
              go_simp
              with_reducible rfl
             rotate_left
             ·
              simp only [Act.put, List.setIfInBounds_toArray, List.set_cons_zero, List.set_cons_succ, i64_w, i32_w]
              rfl
             refine pure_ (i := 9) (N := some 50) (v := ?_) (a' := ?_) #[true, true, true, true, true, true, true, true, true, true, false, true, false, false] rfl rfl (any_of HT_.out (by kernel_rfl)) (fun _ _ _ h => h) (Or.inl ⟨by rfl, ?_⟩) ?_ ?_
             rotate_left
             ·
              intro w'
              go_simp
              with_reducible rfl
             rotate_left
             ·
              simp only [Act.put, List.setIfInBounds_toArray, List.set_cons_zero, List.set_cons_succ, i64_w, i32_w]
              rfl
             refine pure_ (i := 10) (N := some 51) (v := ?_) (a' := ?_) #[true, true, true, true, true, true, true, true, true, true, true, true, false, false] rfl rfl (any_of HT_.out (by kernel_rfl)) (fun _ _ _ h => h) (Or.inl ⟨by rfl, ?_⟩) ?_ ?_
             rotate_left
             ·
              intro w'
              go_simp
              with_reducible rfl
             rotate_left
             ·
              simp only [Act.put, List.setIfInBounds_toArray, List.set_cons_zero, List.set_cons_succ, i64_w, i32_w]
              rfl
             exact norm_ (by first | (simp only [putAll, Act.put, List.setIfInBounds_toArray, List.set_cons_zero, List.set_cons_succ]; done) | (simp only [putAll, Act.put, List.setIfInBounds_toArray, List.set_cons_zero, List.set_cons_succ]; rfl)) (hJ2_4_6_7_11 (v206, v209, .slice Ao39 y211.length co39, gb221) _ ⟨hHeld, (by (with_reducible repeat (first | apply Kd.R_alloc | apply Kd.R_drewN | apply Kd.R_drew)); exact HO213.out), (by (with_reducible repeat (first | refine blk_drewN ?_ _ | refine blk_drew ?_ | refine blk_alloc ?_ _)); exact BK188.out), (by (with_reducible repeat (first | refine blk_drewN ?_ _ | refine blk_drew ?_ | refine blk_alloc ?_ _)); exact BK196.out), (by (with_reducible repeat (first | refine blk_drewN ?_ _ | refine blk_drew ?_ | refine blk_alloc ?_ _)); exact BK204.out), (by (with_reducible repeat (first | refine blk_drewN ?_ _ | refine blk_drew ?_ | refine blk_alloc ?_ _)); exact BK221.out), GW221.out, GE221.out, NB188_221.out, NB221_188.out, NB196_221.out, NB221_196.out, NB204_221.out, NB221_204.out, (by repeat (first | (with_reducible first | exact HB.out | apply below_alloc | apply pw_below_drewN | apply below_drew1 | refine below_set ?_ GE188.out | refine below_set ?_ GE196.out | refine below_set ?_ GE204.out | refine below_set ?_ GE221.out) | exact HB.out))⟩)
           ·
            skip
            rintro ⟨v206, v209, v212⟩ w39 ⟨hS_, h0_, h1_, h2_, h3_, h4_⟩
            have n0_ : Aside0 (Kd.R k42 42 w39 w.heap.size (fun _ => True) v212 y211) := ⟨h0_⟩
            have n1_ : Aside0 (w39.heap[gb188]? = some (.cells #[.int .u32 t182, .int .u32 t183, .int .u32 t184, .int .u32 t185, .int .u32 t186, .bool t187] 26 (0, 0))) := ⟨h1_⟩
            have n2_ : Aside0 (w39.heap[gb196]? = some (.cells #[.int .u32 t189, .int .u32 t190, .int .u32 t191, .int .u32 t192, .int .u32 t193, .bool t194] 26 (0, 0))) := ⟨h2_⟩
            have n3_ : Aside0 (w39.heap[gb204]? = some (.cells #[.int .u32 t197, .int .u32 t198, .int .u32 t199, .int .u32 t200, .int .u32 t201, .bool t202] 26 (0, 0))) := ⟨h3_⟩
            have n4_ : Aside0 (Below w.heap.size w w39) := ⟨h4_⟩
            clear BK188
            clear BK196
            clear BK204
            clear HB
            clear h0_ h1_ h2_ h3_ h4_
            have HO213 := n0_
            have BK188 := n1_
            have BK196 := n2_
            have BK204 := n3_
            have HB := n4_
            clear n0_ n1_ n2_ n3_ n4_
            have hHeld : w39.cell? ⟨gb188, 0, none⟩ = some (.int .u32 t182) ∧ w39.cell? ⟨gb188, 1, none⟩ = some (.int .u32 t183) ∧ w39.cell? ⟨gb188, 2, none⟩ = some (.int .u32 t184) ∧ w39.cell? ⟨gb188, 3, none⟩ = some (.int .u32 t185) ∧ w39.cell? ⟨gb188, 4, none⟩ = some (.int .u32 t186) ∧ w39.cell? ⟨gb188, 5, none⟩ = some (.bool t187) := hS_
            refine norm_ (a' := ?_) ?_ ?_
            rotate_left
            ·
             simp only [putAll, Act.put, List.setIfInBounds_toArray, List.set_cons_zero, List.set_cons_succ]
             rfl
            refine one_ (i := 11) (N := some 12) #[true, true, true, true, true, true, true, true, true, true, true, true, false, false] rfl rfl (one_of HT_.out (by kernel_rfl)) (by decide) (fun K hK => ?_)
            refine box_step ?hg (N := 12) ?hd (cs := #[.int .u32 0, .int .u32 0, .int .u32 0, .int .u32 0, .int .u32 0, .bool false]) (t := 26) ?hr ?_; (case hd => rfl); (case hg => rfl); (case hr => first | (go_simp; done) | (go_simp; rfl))
            intro gb221 hg w40 hbox hb
            have n0_ := Aside0.mk (Kd.R_below (by (with_reducible repeat (first | apply Kd.R_alloc | apply Kd.R_drewN | apply Kd.R_drew)); exact HO213.out) hb)
            have n1_ := Aside0.mk (blk_below (g := gb188) (o := .cells #[.int .u32 t182, .int .u32 t183, .int .u32 t184, .int .u32 t185, .int .u32 t186, .bool t187] 26 (0, 0)) (by (with_reducible repeat (first | refine blk_drewN ?_ _ | refine blk_drew ?_ | refine blk_alloc ?_ _)); exact BK188.out) hb)
            have n2_ := Aside0.mk (blk_below (g := gb196) (o := .cells #[.int .u32 t189, .int .u32 t190, .int .u32 t191, .int .u32 t192, .int .u32 t193, .bool t194] 26 (0, 0)) (by (with_reducible repeat (first | refine blk_drewN ?_ _ | refine blk_drew ?_ | refine blk_alloc ?_ _)); exact BK196.out) hb)
            have n3_ := Aside0.mk (blk_below (g := gb204) (o := .cells #[.int .u32 t197, .int .u32 t198, .int .u32 t199, .int .u32 t200, .int .u32 t201, .bool t202] 26 (0, 0)) (by (with_reducible repeat (first | refine blk_drewN ?_ _ | refine blk_drew ?_ | refine blk_alloc ?_ _)); exact BK204.out) hb)
            have n4_ := Aside0.mk (below_step (by repeat (first | (with_reducible first | exact HB.out | apply below_alloc | apply pw_below_drewN | apply below_drew1 | refine below_set ?_ GE188.out | refine below_set ?_ GE196.out | refine below_set ?_ GE204.out) | exact HB.out)) hb)
            have n5_ := Aside0.mk (hbox)
            have n6_ := Aside0.mk ((by rw [hg]; exact (below_size (by repeat (first | (with_reducible first | exact HB.out | apply below_alloc | apply pw_below_drewN | apply below_drew1 | refine below_set ?_ GE188.out | refine below_set ?_ GE196.out | refine below_set ?_ GE204.out) | exact HB.out))) : w.heap.size ≤ gb221))
            have n7_ := Aside0.mk ((by rw [hg]; exact (below_size (by repeat (first | (with_reducible first | exact HB.out | apply below_alloc | apply pw_below_drewN | apply below_drew1 | refine below_set ?_ GE188.out | refine below_set ?_ GE196.out | refine below_set ?_ GE204.out) | exact HB.out))) : w.heap.size ≤ gb221))
            have n8_ := Aside0.mk ((by rw [hg]; exact Nat.ne_of_lt (blk_lt (g := gb188) (o := .cells #[.int .u32 t182, .int .u32 t183, .int .u32 t184, .int .u32 t185, .int .u32 t186, .bool t187] 26 (0, 0)) (by (with_reducible repeat (first | refine blk_drewN ?_ _ | refine blk_drew ?_ | refine blk_alloc ?_ _)); exact BK188.out)) : gb188 ≠ gb221))
            have n9_ := Aside0.mk ((by rw [hg]; exact Nat.ne_of_gt (blk_lt (g := gb188) (o := .cells #[.int .u32 t182, .int .u32 t183, .int .u32 t184, .int .u32 t185, .int .u32 t186, .bool t187] 26 (0, 0)) (by (with_reducible repeat (first | refine blk_drewN ?_ _ | refine blk_drew ?_ | refine blk_alloc ?_ _)); exact BK188.out)) : gb221 ≠ gb188))
            have n10_ := Aside0.mk ((by rw [hg]; exact Nat.ne_of_lt (blk_lt (g := gb196) (o := .cells #[.int .u32 t189, .int .u32 t190, .int .u32 t191, .int .u32 t192, .int .u32 t193, .bool t194] 26 (0, 0)) (by (with_reducible repeat (first | refine blk_drewN ?_ _ | refine blk_drew ?_ | refine blk_alloc ?_ _)); exact BK196.out)) : gb196 ≠ gb221))
            have n11_ := Aside0.mk ((by rw [hg]; exact Nat.ne_of_gt (blk_lt (g := gb196) (o := .cells #[.int .u32 t189, .int .u32 t190, .int .u32 t191, .int .u32 t192, .int .u32 t193, .bool t194] 26 (0, 0)) (by (with_reducible repeat (first | refine blk_drewN ?_ _ | refine blk_drew ?_ | refine blk_alloc ?_ _)); exact BK196.out)) : gb221 ≠ gb196))
            have n12_ := Aside0.mk ((by rw [hg]; exact Nat.ne_of_lt (blk_lt (g := gb204) (o := .cells #[.int .u32 t197, .int .u32 t198, .int .u32 t199, .int .u32 t200, .int .u32 t201, .bool t202] 26 (0, 0)) (by (with_reducible repeat (first | refine blk_drewN ?_ _ | refine blk_drew ?_ | refine blk_alloc ?_ _)); exact BK204.out)) : gb204 ≠ gb221))
            have n13_ := Aside0.mk ((by rw [hg]; exact Nat.ne_of_gt (blk_lt (g := gb204) (o := .cells #[.int .u32 t197, .int .u32 t198, .int .u32 t199, .int .u32 t200, .int .u32 t201, .bool t202] 26 (0, 0)) (by (with_reducible repeat (first | refine blk_drewN ?_ _ | refine blk_drew ?_ | refine blk_alloc ?_ _)); exact BK204.out)) : gb221 ≠ gb204))
            clear HO213
            clear BK188
            clear BK196
            clear BK204
            clear HB
            have HO213 := n0_
            have BK188 := n1_
            have BK196 := n2_
            have BK204 := n3_
            have HB := n4_
            have BK221 := n5_
            have GW221 := n6_
            have GE221 := n7_
            have NB188_221 := n8_
            have NB221_188 := n9_
            have NB196_221 := n10_
            have NB221_196 := n11_
            have NB204_221 := n12_
            have NB221_204 := n13_
            clear n0_ n1_ n2_ n3_ n4_ n5_ n6_ n7_ n8_ n9_ n10_ n11_ n12_ n13_
            clear hb hbox hg
            refine hK.out _ _ ⟨(blk_cell BK188.out 0).trans rfl, (blk_cell BK188.out 1).trans rfl, (blk_cell BK188.out 2).trans rfl, (blk_cell BK188.out 3).trans rfl, (blk_cell BK188.out 4).trans rfl, (blk_cell BK188.out 5).trans rfl⟩ (fun hHeld => ?_)
            clear hK K
            refine norm_ (a' := ?_) ?_ ?_
            rotate_left
            ·
             show Act.put _ (some 12) _ = _
             simp only [Act.put, List.setIfInBounds_toArray, List.set_cons_zero, List.set_cons_succ, i64_w, i32_w]
             rfl
            exact norm_ (by first | (simp only [putAll, Act.put, List.setIfInBounds_toArray, List.set_cons_zero, List.set_cons_succ]; done) | (simp only [putAll, Act.put, List.setIfInBounds_toArray, List.set_cons_zero, List.set_cons_succ]; rfl)) (hJ2_4_6_7_11 (v206, v209, v212, gb221) _ ⟨hHeld, (by (with_reducible repeat (first | apply Kd.R_alloc | apply Kd.R_drewN | apply Kd.R_drew)); exact HO213.out), (by (with_reducible repeat (first | refine blk_drewN ?_ _ | refine blk_drew ?_ | refine blk_alloc ?_ _)); exact BK188.out), (by (with_reducible repeat (first | refine blk_drewN ?_ _ | refine blk_drew ?_ | refine blk_alloc ?_ _)); exact BK196.out), (by (with_reducible repeat (first | refine blk_drewN ?_ _ | refine blk_drew ?_ | refine blk_alloc ?_ _)); exact BK204.out), (by (with_reducible repeat (first | refine blk_drewN ?_ _ | refine blk_drew ?_ | refine blk_alloc ?_ _)); exact BK221.out), GW221.out, GE221.out, NB188_221.out, NB221_188.out, NB196_221.out, NB221_196.out, NB204_221.out, NB221_204.out, (by repeat (first | (with_reducible first | exact HB.out | apply below_alloc | apply pw_below_drewN | apply below_drew1 | refine below_set ?_ GE188.out | refine below_set ?_ GE196.out | refine below_set ?_ GE204.out | refine below_set ?_ GE221.out) | exact HB.out))⟩)
          rintro ⟨v206, v209, v212, gb221⟩ w40 ⟨hS_, h0_, h1_, h2_, h3_, h4_, h5_, h6_, h7_, h8_, h9_, h10_, h11_, h12_, h13_⟩
          have n0_ : Aside0 (Kd.R k42 42 w40 w.heap.size (fun _ => True) v212 y211) := ⟨h0_⟩
          have n1_ : Aside0 (w40.heap[gb188]? = some (.cells #[.int .u32 t182, .int .u32 t183, .int .u32 t184, .int .u32 t185, .int .u32 t186, .bool t187] 26 (0, 0))) := ⟨h1_⟩
          have n2_ : Aside0 (w40.heap[gb196]? = some (.cells #[.int .u32 t189, .int .u32 t190, .int .u32 t191, .int .u32 t192, .int .u32 t193, .bool t194] 26 (0, 0))) := ⟨h2_⟩
          have n3_ : Aside0 (w40.heap[gb204]? = some (.cells #[.int .u32 t197, .int .u32 t198, .int .u32 t199, .int .u32 t200, .int .u32 t201, .bool t202] 26 (0, 0))) := ⟨h3_⟩
          have n4_ : Aside0 (w40.heap[gb221]? = some (.cells #[.int .u32 0, .int .u32 0, .int .u32 0, .int .u32 0, .int .u32 0, .bool false] 26 (0, 0))) := ⟨h4_⟩
          have n5_ : Aside0 (w.heap.size ≤ gb221) := ⟨h5_⟩
          have n6_ : Aside0 (w.heap.size ≤ gb221) := ⟨h6_⟩
          have n7_ : Aside0 (gb188 ≠ gb221) := ⟨h7_⟩
          have n8_ : Aside0 (gb221 ≠ gb188) := ⟨h8_⟩
          have n9_ : Aside0 (gb196 ≠ gb221) := ⟨h9_⟩
          have n10_ : Aside0 (gb221 ≠ gb196) := ⟨h10_⟩
          have n11_ : Aside0 (gb204 ≠ gb221) := ⟨h11_⟩
          have n12_ : Aside0 (gb221 ≠ gb204) := ⟨h12_⟩
          have n13_ : Aside0 (Below w.heap.size w w40) := ⟨h13_⟩
          clear BK188
          clear BK196
          clear BK204
          clear HB
          clear h0_ h1_ h2_ h3_ h4_ h5_ h6_ h7_ h8_ h9_ h10_ h11_ h12_ h13_
          have HO213 := n0_
          have BK188 := n1_
          have BK196 := n2_
          have BK204 := n3_
          have BK221 := n4_
          have GW221 := n5_
          have GE221 := n6_
          have NB188_221 := n7_
          have NB221_188 := n8_
          have NB196_221 := n9_
          have NB221_196 := n10_
          have NB204_221 := n11_
          have NB221_204 := n12_
          have HB := n13_
          clear n0_ n1_ n2_ n3_ n4_ n5_ n6_ n7_ n8_ n9_ n10_ n11_ n12_ n13_
          have hHeld : w40.cell? ⟨gb188, 0, none⟩ = some (.int .u32 t182) ∧ w40.cell? ⟨gb188, 1, none⟩ = some (.int .u32 t183) ∧ w40.cell? ⟨gb188, 2, none⟩ = some (.int .u32 t184) ∧ w40.cell? ⟨gb188, 3, none⟩ = some (.int .u32 t185) ∧ w40.cell? ⟨gb188, 4, none⟩ = some (.int .u32 t186) ∧ w40.cell? ⟨gb188, 5, none⟩ = some (.bool t187) := hS_
          refine norm_ (a' := ?_) ?_ ?_
          rotate_left
          ·
           simp only [putAll, Act.put, List.setIfInBounds_toArray, List.set_cons_zero, List.set_cons_succ]
           rfl
          refine one_ (i := 12) (N := none) #[true, true, true, true, true, true, true, true, true, true, true, true, true, false] rfl rfl (one_of HT_.out (by kernel_rfl)) (by decide) (fun K hK => ?_)
          have hs41 : w40.cell? ⟨gb221, 0, none⟩ = some (.int .u32 0) := (blk_cell BK221.out 0).trans rfl
          have hfs41 := blk_frozen BK221.out 0
          have hns41_0 := NB188_221.out
          have hns41_1 := NB196_221.out
          have hns41_2 := NB204_221.out
          have hms41_0 := NB221_188.out
          have hms41_1 := NB221_196.out
          have hms41_2 := NB221_204.out
          have hs42 : w40.cell? ⟨gb221, 1, none⟩ = some (.int .u32 0) := (blk_cell BK221.out 1).trans rfl
          have hfs42 := blk_frozen BK221.out 1
          have hns42_0 := NB188_221.out
          have hns42_1 := NB196_221.out
          have hns42_2 := NB204_221.out
          have hms42_0 := NB221_188.out
          have hms42_1 := NB221_196.out
          have hms42_2 := NB221_204.out
          have hs43 : w40.cell? ⟨gb221, 2, none⟩ = some (.int .u32 0) := (blk_cell BK221.out 2).trans rfl
          have hfs43 := blk_frozen BK221.out 2
          have hns43_0 := NB188_221.out
          have hns43_1 := NB196_221.out
          have hns43_2 := NB204_221.out
          have hms43_0 := NB221_188.out
          have hms43_1 := NB221_196.out
          have hms43_2 := NB221_204.out
          have hs44 : w40.cell? ⟨gb221, 3, none⟩ = some (.int .u32 0) := (blk_cell BK221.out 3).trans rfl
          have hfs44 := blk_frozen BK221.out 3
          have hns44_0 := NB188_221.out
          have hns44_1 := NB196_221.out
          have hns44_2 := NB204_221.out
          have hms44_0 := NB221_188.out
          have hms44_1 := NB221_196.out
          have hms44_2 := NB221_204.out
          have hs45 : w40.cell? ⟨gb221, 4, none⟩ = some (.int .u32 0) := (blk_cell BK221.out 4).trans rfl
          have hfs45 := blk_frozen BK221.out 4
          have hns45_0 := NB188_221.out
          have hns45_1 := NB196_221.out
          have hns45_2 := NB204_221.out
          have hms45_0 := NB221_188.out
          have hms45_1 := NB221_196.out
          have hms45_2 := NB221_204.out
          have hs46 : w40.cell? ⟨gb221, 5, none⟩ = some (.bool false) := (blk_cell BK221.out 5).trans rfl
          have hfs46 := blk_frozen BK221.out 5
          have hns46_0 := NB188_221.out
          have hns46_1 := NB196_221.out
          have hns46_2 := NB204_221.out
          have hms46_0 := NB221_188.out
          have hms46_1 := NB221_196.out
          have hms46_2 := NB221_204.out
          refine skip_ (w1 := ?_) (by rfl) rfl ?_ ?_
          rotate_left
          ·
           go_simp
           rfl
          refine hK.out _ _ ⟨((cell_far (p := ⟨gb221, _, none⟩) NB188_221.out _).trans (((cell_far (p := ⟨gb221, _, none⟩) NB188_221.out _).trans (((cell_far (p := ⟨gb221, _, none⟩) NB188_221.out _).trans (((cell_far (p := ⟨gb221, _, none⟩) NB188_221.out _).trans (((cell_far (p := ⟨gb221, _, none⟩) NB188_221.out _).trans (((cell_far (p := ⟨gb221, _, none⟩) NB188_221.out _).trans (hHeld.1)))))))))))), ((cell_far (p := ⟨gb221, _, none⟩) NB188_221.out _).trans (((cell_far (p := ⟨gb221, _, none⟩) NB188_221.out _).trans (((cell_far (p := ⟨gb221, _, none⟩) NB188_221.out _).trans (((cell_far (p := ⟨gb221, _, none⟩) NB188_221.out _).trans (((cell_far (p := ⟨gb221, _, none⟩) NB188_221.out _).trans (((cell_far (p := ⟨gb221, _, none⟩) NB188_221.out _).trans (hHeld.2.1)))))))))))), ((cell_far (p := ⟨gb221, _, none⟩) NB188_221.out _).trans (((cell_far (p := ⟨gb221, _, none⟩) NB188_221.out _).trans (((cell_far (p := ⟨gb221, _, none⟩) NB188_221.out _).trans (((cell_far (p := ⟨gb221, _, none⟩) NB188_221.out _).trans (((cell_far (p := ⟨gb221, _, none⟩) NB188_221.out _).trans (((cell_far (p := ⟨gb221, _, none⟩) NB188_221.out _).trans (hHeld.2.2.1)))))))))))), ((cell_far (p := ⟨gb221, _, none⟩) NB188_221.out _).trans (((cell_far (p := ⟨gb221, _, none⟩) NB188_221.out _).trans (((cell_far (p := ⟨gb221, _, none⟩) NB188_221.out _).trans (((cell_far (p := ⟨gb221, _, none⟩) NB188_221.out _).trans (((cell_far (p := ⟨gb221, _, none⟩) NB188_221.out _).trans (((cell_far (p := ⟨gb221, _, none⟩) NB188_221.out _).trans (hHeld.2.2.2.1)))))))))))), ((cell_far (p := ⟨gb221, _, none⟩) NB188_221.out _).trans (((cell_far (p := ⟨gb221, _, none⟩) NB188_221.out _).trans (((cell_far (p := ⟨gb221, _, none⟩) NB188_221.out _).trans (((cell_far (p := ⟨gb221, _, none⟩) NB188_221.out _).trans (((cell_far (p := ⟨gb221, _, none⟩) NB188_221.out _).trans (((cell_far (p := ⟨gb221, _, none⟩) NB188_221.out _).trans (hHeld.2.2.2.2.1)))))))))))), ((cell_far (p := ⟨gb221, _, none⟩) NB188_221.out _).trans (((cell_far (p := ⟨gb221, _, none⟩) NB188_221.out _).trans (((cell_far (p := ⟨gb221, _, none⟩) NB188_221.out _).trans (((cell_far (p := ⟨gb221, _, none⟩) NB188_221.out _).trans (((cell_far (p := ⟨gb221, _, none⟩) NB188_221.out _).trans (((cell_far (p := ⟨gb221, _, none⟩) NB188_221.out _).trans (hHeld.2.2.2.2.2))))))))))))⟩ (fun hHeld => ?_)
          clear hK K
          refine pure_ (i := 13) (N := some 13) (v := ?_) (a' := ?_) #[true, true, true, true, true, true, true, true, true, true, true, true, true, true] rfl rfl (any_of HT_.out (by kernel_rfl)) (fun _ _ _ h => h) (Or.inl ⟨by rfl, ?_⟩) ?_ ?_
          rotate_left
          ·
           intro w'
           go_simp
           with_reducible rfl
          rotate_left
          ·
           simp only [Act.put, List.setIfInBounds_toArray, List.set_cons_zero, List.set_cons_succ, i64_w, i32_w]
           rfl
          refine done_ (done_of HT_.out (by kernel_rfl)) ?_
          have hnb47 := NB221_188.out
          have hnc47 := NB188_221.out
          have hnb48 := NB221_196.out
          have hnc48 := NB196_221.out
          have hnb49 := NB221_204.out
          have hnc49 := NB204_221.out
          have hcz50_0 : w40.cell? ⟨gb221, 0, none⟩ = some (.int .u32 0) := (blk_cell BK221.out 0).trans rfl
          have hcz50_1 : w40.cell? ⟨gb221, 1, none⟩ = some (.int .u32 0) := (blk_cell BK221.out 1).trans rfl
          have hcz50_2 : w40.cell? ⟨gb221, 2, none⟩ = some (.int .u32 0) := (blk_cell BK221.out 2).trans rfl
          have hcz50_3 : w40.cell? ⟨gb221, 3, none⟩ = some (.int .u32 0) := (blk_cell BK221.out 3).trans rfl
          have hcz50_4 : w40.cell? ⟨gb221, 4, none⟩ = some (.int .u32 0) := (blk_cell BK221.out 4).trans rfl
          have hcz50_5 : w40.cell? ⟨gb221, 5, none⟩ = some (.bool false) := (blk_cell BK221.out 5).trans rfl
          have hfz50_0 := blk_frozen BK221.out 0
          have hfz50_1 := blk_frozen BK221.out 1
          have hfz50_2 := blk_frozen BK221.out 2
          have hfz50_3 := blk_frozen BK221.out 3
          have hfz50_4 := blk_frozen BK221.out 4
          have hfz50_5 := blk_frozen BK221.out 5
          have hcz51_0 : w40.cell? ⟨gb188, 0, none⟩ = some (.int .u32 t182) := (blk_cell BK188.out 0).trans rfl
          have hcz51_1 : w40.cell? ⟨gb188, 1, none⟩ = some (.int .u32 t183) := (blk_cell BK188.out 1).trans rfl
          have hcz51_2 : w40.cell? ⟨gb188, 2, none⟩ = some (.int .u32 t184) := (blk_cell BK188.out 2).trans rfl
          have hcz51_3 : w40.cell? ⟨gb188, 3, none⟩ = some (.int .u32 t185) := (blk_cell BK188.out 3).trans rfl
          have hcz51_4 : w40.cell? ⟨gb188, 4, none⟩ = some (.int .u32 t186) := (blk_cell BK188.out 4).trans rfl
          have hcz51_5 : w40.cell? ⟨gb188, 5, none⟩ = some (.bool t187) := (blk_cell BK188.out 5).trans rfl
          have hfz51_0 := blk_frozen BK188.out 0
          have hfz51_1 := blk_frozen BK188.out 1
          have hfz51_2 := blk_frozen BK188.out 2
          have hfz51_3 := blk_frozen BK188.out 3
          have hfz51_4 := blk_frozen BK188.out 4
          have hfz51_5 := blk_frozen BK188.out 5
          have hcz52_0 : w40.cell? ⟨gb196, 0, none⟩ = some (.int .u32 t189) := (blk_cell BK196.out 0).trans rfl
          have hcz52_1 : w40.cell? ⟨gb196, 1, none⟩ = some (.int .u32 t190) := (blk_cell BK196.out 1).trans rfl
          have hcz52_2 : w40.cell? ⟨gb196, 2, none⟩ = some (.int .u32 t191) := (blk_cell BK196.out 2).trans rfl
          have hcz52_3 : w40.cell? ⟨gb196, 3, none⟩ = some (.int .u32 t192) := (blk_cell BK196.out 3).trans rfl
          have hcz52_4 : w40.cell? ⟨gb196, 4, none⟩ = some (.int .u32 t193) := (blk_cell BK196.out 4).trans rfl
          have hcz52_5 : w40.cell? ⟨gb196, 5, none⟩ = some (.bool t194) := (blk_cell BK196.out 5).trans rfl
          have hfz52_0 := blk_frozen BK196.out 0
          have hfz52_1 := blk_frozen BK196.out 1
          have hfz52_2 := blk_frozen BK196.out 2
          have hfz52_3 := blk_frozen BK196.out 3
          have hfz52_4 := blk_frozen BK196.out 4
          have hfz52_5 := blk_frozen BK196.out 5
          try go_wp2
          go_ret
          exact ⟨by first | rfl | (simp [errW_none, errW_some] <;> rfl) | (simp [*, errW_none, errW_some] <;> rfl), by repeat (first | (with_reducible first | exact HB.out | apply below_alloc | apply pw_below_drewN | apply below_drew1 | refine below_set ?_ GE188.out | refine below_set ?_ GE196.out | refine below_set ?_ GE204.out | refine below_set ?_ GE221.out) | exact HB.out)⟩
         ·
          rw [if_neg c18] at H
          have c18b0 : (t214 == t182 && (t215 == t183 && (t216 == t184 && (t217 == t185 && (t218 == t186 && (t219 == t187)))))) = false := by simpa using c18
          (try (have c18b1 : decide (t214 = t182 && (t215 == t183 && (t216 == t184 && (t217 == t185 && (t218 == t186 && (t219 == t187)))))) = false := by simpa using c18))
          (try (have c18b2 : (t214 == t182 && (t215 == t183 && (t216 == t184 && (t217 == t185 && (t218 == t186 && (t219 == t187)))))) = false := by simpa using c18))
          (try (have c18b3 : ¬ (t214 = t182 && (t215 == t183 && (t216 == t184 && (t217 == t185 && (t218 == t186 && (t219 == t187)))))) := by simpa using c18))
          clear c18
          (try (have c18b9 := c18b0; simp only [beq_true, beq_false] at c18b9))
          exact absurd ((Option.some.inj H).trans HT.out) (by decide)
        ·
         rw [if_neg c17] at H
         have c17b0 : (t220 == t195) = false := beq_eq_false_iff_ne.mpr c17
         have c17b1 : (t220 != t195) = true := bne_iff_ne.mpr c17
         exact absurd ((Option.some.inj H).trans HT.out) (by decide)
      ·
       rw [if_neg c14] at H
       exact absurd H (by simp)
     ·
      rw [if_neg c13] at H
      exact absurd H (by simp)
 ·
  replace c5 := Bool.eq_false_iff.mpr c5
  subst c5
  have H1 : (some false) = some r := by rw [if_neg (show ¬ (false = true) by decide)] at H; exact H
  clear H
  have H := H1
  clear H1
  exact absurd ((Option.some.inj H).trans HT.out) (by decide)


end Go.Proofs.Ytkcgenilgboimaa.Mine
