-- Written by this repo's own printer (wip/print), which builds on the kit's.
import Derived.Test.YtpnflloamidecaaMinex0
import Derived.Test.YtpnflloamidecaaMinex1
import Derived.Test.YtpnflloamidecaaMinex2
import Derived.Test.YtpnflloamidecaaMinex7
import Derived.Test.YtpnflloamidecaaMinex8
import Derived.Test.YtpnflloamidecaaMinex9
namespace Go.Proofs.Ytpnflloamidecaa.Mine
open Go.RowKit Go.Proofs.YtpnflloamidecaaW.PrintWords Go.Proofs.YtpnflloamidecaaW.PrintLast Go.Proofs.YtpnflloamidecaaW.PrintMore
attribute [local go_sem] max2_int min2_int max_two min_two max_three min_three max_four min_four   -- for this text's walks alone
set_option linter.unusedVariables false
set_option linter.unusedSimpArgs false

/-! ### nunciolaw04_NameBack: function 6 -/
mutual
def nunciolaw04_NameBack.j0 : Nat → ByteArray → ByteArray → Bool → Option (Bool)
 | 0, _, _, _ => none
 | k + 1, x0, x1, x20 => if x20 = true then (some true) else ((name_Is.f k x0).bind fun t324 => (if t324 = true then ((name_Text.f k x0).bind fun t325 => ((name_Read.f k t325).bind fun bt326 => ((name_Labels.f k x0).bind fun t328 => ((name_Make.f k t328).bind fun bt331 => (if bt326.2 = 0 then (if bt326.1.toList = x0.toList then (if bt331.2 = 0 then (nunciolaw04_NameBack.j1 k x1 (bt331.1.toList != x0.toList)) else (nunciolaw04_NameBack.j1 k x1 true)) else (nunciolaw04_NameBack.j1 k x1 true)) else (nunciolaw04_NameBack.j1 k x1 true)))))) else ((name_Text.f k x0).bind fun t337 => (if t337.toList = ([] : List UInt8) then ((name_Labels.f k x0).bind fun t338 => (nunciolaw04_NameBack.j2 k x1 ((t338.length : Int) != 0))) else (nunciolaw04_NameBack.j2 k x1 true)))))
def nunciolaw04_NameBack.j1 : Nat → ByteArray → Bool → Option (Bool)
 | 0, _, _ => none
 | k + 1, x1, x50 => if x50 = true then (some false) else ((name_Read.f k x1).bind fun bt333 => (if bt333.2 = 0 then ((name_Is.f k bt333.1).bind fun t335 => (if t335 = true then ((name_Text.f k bt333.1).bind fun t336 => (some (t336.toList == x1.toList))) else (some false))) else (if bt333.1.toList = ([] : List UInt8) then (some true) else (some false))))
def nunciolaw04_NameBack.j2 : Nat → ByteArray → Bool → Option (Bool)
 | 0, _, _ => none
 | k + 1, x1, x59 => if x59 = true then (some false) else ((name_Read.f k x1).bind fun bt341 => (if bt341.2 = 0 then ((name_Is.f k bt341.1).bind fun t343 => (if t343 = true then ((name_Text.f k bt341.1).bind fun t344 => (some (t344.toList == x1.toList))) else (some false))) else (if bt341.1.toList = ([] : List UInt8) then (some true) else (some false))))
end
def nunciolaw04_NameBack.f (k : Nat) (a0 : ByteArray) (a1 : ByteArray) : Option (Bool) := (nunciolaw04_awake.f k).bind fun t323 => (if t323 = true then (if (a0.size : Int) > 2000 then (nunciolaw04_NameBack.j0 k a0 a1 true) else (nunciolaw04_NameBack.j0 k a0 a1 (decide ((a1.size : Int) > 2000)))) else (some false))
theorem nunciolaw04_NameBack.mono_l : ∀ k, (∀ y0 y1 y2, LeO (nunciolaw04_NameBack.j0 k y0 y1 y2) (nunciolaw04_NameBack.j0 (k + 1) y0 y1 y2)) ∧ (∀ y0 y1, LeO (nunciolaw04_NameBack.j1 k y0 y1) (nunciolaw04_NameBack.j1 (k + 1) y0 y1)) ∧ (∀ y0 y1, LeO (nunciolaw04_NameBack.j2 k y0 y1) (nunciolaw04_NameBack.j2 (k + 1) y0 y1))
 | 0 => ⟨fun _ _ _ r h => by simp [nunciolaw04_NameBack.j0] at h, fun _ _ r h => by simp [nunciolaw04_NameBack.j1] at h, fun _ _ r h => by simp [nunciolaw04_NameBack.j2] at h⟩
 | k + 1 => by
  obtain ⟨ih0, ih1, ih2⟩ := nunciolaw04_NameBack.mono_l k
  refine ⟨?_, ?_, ?_⟩
  ·
   intro y0 y1 y2
   unfold nunciolaw04_NameBack.j0
   repeat' first
   | (with_reducible exact ih0 _ _ _)
   | (with_reducible exact ih1 _ _)
   | (with_reducible exact ih2 _ _)
   | (with_reducible exact name_Is.mono _ _)
   | (with_reducible exact name_Labels.mono _ _)
   | (with_reducible exact name_Make.mono _ _)
   | (with_reducible exact name_Read.mono _ _)
   | (with_reducible exact name_Text.mono _ _)
   | (with_reducible exact nunciolaw04_awake.mono _)
   | (with_reducible exact LeO.refl _)
   | (with_reducible exact LeO.none _)
   | (with_reducible refine LeO.ite ?_ ?_)
   | (with_reducible refine LeO.bind ?_ (fun _ => ?_))
   | exact ih0 _ _ _
   | exact ih1 _ _
   | exact ih2 _ _
   | exact name_Is.mono _ _
   | exact name_Labels.mono _ _
   | exact name_Make.mono _ _
   | exact name_Read.mono _ _
   | exact name_Text.mono _ _
   | exact nunciolaw04_awake.mono _
   | exact LeO.none _
   | refine LeO.ite ?_ ?_
   | refine LeO.bind ?_ (fun _ => ?_)
  ·
   intro y0 y1
   unfold nunciolaw04_NameBack.j1
   repeat' first
   | (with_reducible exact ih0 _ _ _)
   | (with_reducible exact ih1 _ _)
   | (with_reducible exact ih2 _ _)
   | (with_reducible exact name_Is.mono _ _)
   | (with_reducible exact name_Labels.mono _ _)
   | (with_reducible exact name_Make.mono _ _)
   | (with_reducible exact name_Read.mono _ _)
   | (with_reducible exact name_Text.mono _ _)
   | (with_reducible exact nunciolaw04_awake.mono _)
   | (with_reducible exact LeO.refl _)
   | (with_reducible exact LeO.none _)
   | (with_reducible refine LeO.ite ?_ ?_)
   | (with_reducible refine LeO.bind ?_ (fun _ => ?_))
   | exact ih0 _ _ _
   | exact ih1 _ _
   | exact ih2 _ _
   | exact name_Is.mono _ _
   | exact name_Labels.mono _ _
   | exact name_Make.mono _ _
   | exact name_Read.mono _ _
   | exact name_Text.mono _ _
   | exact nunciolaw04_awake.mono _
   | exact LeO.none _
   | refine LeO.ite ?_ ?_
   | refine LeO.bind ?_ (fun _ => ?_)
  ·
   intro y0 y1
   unfold nunciolaw04_NameBack.j2
   repeat' first
   | (with_reducible exact ih0 _ _ _)
   | (with_reducible exact ih1 _ _)
   | (with_reducible exact ih2 _ _)
   | (with_reducible exact name_Is.mono _ _)
   | (with_reducible exact name_Labels.mono _ _)
   | (with_reducible exact name_Make.mono _ _)
   | (with_reducible exact name_Read.mono _ _)
   | (with_reducible exact name_Text.mono _ _)
   | (with_reducible exact nunciolaw04_awake.mono _)
   | (with_reducible exact LeO.refl _)
   | (with_reducible exact LeO.none _)
   | (with_reducible refine LeO.ite ?_ ?_)
   | (with_reducible refine LeO.bind ?_ (fun _ => ?_))
   | exact ih0 _ _ _
   | exact ih1 _ _
   | exact ih2 _ _
   | exact name_Is.mono _ _
   | exact name_Labels.mono _ _
   | exact name_Make.mono _ _
   | exact name_Read.mono _ _
   | exact name_Text.mono _ _
   | exact nunciolaw04_awake.mono _
   | exact LeO.none _
   | refine LeO.ite ?_ ?_
   | refine LeO.bind ?_ (fun _ => ?_)
theorem nunciolaw04_NameBack.mono : ∀ a0 a1 k, LeO (nunciolaw04_NameBack.f k a0 a1) (nunciolaw04_NameBack.f (k + 1) a0 a1) := by
 intro a0 a1 k
 obtain ⟨ih0, ih1, ih2⟩ := nunciolaw04_NameBack.mono_l k
 unfold nunciolaw04_NameBack.f
 repeat' first
   | (with_reducible exact ih0 _ _ _)
   | (with_reducible exact ih1 _ _)
   | (with_reducible exact ih2 _ _)
   | (with_reducible exact name_Is.mono _ _)
   | (with_reducible exact name_Labels.mono _ _)
   | (with_reducible exact name_Make.mono _ _)
   | (with_reducible exact name_Read.mono _ _)
   | (with_reducible exact name_Text.mono _ _)
   | (with_reducible exact nunciolaw04_awake.mono _)
   | (with_reducible exact LeO.refl _)
   | (with_reducible exact LeO.none _)
   | (with_reducible refine LeO.ite ?_ ?_)
   | (with_reducible refine LeO.bind ?_ (fun _ => ?_))
   | exact ih0 _ _ _
   | exact ih1 _ _
   | exact ih2 _ _
   | exact name_Is.mono _ _
   | exact name_Labels.mono _ _
   | exact name_Make.mono _ _
   | exact name_Read.mono _ _
   | exact name_Text.mono _ _
   | exact nunciolaw04_awake.mono _
   | exact LeO.none _
   | refine LeO.ite ?_ ?_
   | refine LeO.bind ?_ (fun _ => ?_)
set_option maxHeartbeats 8000000 in
set_option maxRecDepth 100000 in
theorem nunciolaw04_NameBack.calls (k : Nat) (a0 : ByteArray) (a1 : ByteArray) (r : Bool) (w : World) (h : nunciolaw04_NameBack.f k a0 a1 = some r) (hT : r = true) :
  Calls Try.prog 6 #[.string a0, .string a1] w fun e w' => e = .returned (.bool r) ∧ Below w.heap.size w w' := by
 have HB := Aside0.mk (Below.refl w.heap.size w)
 have HT := Aside0.mk hT
 clear hT
 have H : ((nunciolaw04_awake.f k).bind fun t323 => (if t323 = true then (if (a0.size : Int) > 2000 then (nunciolaw04_NameBack.j0 k a0 a1 true) else (nunciolaw04_NameBack.j0 k a0 a1 (decide ((a1.size : Int) > 2000)))) else (some false))) = some r := h
 clear h
 replace H := Option.bind_eq_some_iff.mp H
 obtain ⟨t323, A30, H⟩ := H
 replace H : (if t323 = true then (if (a0.size : Int) > 2000 then (nunciolaw04_NameBack.j0 k a0 a1 true) else (nunciolaw04_NameBack.j0 k a0 a1 (decide ((a1.size : Int) > 2000)))) else (some false)) = some r := H
 have A3 := Aside0.mk A30
 clear A30
 by_cases c4 : t323 = true
 ·
  subst c4
  have H1 : (if (a0.size : Int) > 2000 then (nunciolaw04_NameBack.j0 k a0 a1 true) else (nunciolaw04_NameBack.j0 k a0 a1 (decide ((a1.size : Int) > 2000)))) = some r := by rw [if_pos rfl] at H; exact H
  clear H
  have H := H1
  clear H1
  have HC5 := Aside0.mk H
  clear H
  go_enter Try.func6, Try.ntmps6
  go_upto_region 3 with (first | ((with_reducible refine gate_callee (f := 8) rfl ?_); refine goesL_ (some 11) rfl rfl Try.func8 (by kernel_rfl) rfl #[] rfl (by (try simp only [List.map_toArray, List.map_cons, List.map_nil]); first | done | rfl | (simp only [List.length_drop, List.length_take]; rfl)) ?_; (with_reducible refine (nunciolaw04_awake.calls k  true _ A3.out).mono ?_); rintro e w6 ⟨rfl, hb⟩; refine ⟨_, rfl, ?_⟩; have n0_ := Aside0.mk (below_step (by repeat (first | (with_reducible first | exact HB.out | apply below_alloc | apply pw_below_drewN | apply below_drew1) | exact HB.out)) hb); clear HB; have HB := n0_; clear n0_; (try clear hb); (try clear hb2); (try clear hk); (try clear hi)))
  (try simp only [Act.put, List.setIfInBounds_toArray, List.set_cons_zero, List.set_cons_succ])
  go_cut [20] (fun v20 wc => ∃ (kq : Nat) (x20_4 : Bool), v20 = .bool x20_4 ∧ Aside0 (nunciolaw04_NameBack.j0 kq a0 a1 x20_4 = some r) ∧ Aside0 (kq ≤ k) ∧ Aside0 (Below w.heap.size w wc))
  case first =>
   have H := HC5.out
   clear HC5
   by_cases c7 : (a0.size : Int) > 2000
   ·
    rw [if_pos c7] at H
    have c7b0 : decide (2000 < (a0.size : Int)) = true := decide_eq_true c7
    have c7b1 : decide (2000 < a0.size) = true := decide_eq_true (by omega)
    clear c7
    (first | rw [c7b0] | (simp only [i64_w, i32_w]; rw [c7b0]) | skip)
    have H' := Aside0.mk H
    clear H
    go_wp2
    go_meet
    case rel => exact ⟨_, (true), (by first | rfl | (simp; done) | (simp [*]; done)), H', ⟨by first | omega | exact Nat.le_refl _⟩, ⟨by repeat (first | (with_reducible first | exact HB.out | apply below_alloc | apply pw_below_drewN | apply below_drew1) | exact HB.out)⟩⟩
   ·
    rw [if_neg c7] at H
    have c7b0 : decide (2000 < (a0.size : Int)) = false := decide_eq_false c7
    have c7b1 : decide (2000 < a0.size) = false := decide_eq_false (by omega)
    clear c7
    (first | rw [c7b0] | (simp only [i64_w, i32_w]; rw [c7b0]) | skip)
    have H' := Aside0.mk H
    clear H
    go_wp2
    go_meet
    case rel => exact ⟨_, (decide ((a1.size : Int) > 2000)), (by first | rfl | (simp; done) | (simp [*]; done)), H', ⟨by first | omega | exact Nat.le_refl _⟩, ⟨by repeat (first | (with_reducible first | exact HB.out | apply below_alloc | apply pw_below_drewN | apply below_drew1) | exact HB.out)⟩⟩
  case rest =>
   clear HC5
   try clear p2
   try clear c4
   try clear c6
   try clear c7
   try clear c7b0
   try clear c7b1
   obtain ⟨kq, x20_4, rfl, HA, HJ4, HB⟩ := hcut
   cases kq with
   | zero => exact absurd HA.out (by simp [nunciolaw04_NameBack.j0])
   | succ kj4 =>
    have H := HA.out
    clear HA
    simp only [nunciolaw04_NameBack.j0] at H
    by_cases c8 : x20_4 = true
    ·
     subst c8
     have H1 : (some true) = some r := by rw [if_pos rfl] at H; exact H
     clear H
     have H := H1
     clear H1
     obtain rfl := Option.some.inj H
     go_wp2
     go_ret
     exact ⟨by first | rfl | (simp [errW_none, errW_some] <;> rfl) | (simp [*, errW_none, errW_some] <;> rfl), by repeat (first | (with_reducible first | exact HB.out | apply below_alloc | apply pw_below_drewN | apply below_drew1) | exact HB.out)⟩
    ·
     replace c8 := Bool.eq_false_iff.mpr c8
     subst c8
     have H1 : ((name_Is.f kj4 a0).bind fun t324 => (if t324 = true then ((name_Text.f kj4 a0).bind fun t325 => ((name_Read.f kj4 t325).bind fun bt326 => ((name_Labels.f kj4 a0).bind fun t328 => ((name_Make.f kj4 t328).bind fun bt331 => (if bt326.2 = 0 then (if bt326.1.toList = a0.toList then (if bt331.2 = 0 then (nunciolaw04_NameBack.j1 kj4 a1 (bt331.1.toList != a0.toList)) else (nunciolaw04_NameBack.j1 kj4 a1 true)) else (nunciolaw04_NameBack.j1 kj4 a1 true)) else (nunciolaw04_NameBack.j1 kj4 a1 true)))))) else ((name_Text.f kj4 a0).bind fun t337 => (if t337.toList = ([] : List UInt8) then ((name_Labels.f kj4 a0).bind fun t338 => (nunciolaw04_NameBack.j2 kj4 a1 ((t338.length : Int) != 0))) else (nunciolaw04_NameBack.j2 kj4 a1 true))))) = some r := by rw [if_neg (show ¬ (false = true) by decide)] at H; exact H
     clear H
     have H := H1
     clear H1
     replace H := Option.bind_eq_some_iff.mp H
     obtain ⟨t324, A90, H⟩ := H
     replace H : (if t324 = true then ((name_Text.f kj4 a0).bind fun t325 => ((name_Read.f kj4 t325).bind fun bt326 => ((name_Labels.f kj4 a0).bind fun t328 => ((name_Make.f kj4 t328).bind fun bt331 => (if bt326.2 = 0 then (if bt326.1.toList = a0.toList then (if bt331.2 = 0 then (nunciolaw04_NameBack.j1 kj4 a1 (bt331.1.toList != a0.toList)) else (nunciolaw04_NameBack.j1 kj4 a1 true)) else (nunciolaw04_NameBack.j1 kj4 a1 true)) else (nunciolaw04_NameBack.j1 kj4 a1 true)))))) else ((name_Text.f kj4 a0).bind fun t337 => (if t337.toList = ([] : List UInt8) then ((name_Labels.f kj4 a0).bind fun t338 => (nunciolaw04_NameBack.j2 kj4 a1 ((t338.length : Int) != 0))) else (nunciolaw04_NameBack.j2 kj4 a1 true)))) = some r := H
     have A9 := Aside0.mk A90
     clear A90
     by_cases c10 : t324 = true
     ·
      subst c10
      have H1 : ((name_Text.f kj4 a0).bind fun t325 => ((name_Read.f kj4 t325).bind fun bt326 => ((name_Labels.f kj4 a0).bind fun t328 => ((name_Make.f kj4 t328).bind fun bt331 => (if bt326.2 = 0 then (if bt326.1.toList = a0.toList then (if bt331.2 = 0 then (nunciolaw04_NameBack.j1 kj4 a1 (bt331.1.toList != a0.toList)) else (nunciolaw04_NameBack.j1 kj4 a1 true)) else (nunciolaw04_NameBack.j1 kj4 a1 true)) else (nunciolaw04_NameBack.j1 kj4 a1 true)))))) = some r := by rw [if_pos rfl] at H; exact H
      clear H
      have H := H1
      clear H1
      replace H := Option.bind_eq_some_iff.mp H
      obtain ⟨t325, A110, H⟩ := H
      replace H : ((name_Read.f kj4 t325).bind fun bt326 => ((name_Labels.f kj4 a0).bind fun t328 => ((name_Make.f kj4 t328).bind fun bt331 => (if bt326.2 = 0 then (if bt326.1.toList = a0.toList then (if bt331.2 = 0 then (nunciolaw04_NameBack.j1 kj4 a1 (bt331.1.toList != a0.toList)) else (nunciolaw04_NameBack.j1 kj4 a1 true)) else (nunciolaw04_NameBack.j1 kj4 a1 true)) else (nunciolaw04_NameBack.j1 kj4 a1 true))))) = some r := H
      have A11 := Aside0.mk A110
      clear A110
      replace H := Option.bind_eq_some_iff.mp H
      obtain ⟨⟨t326, t327⟩, A120, H⟩ := H
      replace H : ((name_Labels.f kj4 a0).bind fun t328 => ((name_Make.f kj4 t328).bind fun bt331 => (if t327 = 0 then (if t326.toList = a0.toList then (if bt331.2 = 0 then (nunciolaw04_NameBack.j1 kj4 a1 (bt331.1.toList != a0.toList)) else (nunciolaw04_NameBack.j1 kj4 a1 true)) else (nunciolaw04_NameBack.j1 kj4 a1 true)) else (nunciolaw04_NameBack.j1 kj4 a1 true)))) = some r := H
      have A12 := Aside0.mk A120
      clear A120
      replace H := Option.bind_eq_some_iff.mp H
      obtain ⟨t328, A130, H⟩ := H
      replace H : ((name_Make.f kj4 t328).bind fun bt331 => (if t327 = 0 then (if t326.toList = a0.toList then (if bt331.2 = 0 then (nunciolaw04_NameBack.j1 kj4 a1 (bt331.1.toList != a0.toList)) else (nunciolaw04_NameBack.j1 kj4 a1 true)) else (nunciolaw04_NameBack.j1 kj4 a1 true)) else (nunciolaw04_NameBack.j1 kj4 a1 true))) = some r := H
      have A13 := Aside0.mk A130
      clear A130
      replace H := Option.bind_eq_some_iff.mp H
      obtain ⟨⟨t331, t332⟩, A140, H⟩ := H
      replace H : (if t327 = 0 then (if t326.toList = a0.toList then (if t332 = 0 then (nunciolaw04_NameBack.j1 kj4 a1 (t331.toList != a0.toList)) else (nunciolaw04_NameBack.j1 kj4 a1 true)) else (nunciolaw04_NameBack.j1 kj4 a1 true)) else (nunciolaw04_NameBack.j1 kj4 a1 true)) = some r := H
      have A14 := Aside0.mk A140
      clear A140
      have HC15 := Aside0.mk H
      clear H
      go_upto_region 8 with (first | ((with_reducible refine gate_callee (f := 13) rfl ?_); refine goesL_ (some 22) rfl rfl Try.func13 (by kernel_rfl) rfl #[.string a0] rfl (by (try simp only [List.map_toArray, List.map_cons, List.map_nil]); first | done | rfl | (simp only [List.length_drop, List.length_take]; rfl)) ?_; (with_reducible refine (name_Is.calls kj4 a0 true _ A9.out).mono ?_); rintro e w16 ⟨rfl, hb⟩; refine ⟨_, rfl, ?_⟩; have n0_ := Aside0.mk (below_step (by repeat (first | (with_reducible first | exact HB.out | apply below_alloc | apply pw_below_drewN | apply below_drew1) | exact HB.out)) hb); clear HB; have HB := n0_; clear n0_; (try clear hb); (try clear hb2); (try clear hk); (try clear hi)) | ((with_reducible refine gate_callee (f := 24) rfl ?_); refine goesL_ (some 25) rfl rfl Try.func24 (by kernel_rfl) rfl #[.string a0] rfl (by (try simp only [List.map_toArray, List.map_cons, List.map_nil]); first | done | rfl | (simp only [List.length_drop, List.length_take]; rfl)) ?_; (with_reducible refine (name_Text.calls kj4 a0 t325 _ A11.out).mono ?_); rintro e w17 ⟨rfl, hb⟩; refine ⟨_, rfl, ?_⟩; have n0_ := Aside0.mk (below_step (by repeat (first | (with_reducible first | exact HB.out | apply below_alloc | apply pw_below_drewN | apply below_drew1) | exact HB.out)) hb); clear HB; have HB := n0_; clear n0_; (try clear hb); (try clear hb2); (try clear hk); (try clear hi)) | ((with_reducible refine gate_callee (f := 22) rfl ?_); refine goesL_ (some 26) rfl rfl Try.func22 (by kernel_rfl) rfl #[.string t325] rfl (by (try simp only [List.map_toArray, List.map_cons, List.map_nil]); first | done | rfl | (simp only [List.length_drop, List.length_take]; rfl)) ?_; (with_reducible refine (name_Read.calls kj4 t325 t326 t327 _ A12.out).mono ?_); rintro e w18 ⟨rfl, hb⟩; refine ⟨_, rfl, ?_⟩; have n0_ := Aside0.mk (below_step (by repeat (first | (with_reducible first | exact HB.out | apply below_alloc | apply pw_below_drewN | apply below_drew1) | exact HB.out)) hb); clear HB; have HB := n0_; clear n0_; (try clear hb); (try clear hb2); (try clear hk); (try clear hi)) | ((with_reducible refine gate_callee (f := 15) rfl ?_); refine goesL_ (some 31) rfl rfl Try.func15 (by kernel_rfl) rfl #[.string a0] rfl (by (try simp only [List.map_toArray, List.map_cons, List.map_nil]); first | done | rfl | (simp only [List.length_drop, List.length_take]; rfl)) ?_; (with_reducible refine (name_Labels.calls kj4 a0 t328 _ A13.out).mono ?_); rintro e w19 ⟨v329, rfl, ho0, hb⟩; refine ⟨_, rfl, ?_⟩; have n0_ := Aside0.mk (Kd.R_lower ho0 (below_size (by repeat (first | (with_reducible first | exact HB.out | apply below_alloc | apply pw_below_drewN | apply below_drew1) | exact HB.out)))); have n1_ := Aside0.mk (below_step (by repeat (first | (with_reducible first | exact HB.out | apply below_alloc | apply pw_below_drewN | apply below_drew1) | exact HB.out)) hb); clear HB; have HO330 := n0_; have HB := n1_; clear n0_ n1_; (try clear hb); (try clear hb2); (try clear hk); (try clear hi); (try clear ho0); obtain ⟨Ao20, co20, eo20⟩ := Kd.R_slice HO330.out; subst eo20) | ((with_reducible refine gate_callee (f := 10) rfl ?_); refine goesL_ (some 32) rfl rfl Try.func10 (by kernel_rfl) rfl #[.slice Ao20 t328.length co20] rfl (by (try simp only [List.map_toArray, List.map_cons, List.map_nil]); first | done | rfl | (simp only [List.length_drop, List.length_take]; rfl)) ?_; (with_reducible refine (name_Make.calls kj4 _ _ t328 t331 t332 _ ?side1 ?side2 A14.out).mono ?_); (case side1 => repeat (first | exact (Kd.R_reads' HO330.out).2.2 | (with_reducible refine Kd.C_alloc ?_ _) | (with_reducible refine Kd.C_drewN ?_ _) | (with_reducible refine Kd.C_drew ?_))); (case side2 => exact (Kd.R_reads' HO330.out).2.1); rintro e w21 ⟨rfl, hb⟩; refine ⟨_, rfl, ?_⟩; have n0_ := Aside0.mk (Kd.R_below (by (with_reducible repeat (first | apply Kd.R_alloc | apply Kd.R_drewN | apply Kd.R_drew)); exact HO330.out) hb); have n1_ := Aside0.mk (below_step (by repeat (first | (with_reducible first | exact HB.out | apply below_alloc | apply pw_below_drewN | apply below_drew1) | exact HB.out)) hb); clear HO330; clear HB; have HO330 := n0_; have HB := n1_; clear n0_ n1_; (try clear hb); (try clear hb2); (try clear hk); (try clear hi)))
      (try simp only [Act.put, List.setIfInBounds_toArray, List.set_cons_zero, List.set_cons_succ])
      go_cut [50] (fun v50 wc => ∃ (kq : Nat) (x50_14 : Bool), v50 = .bool x50_14 ∧ Aside0 (nunciolaw04_NameBack.j1 kq a1 x50_14 = some r) ∧ Aside0 (kq ≤ kj4) ∧ Aside0 (Below w.heap.size w wc))
      case first =>
       have H := HC15.out
       clear HC15
       by_cases c22 : t327 = 0
       ·
        rw [if_pos c22] at H
        have c22b0 : (t327 == 0) = true := beq_iff_eq.mpr c22
        have c22b1 : (t327 != 0) = false := bne_eq_false_iff_eq.mpr c22
        clear c22
        (first | rw [c22b0] | (simp only [i64_w, i32_w]; rw [c22b0]) | skip)
        by_cases c23 : t326.toList = a0.toList
        ·
         rw [if_pos c23] at H
         have c23b0 : (t326.toList == a0.toList) = true := beq_iff_eq.mpr c23
         have c23b1 : (t326.toList != a0.toList) = false := bne_eq_false_iff_eq.mpr c23
         clear c23
         by_cases c24 : t332 = 0
         ·
          rw [if_pos c24] at H
          have c24b0 : (t332 == 0) = true := beq_iff_eq.mpr c24
          have c24b1 : (t332 != 0) = false := bne_eq_false_iff_eq.mpr c24
          clear c24
          have H' := Aside0.mk H
          clear H
          go_wp2
          go_meet
          case rel => exact ⟨_, ((t331.toList != a0.toList)), (by first | rfl | (simp; done) | (simp [*]; done)), H', ⟨by have := HJ4.out; first | omega | exact Nat.le_refl _⟩, ⟨by repeat (first | (with_reducible first | exact HB.out | apply below_alloc | apply pw_below_drewN | apply below_drew1) | exact HB.out)⟩⟩
         ·
          rw [if_neg c24] at H
          have c24b0 : (t332 == 0) = false := beq_eq_false_iff_ne.mpr c24
          have c24b1 : (t332 != 0) = true := bne_iff_ne.mpr c24
          have H' := Aside0.mk H
          clear H
          go_wp2
          go_meet
          case rel => exact ⟨_, (true), (by first | rfl | (simp; done) | (simp [*]; done)), H', ⟨by have := HJ4.out; first | omega | exact Nat.le_refl _⟩, ⟨by repeat (first | (with_reducible first | exact HB.out | apply below_alloc | apply pw_below_drewN | apply below_drew1) | exact HB.out)⟩⟩
        ·
         rw [if_neg c23] at H
         have c23b0 : (t326.toList == a0.toList) = false := beq_eq_false_iff_ne.mpr c23
         have c23b1 : (t326.toList != a0.toList) = true := bne_iff_ne.mpr c23
         have H' := Aside0.mk H
         clear H
         go_wp2
         go_meet
         case rel => exact ⟨_, (true), (by first | rfl | (simp; done) | (simp [*]; done)), H', ⟨by have := HJ4.out; first | omega | exact Nat.le_refl _⟩, ⟨by repeat (first | (with_reducible first | exact HB.out | apply below_alloc | apply pw_below_drewN | apply below_drew1) | exact HB.out)⟩⟩
       ·
        rw [if_neg c22] at H
        have c22b0 : (t327 == 0) = false := beq_eq_false_iff_ne.mpr c22
        have c22b1 : (t327 != 0) = true := bne_iff_ne.mpr c22
        (first | rw [c22b0] | (simp only [i64_w, i32_w]; rw [c22b0]) | skip)
        have H' := Aside0.mk H
        clear H
        go_wp2
        go_meet
        case rel => exact ⟨_, (true), (by first | rfl | (simp; done) | (simp [*]; done)), H', ⟨by have := HJ4.out; first | omega | exact Nat.le_refl _⟩, ⟨by repeat (first | (with_reducible first | exact HB.out | apply below_alloc | apply pw_below_drewN | apply below_drew1) | exact HB.out)⟩⟩
      case rest =>
       clear HC15
       try clear c1
       try clear c2
       try clear p2
       try clear c4
       try clear c6
       try clear c7
       try clear c7b0
       try clear c7b1
       try clear c8
       try clear c10
       try clear c13
       try clear c15
       try clear c22
       try clear c22b0
       try clear c22b1
       try clear c23
       try clear c23b0
       try clear c23b1
       try clear c24
       try clear c24b0
       try clear c24b1
       try clear p2
       obtain ⟨kq, x50_14, rfl, HA, HJ14, HB⟩ := hcut
       cases kq with
       | zero => exact absurd HA.out (by simp [nunciolaw04_NameBack.j1])
       | succ kj14 =>
        have H := HA.out
        clear HA
        simp only [nunciolaw04_NameBack.j1] at H
        by_cases c25 : x50_14 = true
        ·
         subst c25
         have H1 : (some false) = some r := by rw [if_pos rfl] at H; exact H
         clear H
         have H := H1
         clear H1
         exact absurd ((Option.some.inj H).trans HT.out) (by decide)
        ·
         replace c25 := Bool.eq_false_iff.mpr c25
         subst c25
         have H1 : ((name_Read.f kj14 a1).bind fun bt333 => (if bt333.2 = 0 then ((name_Is.f kj14 bt333.1).bind fun t335 => (if t335 = true then ((name_Text.f kj14 bt333.1).bind fun t336 => (some (t336.toList == a1.toList))) else (some false))) else (if bt333.1.toList = ([] : List UInt8) then (some true) else (some false)))) = some r := by rw [if_neg (show ¬ (false = true) by decide)] at H; exact H
         clear H
         have H := H1
         clear H1
         replace H := Option.bind_eq_some_iff.mp H
         obtain ⟨⟨t333, t334⟩, A260, H⟩ := H
         replace H : (if t334 = 0 then ((name_Is.f kj14 t333).bind fun t335 => (if t335 = true then ((name_Text.f kj14 t333).bind fun t336 => (some (t336.toList == a1.toList))) else (some false))) else (if t333.toList = ([] : List UInt8) then (some true) else (some false))) = some r := H
         have A26 := Aside0.mk A260
         clear A260
         by_cases c27 : t334 = 0
         ·
          rw [if_pos c27] at H
          have c27b0 : (t334 == 0) = true := beq_iff_eq.mpr c27
          have c27b1 : (t334 != 0) = false := bne_eq_false_iff_eq.mpr c27
          clear c27
          replace H := Option.bind_eq_some_iff.mp H
          obtain ⟨t335, A280, H⟩ := H
          replace H : (if t335 = true then ((name_Text.f kj14 t333).bind fun t336 => (some (t336.toList == a1.toList))) else (some false)) = some r := H
          have A28 := Aside0.mk A280
          clear A280
          by_cases c29 : t335 = true
          ·
           subst c29
           have H1 : ((name_Text.f kj14 t333).bind fun t336 => (some (t336.toList == a1.toList))) = some r := by rw [if_pos rfl] at H; exact H
           clear H
           have H := H1
           clear H1
           replace H := Option.bind_eq_some_iff.mp H
           obtain ⟨t336, A300, H⟩ := H
           replace H : (some (t336.toList == a1.toList)) = some r := H
           have A30 := Aside0.mk A300
           clear A300
           obtain rfl := Option.some.inj H
           go_wp2_with (first | ((with_reducible refine gate_callee (f := 22) rfl ?_); refine goesL_ (some 62) rfl rfl Try.func22 (by kernel_rfl) rfl #[.string a1] rfl (by (try simp only [List.map_toArray, List.map_cons, List.map_nil]); first | done | rfl | (simp only [List.length_drop, List.length_take]; rfl)) ?_; (with_reducible refine (name_Read.calls kj14 a1 t333 t334 _ A26.out).mono ?_); rintro e w31 ⟨rfl, hb⟩; refine ⟨_, rfl, ?_⟩; have n0_ := Aside0.mk (below_step (by repeat (first | (with_reducible first | exact HB.out | apply below_alloc | apply pw_below_drewN | apply below_drew1) | exact HB.out)) hb); clear HB; have HB := n0_; clear n0_; (try clear hb); (try clear hb2); (try clear hk); (try clear hi)) | (go_at_call 13; (with_reducible refine (name_Is.calls kj14 t333 true _ A28.out).mono ?_); rintro e w32 ⟨rfl, hb⟩; have n0_ := Aside0.mk (below_step (by repeat (first | (with_reducible first | exact HB.out | apply below_alloc | apply pw_below_drewN | apply below_drew1) | exact HB.out)) hb); clear HB; have HB := n0_; clear n0_; (try clear hb); (try clear hb2); (try clear hk); (try clear hi)) | (go_at_call 24; (with_reducible refine (name_Text.calls kj14 t333 t336 _ A30.out).mono ?_); rintro e w33 ⟨rfl, hb⟩; have n0_ := Aside0.mk (below_step (by repeat (first | (with_reducible first | exact HB.out | apply below_alloc | apply pw_below_drewN | apply below_drew1) | exact HB.out)) hb); clear HB; have HB := n0_; clear n0_; (try clear hb); (try clear hb2); (try clear hk); (try clear hi)))
           go_ret
           exact ⟨by first | rfl | (simp [errW_none, errW_some] <;> rfl) | (simp [*, errW_none, errW_some] <;> rfl), by repeat (first | (with_reducible first | exact HB.out | apply below_alloc | apply pw_below_drewN | apply below_drew1) | exact HB.out)⟩
          ·
           replace c29 := Bool.eq_false_iff.mpr c29
           subst c29
           have H1 : (some false) = some r := by rw [if_neg (show ¬ (false = true) by decide)] at H; exact H
           clear H
           have H := H1
           clear H1
           exact absurd ((Option.some.inj H).trans HT.out) (by decide)
         ·
          rw [if_neg c27] at H
          have c27b0 : (t334 == 0) = false := beq_eq_false_iff_ne.mpr c27
          have c27b1 : (t334 != 0) = true := bne_iff_ne.mpr c27
          by_cases c34 : t333.toList = ([] : List UInt8)
          ·
           rw [if_pos c34] at H
           have c34b0 : (t333.toList == ([] : List UInt8)) = true := beq_iff_eq.mpr c34
           have c34b1 : (t333.toList != ([] : List UInt8)) = false := bne_eq_false_iff_eq.mpr c34
           clear c34
           obtain rfl := Option.some.inj H
           go_wp2_with (first | ((with_reducible refine gate_callee (f := 22) rfl ?_); refine goesL_ (some 62) rfl rfl Try.func22 (by kernel_rfl) rfl #[.string a1] rfl (by (try simp only [List.map_toArray, List.map_cons, List.map_nil]); first | done | rfl | (simp only [List.length_drop, List.length_take]; rfl)) ?_; (with_reducible refine (name_Read.calls kj14 a1 t333 t334 _ A26.out).mono ?_); rintro e w35 ⟨rfl, hb⟩; refine ⟨_, rfl, ?_⟩; have n0_ := Aside0.mk (below_step (by repeat (first | (with_reducible first | exact HB.out | apply below_alloc | apply pw_below_drewN | apply below_drew1) | exact HB.out)) hb); clear HB; have HB := n0_; clear n0_; (try clear hb); (try clear hb2); (try clear hk); (try clear hi)))
           go_ret
           exact ⟨by first | rfl | (simp [errW_none, errW_some] <;> rfl) | (simp [*, errW_none, errW_some] <;> rfl), by repeat (first | (with_reducible first | exact HB.out | apply below_alloc | apply pw_below_drewN | apply below_drew1) | exact HB.out)⟩
          ·
           rw [if_neg c34] at H
           have c34b0 : (t333.toList == ([] : List UInt8)) = false := beq_eq_false_iff_ne.mpr c34
           have c34b1 : (t333.toList != ([] : List UInt8)) = true := bne_iff_ne.mpr c34
           exact absurd ((Option.some.inj H).trans HT.out) (by decide)
     ·
      replace c10 := Bool.eq_false_iff.mpr c10
      subst c10
      have H1 : ((name_Text.f kj4 a0).bind fun t337 => (if t337.toList = ([] : List UInt8) then ((name_Labels.f kj4 a0).bind fun t338 => (nunciolaw04_NameBack.j2 kj4 a1 ((t338.length : Int) != 0))) else (nunciolaw04_NameBack.j2 kj4 a1 true))) = some r := by rw [if_neg (show ¬ (false = true) by decide)] at H; exact H
      clear H
      have H := H1
      clear H1
      have HC36 := Aside0.mk H
      clear H
      go_upto_region 10 with (first | ((with_reducible refine gate_callee (f := 13) rfl ?_); refine goesL_ (some 22) rfl rfl Try.func13 (by kernel_rfl) rfl #[.string a0] rfl (by (try simp only [List.map_toArray, List.map_cons, List.map_nil]); first | done | rfl | (simp only [List.length_drop, List.length_take]; rfl)) ?_; (with_reducible refine (name_Is.calls kj4 a0 false _ A9.out).mono ?_); rintro e w37 ⟨rfl, hb⟩; refine ⟨_, rfl, ?_⟩; have n0_ := Aside0.mk (below_step (by repeat (first | (with_reducible first | exact HB.out | apply below_alloc | apply pw_below_drewN | apply below_drew1) | exact HB.out)) hb); clear HB; have HB := n0_; clear n0_; (try clear hb); (try clear hb2); (try clear hk); (try clear hi)))
      (try simp only [Act.put, List.setIfInBounds_toArray, List.set_cons_zero, List.set_cons_succ])
      go_cut [59] (fun v59 wc => ∃ (kq : Nat) (x59_35 : Bool), v59 = .bool x59_35 ∧ Aside0 (nunciolaw04_NameBack.j2 kq a1 x59_35 = some r) ∧ Aside0 (kq ≤ kj4) ∧ Aside0 (Below w.heap.size w wc))
      case first =>
       have H := HC36.out
       clear HC36
       replace H := Option.bind_eq_some_iff.mp H
       obtain ⟨t337, A380, H⟩ := H
       replace H : (if t337.toList = ([] : List UInt8) then ((name_Labels.f kj4 a0).bind fun t338 => (nunciolaw04_NameBack.j2 kj4 a1 ((t338.length : Int) != 0))) else (nunciolaw04_NameBack.j2 kj4 a1 true)) = some r := H
       have A38 := Aside0.mk A380
       clear A380
       by_cases c39 : t337.toList = ([] : List UInt8)
       ·
        rw [if_pos c39] at H
        have c39b0 : (t337.toList == ([] : List UInt8)) = true := beq_iff_eq.mpr c39
        have c39b1 : (t337.toList != ([] : List UInt8)) = false := bne_eq_false_iff_eq.mpr c39
        clear c39
        (first | rw [c39b0] | (simp only [i64_w, i32_w]; rw [c39b0]) | skip)
        replace H := Option.bind_eq_some_iff.mp H
        obtain ⟨t338, A400, H⟩ := H
        replace H : (nunciolaw04_NameBack.j2 kj4 a1 ((t338.length : Int) != 0)) = some r := H
        have A40 := Aside0.mk A400
        clear A400
        have H' := Aside0.mk H
        clear H
        go_wp2_with (first | ((with_reducible refine gate_callee (f := 24) rfl ?_); refine goesL_ (some 52) rfl rfl Try.func24 (by kernel_rfl) rfl #[.string a0] rfl (by (try simp only [List.map_toArray, List.map_cons, List.map_nil]); first | done | rfl | (simp only [List.length_drop, List.length_take]; rfl)) ?_; (with_reducible refine (name_Text.calls kj4 a0 t337 _ A38.out).mono ?_); rintro e w41 ⟨rfl, hb⟩; refine ⟨_, rfl, ?_⟩; have n0_ := Aside0.mk (below_step (by repeat (first | (with_reducible first | exact HB.out | apply below_alloc | apply pw_below_drewN | apply below_drew1) | exact HB.out)) hb); clear HB; have HB := n0_; clear n0_; (try clear hb); (try clear hb2); (try clear hk); (try clear hi)) | (go_at_call 15; (with_reducible refine (name_Labels.calls kj4 a0 t338 _ A40.out).mono ?_); rintro e w42 ⟨v339, rfl, ho0, hb⟩; have n0_ := Aside0.mk (Kd.R_lower ho0 (below_size (by repeat (first | (with_reducible first | exact HB.out | apply below_alloc | apply pw_below_drewN | apply below_drew1) | exact HB.out)))); have n1_ := Aside0.mk (below_step (by repeat (first | (with_reducible first | exact HB.out | apply below_alloc | apply pw_below_drewN | apply below_drew1) | exact HB.out)) hb); clear HB; have HO340 := n0_; have HB := n1_; clear n0_ n1_; (try clear hb); (try clear hb2); (try clear hk); (try clear hi); (try clear ho0); obtain ⟨Ao43, co43, eo43⟩ := Kd.R_slice HO340.out; subst eo43))
        go_meet
        case rel => exact ⟨_, (((t338.length : Int) != 0)), (by first | rfl | (simp; done) | (simp [*]; done)), H', ⟨by have := HJ4.out; first | omega | exact Nat.le_refl _⟩, ⟨by repeat (first | (with_reducible first | exact HB.out | apply below_alloc | apply pw_below_drewN | apply below_drew1) | exact HB.out)⟩⟩
       ·
        rw [if_neg c39] at H
        have c39b0 : (t337.toList == ([] : List UInt8)) = false := beq_eq_false_iff_ne.mpr c39
        have c39b1 : (t337.toList != ([] : List UInt8)) = true := bne_iff_ne.mpr c39
        (first | rw [c39b0] | (simp only [i64_w, i32_w]; rw [c39b0]) | skip)
        have H' := Aside0.mk H
        clear H
        go_wp2_with (first | ((with_reducible refine gate_callee (f := 24) rfl ?_); refine goesL_ (some 52) rfl rfl Try.func24 (by kernel_rfl) rfl #[.string a0] rfl (by (try simp only [List.map_toArray, List.map_cons, List.map_nil]); first | done | rfl | (simp only [List.length_drop, List.length_take]; rfl)) ?_; (with_reducible refine (name_Text.calls kj4 a0 t337 _ A38.out).mono ?_); rintro e w44 ⟨rfl, hb⟩; refine ⟨_, rfl, ?_⟩; have n0_ := Aside0.mk (below_step (by repeat (first | (with_reducible first | exact HB.out | apply below_alloc | apply pw_below_drewN | apply below_drew1) | exact HB.out)) hb); clear HB; have HB := n0_; clear n0_; (try clear hb); (try clear hb2); (try clear hk); (try clear hi)))
        go_meet
        case rel => exact ⟨_, (true), (by first | rfl | (simp; done) | (simp [*]; done)), H', ⟨by have := HJ4.out; first | omega | exact Nat.le_refl _⟩, ⟨by repeat (first | (with_reducible first | exact HB.out | apply below_alloc | apply pw_below_drewN | apply below_drew1) | exact HB.out)⟩⟩
      case rest =>
       clear HC36
       try clear c1
       try clear c2
       try clear p2
       try clear c3
       try clear c4
       try clear c6
       try clear c7
       try clear c7b0
       try clear c7b1
       try clear c8
       try clear c10
       try clear c13
       try clear c15
       try clear c22
       try clear c22b0
       try clear c22b1
       try clear c23
       try clear c23b0
       try clear c23b1
       try clear c24
       try clear c24b0
       try clear c24b1
       try clear c25
       try clear c27
       try clear c27b0
       try clear c27b1
       try clear c29
       try clear c34
       try clear c34b0
       try clear c34b1
       try clear c39
       try clear c39b0
       try clear c39b1
       try clear p2
       obtain ⟨kq, x59_35, rfl, HA, HJ35, HB⟩ := hcut
       cases kq with
       | zero => exact absurd HA.out (by simp [nunciolaw04_NameBack.j2])
       | succ kj35 =>
        have H := HA.out
        clear HA
        simp only [nunciolaw04_NameBack.j2] at H
        by_cases c45 : x59_35 = true
        ·
         subst c45
         have H1 : (some false) = some r := by rw [if_pos rfl] at H; exact H
         clear H
         have H := H1
         clear H1
         exact absurd ((Option.some.inj H).trans HT.out) (by decide)
        ·
         replace c45 := Bool.eq_false_iff.mpr c45
         subst c45
         have H1 : ((name_Read.f kj35 a1).bind fun bt341 => (if bt341.2 = 0 then ((name_Is.f kj35 bt341.1).bind fun t343 => (if t343 = true then ((name_Text.f kj35 bt341.1).bind fun t344 => (some (t344.toList == a1.toList))) else (some false))) else (if bt341.1.toList = ([] : List UInt8) then (some true) else (some false)))) = some r := by rw [if_neg (show ¬ (false = true) by decide)] at H; exact H
         clear H
         have H := H1
         clear H1
         replace H := Option.bind_eq_some_iff.mp H
         obtain ⟨⟨t341, t342⟩, A460, H⟩ := H
         replace H : (if t342 = 0 then ((name_Is.f kj35 t341).bind fun t343 => (if t343 = true then ((name_Text.f kj35 t341).bind fun t344 => (some (t344.toList == a1.toList))) else (some false))) else (if t341.toList = ([] : List UInt8) then (some true) else (some false))) = some r := H
         have A46 := Aside0.mk A460
         clear A460
         by_cases c47 : t342 = 0
         ·
          rw [if_pos c47] at H
          have c47b0 : (t342 == 0) = true := beq_iff_eq.mpr c47
          have c47b1 : (t342 != 0) = false := bne_eq_false_iff_eq.mpr c47
          clear c47
          replace H := Option.bind_eq_some_iff.mp H
          obtain ⟨t343, A480, H⟩ := H
          replace H : (if t343 = true then ((name_Text.f kj35 t341).bind fun t344 => (some (t344.toList == a1.toList))) else (some false)) = some r := H
          have A48 := Aside0.mk A480
          clear A480
          by_cases c49 : t343 = true
          ·
           subst c49
           have H1 : ((name_Text.f kj35 t341).bind fun t344 => (some (t344.toList == a1.toList))) = some r := by rw [if_pos rfl] at H; exact H
           clear H
           have H := H1
           clear H1
           replace H := Option.bind_eq_some_iff.mp H
           obtain ⟨t344, A500, H⟩ := H
           replace H : (some (t344.toList == a1.toList)) = some r := H
           have A50 := Aside0.mk A500
           clear A500
           obtain rfl := Option.some.inj H
           go_wp2_with (first | ((with_reducible refine gate_callee (f := 22) rfl ?_); refine goesL_ (some 62) rfl rfl Try.func22 (by kernel_rfl) rfl #[.string a1] rfl (by (try simp only [List.map_toArray, List.map_cons, List.map_nil]); first | done | rfl | (simp only [List.length_drop, List.length_take]; rfl)) ?_; (with_reducible refine (name_Read.calls kj35 a1 t341 t342 _ A46.out).mono ?_); rintro e w51 ⟨rfl, hb⟩; refine ⟨_, rfl, ?_⟩; have n0_ := Aside0.mk (below_step (by repeat (first | (with_reducible first | exact HB.out | apply below_alloc | apply pw_below_drewN | apply below_drew1) | exact HB.out)) hb); clear HB; have HB := n0_; clear n0_; (try clear hb); (try clear hb2); (try clear hk); (try clear hi)) | (go_at_call 13; (with_reducible refine (name_Is.calls kj35 t341 true _ A48.out).mono ?_); rintro e w52 ⟨rfl, hb⟩; have n0_ := Aside0.mk (below_step (by repeat (first | (with_reducible first | exact HB.out | apply below_alloc | apply pw_below_drewN | apply below_drew1) | exact HB.out)) hb); clear HB; have HB := n0_; clear n0_; (try clear hb); (try clear hb2); (try clear hk); (try clear hi)) | (go_at_call 24; (with_reducible refine (name_Text.calls kj35 t341 t344 _ A50.out).mono ?_); rintro e w53 ⟨rfl, hb⟩; have n0_ := Aside0.mk (below_step (by repeat (first | (with_reducible first | exact HB.out | apply below_alloc | apply pw_below_drewN | apply below_drew1) | exact HB.out)) hb); clear HB; have HB := n0_; clear n0_; (try clear hb); (try clear hb2); (try clear hk); (try clear hi)))
           go_ret
           exact ⟨by first | rfl | (simp [errW_none, errW_some] <;> rfl) | (simp [*, errW_none, errW_some] <;> rfl), by repeat (first | (with_reducible first | exact HB.out | apply below_alloc | apply pw_below_drewN | apply below_drew1) | exact HB.out)⟩
          ·
           replace c49 := Bool.eq_false_iff.mpr c49
           subst c49
           have H1 : (some false) = some r := by rw [if_neg (show ¬ (false = true) by decide)] at H; exact H
           clear H
           have H := H1
           clear H1
           exact absurd ((Option.some.inj H).trans HT.out) (by decide)
         ·
          rw [if_neg c47] at H
          have c47b0 : (t342 == 0) = false := beq_eq_false_iff_ne.mpr c47
          have c47b1 : (t342 != 0) = true := bne_iff_ne.mpr c47
          by_cases c54 : t341.toList = ([] : List UInt8)
          ·
           rw [if_pos c54] at H
           have c54b0 : (t341.toList == ([] : List UInt8)) = true := beq_iff_eq.mpr c54
           have c54b1 : (t341.toList != ([] : List UInt8)) = false := bne_eq_false_iff_eq.mpr c54
           clear c54
           obtain rfl := Option.some.inj H
           go_wp2_with (first | ((with_reducible refine gate_callee (f := 22) rfl ?_); refine goesL_ (some 62) rfl rfl Try.func22 (by kernel_rfl) rfl #[.string a1] rfl (by (try simp only [List.map_toArray, List.map_cons, List.map_nil]); first | done | rfl | (simp only [List.length_drop, List.length_take]; rfl)) ?_; (with_reducible refine (name_Read.calls kj35 a1 t341 t342 _ A46.out).mono ?_); rintro e w55 ⟨rfl, hb⟩; refine ⟨_, rfl, ?_⟩; have n0_ := Aside0.mk (below_step (by repeat (first | (with_reducible first | exact HB.out | apply below_alloc | apply pw_below_drewN | apply below_drew1) | exact HB.out)) hb); clear HB; have HB := n0_; clear n0_; (try clear hb); (try clear hb2); (try clear hk); (try clear hi)))
           go_ret
           exact ⟨by first | rfl | (simp [errW_none, errW_some] <;> rfl) | (simp [*, errW_none, errW_some] <;> rfl), by repeat (first | (with_reducible first | exact HB.out | apply below_alloc | apply pw_below_drewN | apply below_drew1) | exact HB.out)⟩
          ·
           rw [if_neg c54] at H
           have c54b0 : (t341.toList == ([] : List UInt8)) = false := beq_eq_false_iff_ne.mpr c54
           have c54b1 : (t341.toList != ([] : List UInt8)) = true := bne_iff_ne.mpr c54
           exact absurd ((Option.some.inj H).trans HT.out) (by decide)
 ·
  replace c4 := Bool.eq_false_iff.mpr c4
  subst c4
  have H1 : (some false) = some r := by rw [if_neg (show ¬ (false = true) by decide)] at H; exact H
  clear H
  have H := H1
  clear H1
  exact absurd ((Option.some.inj H).trans HT.out) (by decide)

/-- THE ONE PURE STATEMENT of nunciolaw04_NameBack: yours. -/
def nunciolaw04_NameBack.Pure : Prop := ∀ (a0 : ByteArray) (a1 : ByteArray), a0.size ≤ 140737488351232 → a1.size ≤ 140737488351232 → ∃ k, nunciolaw04_NameBack.f k a0 a1 = some true
theorem nunciolaw04_NameBack.walk (P : nunciolaw04_NameBack.Pure) (a0 : ByteArray) (a1 : ByteArray) (w : World) (w0 : a0.size ≤ 140737488351232) (w1 : a1.size ≤ 140737488351232) :
  Calls Try.prog 6 #[.string a0, .string a1] w fun e w' => e = .returned (.bool true) ∧ Below w.heap.size w w' := by
 obtain ⟨k, h⟩ := P a0 a1 w0 w1
 refine (nunciolaw04_NameBack.calls k a0 a1 true w h rfl).mono ?_
 rintro e w' ⟨rfl, hd⟩
 exact ⟨rfl, hd⟩

end Go.Proofs.Ytpnflloamidecaa.Mine
