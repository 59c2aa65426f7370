-- Written by this repo's own printer (wip/print), which builds on the kit's.
import Derived.Test.YtpnflloamidecaaMinex0
import Derived.Test.YtpnflloamidecaaMinex1
import Derived.Test.YtpnflloamidecaaMinex2
import Derived.Test.YtpnflloamidecaaMinex9
import Derived.Test.YtpnflloamidecaaMinex10
import Derived.Test.YtpnflloamidecaaMinex11
import Derived.Test.YtpnflloamidecaaMinex12
namespace Go.Proofs.Ytpnflloamidecaa.Mine
open Go.RowKit Go.Proofs.YtpnflloamidecaaW.PrintWords Go.Proofs.YtpnflloamidecaaW.PrintLast Go.Proofs.YtpnflloamidecaaW.PrintMore
attribute [local go_sem] max2_int min2_int max_two min_two max_three min_three max_four min_four   -- for this text's walks alone
set_option linter.unusedVariables false
set_option linter.unusedSimpArgs false

/-! ### nunciolaw04_NameMakes: function 3 -/
def nunciolaw04_NameMakes.j0 : Nat → List ByteArray → ByteArray → Bool → Option (Bool)
 | 0, _, _, _ => none
 | k + 1, x0, x1, x20 => if x20 = true then (some true) else ((some (([] : List ByteArray) : List ByteArray)).bind fun y208 => (if y208.length + x0.length < 8796093022208 then ((name_Make.f k (y208 ++ x0)).bind fun bt214 => ((nuncioref04_Make.f k x0).bind fun bt216 => ((nuncioref04_Labels.f k x1).bind fun bt218 => (if bt218.2 = true then (if bt214.1.toList = bt216.1.toList then (if bt214.2 = bt216.2 then ((name_Is.f k x1).bind fun t222 => (if (t222 == bt218.2) = true then ((name_Labels.f k x1).bind fun t223 => ((nunciolaw04_Same.f k t223 bt218.1).bind fun t226 => (some t226))) else (some false))) else (some false)) else (some false)) else (if bt214.1.toList = bt216.1.toList then (if bt214.2 = bt216.2 then ((name_Is.f k x1).bind fun t227 => (if (t227 == bt218.2) = true then ((name_Labels.f k x1).bind fun t228 => ((nunciolaw04_Same.f k t228 ([] : List ByteArray)).bind fun t231 => (some t231))) else (some false))) else (some false)) else (some false)))))) else (none)))
def nunciolaw04_NameMakes.f (k : Nat) (l0 : List ByteArray) (a1 : ByteArray) : Option (Bool) := (nunciolaw04_awake.f k).bind fun t206 => (if t206 = true then ((nunciolaw04_Few.f k l0).bind fun t207 => (if t207 = true then (nunciolaw04_NameMakes.j0 k l0 a1 (decide ((a1.size : Int) > 5000))) else (nunciolaw04_NameMakes.j0 k l0 a1 true))) else (some false))
theorem nunciolaw04_NameMakes.mono_l : ∀ k, (∀ y0 y1 y2, LeO (nunciolaw04_NameMakes.j0 k y0 y1 y2) (nunciolaw04_NameMakes.j0 (k + 1) y0 y1 y2))
 | 0 => fun _ _ _ r h => by simp [nunciolaw04_NameMakes.j0] at h
 | k + 1 => by
  have ih0 := nunciolaw04_NameMakes.mono_l k
  ·
   intro y0 y1 y2
   unfold nunciolaw04_NameMakes.j0
   repeat' first
   | (with_reducible exact ih0 _ _ _)
   | (with_reducible exact name_Is.mono _ _)
   | (with_reducible exact name_Labels.mono _ _)
   | (with_reducible exact name_Make.mono _ _)
   | (with_reducible exact nunciolaw04_Few.mono _ _)
   | (with_reducible exact nunciolaw04_Same.mono _ _ _)
   | (with_reducible exact nunciolaw04_awake.mono _)
   | (with_reducible exact nuncioref04_Labels.mono _ _)
   | (with_reducible exact nuncioref04_Make.mono _ _)
   | (with_reducible exact LeO.refl _)
   | (with_reducible exact LeO.none _)
   | (with_reducible refine LeO.ite ?_ ?_)
   | (with_reducible refine LeO.bind ?_ (fun _ => ?_))
   | exact ih0 _ _ _
   | exact name_Is.mono _ _
   | exact name_Labels.mono _ _
   | exact name_Make.mono _ _
   | exact nunciolaw04_Few.mono _ _
   | exact nunciolaw04_Same.mono _ _ _
   | exact nunciolaw04_awake.mono _
   | exact nuncioref04_Labels.mono _ _
   | exact nuncioref04_Make.mono _ _
   | exact LeO.none _
   | refine LeO.ite ?_ ?_
   | refine LeO.bind ?_ (fun _ => ?_)
theorem nunciolaw04_NameMakes.mono : ∀ a0 a1 k, LeO (nunciolaw04_NameMakes.f k a0 a1) (nunciolaw04_NameMakes.f (k + 1) a0 a1) := by
 intro a0 a1 k
 have ih0 := nunciolaw04_NameMakes.mono_l k
 unfold nunciolaw04_NameMakes.f
 repeat' first
   | (with_reducible exact ih0 _ _ _)
   | (with_reducible exact name_Is.mono _ _)
   | (with_reducible exact name_Labels.mono _ _)
   | (with_reducible exact name_Make.mono _ _)
   | (with_reducible exact nunciolaw04_Few.mono _ _)
   | (with_reducible exact nunciolaw04_Same.mono _ _ _)
   | (with_reducible exact nunciolaw04_awake.mono _)
   | (with_reducible exact nuncioref04_Labels.mono _ _)
   | (with_reducible exact nuncioref04_Make.mono _ _)
   | (with_reducible exact LeO.refl _)
   | (with_reducible exact LeO.none _)
   | (with_reducible refine LeO.ite ?_ ?_)
   | (with_reducible refine LeO.bind ?_ (fun _ => ?_))
   | exact ih0 _ _ _
   | exact name_Is.mono _ _
   | exact name_Labels.mono _ _
   | exact name_Make.mono _ _
   | exact nunciolaw04_Few.mono _ _
   | exact nunciolaw04_Same.mono _ _ _
   | exact nunciolaw04_awake.mono _
   | exact nuncioref04_Labels.mono _ _
   | exact nuncioref04_Make.mono _ _
   | exact LeO.none _
   | refine LeO.ite ?_ ?_
   | refine LeO.bind ?_ (fun _ => ?_)
set_option maxHeartbeats 8000000 in
set_option maxRecDepth 100000 in
theorem nunciolaw04_NameMakes.calls (k : Nat) (A0 : Option Addr) (c0 : Nat) (l0 : List ByteArray) (a1 : ByteArray) (r : Bool) (w : World) (hr0 : Kd.C Kd.string w A0 l0.length l0) (hc0 : l0.length ≤ c0) (h : nunciolaw04_NameMakes.f k l0 a1 = some r) (hT : r = true) :
  Calls Try.prog 3 #[.slice A0 l0.length c0, .string a1] w fun e w' => e = .returned (.bool r) ∧ Below w.heap.size w w' := by
 have HR0 := Aside0.mk hr0
 have HC0 := Aside0.mk hc0
 clear hr0 hc0
 have HB := Aside0.mk (Below.refl w.heap.size w)
 have HT := Aside0.mk hT
 clear hT
 have H : ((nunciolaw04_awake.f k).bind fun t206 => (if t206 = true then ((nunciolaw04_Few.f k l0).bind fun t207 => (if t207 = true then (nunciolaw04_NameMakes.j0 k l0 a1 (decide ((a1.size : Int) > 5000))) else (nunciolaw04_NameMakes.j0 k l0 a1 true))) else (some false))) = some r := h
 clear h
 replace H := Option.bind_eq_some_iff.mp H
 obtain ⟨t206, A30, H⟩ := H
 replace H : (if t206 = true then ((nunciolaw04_Few.f k l0).bind fun t207 => (if t207 = true then (nunciolaw04_NameMakes.j0 k l0 a1 (decide ((a1.size : Int) > 5000))) else (nunciolaw04_NameMakes.j0 k l0 a1 true))) else (some false)) = some r := H
 have A3 := Aside0.mk A30
 clear A30
 by_cases c4 : t206 = true
 ·
  subst c4
  have H1 : ((nunciolaw04_Few.f k l0).bind fun t207 => (if t207 = true then (nunciolaw04_NameMakes.j0 k l0 a1 (decide ((a1.size : Int) > 5000))) else (nunciolaw04_NameMakes.j0 k l0 a1 true))) = some r := by rw [if_pos rfl] at H; exact H
  clear H
  have H := H1
  clear H1
  have HC5 := Aside0.mk H
  clear H
  go_enter Try.func3, Try.ntmps3
  go_upto_region 3 with (first | ((with_reducible refine gate_callee (f := 8) rfl ?_); refine goesL_ (some 11) rfl rfl Try.func8 (by kernel_rfl) rfl #[] rfl (by (try simp only [List.map_toArray, List.map_cons, List.map_nil]); first | done | rfl | (simp only [List.length_drop, List.length_take]; rfl)) ?_; (with_reducible refine (nunciolaw04_awake.calls k  true _ A3.out).mono ?_); rintro e w6 ⟨rfl, hb⟩; refine ⟨_, rfl, ?_⟩; have n0_ := Aside0.mk (below_step (by repeat (first | (with_reducible first | exact HB.out | apply below_alloc | apply pw_below_drewN | apply below_drew1) | exact HB.out)) hb); clear HB; have HB := n0_; clear n0_; (try clear hb); (try clear hb2); (try clear hk); (try clear hi)))
  (try simp only [Act.put, List.setIfInBounds_toArray, List.set_cons_zero, List.set_cons_succ])
  go_cut [20] (fun v20 wc => ∃ (kq : Nat) (x20_4 : Bool), v20 = .bool x20_4 ∧ Aside0 (nunciolaw04_NameMakes.j0 kq l0 a1 x20_4 = some r) ∧ Aside0 (kq ≤ k) ∧ Aside0 (Below w.heap.size w wc))
  case first =>
   have H := HC5.out
   clear HC5
   replace H := Option.bind_eq_some_iff.mp H
   obtain ⟨t207, A70, H⟩ := H
   replace H : (if t207 = true then (nunciolaw04_NameMakes.j0 k l0 a1 (decide ((a1.size : Int) > 5000))) else (nunciolaw04_NameMakes.j0 k l0 a1 true)) = some r := H
   have A7 := Aside0.mk A70
   clear A70
   by_cases c8 : t207 = true
   ·
    subst c8
    have H1 : (nunciolaw04_NameMakes.j0 k l0 a1 (decide ((a1.size : Int) > 5000))) = some r := by rw [if_pos rfl] at H; exact H
    clear H
    have H := H1
    clear H1
    have H' := Aside0.mk H
    clear H
    go_wp2_with (first | ((with_reducible refine gate_callee (f := 9) rfl ?_); refine goesL_ (some 14) rfl rfl Try.func9 (by kernel_rfl) rfl #[.slice A0 l0.length c0] rfl (by (try simp only [List.map_toArray, List.map_cons, List.map_nil]); first | done | rfl | (simp only [List.length_drop, List.length_take]; rfl)) ?_; (with_reducible refine (nunciolaw04_Few.calls k _ _ l0 true _ ?side1 ?side2 A7.out).mono ?_); (case side1 => repeat (first | exact (Kd.C_below HR0.out HB.out) | (with_reducible refine Kd.C_alloc ?_ _) | (with_reducible refine Kd.C_drewN ?_ _) | (with_reducible refine Kd.C_drew ?_))); (case side2 => exact HC0.out); rintro e w9 ⟨rfl, hb⟩; refine ⟨_, rfl, ?_⟩; have n0_ := Aside0.mk (below_step (by repeat (first | (with_reducible first | exact HB.out | apply below_alloc | apply pw_below_drewN | apply below_drew1) | exact HB.out)) hb); clear HB; have HB := n0_; clear n0_; (try clear hb); (try clear hb2); (try clear hk); (try clear hi)))
    go_meet
    case rel => exact ⟨_, (decide ((a1.size : Int) > 5000)), (by first | rfl | (simp; done) | (simp [*]; done)), H', ⟨by first | omega | exact Nat.le_refl _⟩, ⟨by repeat (first | (with_reducible first | exact HB.out | apply below_alloc | apply pw_below_drewN | apply below_drew1) | exact HB.out)⟩⟩
   ·
    replace c8 := Bool.eq_false_iff.mpr c8
    subst c8
    have H1 : (nunciolaw04_NameMakes.j0 k l0 a1 true) = some r := by rw [if_neg (show ¬ (false = true) by decide)] at H; exact H
    clear H
    have H := H1
    clear H1
    have H' := Aside0.mk H
    clear H
    go_wp2_with (first | ((with_reducible refine gate_callee (f := 9) rfl ?_); refine goesL_ (some 14) rfl rfl Try.func9 (by kernel_rfl) rfl #[.slice A0 l0.length c0] rfl (by (try simp only [List.map_toArray, List.map_cons, List.map_nil]); first | done | rfl | (simp only [List.length_drop, List.length_take]; rfl)) ?_; (with_reducible refine (nunciolaw04_Few.calls k _ _ l0 false _ ?side1 ?side2 A7.out).mono ?_); (case side1 => repeat (first | exact (Kd.C_below HR0.out HB.out) | (with_reducible refine Kd.C_alloc ?_ _) | (with_reducible refine Kd.C_drewN ?_ _) | (with_reducible refine Kd.C_drew ?_))); (case side2 => exact HC0.out); rintro e w10 ⟨rfl, hb⟩; refine ⟨_, rfl, ?_⟩; have n0_ := Aside0.mk (below_step (by repeat (first | (with_reducible first | exact HB.out | apply below_alloc | apply pw_below_drewN | apply below_drew1) | exact HB.out)) hb); clear HB; have HB := n0_; clear n0_; (try clear hb); (try clear hb2); (try clear hk); (try clear hi)))
    go_meet
    case rel => exact ⟨_, (true), (by first | rfl | (simp; done) | (simp [*]; done)), H', ⟨by first | omega | exact Nat.le_refl _⟩, ⟨by repeat (first | (with_reducible first | exact HB.out | apply below_alloc | apply pw_below_drewN | apply below_drew1) | exact HB.out)⟩⟩
  case rest =>
   clear HC5
   try clear p2
   try clear c3
   try clear c4
   try clear c8
   try clear c9
   obtain ⟨kq, x20_4, rfl, HA, HJ4, HB⟩ := hcut
   cases kq with
   | zero => exact absurd HA.out (by simp [nunciolaw04_NameMakes.j0])
   | succ kj4 =>
    have H := HA.out
    clear HA
    simp only [nunciolaw04_NameMakes.j0] at H
    by_cases c11 : x20_4 = true
    ·
     subst c11
     have H1 : (some true) = some r := by rw [if_pos rfl] at H; exact H
     clear H
     have H := H1
     clear H1
     obtain rfl := Option.some.inj H
     go_wp2
     go_ret
     exact ⟨by first | rfl | (simp [errW_none, errW_some] <;> rfl) | (simp [*, errW_none, errW_some] <;> rfl), by repeat (first | (with_reducible first | exact HB.out | apply below_alloc | apply pw_below_drewN | apply below_drew1) | exact HB.out)⟩
    ·
     replace c11 := Bool.eq_false_iff.mpr c11
     subst c11
     have H1 : ((some (([] : List ByteArray) : List ByteArray)).bind fun y208 => (if y208.length + l0.length < 8796093022208 then ((name_Make.f kj4 (y208 ++ l0)).bind fun bt214 => ((nuncioref04_Make.f kj4 l0).bind fun bt216 => ((nuncioref04_Labels.f kj4 a1).bind fun bt218 => (if bt218.2 = true then (if bt214.1.toList = bt216.1.toList then (if bt214.2 = bt216.2 then ((name_Is.f kj4 a1).bind fun t222 => (if (t222 == bt218.2) = true then ((name_Labels.f kj4 a1).bind fun t223 => ((nunciolaw04_Same.f kj4 t223 bt218.1).bind fun t226 => (some t226))) else (some false))) else (some false)) else (some false)) else (if bt214.1.toList = bt216.1.toList then (if bt214.2 = bt216.2 then ((name_Is.f kj4 a1).bind fun t227 => (if (t227 == bt218.2) = true then ((name_Labels.f kj4 a1).bind fun t228 => ((nunciolaw04_Same.f kj4 t228 ([] : List ByteArray)).bind fun t231 => (some t231))) else (some false))) else (some false)) else (some false)))))) else (none))) = some r := by rw [if_neg (show ¬ (false = true) by decide)] at H; exact H
     clear H
     have H := H1
     clear H1
     obtain ⟨y208, hy208⟩ : ∃ y_ : List ByteArray, y_ = (([] : List ByteArray)) := ⟨_, rfl⟩
     replace H : (if y208.length + l0.length < 8796093022208 then ((name_Make.f kj4 (y208 ++ l0)).bind fun bt214 => ((nuncioref04_Make.f kj4 l0).bind fun bt216 => ((nuncioref04_Labels.f kj4 a1).bind fun bt218 => (if bt218.2 = true then (if bt214.1.toList = bt216.1.toList then (if bt214.2 = bt216.2 then ((name_Is.f kj4 a1).bind fun t222 => (if (t222 == bt218.2) = true then ((name_Labels.f kj4 a1).bind fun t223 => ((nunciolaw04_Same.f kj4 t223 bt218.1).bind fun t226 => (some t226))) else (some false))) else (some false)) else (some false)) else (if bt214.1.toList = bt216.1.toList then (if bt214.2 = bt216.2 then ((name_Is.f kj4 a1).bind fun t227 => (if (t227 == bt218.2) = true then ((name_Labels.f kj4 a1).bind fun t228 => ((nunciolaw04_Same.f kj4 t228 ([] : List ByteArray)).bind fun t231 => (some t231))) else (some false))) else (some false)) else (some false)))))) else (none)) = some r := by first | (rw [hy208]; with_reducible exact H) | (have H2_ := (Option.bind_some _ _).symm.trans H; rw [hy208]; with_reducible exact H2_) | (have H2_ := (Option.bind_some _ _).symm.trans H; with_reducible exact H2_) | with_reducible exact H | (rw [hy208]; exact H) | exact H
     have Ny208 := Aside0.mk hy208
     clear hy208
     by_cases c12 : y208.length + l0.length < 8796093022208
     ·
      rw [if_pos c12] at H
      have LMc12 := Aside0.mk c12
      clear c12
      obtain ⟨y211, hy211⟩ : ∃ y_ : List ByteArray, y_ = (y208 ++ l0) := ⟨_, rfl⟩
      replace H : ((name_Make.f kj4 y211).bind fun bt214 => ((nuncioref04_Make.f kj4 l0).bind fun bt216 => ((nuncioref04_Labels.f kj4 a1).bind fun bt218 => (if bt218.2 = true then (if bt214.1.toList = bt216.1.toList then (if bt214.2 = bt216.2 then ((name_Is.f kj4 a1).bind fun t222 => (if (t222 == bt218.2) = true then ((name_Labels.f kj4 a1).bind fun t223 => ((nunciolaw04_Same.f kj4 t223 bt218.1).bind fun t226 => (some t226))) else (some false))) else (some false)) else (some false)) else (if bt214.1.toList = bt216.1.toList then (if bt214.2 = bt216.2 then ((name_Is.f kj4 a1).bind fun t227 => (if (t227 == bt218.2) = true then ((name_Labels.f kj4 a1).bind fun t228 => ((nunciolaw04_Same.f kj4 t228 ([] : List ByteArray)).bind fun t231 => (some t231))) else (some false))) else (some false)) else (some false)))))) = some r := by first | (rw [hy211]; with_reducible exact H) | (have H2_ := (Option.bind_some _ _).symm.trans H; rw [hy211]; with_reducible exact H2_) | (have H2_ := (Option.bind_some _ _).symm.trans H; with_reducible exact H2_) | with_reducible exact H | (rw [hy211]; exact H) | exact H
      have Ny211 := Aside0.mk hy211
      clear hy211
      replace H := Option.bind_eq_some_iff.mp H
      obtain ⟨⟨t214, t215⟩, A130, H⟩ := H
      replace H : ((nuncioref04_Make.f kj4 l0).bind fun bt216 => ((nuncioref04_Labels.f kj4 a1).bind fun bt218 => (if bt218.2 = true then (if t214.toList = bt216.1.toList then (if t215 = bt216.2 then ((name_Is.f kj4 a1).bind fun t222 => (if (t222 == bt218.2) = true then ((name_Labels.f kj4 a1).bind fun t223 => ((nunciolaw04_Same.f kj4 t223 bt218.1).bind fun t226 => (some t226))) else (some false))) else (some false)) else (some false)) else (if t214.toList = bt216.1.toList then (if t215 = bt216.2 then ((name_Is.f kj4 a1).bind fun t227 => (if (t227 == bt218.2) = true then ((name_Labels.f kj4 a1).bind fun t228 => ((nunciolaw04_Same.f kj4 t228 ([] : List ByteArray)).bind fun t231 => (some t231))) else (some false))) else (some false)) else (some false))))) = some r := H
      have A13 := Aside0.mk A130
      clear A130
      replace H := Option.bind_eq_some_iff.mp H
      obtain ⟨⟨t216, t217⟩, A140, H⟩ := H
      replace H : ((nuncioref04_Labels.f kj4 a1).bind fun bt218 => (if bt218.2 = true then (if t214.toList = t216.toList then (if t215 = t217 then ((name_Is.f kj4 a1).bind fun t222 => (if (t222 == bt218.2) = true then ((name_Labels.f kj4 a1).bind fun t223 => ((nunciolaw04_Same.f kj4 t223 bt218.1).bind fun t226 => (some t226))) else (some false))) else (some false)) else (some false)) else (if t214.toList = t216.toList then (if t215 = t217 then ((name_Is.f kj4 a1).bind fun t227 => (if (t227 == bt218.2) = true then ((name_Labels.f kj4 a1).bind fun t228 => ((nunciolaw04_Same.f kj4 t228 ([] : List ByteArray)).bind fun t231 => (some t231))) else (some false))) else (some false)) else (some false)))) = some r := H
      have A14 := Aside0.mk A140
      clear A140
      replace H := Option.bind_eq_some_iff.mp H
      obtain ⟨⟨t218, t219⟩, A150, H⟩ := H
      replace H : (if t219 = true then (if t214.toList = t216.toList then (if t215 = t217 then ((name_Is.f kj4 a1).bind fun t222 => (if (t222 == t219) = true then ((name_Labels.f kj4 a1).bind fun t223 => ((nunciolaw04_Same.f kj4 t223 t218).bind fun t226 => (some t226))) else (some false))) else (some false)) else (some false)) else (if t214.toList = t216.toList then (if t215 = t217 then ((name_Is.f kj4 a1).bind fun t227 => (if (t227 == t219) = true then ((name_Labels.f kj4 a1).bind fun t228 => ((nunciolaw04_Same.f kj4 t228 ([] : List ByteArray)).bind fun t231 => (some t231))) else (some false))) else (some false)) else (some false))) = some r := H
      have A15 := Aside0.mk A150
      clear A150
      by_cases c16 : t219 = true
      ·
       subst c16
       have H1 : (if t214.toList = t216.toList then (if t215 = t217 then ((name_Is.f kj4 a1).bind fun t222 => (if (t222 == true) = true then ((name_Labels.f kj4 a1).bind fun t223 => ((nunciolaw04_Same.f kj4 t223 t218).bind fun t226 => (some t226))) else (some false))) else (some false)) else (some false)) = some r := by rw [if_pos rfl] at H; exact H
       clear H
       have H := H1
       clear H1
       by_cases c17 : t214.toList = t216.toList
       ·
        rw [if_pos c17] at H
        have c17b0 : (t214.toList == t216.toList) = true := beq_iff_eq.mpr c17
        have c17b1 : (t214.toList != t216.toList) = false := bne_eq_false_iff_eq.mpr c17
        clear c17
        by_cases c18 : t215 = t217
        ·
         rw [if_pos c18] at H
         have c18b0 : (t215 == t217) = true := beq_iff_eq.mpr c18
         have c18b1 : (t215 != t217) = false := bne_eq_false_iff_eq.mpr c18
         clear c18
         replace H := Option.bind_eq_some_iff.mp H
         obtain ⟨t222, A190, H⟩ := H
         replace H : (if (t222 == true) = true then ((name_Labels.f kj4 a1).bind fun t223 => ((nunciolaw04_Same.f kj4 t223 t218).bind fun t226 => (some t226))) else (some false)) = some r := H
         have A19 := Aside0.mk A190
         clear A190
         by_cases c20 : (t222 == true) = true
         ·
          rw [if_pos c20] at H
          have c20b0 : (t222 == true) = true := c20
          (try (have c20b1 : decide (t222 = true) = true := by simpa using c20))
          (try (have c20b2 : (t222 == true) = true := by simpa using c20))
          clear c20
          replace H := Option.bind_eq_some_iff.mp H
          obtain ⟨t223, A210, H⟩ := H
          replace H : ((nunciolaw04_Same.f kj4 t223 t218).bind fun t226 => (some t226)) = some r := H
          have A21 := Aside0.mk A210
          clear A210
          replace H := Option.bind_eq_some_iff.mp H
          obtain ⟨t226, A220, H⟩ := H
          replace H : (some t226) = some r := H
          have A22 := Aside0.mk A220
          clear A220
          obtain rfl := Option.some.inj H
          go_wp2_with (first | ((with_reducible refine gate_dst (N := 22) rfl ?_); (try (refine gate_guard (by rfl) ?_; dsimp only)); refine Kd.R_lit Kd.string _ 9 ?hg (N := 22) ?hd (xs := ([] : List ByteArray)) (inner := []) (ok := fun _ => True) (okp := fun _ => True) ?hr ?hp (fun _ hk => hk) trivial (Below.refl _ _) (Nat.le_refl _) (by simp) ?_; (case hd => rfl); (case hg => rfl); (case hr => first | (go_simp; done) | (go_simp; rfl)); (case hp => exact (Reps.none _ _)); intro v209 w23 ho24 hb hg_ hnew_; clear hg_ hnew_; (first | rw [← Ny208.out] at ho24 | (simp only [Int.reduceToNat] at ho24; rw [← Ny208.out] at ho24)); have n0_ := Aside0.mk (Kd.R_lower ho24 (below_size (by repeat (first | (with_reducible first | exact HB.out | apply below_alloc | apply pw_below_drewN | apply below_drew1) | exact HB.out)))); have n1_ := Aside0.mk (below_step (by repeat (first | (with_reducible first | exact HB.out | apply below_alloc | apply pw_below_drewN | apply below_drew1) | exact HB.out)) hb); clear HB; have HO210 := n0_; have HB := n1_; clear n0_ n1_; clear hb ho24) | ((with_reducible refine gate_builtin (b := .append) (xs := #[.tmp 22, .tmp 23]) rfl ?_); (try (refine gate_guard (by rfl) ?_; dsimp only)); at_builtin; refine Kd.R_append_rows Kd.string (w0 := w) w.heap.size rfl (.tmp 22) (.tmp 23) 22 9 (.string ⟨#[]⟩) 16 rfl Try.underlying22 info9 rfl (by decide) (by omega) v209 y208 l0 _ _ _ (fun _ => True) (fun _ => False) rfl rfl ?aO ?aR (fun _ _ h => h) (fun _ h => h.elim) ?aF ?aB ?aS ?aL ?_; (case aR => repeat (first | exact (Kd.C_below HR0.out HB.out) | (with_reducible refine Kd.C_alloc ?_ _) | (with_reducible refine Kd.C_drewN ?_ _) | (with_reducible refine Kd.C_drew ?_))); (case aB => exact (by repeat (first | (with_reducible first | exact HB.out | apply below_alloc | apply pw_below_drewN | apply below_drew1) | exact HB.out))); (case aF => exact (fun _ _ => trivial)); (case aO => exact (by (with_reducible repeat (first | apply Kd.R_alloc | apply Kd.R_drewN | apply Kd.R_drew)); exact HO210.out)); (case aS => exact (below_size (by repeat (first | (with_reducible first | exact HB.out | apply below_alloc | apply pw_below_drewN | apply below_drew1) | exact HB.out)))); (case aL => have := LMc12.out; omega); intro v212 w25 ho hb hg hat; rw [← Ny211.out] at ho; have n0_ := Aside0.mk (hb); have n1_ := Aside0.mk (ho); clear HB; clear HO210; have HB := n0_; have HO213 := n1_; clear n0_ n1_; clear ho hb hg hat; obtain ⟨Ao26, co26, eo26⟩ := Kd.R_slice HO213.out; subst eo26) | ((with_reducible refine gate_callee (f := 10) rfl ?_); refine goesL_ (some 25) rfl rfl Try.func10 (by kernel_rfl) rfl #[.slice Ao26 y211.length co26] rfl (by (try simp only [List.map_toArray, List.map_cons, List.map_nil]); first | done | rfl | (simp only [List.length_drop, List.length_take]; rfl)) ?_; (with_reducible refine (name_Make.calls kj4 _ _ y211 t214 t215 _ ?side1 ?side2 A13.out).mono ?_); (case side1 => repeat (first | exact (Kd.R_reads' HO213.out).2.2 | (with_reducible refine Kd.C_alloc ?_ _) | (with_reducible refine Kd.C_drewN ?_ _) | (with_reducible refine Kd.C_drew ?_))); (case side2 => exact (Kd.R_reads' HO213.out).2.1); rintro e w27 ⟨rfl, hb⟩; refine ⟨_, rfl, ?_⟩; have n0_ := Aside0.mk (Kd.R_below (by (with_reducible repeat (first | apply Kd.R_alloc | apply Kd.R_drewN | apply Kd.R_drew)); exact HO213.out) hb); have n1_ := Aside0.mk (below_step (by repeat (first | (with_reducible first | exact HB.out | apply below_alloc | apply pw_below_drewN | apply below_drew1) | exact HB.out)) hb); clear HO213; clear HB; have HO213 := n0_; have HB := n1_; clear n0_ n1_; (try clear hb); (try clear hb2); (try clear hk); (try clear hi)) | ((with_reducible refine gate_callee (f := 11) rfl ?_); refine goesL_ (some 30) rfl rfl Try.func11 (by kernel_rfl) rfl #[.slice A0 l0.length c0] rfl (by (try simp only [List.map_toArray, List.map_cons, List.map_nil]); first | done | rfl | (simp only [List.length_drop, List.length_take]; rfl)) ?_; (with_reducible refine (nuncioref04_Make.calls kj4 _ _ l0 t216 t217 _ ?side1 ?side2 A14.out).mono ?_); (case side1 => repeat (first | exact (Kd.C_below HR0.out HB.out) | (with_reducible refine Kd.C_alloc ?_ _) | (with_reducible refine Kd.C_drewN ?_ _) | (with_reducible refine Kd.C_drew ?_))); (case side2 => exact HC0.out); rintro e w28 ⟨rfl, hb⟩; refine ⟨_, rfl, ?_⟩; have n0_ := Aside0.mk (Kd.R_below (by (with_reducible repeat (first | apply Kd.R_alloc | apply Kd.R_drewN | apply Kd.R_drew)); exact HO213.out) hb); have n1_ := Aside0.mk (below_step (by repeat (first | (with_reducible first | exact HB.out | apply below_alloc | apply pw_below_drewN | apply below_drew1) | exact HB.out)) hb); clear HO213; clear HB; have HO213 := n0_; have HB := n1_; clear n0_ n1_; (try clear hb); (try clear hb2); (try clear hk); (try clear hi)) | ((with_reducible refine gate_callee (f := 12) rfl ?_); refine goesL_ (some 35) rfl rfl Try.func12 (by kernel_rfl) rfl #[.string a1] rfl (by (try simp only [List.map_toArray, List.map_cons, List.map_nil]); first | done | rfl | (simp only [List.length_drop, List.length_take]; rfl)) ?_; (with_reducible refine (nuncioref04_Labels.calls kj4 a1 t218 true _ A15.out).mono ?_); rintro e w29 ⟨v220, rfl, ho0, hb⟩; refine ⟨_, rfl, ?_⟩; have n0_ := Aside0.mk (Kd.R_elder' (by (with_reducible repeat (first | apply Kd.R_alloc | apply Kd.R_drewN | apply Kd.R_drew)); exact HO213.out) (Kd.R_base ho0) hb); have n1_ := Aside0.mk (Kd.R_lower (Kd.R_new' ho0 (Kd.R_lt (by (with_reducible repeat (first | apply Kd.R_alloc | apply Kd.R_drewN | apply Kd.R_drew)); exact HO213.out))) (below_size (by repeat (first | (with_reducible first | exact HB.out | apply below_alloc | apply pw_below_drewN | apply below_drew1) | exact HB.out)))); have n2_ := Aside0.mk (below_step (by repeat (first | (with_reducible first | exact HB.out | apply below_alloc | apply pw_below_drewN | apply below_drew1) | exact HB.out)) hb); clear HO213; clear HB; have HO213 := n0_; have HO221 := n1_; have HB := n2_; clear n0_ n1_ n2_; (try clear hb); (try clear hb2); (try clear hk); (try clear hi); (try clear ho0)) | (go_at_call 13; (with_reducible refine (name_Is.calls kj4 a1 t222 _ A19.out).mono ?_); rintro e w30 ⟨rfl, hb⟩; have n0_ := Aside0.mk (Kd.R_below (by (with_reducible repeat (first | apply Kd.R_alloc | apply Kd.R_drewN | apply Kd.R_drew)); exact HO213.out) hb); have n1_ := Aside0.mk (Kd.R_below (by (with_reducible repeat (first | apply Kd.R_alloc | apply Kd.R_drewN | apply Kd.R_drew)); exact HO221.out) hb); have n2_ := Aside0.mk (below_step (by repeat (first | (with_reducible first | exact HB.out | apply below_alloc | apply pw_below_drewN | apply below_drew1) | exact HB.out)) hb); clear HO213; clear HO221; clear HB; have HO213 := n0_; have HO221 := n1_; have HB := n2_; clear n0_ n1_ n2_; (try clear hb); (try clear hb2); (try clear hk); (try clear hi)) | (go_at_call 15; (with_reducible refine (name_Labels.calls kj4 a1 t223 _ A21.out).mono ?_); rintro e w31 ⟨v224, rfl, ho0, hb⟩; have n0_ := Aside0.mk (Kd.R_elder' (by (with_reducible repeat (first | apply Kd.R_alloc | apply Kd.R_drewN | apply Kd.R_drew)); exact HO213.out) (Kd.R_base ho0) hb); have n1_ := Aside0.mk (Kd.R_elder' (by (with_reducible repeat (first | apply Kd.R_alloc | apply Kd.R_drewN | apply Kd.R_drew)); exact HO221.out) (Kd.R_base ho0) hb); have n2_ := Aside0.mk (Kd.R_lower (Kd.R_new' (Kd.R_new' ho0 (Kd.R_lt (by (with_reducible repeat (first | apply Kd.R_alloc | apply Kd.R_drewN | apply Kd.R_drew)); exact HO213.out))) (Kd.R_lt (by (with_reducible repeat (first | apply Kd.R_alloc | apply Kd.R_drewN | apply Kd.R_drew)); exact HO221.out))) (below_size (by repeat (first | (with_reducible first | exact HB.out | apply below_alloc | apply pw_below_drewN | apply below_drew1) | exact HB.out)))); have n3_ := Aside0.mk (below_step (by repeat (first | (with_reducible first | exact HB.out | apply below_alloc | apply pw_below_drewN | apply below_drew1) | exact HB.out)) hb); clear HO213; clear HO221; clear HB; have HO213 := n0_; have HO221 := n1_; have HO225 := n2_; have HB := n3_; clear n0_ n1_ n2_ n3_; (try clear hb); (try clear hb2); (try clear hk); (try clear hi); (try clear ho0); obtain ⟨Ao32, co32, eo32⟩ := Kd.R_slice HO225.out; subst eo32; obtain ⟨Ao33, co33, eo33⟩ := Kd.R_slice HO221.out; subst eo33) | (go_at_call 14; (with_reducible refine (nunciolaw04_Same.calls kj4 _ _ t223 _ _ t218 t226 _ ?side1 ?side2 ?side3 ?side4 A22.out).mono ?_); (case side1 => repeat (first | exact (Kd.R_reads' HO225.out).2.2 | (with_reducible refine Kd.C_alloc ?_ _) | (with_reducible refine Kd.C_drewN ?_ _) | (with_reducible refine Kd.C_drew ?_))); (case side2 => exact (Kd.R_reads' HO225.out).2.1); (case side3 => repeat (first | exact (Kd.R_reads' HO221.out).2.2 | (with_reducible refine Kd.C_alloc ?_ _) | (with_reducible refine Kd.C_drewN ?_ _) | (with_reducible refine Kd.C_drew ?_))); (case side4 => exact (Kd.R_reads' HO221.out).2.1); rintro e w' ⟨rfl, ⟨nd, rfl⟩⟩))
          go_ret
          exact ⟨by first | rfl | (simp [errW_none, errW_some] <;> rfl) | (simp [*, errW_none, errW_some] <;> rfl), by repeat (first | (with_reducible first | exact HB.out | apply below_alloc | apply pw_below_drewN | apply below_drew1) | exact HB.out)⟩
         ·
          rw [if_neg c20] at H
          have c20b0 : (t222 == true) = false := by simpa using c20
          (try (have c20b1 : decide (t222 = true) = false := by simpa using c20))
          (try (have c20b2 : (t222 == true) = false := by simpa using c20))
          (try (have c20b3 : ¬ (t222 = true) := by simpa using c20))
          clear c20
          exact absurd ((Option.some.inj H).trans HT.out) (by decide)
        ·
         rw [if_neg c18] at H
         have c18b0 : (t215 == t217) = false := beq_eq_false_iff_ne.mpr c18
         have c18b1 : (t215 != t217) = true := bne_iff_ne.mpr c18
         exact absurd ((Option.some.inj H).trans HT.out) (by decide)
       ·
        rw [if_neg c17] at H
        have c17b0 : (t214.toList == t216.toList) = false := beq_eq_false_iff_ne.mpr c17
        have c17b1 : (t214.toList != t216.toList) = true := bne_iff_ne.mpr c17
        exact absurd ((Option.some.inj H).trans HT.out) (by decide)
      ·
       replace c16 := Bool.eq_false_iff.mpr c16
       subst c16
       have H1 : (if t214.toList = t216.toList then (if t215 = t217 then ((name_Is.f kj4 a1).bind fun t227 => (if (t227 == false) = true then ((name_Labels.f kj4 a1).bind fun t228 => ((nunciolaw04_Same.f kj4 t228 ([] : List ByteArray)).bind fun t231 => (some t231))) else (some false))) else (some false)) else (some false)) = some r := by rw [if_neg (show ¬ (false = true) by decide)] at H; exact H
       clear H
       have H := H1
       clear H1
       by_cases c34 : t214.toList = t216.toList
       ·
        rw [if_pos c34] at H
        have c34b0 : (t214.toList == t216.toList) = true := beq_iff_eq.mpr c34
        have c34b1 : (t214.toList != t216.toList) = false := bne_eq_false_iff_eq.mpr c34
        clear c34
        by_cases c35 : t215 = t217
        ·
         rw [if_pos c35] at H
         have c35b0 : (t215 == t217) = true := beq_iff_eq.mpr c35
         have c35b1 : (t215 != t217) = false := bne_eq_false_iff_eq.mpr c35
         clear c35
         replace H := Option.bind_eq_some_iff.mp H
         obtain ⟨t227, A360, H⟩ := H
         replace H : (if (t227 == false) = true then ((name_Labels.f kj4 a1).bind fun t228 => ((nunciolaw04_Same.f kj4 t228 ([] : List ByteArray)).bind fun t231 => (some t231))) else (some false)) = some r := H
         have A36 := Aside0.mk A360
         clear A360
         by_cases c37 : (t227 == false) = true
         ·
          rw [if_pos c37] at H
          have c37b0 : (t227 == false) = true := c37
          (try (have c37b1 : decide (t227 = false) = true := by simpa using c37))
          (try (have c37b2 : (t227 == false) = true := by simpa using c37))
          clear c37
          replace H := Option.bind_eq_some_iff.mp H
          obtain ⟨t228, A380, H⟩ := H
          replace H : ((nunciolaw04_Same.f kj4 t228 ([] : List ByteArray)).bind fun t231 => (some t231)) = some r := H
          have A38 := Aside0.mk A380
          clear A380
          replace H := Option.bind_eq_some_iff.mp H
          obtain ⟨t231, A390, H⟩ := H
          replace H : (some t231) = some r := H
          have A39 := Aside0.mk A390
          clear A390
          obtain rfl := Option.some.inj H
          go_wp2_with (first | ((with_reducible refine gate_dst (N := 22) rfl ?_); (try (refine gate_guard (by rfl) ?_; dsimp only)); refine Kd.R_lit Kd.string _ 9 ?hg (N := 22) ?hd (xs := ([] : List ByteArray)) (inner := []) (ok := fun _ => True) (okp := fun _ => True) ?hr ?hp (fun _ hk => hk) trivial (Below.refl _ _) (Nat.le_refl _) (by simp) ?_; (case hd => rfl); (case hg => rfl); (case hr => first | (go_simp; done) | (go_simp; rfl)); (case hp => exact (Reps.none _ _)); intro v209 w40 ho41 hb hg_ hnew_; clear hg_ hnew_; (first | rw [← Ny208.out] at ho41 | (simp only [Int.reduceToNat] at ho41; rw [← Ny208.out] at ho41)); have n0_ := Aside0.mk (Kd.R_lower ho41 (below_size (by repeat (first | (with_reducible first | exact HB.out | apply below_alloc | apply pw_below_drewN | apply below_drew1) | exact HB.out)))); have n1_ := Aside0.mk (below_step (by repeat (first | (with_reducible first | exact HB.out | apply below_alloc | apply pw_below_drewN | apply below_drew1) | exact HB.out)) hb); clear HB; have HO210 := n0_; have HB := n1_; clear n0_ n1_; clear hb ho41) | ((with_reducible refine gate_builtin (b := .append) (xs := #[.tmp 22, .tmp 23]) rfl ?_); (try (refine gate_guard (by rfl) ?_; dsimp only)); at_builtin; refine Kd.R_append_rows Kd.string (w0 := w) w.heap.size rfl (.tmp 22) (.tmp 23) 22 9 (.string ⟨#[]⟩) 16 rfl Try.underlying22 info9 rfl (by decide) (by omega) v209 y208 l0 _ _ _ (fun _ => True) (fun _ => False) rfl rfl ?aO ?aR (fun _ _ h => h) (fun _ h => h.elim) ?aF ?aB ?aS ?aL ?_; (case aR => repeat (first | exact (Kd.C_below HR0.out HB.out) | (with_reducible refine Kd.C_alloc ?_ _) | (with_reducible refine Kd.C_drewN ?_ _) | (with_reducible refine Kd.C_drew ?_))); (case aB => exact (by repeat (first | (with_reducible first | exact HB.out | apply below_alloc | apply pw_below_drewN | apply below_drew1) | exact HB.out))); (case aF => exact (fun _ _ => trivial)); (case aO => exact (by (with_reducible repeat (first | apply Kd.R_alloc | apply Kd.R_drewN | apply Kd.R_drew)); exact HO210.out)); (case aS => exact (below_size (by repeat (first | (with_reducible first | exact HB.out | apply below_alloc | apply pw_below_drewN | apply below_drew1) | exact HB.out)))); (case aL => have := LMc12.out; omega); intro v212 w42 ho hb hg hat; rw [← Ny211.out] at ho; have n0_ := Aside0.mk (hb); have n1_ := Aside0.mk (ho); clear HB; clear HO210; have HB := n0_; have HO213 := n1_; clear n0_ n1_; clear ho hb hg hat; obtain ⟨Ao43, co43, eo43⟩ := Kd.R_slice HO213.out; subst eo43) | ((with_reducible refine gate_callee (f := 10) rfl ?_); refine goesL_ (some 25) rfl rfl Try.func10 (by kernel_rfl) rfl #[.slice Ao43 y211.length co43] rfl (by (try simp only [List.map_toArray, List.map_cons, List.map_nil]); first | done | rfl | (simp only [List.length_drop, List.length_take]; rfl)) ?_; (with_reducible refine (name_Make.calls kj4 _ _ y211 t214 t215 _ ?side1 ?side2 A13.out).mono ?_); (case side1 => repeat (first | exact (Kd.R_reads' HO213.out).2.2 | (with_reducible refine Kd.C_alloc ?_ _) | (with_reducible refine Kd.C_drewN ?_ _) | (with_reducible refine Kd.C_drew ?_))); (case side2 => exact (Kd.R_reads' HO213.out).2.1); rintro e w44 ⟨rfl, hb⟩; refine ⟨_, rfl, ?_⟩; have n0_ := Aside0.mk (Kd.R_below (by (with_reducible repeat (first | apply Kd.R_alloc | apply Kd.R_drewN | apply Kd.R_drew)); exact HO213.out) hb); have n1_ := Aside0.mk (below_step (by repeat (first | (with_reducible first | exact HB.out | apply below_alloc | apply pw_below_drewN | apply below_drew1) | exact HB.out)) hb); clear HO213; clear HB; have HO213 := n0_; have HB := n1_; clear n0_ n1_; (try clear hb); (try clear hb2); (try clear hk); (try clear hi)) | ((with_reducible refine gate_callee (f := 11) rfl ?_); refine goesL_ (some 30) rfl rfl Try.func11 (by kernel_rfl) rfl #[.slice A0 l0.length c0] rfl (by (try simp only [List.map_toArray, List.map_cons, List.map_nil]); first | done | rfl | (simp only [List.length_drop, List.length_take]; rfl)) ?_; (with_reducible refine (nuncioref04_Make.calls kj4 _ _ l0 t216 t217 _ ?side1 ?side2 A14.out).mono ?_); (case side1 => repeat (first | exact (Kd.C_below HR0.out HB.out) | (with_reducible refine Kd.C_alloc ?_ _) | (with_reducible refine Kd.C_drewN ?_ _) | (with_reducible refine Kd.C_drew ?_))); (case side2 => exact HC0.out); rintro e w45 ⟨rfl, hb⟩; refine ⟨_, rfl, ?_⟩; have n0_ := Aside0.mk (Kd.R_below (by (with_reducible repeat (first | apply Kd.R_alloc | apply Kd.R_drewN | apply Kd.R_drew)); exact HO213.out) hb); have n1_ := Aside0.mk (below_step (by repeat (first | (with_reducible first | exact HB.out | apply below_alloc | apply pw_below_drewN | apply below_drew1) | exact HB.out)) hb); clear HO213; clear HB; have HO213 := n0_; have HB := n1_; clear n0_ n1_; (try clear hb); (try clear hb2); (try clear hk); (try clear hi)) | ((with_reducible refine gate_callee (f := 12) rfl ?_); refine goesL_ (some 35) rfl rfl Try.func12 (by kernel_rfl) rfl #[.string a1] rfl (by (try simp only [List.map_toArray, List.map_cons, List.map_nil]); first | done | rfl | (simp only [List.length_drop, List.length_take]; rfl)) ?_; (with_reducible refine (nuncioref04_Labels.calls kj4 a1 t218 false _ A15.out).mono ?_); rintro e w46 ⟨v220, rfl, ho0, hb⟩; refine ⟨_, rfl, ?_⟩; have n0_ := Aside0.mk (Kd.R_elder' (by (with_reducible repeat (first | apply Kd.R_alloc | apply Kd.R_drewN | apply Kd.R_drew)); exact HO213.out) (Kd.R_base ho0) hb); have n1_ := Aside0.mk (Kd.R_lower (Kd.R_new' ho0 (Kd.R_lt (by (with_reducible repeat (first | apply Kd.R_alloc | apply Kd.R_drewN | apply Kd.R_drew)); exact HO213.out))) (below_size (by repeat (first | (with_reducible first | exact HB.out | apply below_alloc | apply pw_below_drewN | apply below_drew1) | exact HB.out)))); have n2_ := Aside0.mk (below_step (by repeat (first | (with_reducible first | exact HB.out | apply below_alloc | apply pw_below_drewN | apply below_drew1) | exact HB.out)) hb); clear HO213; clear HB; have HO213 := n0_; have HO221 := n1_; have HB := n2_; clear n0_ n1_ n2_; (try clear hb); (try clear hb2); (try clear hk); (try clear hi); (try clear ho0)) | (go_at_call 13; (with_reducible refine (name_Is.calls kj4 a1 t227 _ A36.out).mono ?_); rintro e w47 ⟨rfl, hb⟩; have n0_ := Aside0.mk (Kd.R_below (by (with_reducible repeat (first | apply Kd.R_alloc | apply Kd.R_drewN | apply Kd.R_drew)); exact HO213.out) hb); have n1_ := Aside0.mk (Kd.R_below (by (with_reducible repeat (first | apply Kd.R_alloc | apply Kd.R_drewN | apply Kd.R_drew)); exact HO221.out) hb); have n2_ := Aside0.mk (below_step (by repeat (first | (with_reducible first | exact HB.out | apply below_alloc | apply pw_below_drewN | apply below_drew1) | exact HB.out)) hb); clear HO213; clear HO221; clear HB; have HO213 := n0_; have HO221 := n1_; have HB := n2_; clear n0_ n1_ n2_; (try clear hb); (try clear hb2); (try clear hk); (try clear hi)) | (go_at_call 15; (with_reducible refine (name_Labels.calls kj4 a1 t228 _ A38.out).mono ?_); rintro e w48 ⟨v229, rfl, ho0, hb⟩; have n0_ := Aside0.mk (Kd.R_elder' (by (with_reducible repeat (first | apply Kd.R_alloc | apply Kd.R_drewN | apply Kd.R_drew)); exact HO213.out) (Kd.R_base ho0) hb); have n1_ := Aside0.mk (Kd.R_elder' (by (with_reducible repeat (first | apply Kd.R_alloc | apply Kd.R_drewN | apply Kd.R_drew)); exact HO221.out) (Kd.R_base ho0) hb); have n2_ := Aside0.mk (Kd.R_lower (Kd.R_new' (Kd.R_new' ho0 (Kd.R_lt (by (with_reducible repeat (first | apply Kd.R_alloc | apply Kd.R_drewN | apply Kd.R_drew)); exact HO213.out))) (Kd.R_lt (by (with_reducible repeat (first | apply Kd.R_alloc | apply Kd.R_drewN | apply Kd.R_drew)); exact HO221.out))) (below_size (by repeat (first | (with_reducible first | exact HB.out | apply below_alloc | apply pw_below_drewN | apply below_drew1) | exact HB.out)))); have n3_ := Aside0.mk (below_step (by repeat (first | (with_reducible first | exact HB.out | apply below_alloc | apply pw_below_drewN | apply below_drew1) | exact HB.out)) hb); clear HO213; clear HO221; clear HB; have HO213 := n0_; have HO221 := n1_; have HO230 := n2_; have HB := n3_; clear n0_ n1_ n2_ n3_; (try clear hb); (try clear hb2); (try clear hk); (try clear hi); (try clear ho0); obtain ⟨Ao49, co49, eo49⟩ := Kd.R_slice HO230.out; subst eo49) | (go_at_call 14; (refine (nunciolaw04_Same.calls kj4 _ _ t228 _ _ ([] : List ByteArray) t231 _ ?side1 ?side2 ?side3 ?side4 A39.out).mono ?_); (case side1 => repeat (first | exact (Kd.R_reads' HO230.out).2.2 | (with_reducible refine Kd.C_alloc ?_ _) | (with_reducible refine Kd.C_drewN ?_ _) | (with_reducible refine Kd.C_drew ?_))); (case side2 => exact (Kd.R_reads' HO230.out).2.1); (case side3 => exact Kd.C_nil _ _); (case side4 => exact Nat.le_refl _); rintro e w' ⟨rfl, ⟨nd, rfl⟩⟩))
          go_ret
          exact ⟨by first | rfl | (simp [errW_none, errW_some] <;> rfl) | (simp [*, errW_none, errW_some] <;> rfl), by repeat (first | (with_reducible first | exact HB.out | apply below_alloc | apply pw_below_drewN | apply below_drew1) | exact HB.out)⟩
         ·
          rw [if_neg c37] at H
          have c37b0 : (t227 == false) = false := by simpa using c37
          (try (have c37b1 : decide (t227 = false) = false := by simpa using c37))
          (try (have c37b2 : (t227 == false) = false := by simpa using c37))
          (try (have c37b3 : ¬ (t227 = false) := by simpa using c37))
          clear c37
          exact absurd ((Option.some.inj H).trans HT.out) (by decide)
        ·
         rw [if_neg c35] at H
         have c35b0 : (t215 == t217) = false := beq_eq_false_iff_ne.mpr c35
         have c35b1 : (t215 != t217) = true := bne_iff_ne.mpr c35
         exact absurd ((Option.some.inj H).trans HT.out) (by decide)
       ·
        rw [if_neg c34] at H
        have c34b0 : (t214.toList == t216.toList) = false := beq_eq_false_iff_ne.mpr c34
        have c34b1 : (t214.toList != t216.toList) = true := bne_iff_ne.mpr c34
        exact absurd ((Option.some.inj H).trans HT.out) (by decide)
     ·
      rw [if_neg c12] at H
      exact absurd H (by simp)
 ·
  replace c4 := Bool.eq_false_iff.mpr c4
  subst c4
  have H1 : (some false) = some r := by rw [if_neg (show ¬ (false = true) by decide)] at H; exact H
  clear H
  have H := H1
  clear H1
  exact absurd ((Option.some.inj H).trans HT.out) (by decide)

/-- THE ONE PURE STATEMENT of nunciolaw04_NameMakes: yours. -/
def nunciolaw04_NameMakes.Pure : Prop := ∀ (l0 : List ByteArray) (a1 : ByteArray), (l0.length ≤ 9223372036854775807 ∧ l0.length * 16 ≤ 140737488351232 ∧ ∀ x_ ∈ l0, x_.size ≤ 140737488351232) → (a1.size ≤ 140737488351232) → ∃ k, nunciolaw04_NameMakes.f k l0 a1 = some true
theorem nunciolaw04_NameMakes.walk (P : nunciolaw04_NameMakes.Pure) (A0 : Option Addr) (c0 : Nat) (l0 : List ByteArray) (a1 : ByteArray) (w : World) (hr0 : Kd.C Kd.string w A0 l0.length l0) (hc0 : l0.length ≤ c0) (w0 : l0.length ≤ 9223372036854775807 ∧ l0.length * 16 ≤ 140737488351232 ∧ ∀ x_ ∈ l0, x_.size ≤ 140737488351232) (w1 : a1.size ≤ 140737488351232) :
  Calls Try.prog 3 #[.slice A0 l0.length c0, .string a1] w fun e w' => e = .returned (.bool true) ∧ Below w.heap.size w w' := by
 obtain ⟨k, h⟩ := P l0 a1 w0 w1
 refine (nunciolaw04_NameMakes.calls k _ _ l0 a1 true w hr0 hc0 h rfl).mono ?_
 rintro e w' ⟨rfl, hd⟩
 exact ⟨rfl, hd⟩

/-! ### nuncioref02_in: function 37 -/
def nuncioref02_in.f (a0 : Int) (a1 : Int) (a2 : Int) : Option (Bool) := if a0 ≥ a1 then (some (decide (a0 ≤ a2))) else (some false)
set_option maxHeartbeats 8000000 in
set_option maxRecDepth 100000 in
theorem nuncioref02_in.calls (a0 : Int) (a1 : Int) (a2 : Int) (r : Bool) (w : World) (h : nuncioref02_in.f a0 a1 a2 = some r) :
  Calls Try.prog 37 #[.int .u8 a0, .int .u8 a1, .int .u8 a2] w fun e w' => e = .returned (.bool r) ∧ Drawn0 w w' := by
 have H : (if a0 ≥ a1 then (some (decide (a0 ≤ a2))) else (some false)) = some r := h
 clear h
 by_cases c4 : a0 ≥ a1
 ·
  rw [if_pos c4] at H
  have c4b0 : decide (a1 ≤ a0) = true := decide_eq_true c4
  clear c4
  obtain rfl := Option.some.inj H
  go_enter Try.func37, Try.ntmps37
  go_wp2
  go_ret
  exact ⟨by first | rfl | (simp; done) | (simp [*]; done), by repeat (first | exact Drawn0.refl _ | apply Drawn0.step)⟩
 ·
  rw [if_neg c4] at H
  have c4b0 : decide (a1 ≤ a0) = false := decide_eq_false c4
  clear c4
  obtain rfl := Option.some.inj H
  go_enter Try.func37, Try.ntmps37
  go_wp2
  go_ret
  exact ⟨by first | rfl | (simp; done) | (simp [*]; done), by repeat (first | exact Drawn0.refl _ | apply Drawn0.step)⟩

end Go.Proofs.Ytpnflloamidecaa.Mine
