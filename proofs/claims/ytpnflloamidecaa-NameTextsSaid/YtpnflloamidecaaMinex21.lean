-- Written by this repo's own printer (wip/print), which builds on the kit's.
import Derived.Test.YtpnflloamidecaaMinex0
import Derived.Test.YtpnflloamidecaaMinex7
import Derived.Test.YtpnflloamidecaaMinex8
import Derived.Test.YtpnflloamidecaaMinex9
import Derived.Test.YtpnflloamidecaaMinex19
import Derived.Test.YtpnflloamidecaaMinex20
namespace Go.Proofs.Ytpnflloamidecaa.Mine
open Go.RowKit Go.Proofs.YtpnflloamidecaaW.PrintWords Go.Proofs.YtpnflloamidecaaW.PrintLast Go.Proofs.YtpnflloamidecaaW.PrintMore
attribute [local go_sem] max2_int min2_int max_two min_two max_three min_three max_four min_four   -- for this text's walks alone
set_option linter.unusedVariables false
set_option linter.unusedSimpArgs false

/-! ### nunciolaw04_NameTexts: function 5 -/
def nunciolaw04_NameTexts.j0 : Nat → ByteArray → ByteArray → Bool → Option (Bool)
 | 0, _, _, _ => none
 | k + 1, x0, x1, x18 => if x18 = true then (some true) else ((name_Read.f k x1).bind fun bt317 => ((nuncioref04_Read.f k x1).bind fun bt319 => ((name_Text.f k x0).bind fun t321 => ((nuncioref04_Text.f k x0).bind fun t322 => (if t321.toList = t322.toList then (if bt317.1.toList = bt319.1.toList then (some (bt317.2 == bt319.2)) else (some false)) else (some false))))))
def nunciolaw04_NameTexts.f (k : Nat) (a0 : ByteArray) (a1 : ByteArray) : Option (Bool) := (nunciolaw04_awake.f k).bind fun t316 => (if t316 = true then (if (a0.size : Int) > 2000 then (nunciolaw04_NameTexts.j0 k a0 a1 true) else (nunciolaw04_NameTexts.j0 k a0 a1 (decide ((a1.size : Int) > 2000)))) else (some false))
theorem nunciolaw04_NameTexts.mono_l : ∀ k, (∀ y0 y1 y2, LeO (nunciolaw04_NameTexts.j0 k y0 y1 y2) (nunciolaw04_NameTexts.j0 (k + 1) y0 y1 y2))
 | 0 => fun _ _ _ r h => by simp [nunciolaw04_NameTexts.j0] at h
 | k + 1 => by
  have ih0 := nunciolaw04_NameTexts.mono_l k
  ·
   intro y0 y1 y2
   unfold nunciolaw04_NameTexts.j0
   repeat' first
   | (with_reducible exact ih0 _ _ _)
   | (with_reducible exact name_Read.mono _ _)
   | (with_reducible exact name_Text.mono _ _)
   | (with_reducible exact nunciolaw04_awake.mono _)
   | (with_reducible exact nuncioref04_Read.mono _ _)
   | (with_reducible exact nuncioref04_Text.mono _ _)
   | (with_reducible exact LeO.refl _)
   | (with_reducible exact LeO.none _)
   | (with_reducible refine LeO.ite ?_ ?_)
   | (with_reducible refine LeO.bind ?_ (fun _ => ?_))
   | exact ih0 _ _ _
   | exact name_Read.mono _ _
   | exact name_Text.mono _ _
   | exact nunciolaw04_awake.mono _
   | exact nuncioref04_Read.mono _ _
   | exact nuncioref04_Text.mono _ _
   | exact LeO.none _
   | refine LeO.ite ?_ ?_
   | refine LeO.bind ?_ (fun _ => ?_)
theorem nunciolaw04_NameTexts.mono : ∀ a0 a1 k, LeO (nunciolaw04_NameTexts.f k a0 a1) (nunciolaw04_NameTexts.f (k + 1) a0 a1) := by
 intro a0 a1 k
 have ih0 := nunciolaw04_NameTexts.mono_l k
 unfold nunciolaw04_NameTexts.f
 repeat' first
   | (with_reducible exact ih0 _ _ _)
   | (with_reducible exact name_Read.mono _ _)
   | (with_reducible exact name_Text.mono _ _)
   | (with_reducible exact nunciolaw04_awake.mono _)
   | (with_reducible exact nuncioref04_Read.mono _ _)
   | (with_reducible exact nuncioref04_Text.mono _ _)
   | (with_reducible exact LeO.refl _)
   | (with_reducible exact LeO.none _)
   | (with_reducible refine LeO.ite ?_ ?_)
   | (with_reducible refine LeO.bind ?_ (fun _ => ?_))
   | exact ih0 _ _ _
   | exact name_Read.mono _ _
   | exact name_Text.mono _ _
   | exact nunciolaw04_awake.mono _
   | exact nuncioref04_Read.mono _ _
   | exact nuncioref04_Text.mono _ _
   | exact LeO.none _
   | refine LeO.ite ?_ ?_
   | refine LeO.bind ?_ (fun _ => ?_)
set_option maxHeartbeats 8000000 in
set_option maxRecDepth 100000 in
theorem nunciolaw04_NameTexts.calls (k : Nat) (a0 : ByteArray) (a1 : ByteArray) (r : Bool) (w : World) (h : nunciolaw04_NameTexts.f k a0 a1 = some r) (hT : r = true) :
  Calls Try.prog 5 #[.string a0, .string a1] w fun e w' => e = .returned (.bool r) ∧ Below w.heap.size w w' := by
 have HB := Aside0.mk (Below.refl w.heap.size w)
 have HT := Aside0.mk hT
 clear hT
 have H : ((nunciolaw04_awake.f k).bind fun t316 => (if t316 = true then (if (a0.size : Int) > 2000 then (nunciolaw04_NameTexts.j0 k a0 a1 true) else (nunciolaw04_NameTexts.j0 k a0 a1 (decide ((a1.size : Int) > 2000)))) else (some false))) = some r := h
 clear h
 replace H := Option.bind_eq_some_iff.mp H
 obtain ⟨t316, A30, H⟩ := H
 replace H : (if t316 = true then (if (a0.size : Int) > 2000 then (nunciolaw04_NameTexts.j0 k a0 a1 true) else (nunciolaw04_NameTexts.j0 k a0 a1 (decide ((a1.size : Int) > 2000)))) else (some false)) = some r := H
 have A3 := Aside0.mk A30
 clear A30
 by_cases c4 : t316 = true
 ·
  subst c4
  have H1 : (if (a0.size : Int) > 2000 then (nunciolaw04_NameTexts.j0 k a0 a1 true) else (nunciolaw04_NameTexts.j0 k a0 a1 (decide ((a1.size : Int) > 2000)))) = some r := by rw [if_pos rfl] at H; exact H
  clear H
  have H := H1
  clear H1
  have HC5 := Aside0.mk H
  clear H
  go_enter Try.func5, Try.ntmps5
  go_upto_region 3 with (first | ((with_reducible refine gate_callee (f := 8) rfl ?_); refine goesL_ (some 9) rfl rfl Try.func8 (by kernel_rfl) rfl #[] rfl (by (try simp only [List.map_toArray, List.map_cons, List.map_nil]); first | done | rfl | (simp only [List.length_drop, List.length_take]; rfl)) ?_; (with_reducible refine (nunciolaw04_awake.calls k  true _ A3.out).mono ?_); rintro e w6 ⟨rfl, hb⟩; refine ⟨_, rfl, ?_⟩; have n0_ := Aside0.mk (below_step (by repeat (first | (with_reducible first | exact HB.out | apply below_alloc | apply pw_below_drewN | apply below_drew1) | exact HB.out)) hb); clear HB; have HB := n0_; clear n0_; (try clear hb); (try clear hb2); (try clear hk); (try clear hi)))
  (try simp only [Act.put, List.setIfInBounds_toArray, List.set_cons_zero, List.set_cons_succ])
  go_cut [18] (fun v18 wc => ∃ (kq : Nat) (x18_4 : Bool), v18 = .bool x18_4 ∧ Aside0 (nunciolaw04_NameTexts.j0 kq a0 a1 x18_4 = some r) ∧ Aside0 (kq ≤ k) ∧ Aside0 (Below w.heap.size w wc))
  case first =>
   have H := HC5.out
   clear HC5
   by_cases c7 : (a0.size : Int) > 2000
   ·
    rw [if_pos c7] at H
    have c7b0 : decide (2000 < (a0.size : Int)) = true := decide_eq_true c7
    have c7b1 : decide (2000 < a0.size) = true := decide_eq_true (by omega)
    clear c7
    (first | rw [c7b0] | (simp only [i64_w, i32_w]; rw [c7b0]) | skip)
    have H' := Aside0.mk H
    clear H
    go_wp2
    go_meet
    case rel => exact ⟨_, (true), (by first | rfl | (simp; done) | (simp [*]; done)), H', ⟨by first | omega | exact Nat.le_refl _⟩, ⟨by repeat (first | (with_reducible first | exact HB.out | apply below_alloc | apply pw_below_drewN | apply below_drew1) | exact HB.out)⟩⟩
   ·
    rw [if_neg c7] at H
    have c7b0 : decide (2000 < (a0.size : Int)) = false := decide_eq_false c7
    have c7b1 : decide (2000 < a0.size) = false := decide_eq_false (by omega)
    clear c7
    (first | rw [c7b0] | (simp only [i64_w, i32_w]; rw [c7b0]) | skip)
    have H' := Aside0.mk H
    clear H
    go_wp2
    go_meet
    case rel => exact ⟨_, (decide ((a1.size : Int) > 2000)), (by first | rfl | (simp; done) | (simp [*]; done)), H', ⟨by first | omega | exact Nat.le_refl _⟩, ⟨by repeat (first | (with_reducible first | exact HB.out | apply below_alloc | apply pw_below_drewN | apply below_drew1) | exact HB.out)⟩⟩
  case rest =>
   clear HC5
   try clear p2
   try clear c4
   try clear c5
   try clear c7
   try clear c7b0
   try clear c7b1
   obtain ⟨kq, x18_4, rfl, HA, HJ4, HB⟩ := hcut
   cases kq with
   | zero => exact absurd HA.out (by simp [nunciolaw04_NameTexts.j0])
   | succ kj4 =>
    have H := HA.out
    clear HA
    simp only [nunciolaw04_NameTexts.j0] at H
    by_cases c8 : x18_4 = true
    ·
     subst c8
     have H1 : (some true) = some r := by rw [if_pos rfl] at H; exact H
     clear H
     have H := H1
     clear H1
     obtain rfl := Option.some.inj H
     go_wp2
     go_ret
     exact ⟨by first | rfl | (simp [errW_none, errW_some] <;> rfl) | (simp [*, errW_none, errW_some] <;> rfl), by repeat (first | (with_reducible first | exact HB.out | apply below_alloc | apply pw_below_drewN | apply below_drew1) | exact HB.out)⟩
    ·
     replace c8 := Bool.eq_false_iff.mpr c8
     subst c8
     have H1 : ((name_Read.f kj4 a1).bind fun bt317 => ((nuncioref04_Read.f kj4 a1).bind fun bt319 => ((name_Text.f kj4 a0).bind fun t321 => ((nuncioref04_Text.f kj4 a0).bind fun t322 => (if t321.toList = t322.toList then (if bt317.1.toList = bt319.1.toList then (some (bt317.2 == bt319.2)) else (some false)) else (some false)))))) = some r := by rw [if_neg (show ¬ (false = true) by decide)] at H; exact H
     clear H
     have H := H1
     clear H1
     replace H := Option.bind_eq_some_iff.mp H
     obtain ⟨⟨t317, t318⟩, A90, H⟩ := H
     replace H : ((nuncioref04_Read.f kj4 a1).bind fun bt319 => ((name_Text.f kj4 a0).bind fun t321 => ((nuncioref04_Text.f kj4 a0).bind fun t322 => (if t321.toList = t322.toList then (if t317.toList = bt319.1.toList then (some (t318 == bt319.2)) else (some false)) else (some false))))) = some r := H
     have A9 := Aside0.mk A90
     clear A90
     replace H := Option.bind_eq_some_iff.mp H
     obtain ⟨⟨t319, t320⟩, A100, H⟩ := H
     replace H : ((name_Text.f kj4 a0).bind fun t321 => ((nuncioref04_Text.f kj4 a0).bind fun t322 => (if t321.toList = t322.toList then (if t317.toList = t319.toList then (some (t318 == t320)) else (some false)) else (some false)))) = some r := H
     have A10 := Aside0.mk A100
     clear A100
     replace H := Option.bind_eq_some_iff.mp H
     obtain ⟨t321, A110, H⟩ := H
     replace H : ((nuncioref04_Text.f kj4 a0).bind fun t322 => (if t321.toList = t322.toList then (if t317.toList = t319.toList then (some (t318 == t320)) else (some false)) else (some false))) = some r := H
     have A11 := Aside0.mk A110
     clear A110
     replace H := Option.bind_eq_some_iff.mp H
     obtain ⟨t322, A120, H⟩ := H
     replace H : (if t321.toList = t322.toList then (if t317.toList = t319.toList then (some (t318 == t320)) else (some false)) else (some false)) = some r := H
     have A12 := Aside0.mk A120
     clear A120
     by_cases c13 : t321.toList = t322.toList
     ·
      rw [if_pos c13] at H
      have c13b0 : (t321.toList == t322.toList) = true := beq_iff_eq.mpr c13
      have c13b1 : (t321.toList != t322.toList) = false := bne_eq_false_iff_eq.mpr c13
      clear c13
      by_cases c14 : t317.toList = t319.toList
      ·
       rw [if_pos c14] at H
       have c14b0 : (t317.toList == t319.toList) = true := beq_iff_eq.mpr c14
       have c14b1 : (t317.toList != t319.toList) = false := bne_eq_false_iff_eq.mpr c14
       clear c14
       obtain rfl := Option.some.inj H
       go_wp2_with (first | ((with_reducible refine gate_callee (f := 22) rfl ?_); refine goesL_ (some 21) rfl rfl Try.func22 (by kernel_rfl) rfl #[.string a1] rfl (by (try simp only [List.map_toArray, List.map_cons, List.map_nil]); first | done | rfl | (simp only [List.length_drop, List.length_take]; rfl)) ?_; (with_reducible refine (name_Read.calls kj4 a1 t317 t318 _ A9.out).mono ?_); rintro e w15 ⟨rfl, hb⟩; refine ⟨_, rfl, ?_⟩; have n0_ := Aside0.mk (below_step (by repeat (first | (with_reducible first | exact HB.out | apply below_alloc | apply pw_below_drewN | apply below_drew1) | exact HB.out)) hb); clear HB; have HB := n0_; clear n0_; (try clear hb); (try clear hb2); (try clear hk); (try clear hi)) | ((with_reducible refine gate_callee (f := 23) rfl ?_); refine goesL_ (some 26) rfl rfl Try.func23 (by kernel_rfl) rfl #[.string a1] rfl (by (try simp only [List.map_toArray, List.map_cons, List.map_nil]); first | done | rfl | (simp only [List.length_drop, List.length_take]; rfl)) ?_; (with_reducible refine (nuncioref04_Read.calls kj4 a1 t319 t320 _ A10.out).mono ?_); rintro e w16 ⟨rfl, hb⟩; refine ⟨_, rfl, ?_⟩; have n0_ := Aside0.mk (below_step (by repeat (first | (with_reducible first | exact HB.out | apply below_alloc | apply pw_below_drewN | apply below_drew1) | exact HB.out)) hb); clear HB; have HB := n0_; clear n0_; (try clear hb); (try clear hb2); (try clear hk); (try clear hi)) | ((with_reducible refine gate_callee (f := 24) rfl ?_); refine goesL_ (some 30) rfl rfl Try.func24 (by kernel_rfl) rfl #[.string a0] rfl (by (try simp only [List.map_toArray, List.map_cons, List.map_nil]); first | done | rfl | (simp only [List.length_drop, List.length_take]; rfl)) ?_; (with_reducible refine (name_Text.calls kj4 a0 t321 _ A11.out).mono ?_); rintro e w17 ⟨rfl, hb⟩; refine ⟨_, rfl, ?_⟩; have n0_ := Aside0.mk (below_step (by repeat (first | (with_reducible first | exact HB.out | apply below_alloc | apply pw_below_drewN | apply below_drew1) | exact HB.out)) hb); clear HB; have HB := n0_; clear n0_; (try clear hb); (try clear hb2); (try clear hk); (try clear hi)) | ((with_reducible refine gate_callee (f := 25) rfl ?_); refine goesL_ (some 32) rfl rfl Try.func25 (by kernel_rfl) rfl #[.string a0] rfl (by (try simp only [List.map_toArray, List.map_cons, List.map_nil]); first | done | rfl | (simp only [List.length_drop, List.length_take]; rfl)) ?_; (with_reducible refine (nuncioref04_Text.calls kj4 a0 t322 _ A12.out).mono ?_); rintro e w18 ⟨rfl, hb⟩; refine ⟨_, rfl, ?_⟩; have n0_ := Aside0.mk (below_step (by repeat (first | (with_reducible first | exact HB.out | apply below_alloc | apply pw_below_drewN | apply below_drew1) | exact HB.out)) hb); clear HB; have HB := n0_; clear n0_; (try clear hb); (try clear hb2); (try clear hk); (try clear hi)))
       go_ret
       exact ⟨by first | rfl | (simp [errW_none, errW_some] <;> rfl) | (simp [*, errW_none, errW_some] <;> rfl), by repeat (first | (with_reducible first | exact HB.out | apply below_alloc | apply pw_below_drewN | apply below_drew1) | exact HB.out)⟩
      ·
       rw [if_neg c14] at H
       have c14b0 : (t317.toList == t319.toList) = false := beq_eq_false_iff_ne.mpr c14
       have c14b1 : (t317.toList != t319.toList) = true := bne_iff_ne.mpr c14
       exact absurd ((Option.some.inj H).trans HT.out) (by decide)
     ·
      rw [if_neg c13] at H
      have c13b0 : (t321.toList == t322.toList) = false := beq_eq_false_iff_ne.mpr c13
      have c13b1 : (t321.toList != t322.toList) = true := bne_iff_ne.mpr c13
      exact absurd ((Option.some.inj H).trans HT.out) (by decide)
 ·
  replace c4 := Bool.eq_false_iff.mpr c4
  subst c4
  have H1 : (some false) = some r := by rw [if_neg (show ¬ (false = true) by decide)] at H; exact H
  clear H
  have H := H1
  clear H1
  exact absurd ((Option.some.inj H).trans HT.out) (by decide)

/-- THE ONE PURE STATEMENT of nunciolaw04_NameTexts: yours. -/
def nunciolaw04_NameTexts.Pure : Prop := ∀ (a0 : ByteArray) (a1 : ByteArray), a0.size ≤ 140737488351232 → a1.size ≤ 140737488351232 → ∃ k, nunciolaw04_NameTexts.f k a0 a1 = some true
theorem nunciolaw04_NameTexts.walk (P : nunciolaw04_NameTexts.Pure) (a0 : ByteArray) (a1 : ByteArray) (w : World) (w0 : a0.size ≤ 140737488351232) (w1 : a1.size ≤ 140737488351232) :
  Calls Try.prog 5 #[.string a0, .string a1] w fun e w' => e = .returned (.bool true) ∧ Below w.heap.size w w' := by
 obtain ⟨k, h⟩ := P a0 a1 w0 w1
 refine (nunciolaw04_NameTexts.calls k a0 a1 true w h rfl).mono ?_
 rintro e w' ⟨rfl, hd⟩
 exact ⟨rfl, hd⟩

end Go.Proofs.Ytpnflloamidecaa.Mine
