-- Written by this repo's own printer (wip/print), which builds on the kit's.
import Derived.Test.YtpnflloamidecaaMinex0
import Derived.Test.YtpnflloamidecaaMinex11
import Derived.Test.YtpnflloamidecaaMinex18
namespace Go.Proofs.Ytpnflloamidecaa.Mine
open Go.RowKit Go.Proofs.YtpnflloamidecaaW.PrintWords Go.Proofs.YtpnflloamidecaaW.PrintLast Go.Proofs.YtpnflloamidecaaW.PrintMore
attribute [local go_sem] max2_int min2_int max_two min_two max_three min_three max_four min_four   -- for this text's walks alone
set_option linter.unusedVariables false
set_option linter.unusedSimpArgs false

/-! ### nuncioref04_Text: function 25 -/
mutual
def nuncioref04_Text.l0 : Nat → List ByteArray → ByteArray → Int → Option (ByteArray)
 | 0, _, _, _ => none
 | k + 1, x3, x5, x6 => if x6 < (x3.length : Int) then (nuncioref04_Text.l1 k x3 x5 x6 0) else (some x5)
def nuncioref04_Text.l1 : Nat → List ByteArray → ByteArray → Int → Int → Option (ByteArray)
 | 0, _, _, _, _ => none
 | k + 1, x3, x5, x6, x7 => if 0 ≤ x6 then (if x6 < (x3.length : Int) then (if x7 < ((rdOf ByteArray.empty x3 x6).size : Int) then (if 0 ≤ x7 then ((nuncioref04_sign.f k (bt (rdOf ByteArray.empty x3 x6) x7)).bind fun t315 => (if x5.size + t315.size ≤ 9223372036854775807 then (nuncioref04_Text.l1 k x3 (x5 ++ t315) x6 (wrap64 (x7 + 1))) else (none))) else (none)) else (if x5.size + 1 ≤ 9223372036854775807 then (nuncioref04_Text.l0 k x3 (x5 ++ (⟨#[46]⟩ : ByteArray)) (wrap64 (x6 + 1))) else (none))) else (none)) else (none)
end
def nuncioref04_Text.f (k : Nat) (a0 : ByteArray) : Option (ByteArray) := (nuncioref04_Labels.f k a0).bind fun bt309 => (if bt309.2 = true then (if (bt309.1.length : Int) = 0 then (some (⟨#[46]⟩ : ByteArray)) else (nuncioref04_Text.l0 k bt309.1 (⟨#[]⟩ : ByteArray) 0)) else (some (⟨#[]⟩ : ByteArray)))
theorem nuncioref04_Text.mono_l : ∀ k, (∀ y0 y1 y2, LeO (nuncioref04_Text.l0 k y0 y1 y2) (nuncioref04_Text.l0 (k + 1) y0 y1 y2)) ∧ (∀ y0 y1 y2 y3, LeO (nuncioref04_Text.l1 k y0 y1 y2 y3) (nuncioref04_Text.l1 (k + 1) y0 y1 y2 y3))
 | 0 => ⟨fun _ _ _ r h => by simp [nuncioref04_Text.l0] at h, fun _ _ _ _ r h => by simp [nuncioref04_Text.l1] at h⟩
 | k + 1 => by
  obtain ⟨ih0, ih1⟩ := nuncioref04_Text.mono_l k
  refine ⟨?_, ?_⟩
  ·
   intro y0 y1 y2
   unfold nuncioref04_Text.l0
   repeat' first
   | (with_reducible exact ih0 _ _ _)
   | (with_reducible exact ih1 _ _ _ _)
   | (with_reducible exact nuncioref04_Labels.mono _ _)
   | (with_reducible exact nuncioref04_sign.mono _ _)
   | (with_reducible exact LeO.refl _)
   | (with_reducible exact LeO.none _)
   | (with_reducible refine LeO.ite ?_ ?_)
   | (with_reducible refine LeO.bind ?_ (fun _ => ?_))
   | exact ih0 _ _ _
   | exact ih1 _ _ _ _
   | exact nuncioref04_Labels.mono _ _
   | exact nuncioref04_sign.mono _ _
   | exact LeO.none _
   | refine LeO.ite ?_ ?_
   | refine LeO.bind ?_ (fun _ => ?_)
  ·
   intro y0 y1 y2 y3
   unfold nuncioref04_Text.l1
   repeat' first
   | (with_reducible exact ih0 _ _ _)
   | (with_reducible exact ih1 _ _ _ _)
   | (with_reducible exact nuncioref04_Labels.mono _ _)
   | (with_reducible exact nuncioref04_sign.mono _ _)
   | (with_reducible exact LeO.refl _)
   | (with_reducible exact LeO.none _)
   | (with_reducible refine LeO.ite ?_ ?_)
   | (with_reducible refine LeO.bind ?_ (fun _ => ?_))
   | exact ih0 _ _ _
   | exact ih1 _ _ _ _
   | exact nuncioref04_Labels.mono _ _
   | exact nuncioref04_sign.mono _ _
   | exact LeO.none _
   | refine LeO.ite ?_ ?_
   | refine LeO.bind ?_ (fun _ => ?_)
theorem nuncioref04_Text.mono : ∀ a0 k, LeO (nuncioref04_Text.f k a0) (nuncioref04_Text.f (k + 1) a0) := by
 intro a0 k
 obtain ⟨ih0, ih1⟩ := nuncioref04_Text.mono_l k
 unfold nuncioref04_Text.f
 repeat' first
   | (with_reducible exact ih0 _ _ _)
   | (with_reducible exact ih1 _ _ _ _)
   | (with_reducible exact nuncioref04_Labels.mono _ _)
   | (with_reducible exact nuncioref04_sign.mono _ _)
   | (with_reducible exact LeO.refl _)
   | (with_reducible exact LeO.none _)
   | (with_reducible refine LeO.ite ?_ ?_)
   | (with_reducible refine LeO.bind ?_ (fun _ => ?_))
   | exact ih0 _ _ _
   | exact ih1 _ _ _ _
   | exact nuncioref04_Labels.mono _ _
   | exact nuncioref04_sign.mono _ _
   | exact LeO.none _
   | refine LeO.ite ?_ ?_
   | refine LeO.bind ?_ (fun _ => ?_)
set_option maxHeartbeats 8000000 in
set_option maxRecDepth 100000 in
theorem nuncioref04_Text.calls (k : Nat) (a0 : ByteArray) (r : ByteArray) (w : World) (h : nuncioref04_Text.f k a0 = some r) :
  Calls Try.prog 25 #[.string a0] w fun e w' => e = .returned (.string r) ∧ Below w.heap.size w w' := by
 have HB := Aside0.mk (Below.refl w.heap.size w)
 have H : ((nuncioref04_Labels.f k a0).bind fun bt309 => (if bt309.2 = true then (if (bt309.1.length : Int) = 0 then (some (⟨#[46]⟩ : ByteArray)) else (nuncioref04_Text.l0 k bt309.1 (⟨#[]⟩ : ByteArray) 0)) else (some (⟨#[]⟩ : ByteArray)))) = some r := h
 clear h
 replace H := Option.bind_eq_some_iff.mp H
 obtain ⟨⟨t309, t310⟩, A20, H⟩ := H
 replace H : (if t310 = true then (if (t309.length : Int) = 0 then (some (⟨#[46]⟩ : ByteArray)) else (nuncioref04_Text.l0 k t309 (⟨#[]⟩ : ByteArray) 0)) else (some (⟨#[]⟩ : ByteArray))) = some r := H
 have A2 := Aside0.mk A20
 clear A20
 by_cases c3 : t310 = true
 ·
  subst c3
  have H1 : (if (t309.length : Int) = 0 then (some (⟨#[46]⟩ : ByteArray)) else (nuncioref04_Text.l0 k t309 (⟨#[]⟩ : ByteArray) 0)) = some r := by rw [if_pos rfl] at H; exact H
  clear H
  have H := H1
  clear H1
  by_cases c4 : (t309.length : Int) = 0
  ·
   rw [if_pos c4] at H
   have c4b0 : ((t309.length : Int) == 0) = true := beq_iff_eq.mpr c4
   have c4b1 : ((t309.length : Int) != 0) = false := bne_eq_false_iff_eq.mpr c4
   clear c4
   obtain rfl := Option.some.inj H
   go_enter Try.func25, Try.ntmps25
   go_wp2_with (first | ((with_reducible refine gate_callee (f := 12) rfl ?_); refine goesL_ (some 10) rfl rfl Try.func12 (by kernel_rfl) rfl #[.string a0] rfl (by (try simp only [List.map_toArray, List.map_cons, List.map_nil]); first | done | rfl | (simp only [List.length_drop, List.length_take]; rfl)) ?_; (with_reducible refine (nuncioref04_Labels.calls k a0 t309 true _ A2.out).mono ?_); rintro e w5 ⟨v311, rfl, ho0, hb⟩; refine ⟨_, rfl, ?_⟩; have n0_ := Aside0.mk (Kd.R_lower ho0 (below_size (by repeat (first | (with_reducible first | exact HB.out | apply below_alloc | apply pw_below_drewN | apply below_drew1) | exact HB.out)))); have n1_ := Aside0.mk (below_step (by repeat (first | (with_reducible first | exact HB.out | apply below_alloc | apply pw_below_drewN | apply below_drew1) | exact HB.out)) hb); clear HB; have HO312 := n0_; have HB := n1_; clear n0_ n1_; (try clear hb); (try clear hb2); (try clear hk); (try clear hi); (try clear ho0); obtain ⟨Ao6, co6, eo6⟩ := Kd.R_slice HO312.out; subst eo6))
   go_ret
   exact ⟨by first | rfl | (simp [errW_none, errW_some] <;> rfl) | (simp [*, errW_none, errW_some] <;> rfl), by repeat (first | (with_reducible first | exact HB.out | apply below_alloc | apply pw_below_drewN | apply below_drew1) | exact HB.out)⟩
  ·
   rw [if_neg c4] at H
   have c4b0 : ((t309.length : Int) == 0) = false := beq_eq_false_iff_ne.mpr c4
   have c4b1 : ((t309.length : Int) != 0) = true := bne_iff_ne.mpr c4
   have c4b2 : ¬ (t309 = []) := fun h_ => c4 (by rw [h_]; rfl)
   have H' := Aside0.mk H
   clear H
   go_enter Try.func25, Try.ntmps25
   go_wp2_with (first | ((with_reducible refine gate_callee (f := 12) rfl ?_); refine goesL_ (some 10) rfl rfl Try.func12 (by kernel_rfl) rfl #[.string a0] rfl (by (try simp only [List.map_toArray, List.map_cons, List.map_nil]); first | done | rfl | (simp only [List.length_drop, List.length_take]; rfl)) ?_; (with_reducible refine (nuncioref04_Labels.calls k a0 t309 true _ A2.out).mono ?_); rintro e w7 ⟨v311, rfl, ho0, hb⟩; refine ⟨_, rfl, ?_⟩; have n0_ := Aside0.mk (Kd.R_lower ho0 (below_size (by repeat (first | (with_reducible first | exact HB.out | apply below_alloc | apply pw_below_drewN | apply below_drew1) | exact HB.out)))); have n1_ := Aside0.mk (below_step (by repeat (first | (with_reducible first | exact HB.out | apply below_alloc | apply pw_below_drewN | apply below_drew1) | exact HB.out)) hb); clear HB; have HO312 := n0_; have HB := n1_; clear n0_ n1_; (try clear hb); (try clear hb2); (try clear hk); (try clear hi); (try clear ho0); obtain ⟨Ao8, co8, eo8⟩ := Kd.R_slice HO312.out; subst eo8))
   go_loopg [5, 6] k (fun kq v5 v6 w' => ∃ (x5_1 : ByteArray) (x6_1 : Int), v5 = .string x5_1 ∧ v6 = .int .i64 x6_1 ∧ Aside0 (nuncioref04_Text.l0 kq t309 x5_1 x6_1 = some r) ∧ Aside0 (kq ≤ k) ∧ Aside0 (Kd.R Kd.string 9 w' w.heap.size (fun _ => True) (.slice Ao8 t309.length co8) t309) ∧ Aside0 (Below w.heap.size w w'))
   case atStart => exact ⟨((⟨#[]⟩ : ByteArray)), (0), (by first | rfl | (simp; done) | (simp [*]; done)), (by first | rfl | (simp; done) | (simp [*]; done)), H', ⟨Nat.le_refl _⟩, ⟨by (with_reducible repeat (first | apply Kd.R_alloc | apply Kd.R_drewN | apply Kd.R_drew)); exact HO312.out⟩, ⟨by repeat (first | (with_reducible first | exact HB.out | apply below_alloc | apply pw_below_drewN | apply below_drew1) | exact HB.out)⟩⟩
   case round =>
    clear H'
    try clear c1
    try clear c2
    try clear p2
    try clear c3
    try clear c4
    try clear c4b0
    try clear c4b1
    try clear c4b2
    obtain ⟨x5_1, x6_1, rfl, rfl, HA, HK1, HO_3, HB⟩ := hrel
    cases gk with
    | zero => exact absurd HA.out (by simp [nuncioref04_Text.l0])
    | succ k1 =>
     have H := HA.out
     clear HA
     simp only [nuncioref04_Text.l0] at H
     by_cases c9 : x6_1 < (t309.length : Int)
     ·
      rw [if_pos c9] at H
      have c9b0 : decide (x6_1 < (t309.length : Int)) = true := decide_eq_true c9
      clear c9
      have H' := Aside0.mk H
      clear H
      go_wp2
      go_loopg [5, 7] k1 (fun kq v5 v7 w' => ∃ (x5_2 : ByteArray) (x7_2 : Int), v5 = .string x5_2 ∧ v7 = .int .i64 x7_2 ∧ Aside0 (nuncioref04_Text.l1 kq t309 x5_2 x6_1 x7_2 = some r) ∧ Aside0 (kq ≤ k1) ∧ Aside0 (Kd.R Kd.string 9 w' w.heap.size (fun _ => True) (.slice Ao8 t309.length co8) t309) ∧ Aside0 (Below w.heap.size w w'))
      case atStart => exact ⟨(x5_1), (0), (by first | rfl | (simp; done) | (simp [*]; done)), (by first | rfl | (simp; done) | (simp [*]; done)), H', ⟨Nat.le_refl _⟩, ⟨by (with_reducible repeat (first | apply Kd.R_alloc | apply Kd.R_drewN | apply Kd.R_drew)); exact HO_3.out⟩, ⟨by repeat (first | (with_reducible first | exact HB.out | apply below_alloc | apply pw_below_drewN | apply below_drew1) | exact HB.out)⟩⟩
      case round =>
       clear H'
       try clear c1
       try clear c2
       try clear p2
       try clear c3
       try clear c4
       try clear c4b0
       try clear c4b1
       try clear c4b2
       try clear c9
       try clear c9b0
       try clear p2
       obtain ⟨x5_2, x7_2, rfl, rfl, HA, HK2, HO_3, HB⟩ := hrel
       cases gk with
       | zero => exact absurd HA.out (by simp [nuncioref04_Text.l1])
       | succ k2 =>
        have H := HA.out
        clear HA
        simp only [nuncioref04_Text.l1] at H
        by_cases c10 : 0 ≤ x6_1
        ·
         rw [if_pos c10] at H
         have c10b0 : decide (0 ≤ x6_1) = true := decide_eq_true c10
         clear c10
         by_cases c11 : x6_1 < (t309.length : Int)
         ·
          rw [if_pos c11] at H
          have c11b0 : decide (x6_1 < (t309.length : Int)) = true := decide_eq_true c11
          clear c11
          by_cases c12 : x7_2 < ((rdOf ByteArray.empty t309 x6_1).size : Int)
          ·
           rw [if_pos c12] at H
           have c12b0 : decide (x7_2 < ((rdOf ByteArray.empty t309 x6_1).size : Int)) = true := decide_eq_true c12
           clear c12
           by_cases c13 : 0 ≤ x7_2
           ·
            rw [if_pos c13] at H
            have c13b0 : decide (0 ≤ x7_2) = true := decide_eq_true c13
            clear c13
            replace H := Option.bind_eq_some_iff.mp H
            obtain ⟨t315, A150, H⟩ := H
            replace H : (if x5_2.size + t315.size ≤ 9223372036854775807 then (nuncioref04_Text.l1 k2 t309 (x5_2 ++ t315) x6_1 (wrap64 (x7_2 + 1))) else (none)) = some r := H
            have A15 := Aside0.mk A150
            clear A150
            by_cases c16 : x5_2.size + t315.size ≤ 9223372036854775807
            ·
             rw [if_pos c16] at H
             have c16b0 := eq_true c16
             have c16b1 : decide (x5_2.size + t315.size ≤ 9223372036854775807) = true := decide_eq_true c16
             try have c16b2 : (9223372036854775807 < x5_2.size + t315.size) = False := eq_false (Nat.not_lt.2 c16)
             have H' := Aside0.mk H
             clear H
             have p313 : 0 ≤ (x6_1 : Int) := of_decide_eq_true (by first | (with_reducible assumption) | assumption)
             have q313 : x6_1 < (t309.length : Int) := of_decide_eq_true (by first | (with_reducible assumption) | assumption)
             obtain ⟨ad313, e313, hx313_0⟩ := Kd.at_string (Kd.R_reads' HO_3.out).2.2 x6_1 p313 q313
             cases e313
             replace p313 := eq_true p313
             replace q313 := eq_true q313
             have p314 : 0 ≤ (x6_1 : Int) := of_decide_eq_true (by first | (with_reducible assumption) | assumption)
             have q314 : x6_1 < (t309.length : Int) := of_decide_eq_true (by first | (with_reducible assumption) | assumption)
             obtain ⟨ad314, e314, hx314_0⟩ := Kd.at_string (Kd.R_reads' HO_3.out).2.2 x6_1 p314 q314
             obtain rfl : ad313 = ad314 := (by injection e314)
             replace p314 := eq_true p314
             replace q314 := eq_true q314
             have p14 : 0 ≤ (x7_2 : Int) := of_decide_eq_true (by first | (with_reducible assumption) | assumption)
             have q14 : x7_2 < ((rdOf ByteArray.empty t309 x6_1).size : Int) := of_decide_eq_true (by first | (with_reducible assumption) | assumption)
             have hx14 := bt_at (rdOf ByteArray.empty t309 x6_1) x7_2
             replace p14 := eq_true p14
             replace q14 := eq_true q14
             go_wp2_with (first | ((with_reducible refine gate_callee (f := 36) rfl ?_); refine goesL_ (some 40) rfl rfl Try.func36 (by kernel_rfl) rfl #[.int .u8 (bt (rdOf ByteArray.empty t309 x6_1) x7_2)] rfl (by (try simp only [List.map_toArray, List.map_cons, List.map_nil]); first | done | rfl | (simp only [List.length_drop, List.length_take]; rfl)) ?_; (with_reducible refine (nuncioref04_sign.calls k2 (bt (rdOf ByteArray.empty t309 x6_1) x7_2) t315 _ A15.out).mono ?_); rintro e w17 ⟨rfl, hb⟩; refine ⟨_, rfl, ?_⟩; have n0_ := Aside0.mk (Kd.R_below (by (with_reducible repeat (first | apply Kd.R_alloc | apply Kd.R_drewN | apply Kd.R_drew)); exact HO_3.out) hb); have n1_ := Aside0.mk (below_step (by repeat (first | (with_reducible first | exact HB.out | apply below_alloc | apply pw_below_drewN | apply below_drew1) | exact HB.out)) hb); clear HO_3; clear HB; have HO_3 := n0_; have HB := n1_; clear n0_ n1_; (try clear hb); (try clear hb2); (try clear hk); (try clear hi)))
             go_roundg k2
             case measure => have := HK1.out; have := HK2.out; omega
             case rel => exact ⟨(x5_2 ++ t315), (wrap64 (x7_2 + 1)), (by first | rfl | (simp; done) | (simp [*]; done)), (by first | rfl | (simp; done) | (simp [*]; done)), H', ⟨by have := HK1.out; have := HK2.out; omega⟩, ⟨by (with_reducible repeat (first | apply Kd.R_alloc | apply Kd.R_drewN | apply Kd.R_drew)); exact HO_3.out⟩, ⟨by repeat (first | (with_reducible first | exact HB.out | apply below_alloc | apply pw_below_drewN | apply below_drew1) | exact HB.out)⟩⟩
            ·
             rw [if_neg c16] at H
             exact absurd H (by simp)
           ·
            rw [if_neg c13] at H
            exact absurd H (by simp)
          ·
           rw [if_neg c12] at H
           have c12b0 : decide (x7_2 < ((rdOf ByteArray.empty t309 x6_1).size : Int)) = false := decide_eq_false c12
           clear c12
           by_cases c18 : x5_2.size + 1 ≤ 9223372036854775807
           ·
            rw [if_pos c18] at H
            have c18b0 := eq_true c18
            have c18b1 : decide (x5_2.size + 1 ≤ 9223372036854775807) = true := decide_eq_true c18
            try have c18b2 : (9223372036854775807 < x5_2.size + 1) = False := eq_false (Nat.not_lt.2 c18)
            have H' := Aside0.mk H
            clear H
            have p313 : 0 ≤ (x6_1 : Int) := of_decide_eq_true (by first | (with_reducible assumption) | assumption)
            have q313 : x6_1 < (t309.length : Int) := of_decide_eq_true (by first | (with_reducible assumption) | assumption)
            obtain ⟨ad313, e313, hx313_0⟩ := Kd.at_string (Kd.R_reads' HO_3.out).2.2 x6_1 p313 q313
            cases e313
            replace p313 := eq_true p313
            replace q313 := eq_true q313
            go_wp2
            go_roundg k2
            case measure => have := HK1.out; have := HK2.out; omega
            case rel => exact ⟨(x5_2 ++ (⟨#[46]⟩ : ByteArray)), (wrap64 (x6_1 + 1)), (by first | rfl | (simp; done) | (simp [*]; done)), (by first | rfl | (simp; done) | (simp [*]; done)), H', ⟨by have := HK1.out; have := HK2.out; omega⟩, ⟨by (with_reducible repeat (first | apply Kd.R_alloc | apply Kd.R_drewN | apply Kd.R_drew)); exact HO_3.out⟩, ⟨by repeat (first | (with_reducible first | exact HB.out | apply below_alloc | apply pw_below_drewN | apply below_drew1) | exact HB.out)⟩⟩
           ·
            rw [if_neg c18] at H
            exact absurd H (by simp)
         ·
          rw [if_neg c11] at H
          exact absurd H (by simp)
        ·
         rw [if_neg c10] at H
         exact absurd H (by simp)
     ·
      rw [if_neg c9] at H
      have c9b0 : decide (x6_1 < (t309.length : Int)) = false := decide_eq_false c9
      clear c9
      obtain rfl := Option.some.inj H
      go_wp2
      go_ret
      exact ⟨by first | rfl | (simp [errW_none, errW_some] <;> rfl) | (simp [*, errW_none, errW_some] <;> rfl), by repeat (first | (with_reducible first | exact HB.out | apply below_alloc | apply pw_below_drewN | apply below_drew1) | exact HB.out)⟩
 ·
  replace c3 := Bool.eq_false_iff.mpr c3
  subst c3
  have H1 : (some (⟨#[]⟩ : ByteArray)) = some r := by rw [if_neg (show ¬ (false = true) by decide)] at H; exact H
  clear H
  have H := H1
  clear H1
  obtain rfl := Option.some.inj H
  go_enter Try.func25, Try.ntmps25
  go_wp2_with (first | ((with_reducible refine gate_callee (f := 12) rfl ?_); refine goesL_ (some 10) rfl rfl Try.func12 (by kernel_rfl) rfl #[.string a0] rfl (by (try simp only [List.map_toArray, List.map_cons, List.map_nil]); first | done | rfl | (simp only [List.length_drop, List.length_take]; rfl)) ?_; (with_reducible refine (nuncioref04_Labels.calls k a0 t309 false _ A2.out).mono ?_); rintro e w19 ⟨v311, rfl, ho0, hb⟩; refine ⟨_, rfl, ?_⟩; have n0_ := Aside0.mk (Kd.R_lower ho0 (below_size (by repeat (first | (with_reducible first | exact HB.out | apply below_alloc | apply pw_below_drewN | apply below_drew1) | exact HB.out)))); have n1_ := Aside0.mk (below_step (by repeat (first | (with_reducible first | exact HB.out | apply below_alloc | apply pw_below_drewN | apply below_drew1) | exact HB.out)) hb); clear HB; have HO312 := n0_; have HB := n1_; clear n0_ n1_; (try clear hb); (try clear hb2); (try clear hk); (try clear hi); (try clear ho0)))
  go_ret
  exact ⟨by first | rfl | (simp [errW_none, errW_some] <;> rfl) | (simp [*, errW_none, errW_some] <;> rfl), by repeat (first | (with_reducible first | exact HB.out | apply below_alloc | apply pw_below_drewN | apply below_drew1) | exact HB.out)⟩

end Go.Proofs.Ytpnflloamidecaa.Mine
