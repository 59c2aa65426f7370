-- Written by this repo's own printer (wip/print), which builds on the kit's.
import Derived.Test.YtpnflloamidecaaMinex0
import Derived.Test.YtpnflloamidecaaMinex2
import Derived.Test.YtpnflloamidecaaMinex6
namespace Go.Proofs.Ytpnflloamidecaa.Mine
open Go.RowKit Go.Proofs.YtpnflloamidecaaW.PrintWords Go.Proofs.YtpnflloamidecaaW.PrintLast Go.Proofs.YtpnflloamidecaaW.PrintMore
attribute [local go_sem] max2_int min2_int max_two min_two max_three min_three max_four min_four   -- for this text's walks alone
set_option linter.unusedVariables false
set_option linter.unusedSimpArgs false

/-! ### name_Text: function 24 -/
mutual
def name_Text.l0 : Nat → ByteArray → List ByteArray → Int → Int → Option (ByteArray)
 | 0, _, _, _, _ => none
 | k + 1, x5, x20, x21, x22 => if x22 < x21 then (if 0 ≤ x22 then (if x22 < (x20.length : Int) then (if ((rdOf ByteArray.empty x20 x22).size : Int) ≤ 9223372036854775807 then ((some (bytesOf (rdOf ByteArray.empty x20 x22) : List Int)).bind fun y172 => (name_Text.l1 k x5 x20 x21 x22 y172 (y172.length : Int) 0)) else (none)) else (none)) else (none)) else (some x5)
def name_Text.l1 : Nat → ByteArray → List ByteArray → Int → Int → List Int → Int → Int → Option (ByteArray)
 | 0, _, _, _, _, _, _, _ => none
 | k + 1, x5, x20, x21, x22, x27, x28, x29 => if x29 < x28 then (if 0 ≤ x29 then (if x29 < (x27.length : Int) then ((name_sign.f k (rd x27 x29)).bind fun t176 => (if x5.size + t176.size ≤ 9223372036854775807 then (name_Text.l1 k (x5 ++ t176) x20 x21 x22 x27 x28 (wrap64 (x29 + 1))) else (none))) else (none)) else (none)) else (if x5.size + 1 ≤ 9223372036854775807 then (name_Text.l0 k (x5 ++ (⟨#[46]⟩ : ByteArray)) x20 x21 (wrap64 (x22 + 1))) else (none))
end
def name_Text.f (k : Nat) (a0 : ByteArray) : Option (ByteArray) := (name_split.f k a0).bind fun bt167 => (if bt167.2 = true then (if (bt167.1.length : Int) = 0 then (some (⟨#[46]⟩ : ByteArray)) else (name_Text.l0 k (⟨#[]⟩ : ByteArray) bt167.1 (bt167.1.length : Int) 0)) else (some (⟨#[]⟩ : ByteArray)))
theorem name_Text.mono_l : ∀ k, (∀ y0 y1 y2 y3, LeO (name_Text.l0 k y0 y1 y2 y3) (name_Text.l0 (k + 1) y0 y1 y2 y3)) ∧ (∀ y0 y1 y2 y3 y4 y5 y6, LeO (name_Text.l1 k y0 y1 y2 y3 y4 y5 y6) (name_Text.l1 (k + 1) y0 y1 y2 y3 y4 y5 y6))
 | 0 => ⟨fun _ _ _ _ r h => by simp [name_Text.l0] at h, fun _ _ _ _ _ _ _ r h => by simp [name_Text.l1] at h⟩
 | k + 1 => by
  obtain ⟨ih0, ih1⟩ := name_Text.mono_l k
  refine ⟨?_, ?_⟩
  ·
   intro y0 y1 y2 y3
   unfold name_Text.l0
   repeat' first
   | (with_reducible exact ih0 _ _ _ _)
   | (with_reducible exact ih1 _ _ _ _ _ _ _)
   | (with_reducible exact name_sign.mono _ _)
   | (with_reducible exact name_split.mono _ _)
   | (with_reducible exact LeO.refl _)
   | (with_reducible exact LeO.none _)
   | (with_reducible refine LeO.ite ?_ ?_)
   | (with_reducible refine LeO.bind ?_ (fun _ => ?_))
   | exact ih0 _ _ _ _
   | exact ih1 _ _ _ _ _ _ _
   | exact name_sign.mono _ _
   | exact name_split.mono _ _
   | exact LeO.none _
   | refine LeO.ite ?_ ?_
   | refine LeO.bind ?_ (fun _ => ?_)
  ·
   intro y0 y1 y2 y3 y4 y5 y6
   unfold name_Text.l1
   repeat' first
   | (with_reducible exact ih0 _ _ _ _)
   | (with_reducible exact ih1 _ _ _ _ _ _ _)
   | (with_reducible exact name_sign.mono _ _)
   | (with_reducible exact name_split.mono _ _)
   | (with_reducible exact LeO.refl _)
   | (with_reducible exact LeO.none _)
   | (with_reducible refine LeO.ite ?_ ?_)
   | (with_reducible refine LeO.bind ?_ (fun _ => ?_))
   | exact ih0 _ _ _ _
   | exact ih1 _ _ _ _ _ _ _
   | exact name_sign.mono _ _
   | exact name_split.mono _ _
   | exact LeO.none _
   | refine LeO.ite ?_ ?_
   | refine LeO.bind ?_ (fun _ => ?_)
theorem name_Text.mono : ∀ a0 k, LeO (name_Text.f k a0) (name_Text.f (k + 1) a0) := by
 intro a0 k
 obtain ⟨ih0, ih1⟩ := name_Text.mono_l k
 unfold name_Text.f
 repeat' first
   | (with_reducible exact ih0 _ _ _ _)
   | (with_reducible exact ih1 _ _ _ _ _ _ _)
   | (with_reducible exact name_sign.mono _ _)
   | (with_reducible exact name_split.mono _ _)
   | (with_reducible exact LeO.refl _)
   | (with_reducible exact LeO.none _)
   | (with_reducible refine LeO.ite ?_ ?_)
   | (with_reducible refine LeO.bind ?_ (fun _ => ?_))
   | exact ih0 _ _ _ _
   | exact ih1 _ _ _ _ _ _ _
   | exact name_sign.mono _ _
   | exact name_split.mono _ _
   | exact LeO.none _
   | refine LeO.ite ?_ ?_
   | refine LeO.bind ?_ (fun _ => ?_)
set_option maxHeartbeats 8000000 in
set_option maxRecDepth 100000 in
theorem name_Text.calls (k : Nat) (a0 : ByteArray) (r : ByteArray) (w : World) (h : name_Text.f k a0 = some r) :
  Calls Try.prog 24 #[.string a0] w fun e w' => e = .returned (.string r) ∧ Below w.heap.size w w' := by
 have HB := Aside0.mk (Below.refl w.heap.size w)
 have H : ((name_split.f k a0).bind fun bt167 => (if bt167.2 = true then (if (bt167.1.length : Int) = 0 then (some (⟨#[46]⟩ : ByteArray)) else (name_Text.l0 k (⟨#[]⟩ : ByteArray) bt167.1 (bt167.1.length : Int) 0)) else (some (⟨#[]⟩ : ByteArray)))) = some r := h
 clear h
 replace H := Option.bind_eq_some_iff.mp H
 obtain ⟨⟨t167, t168⟩, A20, H⟩ := H
 replace H : (if t168 = true then (if (t167.length : Int) = 0 then (some (⟨#[46]⟩ : ByteArray)) else (name_Text.l0 k (⟨#[]⟩ : ByteArray) t167 (t167.length : Int) 0)) else (some (⟨#[]⟩ : ByteArray))) = some r := H
 have A2 := Aside0.mk A20
 clear A20
 by_cases c3 : t168 = true
 ·
  subst c3
  have H1 : (if (t167.length : Int) = 0 then (some (⟨#[46]⟩ : ByteArray)) else (name_Text.l0 k (⟨#[]⟩ : ByteArray) t167 (t167.length : Int) 0)) = some r := by rw [if_pos rfl] at H; exact H
  clear H
  have H := H1
  clear H1
  by_cases c4 : (t167.length : Int) = 0
  ·
   rw [if_pos c4] at H
   have c4b0 : ((t167.length : Int) == 0) = true := beq_iff_eq.mpr c4
   have c4b1 : ((t167.length : Int) != 0) = false := bne_eq_false_iff_eq.mpr c4
   clear c4
   obtain rfl := Option.some.inj H
   go_enter Try.func24, Try.ntmps24
   go_wp2_with (first | ((with_reducible refine gate_callee (f := 27) rfl ?_); refine goesL_ (some 12) rfl rfl Try.func27 (by kernel_rfl) rfl #[.string a0] rfl (by (try simp only [List.map_toArray, List.map_cons, List.map_nil]); first | done | rfl | (simp only [List.length_drop, List.length_take]; rfl)) ?_; (with_reducible refine (name_split.calls k a0 t167 true _ A2.out).mono ?_); rintro e w5 ⟨v169, rfl, ho0, hb⟩; refine ⟨_, rfl, ?_⟩; have n0_ := Aside0.mk (Kd.R_lower ho0 (below_size (by repeat (first | (with_reducible first | exact HB.out | apply below_alloc | apply pw_below_drewN | apply below_drew1) | exact HB.out)))); have n1_ := Aside0.mk (below_step (by repeat (first | (with_reducible first | exact HB.out | apply below_alloc | apply pw_below_drewN | apply below_drew1) | exact HB.out)) hb); clear HB; have HO170 := n0_; have HB := n1_; clear n0_ n1_; (try clear hb); (try clear hb2); (try clear hk); (try clear hi); (try clear ho0); obtain ⟨Ao6, co6, eo6⟩ := Kd.R_slice HO170.out; subst eo6))
   go_ret
   exact ⟨by first | rfl | (simp [errW_none, errW_some] <;> rfl) | (simp [*, errW_none, errW_some] <;> rfl), by repeat (first | (with_reducible first | exact HB.out | apply below_alloc | apply pw_below_drewN | apply below_drew1) | exact HB.out)⟩
  ·
   rw [if_neg c4] at H
   have c4b0 : ((t167.length : Int) == 0) = false := beq_eq_false_iff_ne.mpr c4
   have c4b1 : ((t167.length : Int) != 0) = true := bne_iff_ne.mpr c4
   have c4b2 : ¬ (t167 = []) := fun h_ => c4 (by rw [h_]; rfl)
   have H' := Aside0.mk H
   clear H
   go_enter Try.func24, Try.ntmps24
   go_wp2_with (first | ((with_reducible refine gate_callee (f := 27) rfl ?_); refine goesL_ (some 12) rfl rfl Try.func27 (by kernel_rfl) rfl #[.string a0] rfl (by (try simp only [List.map_toArray, List.map_cons, List.map_nil]); first | done | rfl | (simp only [List.length_drop, List.length_take]; rfl)) ?_; (with_reducible refine (name_split.calls k a0 t167 true _ A2.out).mono ?_); rintro e w7 ⟨v169, rfl, ho0, hb⟩; refine ⟨_, rfl, ?_⟩; have n0_ := Aside0.mk (Kd.R_lower ho0 (below_size (by repeat (first | (with_reducible first | exact HB.out | apply below_alloc | apply pw_below_drewN | apply below_drew1) | exact HB.out)))); have n1_ := Aside0.mk (below_step (by repeat (first | (with_reducible first | exact HB.out | apply below_alloc | apply pw_below_drewN | apply below_drew1) | exact HB.out)) hb); clear HB; have HO170 := n0_; have HB := n1_; clear n0_ n1_; (try clear hb); (try clear hb2); (try clear hk); (try clear hi); (try clear ho0); obtain ⟨Ao8, co8, eo8⟩ := Kd.R_slice HO170.out; subst eo8))
   go_loopg [5, 22] k (fun kq v5 v22 w' => ∃ (x5_1 : ByteArray) (x22_1 : Int), v5 = .string x5_1 ∧ v22 = .int .i64 x22_1 ∧ Aside0 (name_Text.l0 kq x5_1 t167 (t167.length : Int) x22_1 = some r) ∧ Aside0 (kq ≤ k) ∧ Aside0 (Kd.R Kd.string 9 w' w.heap.size (fun _ => True) (.slice Ao8 t167.length co8) t167) ∧ Aside0 (Below w.heap.size w w'))
   case atStart => exact ⟨((⟨#[]⟩ : ByteArray)), (0), (by first | rfl | (simp; done) | (simp [*]; done)), (by first | rfl | (simp; done) | (simp [*]; done)), H', ⟨Nat.le_refl _⟩, ⟨by (with_reducible repeat (first | apply Kd.R_alloc | apply Kd.R_drewN | apply Kd.R_drew)); exact HO170.out⟩, ⟨by repeat (first | (with_reducible first | exact HB.out | apply below_alloc | apply pw_below_drewN | apply below_drew1) | exact HB.out)⟩⟩
   case round =>
    clear H'
    try clear c2
    try clear p2
    try clear c3
    try clear c4
    try clear c4b0
    try clear c4b1
    try clear c4b2
    obtain ⟨x5_1, x22_1, rfl, rfl, HA, HK1, HO_20, HB⟩ := hrel
    cases gk with
    | zero => exact absurd HA.out (by simp [name_Text.l0])
    | succ k1 =>
     have H := HA.out
     clear HA
     simp only [name_Text.l0] at H
     by_cases c9 : x22_1 < (t167.length : Int)
     ·
      rw [if_pos c9] at H
      have c9b0 : decide (x22_1 < (t167.length : Int)) = true := decide_eq_true c9
      clear c9
      by_cases c10 : 0 ≤ x22_1
      ·
       rw [if_pos c10] at H
       have c10b0 : decide (0 ≤ x22_1) = true := decide_eq_true c10
       clear c10
       by_cases c11 : x22_1 < (t167.length : Int)
       ·
        rw [if_pos c11] at H
        have c11b0 : decide (x22_1 < (t167.length : Int)) = true := decide_eq_true c11
        clear c11
        by_cases c12 : ((rdOf ByteArray.empty t167 x22_1).size : Int) ≤ 9223372036854775807
        ·
         rw [if_pos c12] at H
         have c12b0 := eq_true c12
         have c12b1 : decide (((rdOf ByteArray.empty t167 x22_1).size : Int) ≤ 9223372036854775807) = true := decide_eq_true c12
         try have c12b2 : (9223372036854775807 < ((rdOf ByteArray.empty t167 x22_1).size : Int)) = False := eq_false (Nat.not_lt.2 c12)
         clear c12
         obtain ⟨y172, hy172⟩ : ∃ y_ : List Int, y_ = (bytesOf (rdOf ByteArray.empty t167 x22_1)) := ⟨_, rfl⟩
         replace H : (name_Text.l1 k1 x5_1 t167 (t167.length : Int) x22_1 y172 (y172.length : Int) 0) = some r := by first | (rw [hy172]; with_reducible exact H) | (have H2_ := (Option.bind_some _ _).symm.trans H; rw [hy172]; with_reducible exact H2_) | (have H2_ := (Option.bind_some _ _).symm.trans H; with_reducible exact H2_) | with_reducible exact H | (rw [hy172]; exact H) | exact H
         have Ny172 := Aside0.mk hy172
         clear hy172
         have H' := Aside0.mk H
         clear H
         have p171 : 0 ≤ (x22_1 : Int) := of_decide_eq_true (by first | (with_reducible assumption) | assumption)
         have q171 : x22_1 < (t167.length : Int) := of_decide_eq_true (by first | (with_reducible assumption) | assumption)
         obtain ⟨ad171, e171, hx171_0⟩ := Kd.at_string (Kd.R_reads' HO_20.out).2.2 x22_1 p171 q171
         cases e171
         replace p171 := eq_true p171
         replace q171 := eq_true q171
         go_wp2_with (first | ((with_reducible refine gate_dst (N := 27) rfl ?_); refine Kd.V_conv _ 5 rfl (N' := 27) rfl 9 41 _ rfl (rdOf ByteArray.empty t167 x22_1) rfl Try.underlying9 Try.underlying41 Try.underlying5 (by have h_ : (((rdOf ByteArray.empty t167 x22_1).size : Int) : Int) ≤ 9223372036854775807 := of_decide_eq_true (by first | (with_reducible assumption) | assumption); omega) (Below.refl _ _) (Nat.le_refl _) ?_; intro v173 w13 ho14 hb hg_ hnew_; clear hg_ hnew_; (first | rw [← Ny172.out] at ho14 | (simp only [Int.reduceToNat] at ho14; rw [← Ny172.out] at ho14)); have n0_ := Aside0.mk (Kd.R_below (by (with_reducible repeat (first | apply Kd.R_alloc | apply Kd.R_drewN | apply Kd.R_drew)); exact HO_20.out) hb); have n1_ := Aside0.mk (Kd.V_lower (Kd.V_mono (ok' := fun k_ => some k_ ≠ (.slice (some ad171) t167.length co8 : Value).ownBlock) ho14 (fun k_ hk_ => (Kd.fresh' (Kd.R_lt (by (with_reducible repeat (first | apply Kd.R_alloc | apply Kd.R_drewN | apply Kd.R_drew)); exact HO_20.out)) k_ hk_))) (below_size (by repeat (first | (with_reducible first | exact HB.out | apply below_alloc | apply pw_below_drewN | apply below_drew1) | exact HB.out)))); have n2_ := Aside0.mk (below_step (by repeat (first | (with_reducible first | exact HB.out | apply below_alloc | apply pw_below_drewN | apply below_drew1) | exact HB.out)) hb); clear HO_20; clear HB; have HO_20 := n0_; have HO174 := n1_; have HB := n2_; clear n0_ n1_ n2_; clear hb ho14; obtain ⟨Ao15, co15, eo15⟩ := Kd.V_slice HO174.out; subst eo15))
         go_loopg [5, 29] k1 (fun kq v5 v29 w' => ∃ (x5_2 : ByteArray) (x29_2 : Int), v5 = .string x5_2 ∧ v29 = .int .i64 x29_2 ∧ Aside0 (name_Text.l1 kq x5_2 t167 (t167.length : Int) x22_1 y172 (y172.length : Int) x29_2 = some r) ∧ Aside0 (kq ≤ k1) ∧ Aside0 (Kd.R Kd.string 9 w' w.heap.size (fun _ => True) (.slice (some ad171) t167.length co8) t167) ∧ Aside0 (Kd.V (Kd.int .u8) 5 w' w.heap.size (fun k_ => some k_ ≠ ((.slice (some ad171) t167.length co8) : Value).ownBlock) (.slice Ao15 y172.length co15) y172) ∧ Aside0 (Below w.heap.size w w'))
         case atStart => exact ⟨(x5_1), (0), (by first | rfl | (simp; done) | (simp [*]; done)), (by first | rfl | (simp; done) | (simp [*]; done)), H', ⟨Nat.le_refl _⟩, ⟨by (with_reducible repeat (first | apply Kd.R_alloc | apply Kd.R_drewN | apply Kd.R_drew)); exact HO_20.out⟩, ⟨by (with_reducible repeat (first | apply Kd.V_alloc | apply Kd.V_drewN | apply Kd.V_drew)); exact HO174.out⟩, ⟨by repeat (first | (with_reducible first | exact HB.out | apply below_alloc | apply pw_below_drewN | apply below_drew1) | exact HB.out)⟩⟩
         case round =>
          clear H'
          try clear c1
          try clear p1
          try clear q1
          try clear hx1
          try clear c2
          try clear p2
          try clear c3
          try clear c4
          try clear c4b0
          try clear c4b1
          try clear c4b2
          try clear c9
          try clear c9b0
          try clear c10
          try clear c10b0
          try clear c11
          try clear c11b0
          try clear c12
          try clear c12b0
          try clear c12b1
          try clear c12b2
          try clear hx171_0
          try clear p171
          try clear p2
          try clear q171
          obtain ⟨x5_2, x29_2, rfl, rfl, HA, HK2, HO_20, HO_27, HB⟩ := hrel
          cases gk with
          | zero => exact absurd HA.out (by simp [name_Text.l1])
          | succ k2 =>
           have H := HA.out
           clear HA
           simp only [name_Text.l1] at H
           by_cases c16 : x29_2 < (y172.length : Int)
           ·
            rw [if_pos c16] at H
            have c16b0 : decide (x29_2 < (y172.length : Int)) = true := decide_eq_true c16
            clear c16
            by_cases c17 : 0 ≤ x29_2
            ·
             rw [if_pos c17] at H
             have c17b0 : decide (0 ≤ x29_2) = true := decide_eq_true c17
             clear c17
             by_cases c18 : x29_2 < (y172.length : Int)
             ·
              rw [if_pos c18] at H
              have c18b0 : decide (x29_2 < (y172.length : Int)) = true := decide_eq_true c18
              clear c18
              replace H := Option.bind_eq_some_iff.mp H
              obtain ⟨t176, A190, H⟩ := H
              replace H : (if x5_2.size + t176.size ≤ 9223372036854775807 then (name_Text.l1 k2 (x5_2 ++ t176) t167 (t167.length : Int) x22_1 y172 (y172.length : Int) (wrap64 (x29_2 + 1))) else (none)) = some r := H
              have A19 := Aside0.mk A190
              clear A190
              by_cases c20 : x5_2.size + t176.size ≤ 9223372036854775807
              ·
               rw [if_pos c20] at H
               have c20b0 := eq_true c20
               have c20b1 : decide (x5_2.size + t176.size ≤ 9223372036854775807) = true := decide_eq_true c20
               try have c20b2 : (9223372036854775807 < x5_2.size + t176.size) = False := eq_false (Nat.not_lt.2 c20)
               have H' := Aside0.mk H
               clear H
               have p175 : 0 ≤ (x29_2 : Int) := of_decide_eq_true (by first | (with_reducible assumption) | assumption)
               have q175 : x29_2 < (y172.length : Int) := of_decide_eq_true (by first | (with_reducible assumption) | assumption)
               obtain ⟨ad175, e175, hx175_0⟩ := Kd.at_int (Kd.V_reads' HO_27.out).2.2 x29_2 p175 q175
               cases e175
               replace p175 := eq_true p175
               replace q175 := eq_true q175
               go_wp2_with (first | ((with_reducible refine gate_callee (f := 34) rfl ?_); refine goesL_ (some 35) rfl rfl Try.func34 (by kernel_rfl) rfl #[.int .u8 (rd y172 x29_2)] rfl (by (try simp only [List.map_toArray, List.map_cons, List.map_nil]); first | done | rfl | (simp only [List.length_drop, List.length_take]; rfl)) ?_; (with_reducible refine (name_sign.calls k2 (rd y172 x29_2) t176 _ A19.out).mono ?_); rintro e w21 ⟨rfl, hb⟩; refine ⟨_, rfl, ?_⟩; have n0_ := Aside0.mk (Kd.R_below (by (with_reducible repeat (first | apply Kd.R_alloc | apply Kd.R_drewN | apply Kd.R_drew)); exact HO_20.out) hb); have n1_ := Aside0.mk (Kd.V_below (by (with_reducible repeat (first | apply Kd.V_alloc | apply Kd.V_drewN | apply Kd.V_drew)); exact HO_27.out) hb); have n2_ := Aside0.mk (below_step (by repeat (first | (with_reducible first | exact HB.out | apply below_alloc | apply pw_below_drewN | apply below_drew1) | exact HB.out)) hb); clear HO_20; clear HO_27; clear HB; have HO_20 := n0_; have HO_27 := n1_; have HB := n2_; clear n0_ n1_ n2_; (try clear hb); (try clear hb2); (try clear hk); (try clear hi)))
               go_roundg k2
               case measure => have := HK1.out; have := HK2.out; omega
               case rel => exact ⟨(x5_2 ++ t176), (wrap64 (x29_2 + 1)), (by first | rfl | (simp; done) | (simp [*]; done)), (by first | rfl | (simp; done) | (simp [*]; done)), H', ⟨by have := HK1.out; have := HK2.out; omega⟩, ⟨by (with_reducible repeat (first | apply Kd.R_alloc | apply Kd.R_drewN | apply Kd.R_drew)); exact HO_20.out⟩, ⟨by (with_reducible repeat (first | apply Kd.V_alloc | apply Kd.V_drewN | apply Kd.V_drew)); exact HO_27.out⟩, ⟨by repeat (first | (with_reducible first | exact HB.out | apply below_alloc | apply pw_below_drewN | apply below_drew1) | exact HB.out)⟩⟩
              ·
               rw [if_neg c20] at H
               exact absurd H (by simp)
             ·
              rw [if_neg c18] at H
              exact absurd H (by simp)
            ·
             rw [if_neg c17] at H
             exact absurd H (by simp)
           ·
            rw [if_neg c16] at H
            have c16b0 : decide (x29_2 < (y172.length : Int)) = false := decide_eq_false c16
            clear c16
            by_cases c22 : x5_2.size + 1 ≤ 9223372036854775807
            ·
             rw [if_pos c22] at H
             have c22b0 := eq_true c22
             have c22b1 : decide (x5_2.size + 1 ≤ 9223372036854775807) = true := decide_eq_true c22
             try have c22b2 : (9223372036854775807 < x5_2.size + 1) = False := eq_false (Nat.not_lt.2 c22)
             have H' := Aside0.mk H
             clear H
             go_wp2
             go_roundg k2
             case measure => have := HK1.out; have := HK2.out; omega
             case rel => exact ⟨(x5_2 ++ (⟨#[46]⟩ : ByteArray)), (wrap64 (x22_1 + 1)), (by first | rfl | (simp; done) | (simp [*]; done)), (by first | rfl | (simp; done) | (simp [*]; done)), H', ⟨by have := HK1.out; have := HK2.out; omega⟩, ⟨by (with_reducible repeat (first | apply Kd.R_alloc | apply Kd.R_drewN | apply Kd.R_drew)); exact HO_20.out⟩, ⟨by repeat (first | (with_reducible first | exact HB.out | apply below_alloc | apply pw_below_drewN | apply below_drew1) | exact HB.out)⟩⟩
            ·
             rw [if_neg c22] at H
             exact absurd H (by simp)
        ·
         rw [if_neg c12] at H
         exact absurd H (by simp)
       ·
        rw [if_neg c11] at H
        exact absurd H (by simp)
      ·
       rw [if_neg c10] at H
       exact absurd H (by simp)
     ·
      rw [if_neg c9] at H
      have c9b0 : decide (x22_1 < (t167.length : Int)) = false := decide_eq_false c9
      clear c9
      obtain rfl := Option.some.inj H
      go_wp2
      go_ret
      exact ⟨by first | rfl | (simp [errW_none, errW_some] <;> rfl) | (simp [*, errW_none, errW_some] <;> rfl), by repeat (first | (with_reducible first | exact HB.out | apply below_alloc | apply pw_below_drewN | apply below_drew1) | exact HB.out)⟩
 ·
  replace c3 := Bool.eq_false_iff.mpr c3
  subst c3
  have H1 : (some (⟨#[]⟩ : ByteArray)) = some r := by rw [if_neg (show ¬ (false = true) by decide)] at H; exact H
  clear H
  have H := H1
  clear H1
  obtain rfl := Option.some.inj H
  go_enter Try.func24, Try.ntmps24
  go_wp2_with (first | ((with_reducible refine gate_callee (f := 27) rfl ?_); refine goesL_ (some 12) rfl rfl Try.func27 (by kernel_rfl) rfl #[.string a0] rfl (by (try simp only [List.map_toArray, List.map_cons, List.map_nil]); first | done | rfl | (simp only [List.length_drop, List.length_take]; rfl)) ?_; (with_reducible refine (name_split.calls k a0 t167 false _ A2.out).mono ?_); rintro e w23 ⟨v169, rfl, ho0, hb⟩; refine ⟨_, rfl, ?_⟩; have n0_ := Aside0.mk (Kd.R_lower ho0 (below_size (by repeat (first | (with_reducible first | exact HB.out | apply below_alloc | apply pw_below_drewN | apply below_drew1) | exact HB.out)))); have n1_ := Aside0.mk (below_step (by repeat (first | (with_reducible first | exact HB.out | apply below_alloc | apply pw_below_drewN | apply below_drew1) | exact HB.out)) hb); clear HB; have HO170 := n0_; have HB := n1_; clear n0_ n1_; (try clear hb); (try clear hb2); (try clear hk); (try clear hi); (try clear ho0)))
  go_ret
  exact ⟨by first | rfl | (simp [errW_none, errW_some] <;> rfl) | (simp [*, errW_none, errW_some] <;> rfl), by repeat (first | (with_reducible first | exact HB.out | apply below_alloc | apply pw_below_drewN | apply below_drew1) | exact HB.out)⟩

end Go.Proofs.Ytpnflloamidecaa.Mine
