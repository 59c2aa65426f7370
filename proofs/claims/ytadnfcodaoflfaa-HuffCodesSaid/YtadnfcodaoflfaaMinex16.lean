-- Written by this repo's own printer (wip/print), which builds on the kit's.
import Derived.Test.YtadnfcodaoflfaaMinex0
import Derived.Test.YtadnfcodaoflfaaMinex2
import Derived.Test.YtadnfcodaoflfaaMinex6
import Derived.Test.YtadnfcodaoflfaaMinex7
import Derived.Test.YtadnfcodaoflfaaMinex15
namespace Go.Proofs.Ytadnfcodaoflfaa.Mine
open Go.RowKit Go.Proofs.YtadnfcodaoflfaaW.PrintWords Go.Proofs.YtadnfcodaoflfaaW.PrintLast Go.Proofs.YtadnfcodaoflfaaW.PrintMore
attribute [local go_sem] max2_int min2_int max_two min_two max_three min_three max_four min_four   -- for this text's walks alone
set_option linter.unusedVariables false
set_option linter.unusedSimpArgs false

/-! ### nunciolaw10_HuffCodes: function 8 -/
mutual
def nunciolaw10_HuffCodes.l0 : Nat → Int → List Int → Int → Int → Option (Bool)
 | 0, _, _, _, _ => none
 | k + 1, x0, x3, x4, x5 => if x5 ≤ 256 then ((huff_Code.f x5).bind fun bt190 => (if 0 ≤ x5 then (if x5 < (x3.length : Int) then (if (IntKind.u64.wrap (bt190.1)) = (rd x3 x5) then ((nuncioref10_Length.f x5).bind fun t193 => (nunciolaw10_HuffCodes.j1 k x0 x3 x4 x5 bt190.1 bt190.2 (bt190.2 != t193))) else (nunciolaw10_HuffCodes.j1 k x0 x3 x4 x5 bt190.1 bt190.2 true)) else (none)) else (none))) else ((huff_Code.f x0).bind fun bt188 => (if x4 = 1073741824 then (if x0 ≥ 0 then (if x0 ≤ 256 then (some true) else (if bt188.1 = 0 then (some (bt188.2 == 0)) else (some false))) else (if bt188.1 = 0 then (some (bt188.2 == 0)) else (some false))) else (some false)))
def nunciolaw10_HuffCodes.j1 : Nat → Int → List Int → Int → Int → Int → Int → Bool → Option (Bool)
 | 0, _, _, _, _, _, _, _ => none
 | k + 1, x0, x3, x4, x5, x6, x7, x37 => if x37 = true then (some false) else (if 0 ≤ (wrap64 (30 - x7)) then (nunciolaw10_HuffCodes.l1 k x0 x3 (IntKind.u64.wrap (x4 + (shl .u64 1 (wrap64 (30 - x7))))) x5 x6 x7 0) else (none))
def nunciolaw10_HuffCodes.l1 : Nat → Int → List Int → Int → Int → Int → Int → Int → Option (Bool)
 | 0, _, _, _, _, _, _, _ => none
 | k + 1, x0, x3, x4, x5, x6, x7, x8 => if x8 < x5 then (if 0 ≤ x8 then (if x8 < (x3.length : Int) then ((nuncioref10_Length.f x8).bind fun t195 => (if t195 ≤ x7 then (if 0 ≤ (wrap64 (x7 - t195)) then (if (shr .u64 (IntKind.u64.wrap (x6)) (wrap64 (x7 - t195))) = (rd x3 x8) then (some false) else (if t195 > x7 then (if 0 ≤ (wrap64 (t195 - x7)) then (if (shr .u64 (rd x3 x8) (wrap64 (t195 - x7))) = (IntKind.u64.wrap (x6)) then (some false) else (nunciolaw10_HuffCodes.l1 k x0 x3 x4 x5 x6 x7 (wrap64 (x8 + 1)))) else (none)) else (nunciolaw10_HuffCodes.l1 k x0 x3 x4 x5 x6 x7 (wrap64 (x8 + 1))))) else (none)) else (if t195 > x7 then (if 0 ≤ (wrap64 (t195 - x7)) then (if (shr .u64 (rd x3 x8) (wrap64 (t195 - x7))) = (IntKind.u64.wrap (x6)) then (some false) else (nunciolaw10_HuffCodes.l1 k x0 x3 x4 x5 x6 x7 (wrap64 (x8 + 1)))) else (none)) else (nunciolaw10_HuffCodes.l1 k x0 x3 x4 x5 x6 x7 (wrap64 (x8 + 1)))))) else (none)) else (none)) else (nunciolaw10_HuffCodes.l0 k x0 x3 x4 (wrap64 (x5 + 1)))
end
def nunciolaw10_HuffCodes.f (k : Nat) (a0 : Int) : Option (Bool) := (nunciolaw10_awake.f k).bind fun t184 => (if t184 = true then ((nuncioref10_Codes.f k).bind fun t185 => (nunciolaw10_HuffCodes.l0 k a0 t185 0 0)) else (some false))
theorem nunciolaw10_HuffCodes.mono_l : ∀ k, (∀ y0 y1 y2 y3, LeO (nunciolaw10_HuffCodes.l0 k y0 y1 y2 y3) (nunciolaw10_HuffCodes.l0 (k + 1) y0 y1 y2 y3)) ∧ (∀ y0 y1 y2 y3 y4 y5 y6, LeO (nunciolaw10_HuffCodes.j1 k y0 y1 y2 y3 y4 y5 y6) (nunciolaw10_HuffCodes.j1 (k + 1) y0 y1 y2 y3 y4 y5 y6)) ∧ (∀ y0 y1 y2 y3 y4 y5 y6, LeO (nunciolaw10_HuffCodes.l1 k y0 y1 y2 y3 y4 y5 y6) (nunciolaw10_HuffCodes.l1 (k + 1) y0 y1 y2 y3 y4 y5 y6))
 | 0 => ⟨fun _ _ _ _ r h => by simp [nunciolaw10_HuffCodes.l0] at h, fun _ _ _ _ _ _ _ r h => by simp [nunciolaw10_HuffCodes.j1] at h, fun _ _ _ _ _ _ _ r h => by simp [nunciolaw10_HuffCodes.l1] at h⟩
 | k + 1 => by
  obtain ⟨ih0, ih1, ih2⟩ := nunciolaw10_HuffCodes.mono_l k
  refine ⟨?_, ?_, ?_⟩
  ·
   intro y0 y1 y2 y3
   unfold nunciolaw10_HuffCodes.l0
   repeat' first
   | (with_reducible exact ih0 _ _ _ _)
   | (with_reducible exact ih1 _ _ _ _ _ _ _)
   | (with_reducible exact ih2 _ _ _ _ _ _ _)
   | (with_reducible exact nunciolaw10_awake.mono _)
   | (with_reducible exact nuncioref10_Codes.mono _)
   | (with_reducible exact LeO.refl _)
   | (with_reducible exact LeO.none _)
   | (with_reducible refine LeO.ite ?_ ?_)
   | (with_reducible refine LeO.bind ?_ (fun _ => ?_))
   | exact ih0 _ _ _ _
   | exact ih1 _ _ _ _ _ _ _
   | exact ih2 _ _ _ _ _ _ _
   | exact nunciolaw10_awake.mono _
   | exact nuncioref10_Codes.mono _
   | exact LeO.none _
   | refine LeO.ite ?_ ?_
   | refine LeO.bind ?_ (fun _ => ?_)
  ·
   intro y0 y1 y2 y3 y4 y5 y6
   unfold nunciolaw10_HuffCodes.j1
   repeat' first
   | (with_reducible exact ih0 _ _ _ _)
   | (with_reducible exact ih1 _ _ _ _ _ _ _)
   | (with_reducible exact ih2 _ _ _ _ _ _ _)
   | (with_reducible exact nunciolaw10_awake.mono _)
   | (with_reducible exact nuncioref10_Codes.mono _)
   | (with_reducible exact LeO.refl _)
   | (with_reducible exact LeO.none _)
   | (with_reducible refine LeO.ite ?_ ?_)
   | (with_reducible refine LeO.bind ?_ (fun _ => ?_))
   | exact ih0 _ _ _ _
   | exact ih1 _ _ _ _ _ _ _
   | exact ih2 _ _ _ _ _ _ _
   | exact nunciolaw10_awake.mono _
   | exact nuncioref10_Codes.mono _
   | exact LeO.none _
   | refine LeO.ite ?_ ?_
   | refine LeO.bind ?_ (fun _ => ?_)
  ·
   intro y0 y1 y2 y3 y4 y5 y6
   unfold nunciolaw10_HuffCodes.l1
   repeat' first
   | (with_reducible exact ih0 _ _ _ _)
   | (with_reducible exact ih1 _ _ _ _ _ _ _)
   | (with_reducible exact ih2 _ _ _ _ _ _ _)
   | (with_reducible exact nunciolaw10_awake.mono _)
   | (with_reducible exact nuncioref10_Codes.mono _)
   | (with_reducible exact LeO.refl _)
   | (with_reducible exact LeO.none _)
   | (with_reducible refine LeO.ite ?_ ?_)
   | (with_reducible refine LeO.bind ?_ (fun _ => ?_))
   | exact ih0 _ _ _ _
   | exact ih1 _ _ _ _ _ _ _
   | exact ih2 _ _ _ _ _ _ _
   | exact nunciolaw10_awake.mono _
   | exact nuncioref10_Codes.mono _
   | exact LeO.none _
   | refine LeO.ite ?_ ?_
   | refine LeO.bind ?_ (fun _ => ?_)
theorem nunciolaw10_HuffCodes.mono : ∀ a0 k, LeO (nunciolaw10_HuffCodes.f k a0) (nunciolaw10_HuffCodes.f (k + 1) a0) := by
 intro a0 k
 obtain ⟨ih0, ih1, ih2⟩ := nunciolaw10_HuffCodes.mono_l k
 unfold nunciolaw10_HuffCodes.f
 repeat' first
   | (with_reducible exact ih0 _ _ _ _)
   | (with_reducible exact ih1 _ _ _ _ _ _ _)
   | (with_reducible exact ih2 _ _ _ _ _ _ _)
   | (with_reducible exact nunciolaw10_awake.mono _)
   | (with_reducible exact nuncioref10_Codes.mono _)
   | (with_reducible exact LeO.refl _)
   | (with_reducible exact LeO.none _)
   | (with_reducible refine LeO.ite ?_ ?_)
   | (with_reducible refine LeO.bind ?_ (fun _ => ?_))
   | exact ih0 _ _ _ _
   | exact ih1 _ _ _ _ _ _ _
   | exact ih2 _ _ _ _ _ _ _
   | exact nunciolaw10_awake.mono _
   | exact nuncioref10_Codes.mono _
   | exact LeO.none _
   | refine LeO.ite ?_ ?_
   | refine LeO.bind ?_ (fun _ => ?_)
set_option maxHeartbeats 8000000 in
set_option maxRecDepth 100000 in
theorem nunciolaw10_HuffCodes.calls (k : Nat) (a0 : Int) (r : Bool) (w : World) (h : nunciolaw10_HuffCodes.f k a0 = some r) (hT : r = true) :
  Calls Try.prog 8 #[.int .i64 a0] w fun e w' => e = .returned (.bool r) ∧ Below w.heap.size w w' := by
 have HB := Aside0.mk (Below.refl w.heap.size w)
 have HT := Aside0.mk hT
 clear hT
 have H : ((nunciolaw10_awake.f k).bind fun t184 => (if t184 = true then ((nuncioref10_Codes.f k).bind fun t185 => (nunciolaw10_HuffCodes.l0 k a0 t185 0 0)) else (some false))) = some r := h
 clear h
 replace H := Option.bind_eq_some_iff.mp H
 obtain ⟨t184, A20, H⟩ := H
 replace H : (if t184 = true then ((nuncioref10_Codes.f k).bind fun t185 => (nunciolaw10_HuffCodes.l0 k a0 t185 0 0)) else (some false)) = some r := H
 have A2 := Aside0.mk A20
 clear A20
 by_cases c3 : t184 = true
 ·
  subst c3
  have H1 : ((nuncioref10_Codes.f k).bind fun t185 => (nunciolaw10_HuffCodes.l0 k a0 t185 0 0)) = some r := by rw [if_pos rfl] at H; exact H
  clear H
  have H := H1
  clear H1
  replace H := Option.bind_eq_some_iff.mp H
  obtain ⟨t185, A40, H⟩ := H
  replace H : (nunciolaw10_HuffCodes.l0 k a0 t185 0 0) = some r := H
  have A4 := Aside0.mk A40
  clear A40
  have H' := Aside0.mk H
  clear H
  go_enter Try.func8, Try.ntmps8
  go_wp2_with (first | (go_at_call 9; (with_reducible refine (nunciolaw10_awake.calls k  true _ A2.out).mono ?_); rintro e w5 ⟨rfl, hb⟩; have n0_ := Aside0.mk (below_step (by repeat (first | (with_reducible first | exact HB.out | apply below_alloc | apply pw_below_drewN | apply below_drew1) | exact HB.out)) hb); clear HB; have HB := n0_; clear n0_; (try clear hb); (try clear hb2); (try clear hk); (try clear hi)) | (go_at_call 15; (with_reducible refine (nuncioref10_Codes.calls k  t185 _ A4.out).mono ?_); rintro e w6 ⟨v186, rfl, ho0, hb⟩; have n0_ := Aside0.mk (Kd.R_lower ho0 (below_size (by repeat (first | (with_reducible first | exact HB.out | apply below_alloc | apply pw_below_drewN | apply below_drew1) | exact HB.out)))); have n1_ := Aside0.mk (below_step (by repeat (first | (with_reducible first | exact HB.out | apply below_alloc | apply pw_below_drewN | apply below_drew1) | exact HB.out)) hb); clear HB; have HO187 := n0_; have HB := n1_; clear n0_ n1_; (try clear hb); (try clear hb2); (try clear hk); (try clear hi); (try clear ho0)))
  repeat (go_quiet (first | (go_at_call 9; (with_reducible refine (nunciolaw10_awake.calls k  true _ A2.out).mono ?_); rintro e w5 ⟨rfl, hb⟩; have n0_ := Aside0.mk (below_step (by repeat (first | (with_reducible first | exact HB.out | apply below_alloc | apply pw_below_drewN | apply below_drew1) | exact HB.out)) hb); clear HB; have HB := n0_; clear n0_; (try clear hb); (try clear hb2); (try clear hk); (try clear hi)) | (go_at_call 15; (with_reducible refine (nuncioref10_Codes.calls k  t185 _ A4.out).mono ?_); rintro e w6 ⟨v186, rfl, ho0, hb⟩; have n0_ := Aside0.mk (Kd.R_lower ho0 (below_size (by repeat (first | (with_reducible first | exact HB.out | apply below_alloc | apply pw_below_drewN | apply below_drew1) | exact HB.out)))); have n1_ := Aside0.mk (below_step (by repeat (first | (with_reducible first | exact HB.out | apply below_alloc | apply pw_below_drewN | apply below_drew1) | exact HB.out)) hb); clear HB; have HO187 := n0_; have HB := n1_; clear n0_ n1_; (try clear hb); (try clear hb2); (try clear hk); (try clear hi); (try clear ho0))); try go_wp2_with (first | (go_at_call 9; (with_reducible refine (nunciolaw10_awake.calls k  true _ A2.out).mono ?_); rintro e w5 ⟨rfl, hb⟩; have n0_ := Aside0.mk (below_step (by repeat (first | (with_reducible first | exact HB.out | apply below_alloc | apply pw_below_drewN | apply below_drew1) | exact HB.out)) hb); clear HB; have HB := n0_; clear n0_; (try clear hb); (try clear hb2); (try clear hk); (try clear hi)) | (go_at_call 15; (with_reducible refine (nuncioref10_Codes.calls k  t185 _ A4.out).mono ?_); rintro e w6 ⟨v186, rfl, ho0, hb⟩; have n0_ := Aside0.mk (Kd.R_lower ho0 (below_size (by repeat (first | (with_reducible first | exact HB.out | apply below_alloc | apply pw_below_drewN | apply below_drew1) | exact HB.out)))); have n1_ := Aside0.mk (below_step (by repeat (first | (with_reducible first | exact HB.out | apply below_alloc | apply pw_below_drewN | apply below_drew1) | exact HB.out)) hb); clear HB; have HO187 := n0_; have HB := n1_; clear n0_ n1_; (try clear hb); (try clear hb2); (try clear hk); (try clear hi); (try clear ho0))))
  go_loopg [4, 5] k (fun kq v4 v5 w' => ∃ (x4_1 : Int) (x5_1 : Int), v4 = .int .u64 x4_1 ∧ v5 = .int .i64 x5_1 ∧ Aside0 (nunciolaw10_HuffCodes.l0 kq a0 t185 x4_1 x5_1 = some r) ∧ Aside0 (kq ≤ k) ∧ Aside0 (Kd.R (Kd.int .u64) 34 w' w.heap.size (fun _ => True) v186 t185) ∧ Aside0 (Below w.heap.size w w'))
  case atStart => exact ⟨(0), (0), (by first | rfl | (simp; done) | (simp [*]; done)), (by first | rfl | (simp; done) | (simp [*]; done)), H', ⟨Nat.le_refl _⟩, ⟨by (with_reducible repeat (first | apply Kd.R_alloc | apply Kd.R_drewN | apply Kd.R_drew)); exact HO187.out⟩, ⟨by repeat (first | (with_reducible first | exact HB.out | apply below_alloc | apply pw_below_drewN | apply below_drew1) | exact HB.out)⟩⟩
  case round =>
   clear H'
   try clear p2
   try clear c3
   obtain ⟨x4_1, x5_1, rfl, rfl, HA, HK1, HO_3, HB⟩ := hrel
   cases gk with
   | zero => exact absurd HA.out (by simp [nunciolaw10_HuffCodes.l0])
   | succ k1 =>
    have H := HA.out
    clear HA
    simp only [nunciolaw10_HuffCodes.l0] at H
    by_cases c7 : x5_1 ≤ 256
    ·
     rw [if_pos c7] at H
     have c7b0 : decide (x5_1 ≤ 256) = true := decide_eq_true c7
     clear c7
     replace H := Option.bind_eq_some_iff.mp H
     obtain ⟨⟨t190, t191⟩, A80, H⟩ := H
     replace H : (if 0 ≤ x5_1 then (if x5_1 < (t185.length : Int) then (if (IntKind.u64.wrap (t190)) = (rd t185 x5_1) then ((nuncioref10_Length.f x5_1).bind fun t193 => (nunciolaw10_HuffCodes.j1 k1 a0 t185 x4_1 x5_1 t190 t191 (t191 != t193))) else (nunciolaw10_HuffCodes.j1 k1 a0 t185 x4_1 x5_1 t190 t191 true)) else (none)) else (none)) = some r := H
     have A8 := Aside0.mk A80
     clear A80
     have HC9 := Aside0.mk H
     clear H
     go_upto_region 9 with (first | (go_at_call 16; (with_reducible refine (huff_Code.calls x5_1 t190 t191 _ A8.out).mono ?_); rintro e w10 ⟨rfl, hb⟩; have n0_ := Aside0.mk (Kd.R_below (by (with_reducible repeat (first | apply Kd.R_alloc | apply Kd.R_drewN | apply Kd.R_drew)); exact HO_3.out) hb); have n1_ := Aside0.mk (below_step (by repeat (first | (with_reducible first | exact HB.out | apply below_alloc | apply pw_below_drewN | apply below_drew1) | exact HB.out)) hb); clear HO_3; clear HB; have HO_3 := n0_; have HB := n1_; clear n0_ n1_; (try clear hb); (try clear hb2); (try clear hk); (try clear hi)))
     repeat (go_quiet (first | (go_at_call 16; (with_reducible refine (huff_Code.calls x5_1 t190 t191 _ A8.out).mono ?_); rintro e w10 ⟨rfl, hb⟩; have n0_ := Aside0.mk (Kd.R_below (by (with_reducible repeat (first | apply Kd.R_alloc | apply Kd.R_drewN | apply Kd.R_drew)); exact HO_3.out) hb); have n1_ := Aside0.mk (below_step (by repeat (first | (with_reducible first | exact HB.out | apply below_alloc | apply pw_below_drewN | apply below_drew1) | exact HB.out)) hb); clear HO_3; clear HB; have HO_3 := n0_; have HB := n1_; clear n0_ n1_; (try clear hb); (try clear hb2); (try clear hk); (try clear hi))); go_upto_region 9 with (first | (go_at_call 16; (with_reducible refine (huff_Code.calls x5_1 t190 t191 _ A8.out).mono ?_); rintro e w10 ⟨rfl, hb⟩; have n0_ := Aside0.mk (Kd.R_below (by (with_reducible repeat (first | apply Kd.R_alloc | apply Kd.R_drewN | apply Kd.R_drew)); exact HO_3.out) hb); have n1_ := Aside0.mk (below_step (by repeat (first | (with_reducible first | exact HB.out | apply below_alloc | apply pw_below_drewN | apply below_drew1) | exact HB.out)) hb); clear HO_3; clear HB; have HO_3 := n0_; have HB := n1_; clear n0_ n1_; (try clear hb); (try clear hb2); (try clear hk); (try clear hi))))
     (try simp only [Act.put, List.setIfInBounds_toArray, List.set_cons_zero, List.set_cons_succ])
     go_cut [37] (fun v37 wc => ∃ (kq : Nat) (x37_8 : Bool), v37 = .bool x37_8 ∧ Aside0 (nunciolaw10_HuffCodes.j1 kq a0 t185 x4_1 x5_1 t190 t191 x37_8 = some r) ∧ Aside0 (kq ≤ k1) ∧ Aside0 (Kd.R (Kd.int .u64) 34 wc w.heap.size (fun _ => True) v186 t185) ∧ Aside0 (Below w.heap.size w wc))
     case first =>
      have H := HC9.out
      clear HC9
      by_cases c11 : 0 ≤ x5_1
      ·
       rw [if_pos c11] at H
       have c11b0 : decide (0 ≤ x5_1) = true := decide_eq_true c11
       clear c11
       (first | rw [c11b0] | rw [c11b1] | (simp only [i64_w, i32_w]; rw [c11b0]) | skip)
       by_cases c12 : x5_1 < (t185.length : Int)
       ·
        rw [if_pos c12] at H
        have c12b0 : decide (x5_1 < (t185.length : Int)) = true := decide_eq_true c12
        clear c12
        by_cases c13 : (IntKind.u64.wrap (t190)) = (rd t185 x5_1)
        ·
         rw [if_pos c13] at H
         have c13b0 : ((IntKind.u64.wrap (t190)) == (rd t185 x5_1)) = true := beq_iff_eq.mpr c13
         have c13b1 : ((IntKind.u64.wrap (t190)) != (rd t185 x5_1)) = false := bne_eq_false_iff_eq.mpr c13
         clear c13
         replace H := Option.bind_eq_some_iff.mp H
         obtain ⟨t193, A140, H⟩ := H
         replace H : (nunciolaw10_HuffCodes.j1 k1 a0 t185 x4_1 x5_1 t190 t191 (t191 != t193)) = some r := H
         have A14 := Aside0.mk A140
         clear A140
         have H' := Aside0.mk H
         clear H
         obtain ⟨Ao15, co15, eo15⟩ := Kd.R_slice HO_3.out
         subst eo15
         have p192 : 0 ≤ (x5_1 : Int) := of_decide_eq_true (by first | (with_reducible assumption) | assumption)
         have q192 : x5_1 < (t185.length : Int) := of_decide_eq_true (by first | (with_reducible assumption) | assumption)
         obtain ⟨ad192, e192, hx192_0⟩ := Kd.at_int (Kd.R_reads' HO_3.out).2.2 x5_1 p192 q192
         cases e192
         replace p192 := eq_true p192
         replace q192 := eq_true q192
         go_wp2_with (first | (go_at_call 17; (with_reducible refine (nuncioref10_Length.calls x5_1 t193 _ A14.out).mono ?_); rintro e w' ⟨rfl, ⟨nd, rfl⟩⟩; (try first | exact ⟨rfl, _, World.drewN_drewN _ _ _⟩ | exact ⟨rfl, _, Eq.trans (World.drewN_drewN _ _ _) (congrArg (World.drewN _) (Nat.add_assoc _ _ _))⟩)))
         repeat (go_quiet (first | (go_at_call 17; (with_reducible refine (nuncioref10_Length.calls x5_1 t193 _ A14.out).mono ?_); rintro e w' ⟨rfl, ⟨nd, rfl⟩⟩; (try first | exact ⟨rfl, _, World.drewN_drewN _ _ _⟩ | exact ⟨rfl, _, Eq.trans (World.drewN_drewN _ _ _) (congrArg (World.drewN _) (Nat.add_assoc _ _ _))⟩))); try go_wp2_with (first | (go_at_call 17; (with_reducible refine (nuncioref10_Length.calls x5_1 t193 _ A14.out).mono ?_); rintro e w' ⟨rfl, ⟨nd, rfl⟩⟩; (try first | exact ⟨rfl, _, World.drewN_drewN _ _ _⟩ | exact ⟨rfl, _, Eq.trans (World.drewN_drewN _ _ _) (congrArg (World.drewN _) (Nat.add_assoc _ _ _))⟩))))
         go_meet
         case rel => exact ⟨_, ((t191 != t193)), (by first | rfl | (simp; done) | (simp [*]; done)), H', ⟨by have := HK1.out; first | omega | exact Nat.le_refl _⟩, ⟨by (with_reducible repeat (first | apply Kd.R_alloc | apply Kd.R_drewN | apply Kd.R_drew)); exact HO_3.out⟩, ⟨by repeat (first | (with_reducible first | exact HB.out | apply below_alloc | apply pw_below_drewN | apply below_drew1) | exact HB.out)⟩⟩
        ·
         rw [if_neg c13] at H
         have c13b0 : ((IntKind.u64.wrap (t190)) == (rd t185 x5_1)) = false := beq_eq_false_iff_ne.mpr c13
         have c13b1 : ((IntKind.u64.wrap (t190)) != (rd t185 x5_1)) = true := bne_iff_ne.mpr c13
         have H' := Aside0.mk H
         clear H
         obtain ⟨Ao16, co16, eo16⟩ := Kd.R_slice HO_3.out
         subst eo16
         have p192 : 0 ≤ (x5_1 : Int) := of_decide_eq_true (by first | (with_reducible assumption) | assumption)
         have q192 : x5_1 < (t185.length : Int) := of_decide_eq_true (by first | (with_reducible assumption) | assumption)
         obtain ⟨ad192, e192, hx192_0⟩ := Kd.at_int (Kd.R_reads' HO_3.out).2.2 x5_1 p192 q192
         cases e192
         replace p192 := eq_true p192
         replace q192 := eq_true q192
         go_wp2
         repeat (go_quiet (fail); try go_wp2)
         go_meet
         case rel => exact ⟨_, (true), (by first | rfl | (simp; done) | (simp [*]; done)), H', ⟨by have := HK1.out; first | omega | exact Nat.le_refl _⟩, ⟨by (with_reducible repeat (first | apply Kd.R_alloc | apply Kd.R_drewN | apply Kd.R_drew)); exact HO_3.out⟩, ⟨by repeat (first | (with_reducible first | exact HB.out | apply below_alloc | apply pw_below_drewN | apply below_drew1) | exact HB.out)⟩⟩
       ·
        rw [if_neg c12] at H
        exact absurd H (by simp)
      ·
       rw [if_neg c11] at H
       exact absurd H (by simp)
     case rest =>
      clear HC9
      try clear c1
      try clear p1
      try clear q1
      try clear hx1
      try clear p2
      try clear c3
      try clear c7
      try clear c7b0
      try clear c8
      try clear c11
      try clear c11b0
      try clear c11b1
      try clear c12
      try clear c12b0
      try clear c13
      try clear c13b0
      try clear c13b1
      try clear hx192_0
      try clear p192
      try clear p2
      try clear q192
      obtain ⟨kq, x37_8, rfl, HA, HJ8, HO_3, HB⟩ := hcut
      cases kq with
      | zero => exact absurd HA.out (by simp [nunciolaw10_HuffCodes.j1])
      | succ kj8 =>
       have H := HA.out
       clear HA
       simp only [nunciolaw10_HuffCodes.j1] at H
       by_cases c17 : x37_8 = true
       ·
        subst c17
        have H1 : (some false) = some r := by rw [if_pos rfl] at H; exact H
        clear H
        have H := H1
        clear H1
        exact absurd ((Option.some.inj H).trans HT.out) (by decide)
       ·
        replace c17 := Bool.eq_false_iff.mpr c17
        subst c17
        have H1 : (if 0 ≤ (wrap64 (30 - t191)) then (nunciolaw10_HuffCodes.l1 kj8 a0 t185 (IntKind.u64.wrap (x4_1 + (shl .u64 1 (wrap64 (30 - t191))))) x5_1 t190 t191 0) else (none)) = some r := by rw [if_neg (show ¬ (false = true) by decide)] at H; exact H
        clear H
        have H := H1
        clear H1
        obtain ⟨ji18, hji18⟩ : ∃ j_ : Int, (wrap64 (30 - t191)) = j_ := ⟨_, rfl⟩
        replace H : (if 0 ≤ (ji18) then (nunciolaw10_HuffCodes.l1 kj8 a0 t185 (IntKind.u64.wrap (x4_1 + (shl .u64 1 (ji18)))) x5_1 t190 t191 0) else (none)) = some r := by first | (rw [hji18] at H; exact H) | (simp only [hji18] at H ⊢; exact H)
        have hji18w : (IntKind.i64.wrap (30 - t191)) = ji18 := (i64_w _).trans hji18
        by_cases c19 : 0 ≤ (ji18)
        ·
         rw [if_pos c19] at H
         have c19b0 := eq_true c19
         have c19b1 : decide (0 ≤ (ji18)) = true := decide_eq_true c19
         clear c19
         obtain ⟨ji20, hji20⟩ : ∃ j_ : Int, (shl .u64 1 (ji18)) = j_ := ⟨_, rfl⟩
         replace H : (nunciolaw10_HuffCodes.l1 kj8 a0 t185 (IntKind.u64.wrap (x4_1 + (ji20))) x5_1 t190 t191 0) = some r := by first | (rw [hji20] at H; exact H) | (simp only [hji20] at H ⊢; exact H)
         have hji20_ : (IntKind.u64.wrap (1 * 2 ^ min (ji18).toNat 64)) = ji20 := hji20
         have hji20z : (ji18) ≤ 64 → (IntKind.u64.wrap (1 * 2 ^ (ji18).toNat)) = ji20 := shl_small hji20
         have hji20u : (IntKind.u64.wrap (2 ^ min (ji18).toNat 64)) = ji20 := by have h_ := hji20_; rw [Int.one_mul] at h_; exact h_
         have hji20v : (ji18) ≤ 64 → (IntKind.u64.wrap (2 ^ (ji18).toNat)) = ji20 := fun hle_ => by have h_ := hji20z hle_; rw [Int.one_mul] at h_; exact h_
         have H' := Aside0.mk H
         clear H
         go_wp2
         repeat (go_quiet (fail); try go_wp2)
         go_loopg [8] kj8 (fun kq v8 w' => ∃ (x8_3 : Int), v8 = .int .i64 x8_3 ∧ Aside0 (nunciolaw10_HuffCodes.l1 kq a0 t185 (IntKind.u64.wrap (x4_1 + (ji20))) x5_1 t190 t191 x8_3 = some r) ∧ Aside0 (kq ≤ kj8) ∧ Aside0 (Kd.R (Kd.int .u64) 34 w' w.heap.size (fun _ => True) v186 t185) ∧ Aside0 (Below w.heap.size w w'))
         case atStart => exact ⟨(0), (by first | rfl | (simp; done) | (simp [*]; done)), H', ⟨Nat.le_refl _⟩, ⟨by (with_reducible repeat (first | apply Kd.R_alloc | apply Kd.R_drewN | apply Kd.R_drew)); exact HO_3.out⟩, ⟨by repeat (first | (with_reducible first | exact HB.out | apply below_alloc | apply pw_below_drewN | apply below_drew1) | exact HB.out)⟩⟩
         case round =>
          clear H'
          try clear c1
          try clear p1
          try clear q1
          try clear hx1
          try clear p2
          try clear c3
          try clear p6
          try clear c7
          try clear c7b0
          try clear c8
          try clear c11
          try clear c11b0
          try clear c11b1
          try clear c12
          try clear c12b0
          try clear c13
          try clear c13b0
          try clear c13b1
          try clear c17
          try clear c19
          try clear c19b0
          try clear c19b1
          try clear p19
          try clear q19
          try clear hx19
          try clear hx192_0
          try clear p1
          try clear p192
          try clear p2
          try clear q1
          try clear q192
          obtain ⟨x8_3, rfl, HA, HK3, HO_3, HB⟩ := hrel
          cases gk with
          | zero => exact absurd HA.out (by simp [nunciolaw10_HuffCodes.l1])
          | succ k3 =>
           have H := HA.out
           clear HA
           simp only [nunciolaw10_HuffCodes.l1] at H
           by_cases c21 : x8_3 < x5_1
           ·
            rw [if_pos c21] at H
            have c21b0 : decide (x8_3 < x5_1) = true := decide_eq_true c21
            clear c21
            by_cases c22 : 0 ≤ x8_3
            ·
             rw [if_pos c22] at H
             have c22b0 : decide (0 ≤ x8_3) = true := decide_eq_true c22
             clear c22
             by_cases c23 : x8_3 < (t185.length : Int)
             ·
              rw [if_pos c23] at H
              have c23b0 : decide (x8_3 < (t185.length : Int)) = true := decide_eq_true c23
              clear c23
              replace H := Option.bind_eq_some_iff.mp H
              obtain ⟨t195, A240, H⟩ := H
              replace H : (if t195 ≤ t191 then (if 0 ≤ (wrap64 (t191 - t195)) then (if (shr .u64 (IntKind.u64.wrap (t190)) (wrap64 (t191 - t195))) = (rd t185 x8_3) then (some false) else (if t195 > t191 then (if 0 ≤ (wrap64 (t195 - t191)) then (if (shr .u64 (rd t185 x8_3) (wrap64 (t195 - t191))) = (IntKind.u64.wrap (t190)) then (some false) else (nunciolaw10_HuffCodes.l1 k3 a0 t185 (IntKind.u64.wrap (x4_1 + (ji20))) x5_1 t190 t191 (wrap64 (x8_3 + 1)))) else (none)) else (nunciolaw10_HuffCodes.l1 k3 a0 t185 (IntKind.u64.wrap (x4_1 + (ji20))) x5_1 t190 t191 (wrap64 (x8_3 + 1))))) else (none)) else (if t195 > t191 then (if 0 ≤ (wrap64 (t195 - t191)) then (if (shr .u64 (rd t185 x8_3) (wrap64 (t195 - t191))) = (IntKind.u64.wrap (t190)) then (some false) else (nunciolaw10_HuffCodes.l1 k3 a0 t185 (IntKind.u64.wrap (x4_1 + (ji20))) x5_1 t190 t191 (wrap64 (x8_3 + 1)))) else (none)) else (nunciolaw10_HuffCodes.l1 k3 a0 t185 (IntKind.u64.wrap (x4_1 + (ji20))) x5_1 t190 t191 (wrap64 (x8_3 + 1))))) = some r := H
              have A24 := Aside0.mk A240
              clear A240
              by_cases c25 : t195 ≤ t191
              ·
               rw [if_pos c25] at H
               have c25b0 : decide (t195 ≤ t191) = true := decide_eq_true c25
               clear c25
               obtain ⟨ji26, hji26⟩ : ∃ j_ : Int, (wrap64 (t191 - t195)) = j_ := ⟨_, rfl⟩
               replace H : (if 0 ≤ (ji26) then (if (shr .u64 (IntKind.u64.wrap (t190)) (ji26)) = (rd t185 x8_3) then (some false) else (if t195 > t191 then (if 0 ≤ (wrap64 (t195 - t191)) then (if (shr .u64 (rd t185 x8_3) (wrap64 (t195 - t191))) = (IntKind.u64.wrap (t190)) then (some false) else (nunciolaw10_HuffCodes.l1 k3 a0 t185 (IntKind.u64.wrap (x4_1 + (ji20))) x5_1 t190 t191 (wrap64 (x8_3 + 1)))) else (none)) else (nunciolaw10_HuffCodes.l1 k3 a0 t185 (IntKind.u64.wrap (x4_1 + (ji20))) x5_1 t190 t191 (wrap64 (x8_3 + 1))))) else (none)) = some r := by first | (rw [hji26] at H; exact H) | (simp only [hji26] at H ⊢; exact H)
               (try rw [hji26] at A24)
               have hji26w : (IntKind.i64.wrap (t191 - t195)) = ji26 := (i64_w _).trans hji26
               by_cases c27 : 0 ≤ (ji26)
               ·
                rw [if_pos c27] at H
                have c27b0 := eq_true c27
                have c27b1 : decide (0 ≤ (ji26)) = true := decide_eq_true c27
                clear c27
                obtain ⟨ji28, hji28⟩ : ∃ j_ : Int, (shr .u64 (IntKind.u64.wrap (t190)) (ji26)) = j_ := ⟨_, rfl⟩
                replace H : (if (ji28) = (rd t185 x8_3) then (some false) else (if t195 > t191 then (if 0 ≤ (wrap64 (t195 - t191)) then (if (shr .u64 (rd t185 x8_3) (wrap64 (t195 - t191))) = (IntKind.u64.wrap (t190)) then (some false) else (nunciolaw10_HuffCodes.l1 k3 a0 t185 (IntKind.u64.wrap (x4_1 + (ji20))) x5_1 t190 t191 (wrap64 (x8_3 + 1)))) else (none)) else (nunciolaw10_HuffCodes.l1 k3 a0 t185 (IntKind.u64.wrap (x4_1 + (ji20))) x5_1 t190 t191 (wrap64 (x8_3 + 1))))) = some r := by first | (rw [hji28] at H; exact H) | (simp only [hji28] at H ⊢; exact H)
                (try rw [hji28] at A24)
                have hji28_ : ((IntKind.u64.wrap (t190)) / 2 ^ min (ji26).toNat 64) = ji28 := hji28
                have hji28z : (ji26) ≤ 64 → ((IntKind.u64.wrap (t190)) / 2 ^ (ji26).toNat) = ji28 := shr_small hji28
                by_cases c29 : (ji28) = (rd t185 x8_3)
                ·
                 rw [if_pos c29] at H
                 have c29b0 : ((ji28) == (rd t185 x8_3)) = true := beq_iff_eq.mpr c29
                 have c29b1 : ((ji28) != (rd t185 x8_3)) = false := bne_eq_false_iff_eq.mpr c29
                 clear c29
                 exact absurd ((Option.some.inj H).trans HT.out) (by decide)
                ·
                 rw [if_neg c29] at H
                 have c29b0 : ((ji28) == (rd t185 x8_3)) = false := beq_eq_false_iff_ne.mpr c29
                 have c29b1 : ((ji28) != (rd t185 x8_3)) = true := bne_iff_ne.mpr c29
                 by_cases c30 : t195 > t191
                 ·
                  rw [if_pos c30] at H
                  have c30b0 : decide (t191 < t195) = true := decide_eq_true c30
                  clear c30
                  obtain ⟨ji31, hji31⟩ : ∃ j_ : Int, (wrap64 (t195 - t191)) = j_ := ⟨_, rfl⟩
                  replace H : (if 0 ≤ (ji31) then (if (shr .u64 (rd t185 x8_3) (ji31)) = (IntKind.u64.wrap (t190)) then (some false) else (nunciolaw10_HuffCodes.l1 k3 a0 t185 (IntKind.u64.wrap (x4_1 + (ji20))) x5_1 t190 t191 (wrap64 (x8_3 + 1)))) else (none)) = some r := by first | (rw [hji31] at H; exact H) | (simp only [hji31] at H ⊢; exact H)
                  (try rw [hji31] at A24)
                  have hji31w : (IntKind.i64.wrap (t195 - t191)) = ji31 := (i64_w _).trans hji31
                  by_cases c32 : 0 ≤ (ji31)
                  ·
                   rw [if_pos c32] at H
                   have c32b0 := eq_true c32
                   have c32b1 : decide (0 ≤ (ji31)) = true := decide_eq_true c32
                   clear c32
                   obtain ⟨ji33, hji33⟩ : ∃ j_ : Int, (shr .u64 (rd t185 x8_3) (ji31)) = j_ := ⟨_, rfl⟩
                   replace H : (if (ji33) = (IntKind.u64.wrap (t190)) then (some false) else (nunciolaw10_HuffCodes.l1 k3 a0 t185 (IntKind.u64.wrap (x4_1 + (ji20))) x5_1 t190 t191 (wrap64 (x8_3 + 1)))) = some r := by first | (rw [hji33] at H; exact H) | (simp only [hji33] at H ⊢; exact H)
                   (try rw [hji33] at A24)
                   have hji33_ : ((rd t185 x8_3) / 2 ^ min (ji31).toNat 64) = ji33 := hji33
                   have hji33z : (ji31) ≤ 64 → ((rd t185 x8_3) / 2 ^ (ji31).toNat) = ji33 := shr_small hji33
                   by_cases c34 : (ji33) = (IntKind.u64.wrap (t190))
                   ·
                    rw [if_pos c34] at H
                    have c34b0 : ((ji33) == (IntKind.u64.wrap (t190))) = true := beq_iff_eq.mpr c34
                    have c34b1 : ((ji33) != (IntKind.u64.wrap (t190))) = false := bne_eq_false_iff_eq.mpr c34
                    clear c34
                    exact absurd ((Option.some.inj H).trans HT.out) (by decide)
                   ·
                    rw [if_neg c34] at H
                    have c34b0 : ((ji33) == (IntKind.u64.wrap (t190))) = false := beq_eq_false_iff_ne.mpr c34
                    have c34b1 : ((ji33) != (IntKind.u64.wrap (t190))) = true := bne_iff_ne.mpr c34
                    have H' := Aside0.mk H
                    clear H
                    obtain ⟨Ao35, co35, eo35⟩ := Kd.R_slice HO_3.out
                    subst eo35
                    have p194 : 0 ≤ (x8_3 : Int) := of_decide_eq_true (by first | (with_reducible assumption) | assumption)
                    have q194 : x8_3 < (t185.length : Int) := of_decide_eq_true (by first | (with_reducible assumption) | assumption)
                    obtain ⟨ad194, e194, hx194_0⟩ := Kd.at_int (Kd.R_reads' HO_3.out).2.2 x8_3 p194 q194
                    cases e194
                    replace p194 := eq_true p194
                    replace q194 := eq_true q194
                    go_wp2_with (first | (go_at_call 17; (with_reducible refine (nuncioref10_Length.calls x8_3 t195 _ A24.out).mono ?_); rintro e w' ⟨rfl, ⟨nd, rfl⟩⟩; (try first | exact ⟨rfl, _, World.drewN_drewN _ _ _⟩ | exact ⟨rfl, _, Eq.trans (World.drewN_drewN _ _ _) (congrArg (World.drewN _) (Nat.add_assoc _ _ _))⟩)))
                    repeat (go_quiet (first | (go_at_call 17; (with_reducible refine (nuncioref10_Length.calls x8_3 t195 _ A24.out).mono ?_); rintro e w' ⟨rfl, ⟨nd, rfl⟩⟩; (try first | exact ⟨rfl, _, World.drewN_drewN _ _ _⟩ | exact ⟨rfl, _, Eq.trans (World.drewN_drewN _ _ _) (congrArg (World.drewN _) (Nat.add_assoc _ _ _))⟩))); try go_wp2_with (first | (go_at_call 17; (with_reducible refine (nuncioref10_Length.calls x8_3 t195 _ A24.out).mono ?_); rintro e w' ⟨rfl, ⟨nd, rfl⟩⟩; (try first | exact ⟨rfl, _, World.drewN_drewN _ _ _⟩ | exact ⟨rfl, _, Eq.trans (World.drewN_drewN _ _ _) (congrArg (World.drewN _) (Nat.add_assoc _ _ _))⟩))))
                    go_roundg k3
                    case measure => have := HK1.out; have := HJ8.out; have := HK3.out; omega
                    case rel => exact ⟨(wrap64 (x8_3 + 1)), (by first | rfl | (simp; done) | (simp [*]; done)), H', ⟨by have := HK1.out; have := HJ8.out; have := HK3.out; omega⟩, ⟨by (with_reducible repeat (first | apply Kd.R_alloc | apply Kd.R_drewN | apply Kd.R_drew)); exact HO_3.out⟩, ⟨by repeat (first | (with_reducible first | exact HB.out | apply below_alloc | apply pw_below_drewN | apply below_drew1) | exact HB.out)⟩⟩
                  ·
                   rw [if_neg c32] at H
                   exact absurd H (by simp)
                 ·
                  rw [if_neg c30] at H
                  have c30b0 : decide (t191 < t195) = false := decide_eq_false c30
                  clear c30
                  have H' := Aside0.mk H
                  clear H
                  obtain ⟨Ao36, co36, eo36⟩ := Kd.R_slice HO_3.out
                  subst eo36
                  have p194 : 0 ≤ (x8_3 : Int) := of_decide_eq_true (by first | (with_reducible assumption) | assumption)
                  have q194 : x8_3 < (t185.length : Int) := of_decide_eq_true (by first | (with_reducible assumption) | assumption)
                  obtain ⟨ad194, e194, hx194_0⟩ := Kd.at_int (Kd.R_reads' HO_3.out).2.2 x8_3 p194 q194
                  cases e194
                  replace p194 := eq_true p194
                  replace q194 := eq_true q194
                  go_wp2_with (first | (go_at_call 17; (with_reducible refine (nuncioref10_Length.calls x8_3 t195 _ A24.out).mono ?_); rintro e w' ⟨rfl, ⟨nd, rfl⟩⟩; (try first | exact ⟨rfl, _, World.drewN_drewN _ _ _⟩ | exact ⟨rfl, _, Eq.trans (World.drewN_drewN _ _ _) (congrArg (World.drewN _) (Nat.add_assoc _ _ _))⟩)))
                  repeat (go_quiet (first | (go_at_call 17; (with_reducible refine (nuncioref10_Length.calls x8_3 t195 _ A24.out).mono ?_); rintro e w' ⟨rfl, ⟨nd, rfl⟩⟩; (try first | exact ⟨rfl, _, World.drewN_drewN _ _ _⟩ | exact ⟨rfl, _, Eq.trans (World.drewN_drewN _ _ _) (congrArg (World.drewN _) (Nat.add_assoc _ _ _))⟩))); try go_wp2_with (first | (go_at_call 17; (with_reducible refine (nuncioref10_Length.calls x8_3 t195 _ A24.out).mono ?_); rintro e w' ⟨rfl, ⟨nd, rfl⟩⟩; (try first | exact ⟨rfl, _, World.drewN_drewN _ _ _⟩ | exact ⟨rfl, _, Eq.trans (World.drewN_drewN _ _ _) (congrArg (World.drewN _) (Nat.add_assoc _ _ _))⟩))))
                  go_roundg k3
                  case measure => have := HK1.out; have := HJ8.out; have := HK3.out; omega
                  case rel => exact ⟨(wrap64 (x8_3 + 1)), (by first | rfl | (simp; done) | (simp [*]; done)), H', ⟨by have := HK1.out; have := HJ8.out; have := HK3.out; omega⟩, ⟨by (with_reducible repeat (first | apply Kd.R_alloc | apply Kd.R_drewN | apply Kd.R_drew)); exact HO_3.out⟩, ⟨by repeat (first | (with_reducible first | exact HB.out | apply below_alloc | apply pw_below_drewN | apply below_drew1) | exact HB.out)⟩⟩
               ·
                rw [if_neg c27] at H
                exact absurd H (by simp)
              ·
               rw [if_neg c25] at H
               have c25b0 : decide (t195 ≤ t191) = false := decide_eq_false c25
               clear c25
               by_cases c37 : t195 > t191
               ·
                rw [if_pos c37] at H
                have c37b0 : decide (t191 < t195) = true := decide_eq_true c37
                clear c37
                obtain ⟨ji38, hji38⟩ : ∃ j_ : Int, (wrap64 (t195 - t191)) = j_ := ⟨_, rfl⟩
                replace H : (if 0 ≤ (ji38) then (if (shr .u64 (rd t185 x8_3) (ji38)) = (IntKind.u64.wrap (t190)) then (some false) else (nunciolaw10_HuffCodes.l1 k3 a0 t185 (IntKind.u64.wrap (x4_1 + (ji20))) x5_1 t190 t191 (wrap64 (x8_3 + 1)))) else (none)) = some r := by first | (rw [hji38] at H; exact H) | (simp only [hji38] at H ⊢; exact H)
                (try rw [hji38] at A24)
                have hji38w : (IntKind.i64.wrap (t195 - t191)) = ji38 := (i64_w _).trans hji38
                by_cases c39 : 0 ≤ (ji38)
                ·
                 rw [if_pos c39] at H
                 have c39b0 := eq_true c39
                 have c39b1 : decide (0 ≤ (ji38)) = true := decide_eq_true c39
                 clear c39
                 obtain ⟨ji40, hji40⟩ : ∃ j_ : Int, (shr .u64 (rd t185 x8_3) (ji38)) = j_ := ⟨_, rfl⟩
                 replace H : (if (ji40) = (IntKind.u64.wrap (t190)) then (some false) else (nunciolaw10_HuffCodes.l1 k3 a0 t185 (IntKind.u64.wrap (x4_1 + (ji20))) x5_1 t190 t191 (wrap64 (x8_3 + 1)))) = some r := by first | (rw [hji40] at H; exact H) | (simp only [hji40] at H ⊢; exact H)
                 (try rw [hji40] at A24)
                 have hji40_ : ((rd t185 x8_3) / 2 ^ min (ji38).toNat 64) = ji40 := hji40
                 have hji40z : (ji38) ≤ 64 → ((rd t185 x8_3) / 2 ^ (ji38).toNat) = ji40 := shr_small hji40
                 by_cases c41 : (ji40) = (IntKind.u64.wrap (t190))
                 ·
                  rw [if_pos c41] at H
                  have c41b0 : ((ji40) == (IntKind.u64.wrap (t190))) = true := beq_iff_eq.mpr c41
                  have c41b1 : ((ji40) != (IntKind.u64.wrap (t190))) = false := bne_eq_false_iff_eq.mpr c41
                  clear c41
                  exact absurd ((Option.some.inj H).trans HT.out) (by decide)
                 ·
                  rw [if_neg c41] at H
                  have c41b0 : ((ji40) == (IntKind.u64.wrap (t190))) = false := beq_eq_false_iff_ne.mpr c41
                  have c41b1 : ((ji40) != (IntKind.u64.wrap (t190))) = true := bne_iff_ne.mpr c41
                  have H' := Aside0.mk H
                  clear H
                  obtain ⟨Ao42, co42, eo42⟩ := Kd.R_slice HO_3.out
                  subst eo42
                  have p194 : 0 ≤ (x8_3 : Int) := of_decide_eq_true (by first | (with_reducible assumption) | assumption)
                  have q194 : x8_3 < (t185.length : Int) := of_decide_eq_true (by first | (with_reducible assumption) | assumption)
                  obtain ⟨ad194, e194, hx194_0⟩ := Kd.at_int (Kd.R_reads' HO_3.out).2.2 x8_3 p194 q194
                  cases e194
                  replace p194 := eq_true p194
                  replace q194 := eq_true q194
                  go_wp2_with (first | (go_at_call 17; (with_reducible refine (nuncioref10_Length.calls x8_3 t195 _ A24.out).mono ?_); rintro e w' ⟨rfl, ⟨nd, rfl⟩⟩; (try first | exact ⟨rfl, _, World.drewN_drewN _ _ _⟩ | exact ⟨rfl, _, Eq.trans (World.drewN_drewN _ _ _) (congrArg (World.drewN _) (Nat.add_assoc _ _ _))⟩)))
                  repeat (go_quiet (first | (go_at_call 17; (with_reducible refine (nuncioref10_Length.calls x8_3 t195 _ A24.out).mono ?_); rintro e w' ⟨rfl, ⟨nd, rfl⟩⟩; (try first | exact ⟨rfl, _, World.drewN_drewN _ _ _⟩ | exact ⟨rfl, _, Eq.trans (World.drewN_drewN _ _ _) (congrArg (World.drewN _) (Nat.add_assoc _ _ _))⟩))); try go_wp2_with (first | (go_at_call 17; (with_reducible refine (nuncioref10_Length.calls x8_3 t195 _ A24.out).mono ?_); rintro e w' ⟨rfl, ⟨nd, rfl⟩⟩; (try first | exact ⟨rfl, _, World.drewN_drewN _ _ _⟩ | exact ⟨rfl, _, Eq.trans (World.drewN_drewN _ _ _) (congrArg (World.drewN _) (Nat.add_assoc _ _ _))⟩))))
                  go_roundg k3
                  case measure => have := HK1.out; have := HJ8.out; have := HK3.out; omega
                  case rel => exact ⟨(wrap64 (x8_3 + 1)), (by first | rfl | (simp; done) | (simp [*]; done)), H', ⟨by have := HK1.out; have := HJ8.out; have := HK3.out; omega⟩, ⟨by (with_reducible repeat (first | apply Kd.R_alloc | apply Kd.R_drewN | apply Kd.R_drew)); exact HO_3.out⟩, ⟨by repeat (first | (with_reducible first | exact HB.out | apply below_alloc | apply pw_below_drewN | apply below_drew1) | exact HB.out)⟩⟩
                ·
                 rw [if_neg c39] at H
                 exact absurd H (by simp)
               ·
                rw [if_neg c37] at H
                have c37b0 : decide (t191 < t195) = false := decide_eq_false c37
                clear c37
                have H' := Aside0.mk H
                clear H
                obtain ⟨Ao43, co43, eo43⟩ := Kd.R_slice HO_3.out
                subst eo43
                have p194 : 0 ≤ (x8_3 : Int) := of_decide_eq_true (by first | (with_reducible assumption) | assumption)
                have q194 : x8_3 < (t185.length : Int) := of_decide_eq_true (by first | (with_reducible assumption) | assumption)
                obtain ⟨ad194, e194, hx194_0⟩ := Kd.at_int (Kd.R_reads' HO_3.out).2.2 x8_3 p194 q194
                cases e194
                replace p194 := eq_true p194
                replace q194 := eq_true q194
                go_wp2_with (first | (go_at_call 17; (with_reducible refine (nuncioref10_Length.calls x8_3 t195 _ A24.out).mono ?_); rintro e w' ⟨rfl, ⟨nd, rfl⟩⟩; (try first | exact ⟨rfl, _, World.drewN_drewN _ _ _⟩ | exact ⟨rfl, _, Eq.trans (World.drewN_drewN _ _ _) (congrArg (World.drewN _) (Nat.add_assoc _ _ _))⟩)))
                repeat (go_quiet (first | (go_at_call 17; (with_reducible refine (nuncioref10_Length.calls x8_3 t195 _ A24.out).mono ?_); rintro e w' ⟨rfl, ⟨nd, rfl⟩⟩; (try first | exact ⟨rfl, _, World.drewN_drewN _ _ _⟩ | exact ⟨rfl, _, Eq.trans (World.drewN_drewN _ _ _) (congrArg (World.drewN _) (Nat.add_assoc _ _ _))⟩))); try go_wp2_with (first | (go_at_call 17; (with_reducible refine (nuncioref10_Length.calls x8_3 t195 _ A24.out).mono ?_); rintro e w' ⟨rfl, ⟨nd, rfl⟩⟩; (try first | exact ⟨rfl, _, World.drewN_drewN _ _ _⟩ | exact ⟨rfl, _, Eq.trans (World.drewN_drewN _ _ _) (congrArg (World.drewN _) (Nat.add_assoc _ _ _))⟩))))
                go_roundg k3
                case measure => have := HK1.out; have := HJ8.out; have := HK3.out; omega
                case rel => exact ⟨(wrap64 (x8_3 + 1)), (by first | rfl | (simp; done) | (simp [*]; done)), H', ⟨by have := HK1.out; have := HJ8.out; have := HK3.out; omega⟩, ⟨by (with_reducible repeat (first | apply Kd.R_alloc | apply Kd.R_drewN | apply Kd.R_drew)); exact HO_3.out⟩, ⟨by repeat (first | (with_reducible first | exact HB.out | apply below_alloc | apply pw_below_drewN | apply below_drew1) | exact HB.out)⟩⟩
             ·
              rw [if_neg c23] at H
              exact absurd H (by simp)
            ·
             rw [if_neg c22] at H
             exact absurd H (by simp)
           ·
            rw [if_neg c21] at H
            have c21b0 : decide (x8_3 < x5_1) = false := decide_eq_false c21
            clear c21
            have H' := Aside0.mk H
            clear H
            go_wp2
            repeat (go_quiet (fail); try go_wp2)
            go_roundg k3
            case measure => have := HK1.out; have := HJ8.out; have := HK3.out; omega
            case rel => exact ⟨((IntKind.u64.wrap (x4_1 + (ji20)))), (wrap64 (x5_1 + 1)), (by first | rfl | (simp; done) | (simp only [← hji20] <;> (first | rfl | simp)) | (simp [*]; done)), (by first | rfl | (simp; done) | (simp [*]; done)), H', ⟨by have := HK1.out; have := HJ8.out; have := HK3.out; omega⟩, ⟨by (with_reducible repeat (first | apply Kd.R_alloc | apply Kd.R_drewN | apply Kd.R_drew)); exact HO_3.out⟩, ⟨by repeat (first | (with_reducible first | exact HB.out | apply below_alloc | apply pw_below_drewN | apply below_drew1) | exact HB.out)⟩⟩
        ·
         rw [if_neg c19] at H
         exact absurd H (by simp)
    ·
     rw [if_neg c7] at H
     have c7b0 : decide (x5_1 ≤ 256) = false := decide_eq_false c7
     clear c7
     replace H := Option.bind_eq_some_iff.mp H
     obtain ⟨⟨t188, t189⟩, A440, H⟩ := H
     replace H : (if x4_1 = 1073741824 then (if a0 ≥ 0 then (if a0 ≤ 256 then (some true) else (if t188 = 0 then (some (t189 == 0)) else (some false))) else (if t188 = 0 then (some (t189 == 0)) else (some false))) else (some false)) = some r := H
     have A44 := Aside0.mk A440
     clear A440
     by_cases c45 : x4_1 = 1073741824
     ·
      rw [if_pos c45] at H
      have c45b0 : (x4_1 == 1073741824) = true := beq_iff_eq.mpr c45
      have c45b1 : (x4_1 != 1073741824) = false := bne_eq_false_iff_eq.mpr c45
      clear c45
      by_cases c46 : a0 ≥ 0
      ·
       rw [if_pos c46] at H
       have c46b0 : decide (0 ≤ a0) = true := decide_eq_true c46
       clear c46
       by_cases c47 : a0 ≤ 256
       ·
        rw [if_pos c47] at H
        have c47b0 : decide (a0 ≤ 256) = true := decide_eq_true c47
        clear c47
        obtain rfl := Option.some.inj H
        go_wp2_with (first | (go_at_call 16; (with_reducible refine (huff_Code.calls a0 t188 t189 _ A44.out).mono ?_); rintro e w48 ⟨rfl, hb⟩; have n0_ := Aside0.mk (Kd.R_below (by (with_reducible repeat (first | apply Kd.R_alloc | apply Kd.R_drewN | apply Kd.R_drew)); exact HO_3.out) hb); have n1_ := Aside0.mk (below_step (by repeat (first | (with_reducible first | exact HB.out | apply below_alloc | apply pw_below_drewN | apply below_drew1) | exact HB.out)) hb); clear HO_3; clear HB; have HO_3 := n0_; have HB := n1_; clear n0_ n1_; (try clear hb); (try clear hb2); (try clear hk); (try clear hi)))
        repeat (go_quiet (first | (go_at_call 16; (with_reducible refine (huff_Code.calls a0 t188 t189 _ A44.out).mono ?_); rintro e w48 ⟨rfl, hb⟩; have n0_ := Aside0.mk (Kd.R_below (by (with_reducible repeat (first | apply Kd.R_alloc | apply Kd.R_drewN | apply Kd.R_drew)); exact HO_3.out) hb); have n1_ := Aside0.mk (below_step (by repeat (first | (with_reducible first | exact HB.out | apply below_alloc | apply pw_below_drewN | apply below_drew1) | exact HB.out)) hb); clear HO_3; clear HB; have HO_3 := n0_; have HB := n1_; clear n0_ n1_; (try clear hb); (try clear hb2); (try clear hk); (try clear hi))); try go_wp2_with (first | (go_at_call 16; (with_reducible refine (huff_Code.calls a0 t188 t189 _ A44.out).mono ?_); rintro e w48 ⟨rfl, hb⟩; have n0_ := Aside0.mk (Kd.R_below (by (with_reducible repeat (first | apply Kd.R_alloc | apply Kd.R_drewN | apply Kd.R_drew)); exact HO_3.out) hb); have n1_ := Aside0.mk (below_step (by repeat (first | (with_reducible first | exact HB.out | apply below_alloc | apply pw_below_drewN | apply below_drew1) | exact HB.out)) hb); clear HO_3; clear HB; have HO_3 := n0_; have HB := n1_; clear n0_ n1_; (try clear hb); (try clear hb2); (try clear hk); (try clear hi))))
        go_ret
        exact ⟨by first | rfl | (simp [errW_none, errW_some] <;> rfl) | (simp [*, errW_none, errW_some] <;> rfl), by repeat (first | (with_reducible first | exact HB.out | apply below_alloc | apply pw_below_drewN | apply below_drew1) | exact HB.out)⟩
       ·
        rw [if_neg c47] at H
        have c47b0 : decide (a0 ≤ 256) = false := decide_eq_false c47
        clear c47
        by_cases c49 : t188 = 0
        ·
         rw [if_pos c49] at H
         have c49b0 : (t188 == 0) = true := beq_iff_eq.mpr c49
         have c49b1 : (t188 != 0) = false := bne_eq_false_iff_eq.mpr c49
         clear c49
         obtain rfl := Option.some.inj H
         go_wp2_with (first | (go_at_call 16; (with_reducible refine (huff_Code.calls a0 t188 t189 _ A44.out).mono ?_); rintro e w50 ⟨rfl, hb⟩; have n0_ := Aside0.mk (Kd.R_below (by (with_reducible repeat (first | apply Kd.R_alloc | apply Kd.R_drewN | apply Kd.R_drew)); exact HO_3.out) hb); have n1_ := Aside0.mk (below_step (by repeat (first | (with_reducible first | exact HB.out | apply below_alloc | apply pw_below_drewN | apply below_drew1) | exact HB.out)) hb); clear HO_3; clear HB; have HO_3 := n0_; have HB := n1_; clear n0_ n1_; (try clear hb); (try clear hb2); (try clear hk); (try clear hi)))
         repeat (go_quiet (first | (go_at_call 16; (with_reducible refine (huff_Code.calls a0 t188 t189 _ A44.out).mono ?_); rintro e w50 ⟨rfl, hb⟩; have n0_ := Aside0.mk (Kd.R_below (by (with_reducible repeat (first | apply Kd.R_alloc | apply Kd.R_drewN | apply Kd.R_drew)); exact HO_3.out) hb); have n1_ := Aside0.mk (below_step (by repeat (first | (with_reducible first | exact HB.out | apply below_alloc | apply pw_below_drewN | apply below_drew1) | exact HB.out)) hb); clear HO_3; clear HB; have HO_3 := n0_; have HB := n1_; clear n0_ n1_; (try clear hb); (try clear hb2); (try clear hk); (try clear hi))); try go_wp2_with (first | (go_at_call 16; (with_reducible refine (huff_Code.calls a0 t188 t189 _ A44.out).mono ?_); rintro e w50 ⟨rfl, hb⟩; have n0_ := Aside0.mk (Kd.R_below (by (with_reducible repeat (first | apply Kd.R_alloc | apply Kd.R_drewN | apply Kd.R_drew)); exact HO_3.out) hb); have n1_ := Aside0.mk (below_step (by repeat (first | (with_reducible first | exact HB.out | apply below_alloc | apply pw_below_drewN | apply below_drew1) | exact HB.out)) hb); clear HO_3; clear HB; have HO_3 := n0_; have HB := n1_; clear n0_ n1_; (try clear hb); (try clear hb2); (try clear hk); (try clear hi))))
         go_ret
         exact ⟨by first | rfl | (simp [errW_none, errW_some] <;> rfl) | (simp [*, errW_none, errW_some] <;> rfl), by repeat (first | (with_reducible first | exact HB.out | apply below_alloc | apply pw_below_drewN | apply below_drew1) | exact HB.out)⟩
        ·
         rw [if_neg c49] at H
         have c49b0 : (t188 == 0) = false := beq_eq_false_iff_ne.mpr c49
         have c49b1 : (t188 != 0) = true := bne_iff_ne.mpr c49
         exact absurd ((Option.some.inj H).trans HT.out) (by decide)
      ·
       rw [if_neg c46] at H
       have c46b0 : decide (0 ≤ a0) = false := decide_eq_false c46
       clear c46
       by_cases c51 : t188 = 0
       ·
        rw [if_pos c51] at H
        have c51b0 : (t188 == 0) = true := beq_iff_eq.mpr c51
        have c51b1 : (t188 != 0) = false := bne_eq_false_iff_eq.mpr c51
        clear c51
        obtain rfl := Option.some.inj H
        go_wp2_with (first | (go_at_call 16; (with_reducible refine (huff_Code.calls a0 t188 t189 _ A44.out).mono ?_); rintro e w52 ⟨rfl, hb⟩; have n0_ := Aside0.mk (Kd.R_below (by (with_reducible repeat (first | apply Kd.R_alloc | apply Kd.R_drewN | apply Kd.R_drew)); exact HO_3.out) hb); have n1_ := Aside0.mk (below_step (by repeat (first | (with_reducible first | exact HB.out | apply below_alloc | apply pw_below_drewN | apply below_drew1) | exact HB.out)) hb); clear HO_3; clear HB; have HO_3 := n0_; have HB := n1_; clear n0_ n1_; (try clear hb); (try clear hb2); (try clear hk); (try clear hi)))
        repeat (go_quiet (first | (go_at_call 16; (with_reducible refine (huff_Code.calls a0 t188 t189 _ A44.out).mono ?_); rintro e w52 ⟨rfl, hb⟩; have n0_ := Aside0.mk (Kd.R_below (by (with_reducible repeat (first | apply Kd.R_alloc | apply Kd.R_drewN | apply Kd.R_drew)); exact HO_3.out) hb); have n1_ := Aside0.mk (below_step (by repeat (first | (with_reducible first | exact HB.out | apply below_alloc | apply pw_below_drewN | apply below_drew1) | exact HB.out)) hb); clear HO_3; clear HB; have HO_3 := n0_; have HB := n1_; clear n0_ n1_; (try clear hb); (try clear hb2); (try clear hk); (try clear hi))); try go_wp2_with (first | (go_at_call 16; (with_reducible refine (huff_Code.calls a0 t188 t189 _ A44.out).mono ?_); rintro e w52 ⟨rfl, hb⟩; have n0_ := Aside0.mk (Kd.R_below (by (with_reducible repeat (first | apply Kd.R_alloc | apply Kd.R_drewN | apply Kd.R_drew)); exact HO_3.out) hb); have n1_ := Aside0.mk (below_step (by repeat (first | (with_reducible first | exact HB.out | apply below_alloc | apply pw_below_drewN | apply below_drew1) | exact HB.out)) hb); clear HO_3; clear HB; have HO_3 := n0_; have HB := n1_; clear n0_ n1_; (try clear hb); (try clear hb2); (try clear hk); (try clear hi))))
        go_ret
        exact ⟨by first | rfl | (simp [errW_none, errW_some] <;> rfl) | (simp [*, errW_none, errW_some] <;> rfl), by repeat (first | (with_reducible first | exact HB.out | apply below_alloc | apply pw_below_drewN | apply below_drew1) | exact HB.out)⟩
       ·
        rw [if_neg c51] at H
        have c51b0 : (t188 == 0) = false := beq_eq_false_iff_ne.mpr c51
        have c51b1 : (t188 != 0) = true := bne_iff_ne.mpr c51
        exact absurd ((Option.some.inj H).trans HT.out) (by decide)
     ·
      rw [if_neg c45] at H
      have c45b0 : (x4_1 == 1073741824) = false := beq_eq_false_iff_ne.mpr c45
      have c45b1 : (x4_1 != 1073741824) = true := bne_iff_ne.mpr c45
      exact absurd ((Option.some.inj H).trans HT.out) (by decide)
 ·
  replace c3 := Bool.eq_false_iff.mpr c3
  subst c3
  have H1 : (some false) = some r := by rw [if_neg (show ¬ (false = true) by decide)] at H; exact H
  clear H
  have H := H1
  clear H1
  exact absurd ((Option.some.inj H).trans HT.out) (by decide)

/-- THE ONE PURE STATEMENT of nunciolaw10_HuffCodes: yours. -/
def nunciolaw10_HuffCodes.Pure : Prop := ∀ (a0 : Int), (Lit.int .i64 a0).wf = true → ∃ k, nunciolaw10_HuffCodes.f k a0 = some true
theorem nunciolaw10_HuffCodes.walk (P : nunciolaw10_HuffCodes.Pure) (a0 : Int) (w : World) (w0 : (Lit.int .i64 a0).wf = true) :
  Calls Try.prog 8 #[.int .i64 a0] w fun e w' => e = .returned (.bool true) ∧ Below w.heap.size w w' := by
 obtain ⟨k, h⟩ := P a0 w0
 refine (nunciolaw10_HuffCodes.calls k a0 true w h rfl).mono ?_
 rintro e w' ⟨rfl, hd⟩
 exact ⟨rfl, hd⟩

end Go.Proofs.Ytadnfcodaoflfaa.Mine
