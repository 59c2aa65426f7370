-- Written by this repo's own printer (wip/print), which builds on the kit's.
import Derived.Test.YtjdnimgkfkpaeaaDoorMinex0
import Derived.Test.YtjdnimgkfkpaeaaDoorMinex6
namespace Go.Proofs.YtjdnimgkfkpaeaaDoor.Mine
open Go.RowKit Go.Proofs.YtjdnimgkfkpaeaaDoorW.PrintWords Go.Proofs.YtjdnimgkfkpaeaaDoorW.PrintLast Go.Proofs.YtjdnimgkfkpaeaaDoorW.PrintMore
attribute [local go_sem] max2_int min2_int max_two min_two max_three min_three max_four min_four   -- for this text's walks alone
set_option linter.unusedVariables false
set_option linter.unusedSimpArgs false

/-! ### nuncioref11_Find: function 18 -/
mutual
def nuncioref11_Find.l0 : Nat → ByteArray → ByteArray → List (S38) → Int → Option (Int × Bool)
 | 0, _, _, _, _ => none
 | k + 1, x1, x2, x8, x9 => if x9 < (x8.length : Int) then (if 0 ≤ x9 then (if ((rd_T38 x8 x9).f0).toList = x1.toList then (if ((rd_T38 x8 x9).f1).toList = x2.toList then (some (wrap64 (x9 + 1), true)) else (nuncioref11_Find.l0 k x1 x2 x8 (wrap64 (x9 + 1)))) else (nuncioref11_Find.l0 k x1 x2 x8 (wrap64 (x9 + 1)))) else (none)) else (nuncioref11_Find.l1 k x1 x8 0)
def nuncioref11_Find.l1 : Nat → ByteArray → List (S38) → Int → Option (Int × Bool)
 | 0, _, _, _ => none
 | k + 1, x1, x8, x10 => if x10 < (x8.length : Int) then (if 0 ≤ x10 then (if ((rd_T38 x8 x10).f0).toList = x1.toList then (some (wrap64 (x10 + 1), false)) else (nuncioref11_Find.l1 k x1 x8 (wrap64 (x10 + 1)))) else (none)) else (some (0, false))
end
def nuncioref11_Find.f (k : Nat) (a0_0 : Int) (l0_1 : List (S38)) (a1 : ByteArray) (a2 : ByteArray) : Option (Int × Bool) := (nuncioref11_All.f k a0_0 l0_1).bind fun t229 => (nuncioref11_Find.l0 k a1 a2 t229 0)
theorem nuncioref11_Find.mono_l : ∀ k, (∀ y0 y1 y2 y3, LeO (nuncioref11_Find.l0 k y0 y1 y2 y3) (nuncioref11_Find.l0 (k + 1) y0 y1 y2 y3)) ∧ (∀ y0 y1 y2, LeO (nuncioref11_Find.l1 k y0 y1 y2) (nuncioref11_Find.l1 (k + 1) y0 y1 y2))
 | 0 => ⟨fun _ _ _ _ r h => by simp [nuncioref11_Find.l0] at h, fun _ _ _ r h => by simp [nuncioref11_Find.l1] at h⟩
 | k + 1 => by
  obtain ⟨ih0, ih1⟩ := nuncioref11_Find.mono_l k
  refine ⟨?_, ?_⟩
  ·
   intro y0 y1 y2 y3
   unfold nuncioref11_Find.l0
   repeat' first
   | (with_reducible exact ih0 _ _ _ _)
   | (with_reducible exact ih1 _ _ _)
   | (with_reducible exact nuncioref11_All.mono _ _ _)
   | (with_reducible exact LeO.refl _)
   | (with_reducible exact LeO.none _)
   | (with_reducible refine LeO.ite ?_ ?_)
   | (with_reducible refine LeO.bind ?_ (fun _ => ?_))
   | exact ih0 _ _ _ _
   | exact ih1 _ _ _
   | exact nuncioref11_All.mono _ _ _
   | exact LeO.none _
   | refine LeO.ite ?_ ?_
   | refine LeO.bind ?_ (fun _ => ?_)
  ·
   intro y0 y1 y2
   unfold nuncioref11_Find.l1
   repeat' first
   | (with_reducible exact ih0 _ _ _ _)
   | (with_reducible exact ih1 _ _ _)
   | (with_reducible exact nuncioref11_All.mono _ _ _)
   | (with_reducible exact LeO.refl _)
   | (with_reducible exact LeO.none _)
   | (with_reducible refine LeO.ite ?_ ?_)
   | (with_reducible refine LeO.bind ?_ (fun _ => ?_))
   | exact ih0 _ _ _ _
   | exact ih1 _ _ _
   | exact nuncioref11_All.mono _ _ _
   | exact LeO.none _
   | refine LeO.ite ?_ ?_
   | refine LeO.bind ?_ (fun _ => ?_)
theorem nuncioref11_Find.mono : ∀ a0 a1 a2 a3 k, LeO (nuncioref11_Find.f k a0 a1 a2 a3) (nuncioref11_Find.f (k + 1) a0 a1 a2 a3) := by
 intro a0 a1 a2 a3 k
 obtain ⟨ih0, ih1⟩ := nuncioref11_Find.mono_l k
 unfold nuncioref11_Find.f
 repeat' first
   | (with_reducible exact ih0 _ _ _ _)
   | (with_reducible exact ih1 _ _ _)
   | (with_reducible exact nuncioref11_All.mono _ _ _)
   | (with_reducible exact LeO.refl _)
   | (with_reducible exact LeO.none _)
   | (with_reducible refine LeO.ite ?_ ?_)
   | (with_reducible refine LeO.bind ?_ (fun _ => ?_))
   | exact ih0 _ _ _ _
   | exact ih1 _ _ _
   | exact nuncioref11_All.mono _ _ _
   | exact LeO.none _
   | refine LeO.ite ?_ ?_
   | refine LeO.bind ?_ (fun _ => ?_)
set_option maxHeartbeats 8000000 in
set_option maxRecDepth 100000 in
theorem nuncioref11_Find.calls (k : Nat) (a0_0 : Int) (A0_1 : Option Addr) (c0_1 : Nat) (l0_1 : List (S38)) (a1 : ByteArray) (a2 : ByteArray) (r1 : Int) (r2 : Bool) (w : World) (hr0_1 : Kd.C k38 w A0_1 l0_1.length l0_1) (hc0_1 : l0_1.length ≤ c0_1) (h : nuncioref11_Find.f k a0_0 l0_1 a1 a2 = some (r1, r2)) :
  Calls Tryd.prog 18 #[.agg #[.int .i64 a0_0, .slice A0_1 l0_1.length c0_1], .string a1, .string a2] w fun e w' => e = .returned (.tuple #[.int .i64 r1, .bool r2]) ∧ Below w.heap.size w w' := by
 have hu29 := Tryd.underlying29
 have HR0_1 := Aside0.mk hr0_1
 have HC0_1 := Aside0.mk hc0_1
 clear hr0_1 hc0_1
 have HB := Aside0.mk (Below.refl w.heap.size w)
 have H : ((nuncioref11_All.f k a0_0 l0_1).bind fun t229 => (nuncioref11_Find.l0 k a1 a2 t229 0)) = some (r1, r2) := h
 clear h
 replace H := Option.bind_eq_some_iff.mp H
 obtain ⟨t229, A40, H⟩ := H
 replace H : (nuncioref11_Find.l0 k a1 a2 t229 0) = some (r1, r2) := H
 have A4 := Aside0.mk A40
 clear A40
 have H' := Aside0.mk H
 clear H
 go_enter Tryd.func18, Tryd.ntmps18
 go_wp2_with (first | ((with_reducible refine gate_dst (N := 3) rfl ?_); refine box_event ?hg (N := 3) ?hd (cs := #[.int .i64 a0_0, .slice A0_1 l0_1.length c0_1]) (t := 29) ?hr ?_; (case hd => rfl); (case hg => rfl); (case hr => first | (go_simp; done) | (go_simp; rfl)); intro gb228 hg w5 hbox hb; have n0_ := Aside0.mk (below_step (by repeat (first | (with_reducible first | exact HB.out | apply below_alloc | apply pw_below_drewN | apply below_drew1) | exact HB.out)) hb); have n1_ := Aside0.mk (hbox); have n2_ := Aside0.mk ((by rw [hg]; exact (below_size (by repeat (first | (with_reducible first | exact HB.out | apply below_alloc | apply pw_below_drewN | apply below_drew1) | exact HB.out))) : w.heap.size ≤ gb228)); have n3_ := Aside0.mk ((by rw [hg]; exact (below_size (by repeat (first | (with_reducible first | exact HB.out | apply below_alloc | apply pw_below_drewN | apply below_drew1) | exact HB.out))) : w.heap.size ≤ gb228)); clear HB; have HB := n0_; have BK228 := n1_; have GW228 := n2_; have GE228 := n3_; clear n0_ n1_ n2_ n3_; clear hb hbox hg; have hcz6_0 : w5.cell? ⟨gb228, 0, none⟩ = some (.int .i64 a0_0) := (blk_cell BK228.out 0).trans rfl; have hcz6_1 : w5.cell? ⟨gb228, 1, none⟩ = some (.slice A0_1 l0_1.length c0_1) := (blk_cell BK228.out 1).trans rfl; have hfz6_0 := blk_frozen BK228.out 0; have hfz6_1 := blk_frozen BK228.out 1) | ((with_reducible refine gate_callee (f := 16) rfl ?_); refine goesL_ (some 12) rfl rfl Tryd.func16 (by kernel_rfl) rfl #[.agg #[.int .i64 a0_0, .slice A0_1 l0_1.length c0_1]] rfl (by (try simp only [List.map_toArray, List.map_cons, List.map_nil]); first | done | rfl | (simp only [List.length_drop, List.length_take]; rfl)) ?_; (with_reducible refine (nuncioref11_All.calls k a0_0 _ _ l0_1 t229 _ ?side1 ?side2 A4.out).mono ?_); (case side1 => repeat (first | exact (Kd.C_below HR0_1.out HB.out) | (with_reducible refine Kd.C_alloc ?_ _) | (with_reducible refine Kd.C_drewN ?_ _) | (with_reducible refine Kd.C_drew ?_))); (case side2 => exact HC0_1.out); rintro e w7 ⟨v230, rfl, ho0, hb⟩; refine ⟨_, rfl, ?_⟩; have n0_ := Aside0.mk (Kd.R_lower ho0 (below_size (by repeat (first | (with_reducible first | exact HB.out | apply below_alloc | apply pw_below_drewN | apply below_drew1 | refine below_set ?_ GE228.out) | exact HB.out)))); have n1_ := Aside0.mk (blk_below (g := gb228) (o := .cells #[.int .i64 a0_0, .slice A0_1 l0_1.length c0_1] 29 (0, 0)) (by (with_reducible repeat (first | refine blk_drewN ?_ _ | refine blk_drew ?_ | refine blk_alloc ?_ _)); exact BK228.out) hb); have n2_ := Aside0.mk (below_step (by repeat (first | (with_reducible first | exact HB.out | apply below_alloc | apply pw_below_drewN | apply below_drew1 | refine below_set ?_ GE228.out) | exact HB.out)) hb); clear BK228; clear HB; have HO231 := n0_; have BK228 := n1_; have HB := n2_; clear n0_ n1_ n2_; (try clear hb); (try clear hb2); (try clear hk); (try clear hi); (try clear ho0)))
 go_loopg [9] k (fun kq v9 w' => ∃ (x9_1 : Int), v9 = .int .i64 x9_1 ∧ Aside0 (nuncioref11_Find.l0 kq a1 a2 t229 x9_1 = some (r1, r2)) ∧ Aside0 (kq ≤ k) ∧ Aside0 (Kd.R k38 38 w' w.heap.size (fun _ => True) v230 t229) ∧ Aside0 (w'.heap[gb228]? = some (.cells #[.int .i64 a0_0, (.slice A0_1 l0_1.length c0_1)] 29 (0, 0))) ∧ Aside0 (Below w.heap.size w w'))
 case atStart => exact ⟨(0), (by first | rfl | (simp; done) | (simp [*]; done)), H', ⟨Nat.le_refl _⟩, ⟨by (with_reducible repeat (first | apply Kd.R_alloc | apply Kd.R_drewN | apply Kd.R_drew)); exact HO231.out⟩, ⟨by (with_reducible repeat (first | refine blk_drewN ?_ _ | refine blk_drew ?_ | refine blk_alloc ?_ _)); exact BK228.out⟩, ⟨by repeat (first | (with_reducible first | exact HB.out | apply below_alloc | apply pw_below_drewN | apply below_drew1 | refine below_set ?_ GE228.out) | exact HB.out)⟩⟩
 case round =>
  clear H'
  try clear c1
  try clear p2
  try clear hcz6_0
  try clear hcz6_1
  try clear hfz6_0
  try clear hfz6_1
  obtain ⟨x9_1, rfl, HA, HK1, HO_8, BK228, HB⟩ := hrel
  cases gk with
  | zero => exact absurd HA.out (by simp [nuncioref11_Find.l0])
  | succ k1 =>
   have H := HA.out
   clear HA
   simp only [nuncioref11_Find.l0] at H
   by_cases c8 : x9_1 < (t229.length : Int)
   ·
    rw [if_pos c8] at H
    have c8b0 : decide (x9_1 < (t229.length : Int)) = true := decide_eq_true c8
    clear c8
    by_cases c9 : 0 ≤ x9_1
    ·
     rw [if_pos c9] at H
     have c9b0 : decide (0 ≤ x9_1) = true := decide_eq_true c9
     clear c9
     by_cases c10 : ((rd_T38 t229 x9_1).f0).toList = a1.toList
     ·
      rw [if_pos c10] at H
      have c10b0 : (((rd_T38 t229 x9_1).f0).toList == a1.toList) = true := beq_iff_eq.mpr c10
      have c10b1 : (((rd_T38 t229 x9_1).f0).toList != a1.toList) = false := bne_eq_false_iff_eq.mpr c10
      clear c10
      by_cases c11 : ((rd_T38 t229 x9_1).f1).toList = a2.toList
      ·
       rw [if_pos c11] at H
       have c11b0 : (((rd_T38 t229 x9_1).f1).toList == a2.toList) = true := beq_iff_eq.mpr c11
       have c11b1 : (((rd_T38 t229 x9_1).f1).toList != a2.toList) = false := bne_eq_false_iff_eq.mpr c11
       clear c11
       simp only [Option.some.injEq, Prod.mk.injEq] at H
       obtain ⟨rfl, rfl⟩ := H
       obtain ⟨Ao12, co12, eo12⟩ := Kd.R_slice HO_8.out
       subst eo12
       have p232 : 0 ≤ (x9_1 : Int) := of_decide_eq_true (by first | (with_reducible assumption) | assumption)
       have q232 : x9_1 < (t229.length : Int) := of_decide_eq_true (by first | (with_reducible assumption) | assumption)
       obtain ⟨ad232, e232, hx232_0, hx232_1⟩ := at_T38 (Kd.R_reads' HO_8.out).2.2 x9_1 p232 q232
       cases e232
       replace p232 := eq_true p232
       replace q232 := eq_true q232
       have p233 : 0 ≤ (x9_1 : Int) := of_decide_eq_true (by first | (with_reducible assumption) | assumption)
       have q233 : x9_1 < (t229.length : Int) := of_decide_eq_true (by first | (with_reducible assumption) | assumption)
       obtain ⟨ad233, e233, hx233_0, hx233_1⟩ := at_T38 (Kd.R_reads' HO_8.out).2.2 x9_1 p233 q233
       obtain rfl : ad232 = ad233 := (by injection e233)
       replace p233 := eq_true p233
       replace q233 := eq_true q233
       go_wp2
       go_ret2
       exact ⟨by first | rfl | (simp [errW_none, errW_some] <;> rfl) | (simp [*, errW_none, errW_some] <;> rfl), by repeat (first | (with_reducible first | exact HB.out | apply below_alloc | apply pw_below_drewN | apply below_drew1 | refine below_set ?_ GE228.out) | exact HB.out)⟩
      ·
       rw [if_neg c11] at H
       have c11b0 : (((rd_T38 t229 x9_1).f1).toList == a2.toList) = false := beq_eq_false_iff_ne.mpr c11
       have c11b1 : (((rd_T38 t229 x9_1).f1).toList != a2.toList) = true := bne_iff_ne.mpr c11
       have H' := Aside0.mk H
       clear H
       obtain ⟨Ao13, co13, eo13⟩ := Kd.R_slice HO_8.out
       subst eo13
       have p232 : 0 ≤ (x9_1 : Int) := of_decide_eq_true (by first | (with_reducible assumption) | assumption)
       have q232 : x9_1 < (t229.length : Int) := of_decide_eq_true (by first | (with_reducible assumption) | assumption)
       obtain ⟨ad232, e232, hx232_0, hx232_1⟩ := at_T38 (Kd.R_reads' HO_8.out).2.2 x9_1 p232 q232
       cases e232
       replace p232 := eq_true p232
       replace q232 := eq_true q232
       have p233 : 0 ≤ (x9_1 : Int) := of_decide_eq_true (by first | (with_reducible assumption) | assumption)
       have q233 : x9_1 < (t229.length : Int) := of_decide_eq_true (by first | (with_reducible assumption) | assumption)
       obtain ⟨ad233, e233, hx233_0, hx233_1⟩ := at_T38 (Kd.R_reads' HO_8.out).2.2 x9_1 p233 q233
       obtain rfl : ad232 = ad233 := (by injection e233)
       replace p233 := eq_true p233
       replace q233 := eq_true q233
       go_wp2
       go_roundg k1
       case measure => have := HK1.out; omega
       case rel => exact ⟨(wrap64 (x9_1 + 1)), (by first | rfl | (simp; done) | (simp [*]; done)), H', ⟨by have := HK1.out; omega⟩, ⟨by (with_reducible repeat (first | apply Kd.R_alloc | apply Kd.R_drewN | apply Kd.R_drew)); exact HO_8.out⟩, ⟨by (with_reducible repeat (first | refine blk_drewN ?_ _ | refine blk_drew ?_ | refine blk_alloc ?_ _)); exact BK228.out⟩, ⟨by repeat (first | (with_reducible first | exact HB.out | apply below_alloc | apply pw_below_drewN | apply below_drew1 | refine below_set ?_ GE228.out) | exact HB.out)⟩⟩
     ·
      rw [if_neg c10] at H
      have c10b0 : (((rd_T38 t229 x9_1).f0).toList == a1.toList) = false := beq_eq_false_iff_ne.mpr c10
      have c10b1 : (((rd_T38 t229 x9_1).f0).toList != a1.toList) = true := bne_iff_ne.mpr c10
      have H' := Aside0.mk H
      clear H
      obtain ⟨Ao14, co14, eo14⟩ := Kd.R_slice HO_8.out
      subst eo14
      have p232 : 0 ≤ (x9_1 : Int) := of_decide_eq_true (by first | (with_reducible assumption) | assumption)
      have q232 : x9_1 < (t229.length : Int) := of_decide_eq_true (by first | (with_reducible assumption) | assumption)
      obtain ⟨ad232, e232, hx232_0, hx232_1⟩ := at_T38 (Kd.R_reads' HO_8.out).2.2 x9_1 p232 q232
      cases e232
      replace p232 := eq_true p232
      replace q232 := eq_true q232
      go_wp2
      go_roundg k1
      case measure => have := HK1.out; omega
      case rel => exact ⟨(wrap64 (x9_1 + 1)), (by first | rfl | (simp; done) | (simp [*]; done)), H', ⟨by have := HK1.out; omega⟩, ⟨by (with_reducible repeat (first | apply Kd.R_alloc | apply Kd.R_drewN | apply Kd.R_drew)); exact HO_8.out⟩, ⟨by (with_reducible repeat (first | refine blk_drewN ?_ _ | refine blk_drew ?_ | refine blk_alloc ?_ _)); exact BK228.out⟩, ⟨by repeat (first | (with_reducible first | exact HB.out | apply below_alloc | apply pw_below_drewN | apply below_drew1 | refine below_set ?_ GE228.out) | exact HB.out)⟩⟩
    ·
     rw [if_neg c9] at H
     exact absurd H (by simp)
   ·
    rw [if_neg c8] at H
    have c8b0 : decide (x9_1 < (t229.length : Int)) = false := decide_eq_false c8
    clear c8
    have H' := Aside0.mk H
    clear H
    obtain ⟨Ao15, co15, eo15⟩ := Kd.R_slice HO_8.out
    subst eo15
    go_wp2
    go_loopg [10] k1 (fun kq v10 w' => ∃ (x10_2 : Int), v10 = .int .i64 x10_2 ∧ Aside0 (nuncioref11_Find.l1 kq a1 t229 x10_2 = some (r1, r2)) ∧ Aside0 (kq ≤ k1) ∧ Aside0 (Kd.R k38 38 w' w.heap.size (fun _ => True) (.slice Ao15 t229.length co15) t229) ∧ Aside0 (w'.heap[gb228]? = some (.cells #[.int .i64 a0_0, (.slice A0_1 l0_1.length c0_1)] 29 (0, 0))) ∧ Aside0 (Below w.heap.size w w'))
    case atStart => exact ⟨(0), (by first | rfl | (simp; done) | (simp [*]; done)), H', ⟨Nat.le_refl _⟩, ⟨by (with_reducible repeat (first | apply Kd.R_alloc | apply Kd.R_drewN | apply Kd.R_drew)); exact HO_8.out⟩, ⟨by (with_reducible repeat (first | refine blk_drewN ?_ _ | refine blk_drew ?_ | refine blk_alloc ?_ _)); exact BK228.out⟩, ⟨by repeat (first | (with_reducible first | exact HB.out | apply below_alloc | apply pw_below_drewN | apply below_drew1 | refine below_set ?_ GE228.out) | exact HB.out)⟩⟩
    case round =>
     clear H'
     try clear c1
     try clear p2
     try clear q2
     try clear hx2
     try clear p6
     try clear c8
     try clear c8b0
     try clear c9
     try clear c9b0
     try clear c10
     try clear c10b0
     try clear c10b1
     try clear c11
     try clear c11b0
     try clear c11b1
     try clear hcz6_0
     try clear hcz6_1
     try clear hfz6_0
     try clear hfz6_1
     try clear hx232_0
     try clear hx232_1
     try clear hx233_0
     try clear hx233_1
     try clear p2
     try clear p232
     try clear p233
     try clear q232
     try clear q233
     obtain ⟨x10_2, rfl, HA, HK2, HO_8, BK228, HB⟩ := hrel
     cases gk with
     | zero => exact absurd HA.out (by simp [nuncioref11_Find.l1])
     | succ k2 =>
      have H := HA.out
      clear HA
      simp only [nuncioref11_Find.l1] at H
      by_cases c16 : x10_2 < (t229.length : Int)
      ·
       rw [if_pos c16] at H
       have c16b0 : decide (x10_2 < (t229.length : Int)) = true := decide_eq_true c16
       clear c16
       by_cases c17 : 0 ≤ x10_2
       ·
        rw [if_pos c17] at H
        have c17b0 : decide (0 ≤ x10_2) = true := decide_eq_true c17
        clear c17
        by_cases c18 : ((rd_T38 t229 x10_2).f0).toList = a1.toList
        ·
         rw [if_pos c18] at H
         have c18b0 : (((rd_T38 t229 x10_2).f0).toList == a1.toList) = true := beq_iff_eq.mpr c18
         have c18b1 : (((rd_T38 t229 x10_2).f0).toList != a1.toList) = false := bne_eq_false_iff_eq.mpr c18
         clear c18
         simp only [Option.some.injEq, Prod.mk.injEq] at H
         obtain ⟨rfl, rfl⟩ := H
         have p234 : 0 ≤ (x10_2 : Int) := of_decide_eq_true (by first | (with_reducible assumption) | assumption)
         have q234 : x10_2 < (t229.length : Int) := of_decide_eq_true (by first | (with_reducible assumption) | assumption)
         obtain ⟨ad234, e234, hx234_0, hx234_1⟩ := at_T38 (Kd.R_reads' HO_8.out).2.2 x10_2 p234 q234
         cases e234
         replace p234 := eq_true p234
         replace q234 := eq_true q234
         go_wp2
         go_ret2
         exact ⟨by first | rfl | (simp [errW_none, errW_some] <;> rfl) | (simp [*, errW_none, errW_some] <;> rfl), by repeat (first | (with_reducible first | exact HB.out | apply below_alloc | apply pw_below_drewN | apply below_drew1 | refine below_set ?_ GE228.out) | exact HB.out)⟩
        ·
         rw [if_neg c18] at H
         have c18b0 : (((rd_T38 t229 x10_2).f0).toList == a1.toList) = false := beq_eq_false_iff_ne.mpr c18
         have c18b1 : (((rd_T38 t229 x10_2).f0).toList != a1.toList) = true := bne_iff_ne.mpr c18
         have H' := Aside0.mk H
         clear H
         have p234 : 0 ≤ (x10_2 : Int) := of_decide_eq_true (by first | (with_reducible assumption) | assumption)
         have q234 : x10_2 < (t229.length : Int) := of_decide_eq_true (by first | (with_reducible assumption) | assumption)
         obtain ⟨ad234, e234, hx234_0, hx234_1⟩ := at_T38 (Kd.R_reads' HO_8.out).2.2 x10_2 p234 q234
         cases e234
         replace p234 := eq_true p234
         replace q234 := eq_true q234
         go_wp2
         go_roundg k2
         case measure => have := HK1.out; have := HK2.out; omega
         case rel => exact ⟨(wrap64 (x10_2 + 1)), (by first | rfl | (simp; done) | (simp [*]; done)), H', ⟨by have := HK1.out; have := HK2.out; omega⟩, ⟨by (with_reducible repeat (first | apply Kd.R_alloc | apply Kd.R_drewN | apply Kd.R_drew)); exact HO_8.out⟩, ⟨by (with_reducible repeat (first | refine blk_drewN ?_ _ | refine blk_drew ?_ | refine blk_alloc ?_ _)); exact BK228.out⟩, ⟨by repeat (first | (with_reducible first | exact HB.out | apply below_alloc | apply pw_below_drewN | apply below_drew1 | refine below_set ?_ GE228.out) | exact HB.out)⟩⟩
       ·
        rw [if_neg c17] at H
        exact absurd H (by simp)
      ·
       rw [if_neg c16] at H
       have c16b0 : decide (x10_2 < (t229.length : Int)) = false := decide_eq_false c16
       clear c16
       simp only [Option.some.injEq, Prod.mk.injEq] at H
       obtain ⟨rfl, rfl⟩ := H
       go_wp2
       go_ret2
       exact ⟨by first | rfl | (simp [errW_none, errW_some] <;> rfl) | (simp [*, errW_none, errW_some] <;> rfl), by repeat (first | (with_reducible first | exact HB.out | apply below_alloc | apply pw_below_drewN | apply below_drew1 | refine below_set ?_ GE228.out) | exact HB.out)⟩

end Go.Proofs.YtjdnimgkfkpaeaaDoor.Mine
