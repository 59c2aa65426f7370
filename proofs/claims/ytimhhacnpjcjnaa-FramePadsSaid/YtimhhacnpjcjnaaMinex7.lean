-- Written by this repo's own printer (wip/print), which builds on the kit's.
import Derived.Test.YtimhhacnpjcjnaaMinex0
namespace Go.Proofs.Ytimhhacnpjcjnaa.Mine
open Go.RowKit Go.Proofs.YtimhhacnpjcjnaaW.PrintWords Go.Proofs.YtimhhacnpjcjnaaW.PrintLast Go.Proofs.YtimhhacnpjcjnaaW.PrintMore
attribute [local go_sem] max2_int min2_int max_two min_two max_three min_three max_four min_four   -- for this text's walks alone
set_option linter.unusedVariables false
set_option linter.unusedSimpArgs false

/-! ### frame_size: function 27 -/
def frame_size.j0 : Nat → Int → Int → Bool → Int → Int → Int → ByteArray → Option (Int × Int)
 | 0, _, _, _, _, _, _, _ => none
 | k + 1, x4, x9, x14, x142000, x142001, x142002, x142003 => if x14 = true then (if x4 = 4 then (some (0, 0)) else (some (2, 6))) else (if x9 = 4 then (if (Go.bits .and .u8 x142001 1) = 0 then (if (Int.tmod x4 6) = 0 then (some (0, 0)) else (some (2, 6))) else (if x4 > 0 then (some (2, 6)) else (if (Int.tmod x4 6) = 0 then (some (0, 0)) else (some (2, 6))))) else (if x9 = 6 then (if x4 = 8 then (some (0, 0)) else (some (2, 6))) else (if x9 = 7 then (if x4 < 8 then (some (2, 6)) else (some (0, 0))) else (some (0, 0)))))
def frame_size.f (k : Nat) (a0_0 : Int) (a0_1 : Int) (a0_2 : Int) (a0_3 : ByteArray) : Option (Int × Int) := if a0_0 = 2 then (if (a0_3.size : Int) = 5 then (some (0, 0)) else (some (1, 6))) else (if a0_0 = 3 then (frame_size.j0 k (a0_3.size : Int) a0_0 (a0_0 == 3) a0_0 a0_1 a0_2 a0_3) else (frame_size.j0 k (a0_3.size : Int) a0_0 (a0_0 == 8) a0_0 a0_1 a0_2 a0_3))
theorem frame_size.mono_l : ∀ k, (∀ y0 y1 y2 y3 y4 y5 y6, LeO (frame_size.j0 k y0 y1 y2 y3 y4 y5 y6) (frame_size.j0 (k + 1) y0 y1 y2 y3 y4 y5 y6))
 | 0 => fun _ _ _ _ _ _ _ r h => by simp [frame_size.j0] at h
 | k + 1 => by
  have ih0 := frame_size.mono_l k
  ·
   intro y0 y1 y2 y3 y4 y5 y6
   unfold frame_size.j0
   repeat' first
   | (with_reducible exact ih0 _ _ _ _ _ _ _)
   | (with_reducible exact LeO.refl _)
   | (with_reducible exact LeO.none _)
   | (with_reducible refine LeO.ite ?_ ?_)
   | (with_reducible refine LeO.bind ?_ (fun _ => ?_))
   | exact ih0 _ _ _ _ _ _ _
   | exact LeO.none _
   | refine LeO.ite ?_ ?_
   | refine LeO.bind ?_ (fun _ => ?_)
theorem frame_size.mono : ∀ a0 a1 a2 a3 k, LeO (frame_size.f k a0 a1 a2 a3) (frame_size.f (k + 1) a0 a1 a2 a3) := by
 intro a0 a1 a2 a3 k
 have ih0 := frame_size.mono_l k
 unfold frame_size.f
 repeat' first
   | (with_reducible exact ih0 _ _ _ _ _ _ _)
   | (with_reducible exact LeO.refl _)
   | (with_reducible exact LeO.none _)
   | (with_reducible refine LeO.ite ?_ ?_)
   | (with_reducible refine LeO.bind ?_ (fun _ => ?_))
   | exact ih0 _ _ _ _ _ _ _
   | exact LeO.none _
   | refine LeO.ite ?_ ?_
   | refine LeO.bind ?_ (fun _ => ?_)
set_option maxHeartbeats 8000000 in
set_option maxRecDepth 100000 in
theorem frame_size.calls (k : Nat) (a0_0 : Int) (a0_1 : Int) (a0_2 : Int) (a0_3 : ByteArray) (r1 : Int) (r2 : Int) (w : World) (h : frame_size.f k a0_0 a0_1 a0_2 a0_3 = some (r1, r2)) :
  Calls Try.prog 27 #[.agg #[.int .u8 a0_0, .int .u8 a0_1, .int .u32 a0_2, .string a0_3]] w fun e w' => e = .returned (.tuple #[.int .i64 r1, .int .u32 r2]) ∧ Below w.heap.size w w' := by
 have hu24 := Try.underlying24
 have HB := Aside0.mk (Below.refl w.heap.size w)
 have H : (if a0_0 = 2 then (if (a0_3.size : Int) = 5 then (some (0, 0)) else (some (1, 6))) else (if a0_0 = 3 then (frame_size.j0 k (a0_3.size : Int) a0_0 (a0_0 == 3) a0_0 a0_1 a0_2 a0_3) else (frame_size.j0 k (a0_3.size : Int) a0_0 (a0_0 == 8) a0_0 a0_1 a0_2 a0_3))) = some (r1, r2) := h
 clear h
 by_cases c2 : a0_0 = 2
 ·
  rw [if_pos c2] at H
  have c2b0 : (a0_0 == 2) = true := beq_iff_eq.mpr c2
  have c2b1 : (a0_0 != 2) = false := bne_eq_false_iff_eq.mpr c2
  clear c2
  by_cases c3 : (a0_3.size : Int) = 5
  ·
   rw [if_pos c3] at H
   have c3b0 : ((a0_3.size : Int) == 5) = true := beq_iff_eq.mpr c3
   have c3b1 : ((a0_3.size : Int) != 5) = false := bne_eq_false_iff_eq.mpr c3
   clear c3
   simp only [Option.some.injEq, Prod.mk.injEq] at H
   obtain ⟨rfl, rfl⟩ := H
   go_enter Try.func27, Try.ntmps27
   go_wp2_with (first | ((with_reducible refine gate_dst (N := 1) rfl ?_); refine box_event ?hg (N := 1) ?hd (cs := #[.int .u8 a0_0, .int .u8 a0_1, .int .u32 a0_2, .string a0_3]) (t := 24) ?hr ?_; (case hd => rfl); (case hg => rfl); (case hr => first | (go_simp; done) | (go_simp; rfl)); intro gb141 hg w4 hbox hb; have n0_ := Aside0.mk (below_step (by repeat (first | (with_reducible first | exact HB.out | apply below_alloc | apply pw_below_drewN | apply below_drew1) | exact HB.out)) hb); have n1_ := Aside0.mk (hbox); have n2_ := Aside0.mk ((by rw [hg]; exact (below_size (by repeat (first | (with_reducible first | exact HB.out | apply below_alloc | apply pw_below_drewN | apply below_drew1) | exact HB.out))) : w.heap.size ≤ gb141)); have n3_ := Aside0.mk ((by rw [hg]; exact (below_size (by repeat (first | (with_reducible first | exact HB.out | apply below_alloc | apply pw_below_drewN | apply below_drew1) | exact HB.out))) : w.heap.size ≤ gb141)); clear HB; have HB := n0_; have BK141 := n1_; have GW141 := n2_; have GE141 := n3_; clear n0_ n1_ n2_ n3_; clear hb hbox hg; have hcz5_0 : w4.cell? ⟨gb141, 0, none⟩ = some (.int .u8 a0_0) := (blk_cell BK141.out 0).trans rfl; have hcz5_1 : w4.cell? ⟨gb141, 1, none⟩ = some (.int .u8 a0_1) := (blk_cell BK141.out 1).trans rfl; have hcz5_2 : w4.cell? ⟨gb141, 2, none⟩ = some (.int .u32 a0_2) := (blk_cell BK141.out 2).trans rfl; have hcz5_3 : w4.cell? ⟨gb141, 3, none⟩ = some (.string a0_3) := (blk_cell BK141.out 3).trans rfl; have hfz5_0 := blk_frozen BK141.out 0; have hfz5_1 := blk_frozen BK141.out 1; have hfz5_2 := blk_frozen BK141.out 2; have hfz5_3 := blk_frozen BK141.out 3))
   go_ret2
   exact ⟨by first | rfl | (simp [errW_none, errW_some] <;> rfl) | (simp [*, errW_none, errW_some] <;> rfl), by repeat (first | (with_reducible first | exact HB.out | apply below_alloc | apply pw_below_drewN | apply below_drew1 | refine below_set ?_ GE141.out) | exact HB.out)⟩
  ·
   rw [if_neg c3] at H
   have c3b0 : ((a0_3.size : Int) == 5) = false := beq_eq_false_iff_ne.mpr c3
   have c3b1 : ((a0_3.size : Int) != 5) = true := bne_iff_ne.mpr c3
   simp only [Option.some.injEq, Prod.mk.injEq] at H
   obtain ⟨rfl, rfl⟩ := H
   go_enter Try.func27, Try.ntmps27
   go_wp2_with (first | ((with_reducible refine gate_dst (N := 1) rfl ?_); refine box_event ?hg (N := 1) ?hd (cs := #[.int .u8 a0_0, .int .u8 a0_1, .int .u32 a0_2, .string a0_3]) (t := 24) ?hr ?_; (case hd => rfl); (case hg => rfl); (case hr => first | (go_simp; done) | (go_simp; rfl)); intro gb141 hg w6 hbox hb; have n0_ := Aside0.mk (below_step (by repeat (first | (with_reducible first | exact HB.out | apply below_alloc | apply pw_below_drewN | apply below_drew1) | exact HB.out)) hb); have n1_ := Aside0.mk (hbox); have n2_ := Aside0.mk ((by rw [hg]; exact (below_size (by repeat (first | (with_reducible first | exact HB.out | apply below_alloc | apply pw_below_drewN | apply below_drew1) | exact HB.out))) : w.heap.size ≤ gb141)); have n3_ := Aside0.mk ((by rw [hg]; exact (below_size (by repeat (first | (with_reducible first | exact HB.out | apply below_alloc | apply pw_below_drewN | apply below_drew1) | exact HB.out))) : w.heap.size ≤ gb141)); clear HB; have HB := n0_; have BK141 := n1_; have GW141 := n2_; have GE141 := n3_; clear n0_ n1_ n2_ n3_; clear hb hbox hg; have hcz7_0 : w6.cell? ⟨gb141, 0, none⟩ = some (.int .u8 a0_0) := (blk_cell BK141.out 0).trans rfl; have hcz7_1 : w6.cell? ⟨gb141, 1, none⟩ = some (.int .u8 a0_1) := (blk_cell BK141.out 1).trans rfl; have hcz7_2 : w6.cell? ⟨gb141, 2, none⟩ = some (.int .u32 a0_2) := (blk_cell BK141.out 2).trans rfl; have hcz7_3 : w6.cell? ⟨gb141, 3, none⟩ = some (.string a0_3) := (blk_cell BK141.out 3).trans rfl; have hfz7_0 := blk_frozen BK141.out 0; have hfz7_1 := blk_frozen BK141.out 1; have hfz7_2 := blk_frozen BK141.out 2; have hfz7_3 := blk_frozen BK141.out 3))
   go_ret2
   exact ⟨by first | rfl | (simp [errW_none, errW_some] <;> rfl) | (simp [*, errW_none, errW_some] <;> rfl), by repeat (first | (with_reducible first | exact HB.out | apply below_alloc | apply pw_below_drewN | apply below_drew1 | refine below_set ?_ GE141.out) | exact HB.out)⟩
 ·
  rw [if_neg c2] at H
  have c2b0 : (a0_0 == 2) = false := beq_eq_false_iff_ne.mpr c2
  have c2b1 : (a0_0 != 2) = true := bne_iff_ne.mpr c2
  have HC8 := Aside0.mk H
  clear H
  go_enter Try.func27, Try.ntmps27
  go_upto_if 14 with (first | ((with_reducible refine gate_dst (N := 1) rfl ?_); refine box_event ?hg (N := 1) ?hd (cs := #[.int .u8 a0_0, .int .u8 a0_1, .int .u32 a0_2, .string a0_3]) (t := 24) ?hr ?_; (case hd => rfl); (case hg => rfl); (case hr => first | (go_simp; done) | (go_simp; rfl)); intro gb141 hg w9 hbox hb; have n0_ := Aside0.mk (below_step (by repeat (first | (with_reducible first | exact HB.out | apply below_alloc | apply pw_below_drewN | apply below_drew1) | exact HB.out)) hb); have n1_ := Aside0.mk (hbox); have n2_ := Aside0.mk ((by rw [hg]; exact (below_size (by repeat (first | (with_reducible first | exact HB.out | apply below_alloc | apply pw_below_drewN | apply below_drew1) | exact HB.out))) : w.heap.size ≤ gb141)); have n3_ := Aside0.mk ((by rw [hg]; exact (below_size (by repeat (first | (with_reducible first | exact HB.out | apply below_alloc | apply pw_below_drewN | apply below_drew1) | exact HB.out))) : w.heap.size ≤ gb141)); clear HB; have HB := n0_; have BK141 := n1_; have GW141 := n2_; have GE141 := n3_; clear n0_ n1_ n2_ n3_; clear hb hbox hg; have hcz10_0 : w9.cell? ⟨gb141, 0, none⟩ = some (.int .u8 a0_0) := (blk_cell BK141.out 0).trans rfl; have hcz10_1 : w9.cell? ⟨gb141, 1, none⟩ = some (.int .u8 a0_1) := (blk_cell BK141.out 1).trans rfl; have hcz10_2 : w9.cell? ⟨gb141, 2, none⟩ = some (.int .u32 a0_2) := (blk_cell BK141.out 2).trans rfl; have hcz10_3 : w9.cell? ⟨gb141, 3, none⟩ = some (.string a0_3) := (blk_cell BK141.out 3).trans rfl; have hfz10_0 := blk_frozen BK141.out 0; have hfz10_1 := blk_frozen BK141.out 1; have hfz10_2 := blk_frozen BK141.out 2; have hfz10_3 := blk_frozen BK141.out 3))
  (try simp only [Act.put, List.setIfInBounds_toArray, List.set_cons_zero, List.set_cons_succ])
  go_cut [14] (fun v14 wc => ∃ (kq : Nat) (x14_7 : Bool), v14 = .bool x14_7 ∧ Aside0 (frame_size.j0 kq (a0_3.size : Int) a0_0 x14_7 a0_0 a0_1 a0_2 a0_3 = some (r1, r2)) ∧ Aside0 (kq ≤ k) ∧ Aside0 (wc.heap[gb141]? = some (.cells #[.int .u8 a0_0, .int .u8 a0_1, .int .u32 a0_2, .string a0_3] 24 (0, 0))) ∧ Aside0 (Below w.heap.size w wc))
  case first =>
   have H := HC8.out
   clear HC8
   by_cases c11 : a0_0 = 3
   ·
    rw [if_pos c11] at H
    have c11b0 : (a0_0 == 3) = true := beq_iff_eq.mpr c11
    have c11b1 : (a0_0 != 3) = false := bne_eq_false_iff_eq.mpr c11
    clear c11
    (first | rw [c11b0] | (simp only [i64_w, i32_w]; rw [c11b0]) | skip)
    have H' := Aside0.mk H
    clear H
    go_wp2
    go_meet
    case rel => exact ⟨_, ((a0_0 == 3)), (by first | rfl | (simp; done) | (simp [*]; done)), H', ⟨by first | omega | exact Nat.le_refl _⟩, ⟨by (with_reducible repeat (first | refine blk_drewN ?_ _ | refine blk_drew ?_ | refine blk_alloc ?_ _)); exact BK141.out⟩, ⟨by repeat (first | (with_reducible first | exact HB.out | apply below_alloc | apply pw_below_drewN | apply below_drew1 | refine below_set ?_ GE141.out) | exact HB.out)⟩⟩
   ·
    rw [if_neg c11] at H
    have c11b0 : (a0_0 == 3) = false := beq_eq_false_iff_ne.mpr c11
    have c11b1 : (a0_0 != 3) = true := bne_iff_ne.mpr c11
    (first | rw [c11b0] | (simp only [i64_w, i32_w]; rw [c11b0]) | skip)
    have H' := Aside0.mk H
    clear H
    go_wp2
    go_meet
    case rel => exact ⟨_, ((a0_0 == 8)), (by first | rfl | (simp; done) | (simp [*]; done)), H', ⟨by first | omega | exact Nat.le_refl _⟩, ⟨by (with_reducible repeat (first | refine blk_drewN ?_ _ | refine blk_drew ?_ | refine blk_alloc ?_ _)); exact BK141.out⟩, ⟨by repeat (first | (with_reducible first | exact HB.out | apply below_alloc | apply pw_below_drewN | apply below_drew1 | refine below_set ?_ GE141.out) | exact HB.out)⟩⟩
  case rest =>
   clear HC8
   try clear c1
   try clear c2
   try clear c2b0
   try clear c2b1
   try clear p2
   try clear c3
   try clear c3b0
   try clear c3b1
   try clear c11
   try clear c11b0
   try clear c11b1
   try clear hcz10_0
   try clear hcz10_1
   try clear hcz10_2
   try clear hcz10_3
   try clear hcz5_0
   try clear hcz5_1
   try clear hcz5_2
   try clear hcz5_3
   try clear hcz7_0
   try clear hcz7_1
   try clear hcz7_2
   try clear hcz7_3
   try clear hfz10_0
   try clear hfz10_1
   try clear hfz10_2
   try clear hfz10_3
   try clear hfz5_0
   try clear hfz5_1
   try clear hfz5_2
   try clear hfz5_3
   try clear hfz7_0
   try clear hfz7_1
   try clear hfz7_2
   try clear hfz7_3
   obtain ⟨kq, x14_7, rfl, HA, HJ7, BK141, HB⟩ := hcut
   cases kq with
   | zero => exact absurd HA.out (by simp [frame_size.j0])
   | succ kj7 =>
    have H := HA.out
    clear HA
    simp only [frame_size.j0] at H
    by_cases c12 : x14_7 = true
    ·
     subst c12
     have H1 : (if (a0_3.size : Int) = 4 then (some (0, 0)) else (some (2, 6))) = some (r1, r2) := by rw [if_pos rfl] at H; exact H
     clear H
     have H := H1
     clear H1
     by_cases c13 : (a0_3.size : Int) = 4
     ·
      rw [if_pos c13] at H
      have c13b0 : ((a0_3.size : Int) == 4) = true := beq_iff_eq.mpr c13
      have c13b1 : ((a0_3.size : Int) != 4) = false := bne_eq_false_iff_eq.mpr c13
      clear c13
      simp only [Option.some.injEq, Prod.mk.injEq] at H
      obtain ⟨rfl, rfl⟩ := H
      go_wp2
      go_ret2
      exact ⟨by first | rfl | (simp [errW_none, errW_some] <;> rfl) | (simp [*, errW_none, errW_some] <;> rfl), by repeat (first | (with_reducible first | exact HB.out | apply below_alloc | apply pw_below_drewN | apply below_drew1 | refine below_set ?_ GE141.out) | exact HB.out)⟩
     ·
      rw [if_neg c13] at H
      have c13b0 : ((a0_3.size : Int) == 4) = false := beq_eq_false_iff_ne.mpr c13
      have c13b1 : ((a0_3.size : Int) != 4) = true := bne_iff_ne.mpr c13
      simp only [Option.some.injEq, Prod.mk.injEq] at H
      obtain ⟨rfl, rfl⟩ := H
      go_wp2
      go_ret2
      exact ⟨by first | rfl | (simp [errW_none, errW_some] <;> rfl) | (simp [*, errW_none, errW_some] <;> rfl), by repeat (first | (with_reducible first | exact HB.out | apply below_alloc | apply pw_below_drewN | apply below_drew1 | refine below_set ?_ GE141.out) | exact HB.out)⟩
    ·
     replace c12 := Bool.eq_false_iff.mpr c12
     subst c12
     have H1 : (if a0_0 = 4 then (if (Go.bits .and .u8 a0_1 1) = 0 then (if (Int.tmod (a0_3.size : Int) 6) = 0 then (some (0, 0)) else (some (2, 6))) else (if (a0_3.size : Int) > 0 then (some (2, 6)) else (if (Int.tmod (a0_3.size : Int) 6) = 0 then (some (0, 0)) else (some (2, 6))))) else (if a0_0 = 6 then (if (a0_3.size : Int) = 8 then (some (0, 0)) else (some (2, 6))) else (if a0_0 = 7 then (if (a0_3.size : Int) < 8 then (some (2, 6)) else (some (0, 0))) else (some (0, 0))))) = some (r1, r2) := by rw [if_neg (show ¬ (false = true) by decide)] at H; exact H
     clear H
     have H := H1
     clear H1
     by_cases c14 : a0_0 = 4
     ·
      rw [if_pos c14] at H
      have c14b0 : (a0_0 == 4) = true := beq_iff_eq.mpr c14
      have c14b1 : (a0_0 != 4) = false := bne_eq_false_iff_eq.mpr c14
      clear c14
      by_cases c15 : (Go.bits .and .u8 a0_1 1) = 0
      ·
       rw [if_pos c15] at H
       have c15b0 : ((Go.bits .and .u8 a0_1 1) == 0) = true := beq_iff_eq.mpr c15
       have c15b1 : ((Go.bits .and .u8 a0_1 1) != 0) = false := bne_eq_false_iff_eq.mpr c15
       clear c15
       by_cases c16 : (Int.tmod (a0_3.size : Int) 6) = 0
       ·
        rw [if_pos c16] at H
        have c16b0 : ((Int.tmod (a0_3.size : Int) 6) == 0) = true := beq_iff_eq.mpr c16
        have c16b1 : ((Int.tmod (a0_3.size : Int) 6) != 0) = false := bne_eq_false_iff_eq.mpr c16
        clear c16
        (try (have c16b7 := c16b0; rw [Int.tmod_eq_emod_of_nonneg (Int.natCast_nonneg _)] at c16b7))
        (try (have c16b6 := c16b1; rw [Int.tmod_eq_emod_of_nonneg (Int.natCast_nonneg _)] at c16b6))
        simp only [Option.some.injEq, Prod.mk.injEq] at H
        obtain ⟨rfl, rfl⟩ := H
        have hcz17_0 : wc.cell? ⟨gb141, 0, none⟩ = some (.int .u8 a0_0) := (blk_cell BK141.out 0).trans rfl
        have hcz17_1 : wc.cell? ⟨gb141, 1, none⟩ = some (.int .u8 a0_1) := (blk_cell BK141.out 1).trans rfl
        have hcz17_2 : wc.cell? ⟨gb141, 2, none⟩ = some (.int .u32 a0_2) := (blk_cell BK141.out 2).trans rfl
        have hcz17_3 : wc.cell? ⟨gb141, 3, none⟩ = some (.string a0_3) := (blk_cell BK141.out 3).trans rfl
        have hfz17_0 := blk_frozen BK141.out 0
        have hfz17_1 := blk_frozen BK141.out 1
        have hfz17_2 := blk_frozen BK141.out 2
        have hfz17_3 := blk_frozen BK141.out 3
        go_wp2
        go_ret2
        exact ⟨by first | rfl | (simp [errW_none, errW_some] <;> rfl) | (simp [*, errW_none, errW_some] <;> rfl), by repeat (first | (with_reducible first | exact HB.out | apply below_alloc | apply pw_below_drewN | apply below_drew1 | refine below_set ?_ GE141.out) | exact HB.out)⟩
       ·
        rw [if_neg c16] at H
        have c16b0 : ((Int.tmod (a0_3.size : Int) 6) == 0) = false := beq_eq_false_iff_ne.mpr c16
        have c16b1 : ((Int.tmod (a0_3.size : Int) 6) != 0) = true := bne_iff_ne.mpr c16
        (try (have c16b7 := c16b0; rw [Int.tmod_eq_emod_of_nonneg (Int.natCast_nonneg _)] at c16b7))
        (try (have c16b6 := c16b1; rw [Int.tmod_eq_emod_of_nonneg (Int.natCast_nonneg _)] at c16b6))
        simp only [Option.some.injEq, Prod.mk.injEq] at H
        obtain ⟨rfl, rfl⟩ := H
        have hcz18_0 : wc.cell? ⟨gb141, 0, none⟩ = some (.int .u8 a0_0) := (blk_cell BK141.out 0).trans rfl
        have hcz18_1 : wc.cell? ⟨gb141, 1, none⟩ = some (.int .u8 a0_1) := (blk_cell BK141.out 1).trans rfl
        have hcz18_2 : wc.cell? ⟨gb141, 2, none⟩ = some (.int .u32 a0_2) := (blk_cell BK141.out 2).trans rfl
        have hcz18_3 : wc.cell? ⟨gb141, 3, none⟩ = some (.string a0_3) := (blk_cell BK141.out 3).trans rfl
        have hfz18_0 := blk_frozen BK141.out 0
        have hfz18_1 := blk_frozen BK141.out 1
        have hfz18_2 := blk_frozen BK141.out 2
        have hfz18_3 := blk_frozen BK141.out 3
        go_wp2
        go_ret2
        exact ⟨by first | rfl | (simp [errW_none, errW_some] <;> rfl) | (simp [*, errW_none, errW_some] <;> rfl), by repeat (first | (with_reducible first | exact HB.out | apply below_alloc | apply pw_below_drewN | apply below_drew1 | refine below_set ?_ GE141.out) | exact HB.out)⟩
      ·
       rw [if_neg c15] at H
       have c15b0 : ((Go.bits .and .u8 a0_1 1) == 0) = false := beq_eq_false_iff_ne.mpr c15
       have c15b1 : ((Go.bits .and .u8 a0_1 1) != 0) = true := bne_iff_ne.mpr c15
       by_cases c19 : (a0_3.size : Int) > 0
       ·
        rw [if_pos c19] at H
        have c19b0 : decide (0 < (a0_3.size : Int)) = true := decide_eq_true c19
        have c19b1 : decide (0 < a0_3.size) = true := decide_eq_true (by omega)
        clear c19
        simp only [Option.some.injEq, Prod.mk.injEq] at H
        obtain ⟨rfl, rfl⟩ := H
        have hcz20_0 : wc.cell? ⟨gb141, 0, none⟩ = some (.int .u8 a0_0) := (blk_cell BK141.out 0).trans rfl
        have hcz20_1 : wc.cell? ⟨gb141, 1, none⟩ = some (.int .u8 a0_1) := (blk_cell BK141.out 1).trans rfl
        have hcz20_2 : wc.cell? ⟨gb141, 2, none⟩ = some (.int .u32 a0_2) := (blk_cell BK141.out 2).trans rfl
        have hcz20_3 : wc.cell? ⟨gb141, 3, none⟩ = some (.string a0_3) := (blk_cell BK141.out 3).trans rfl
        have hfz20_0 := blk_frozen BK141.out 0
        have hfz20_1 := blk_frozen BK141.out 1
        have hfz20_2 := blk_frozen BK141.out 2
        have hfz20_3 := blk_frozen BK141.out 3
        go_wp2
        go_ret2
        exact ⟨by first | rfl | (simp [errW_none, errW_some] <;> rfl) | (simp [*, errW_none, errW_some] <;> rfl), by repeat (first | (with_reducible first | exact HB.out | apply below_alloc | apply pw_below_drewN | apply below_drew1 | refine below_set ?_ GE141.out) | exact HB.out)⟩
       ·
        rw [if_neg c19] at H
        have c19b0 : decide (0 < (a0_3.size : Int)) = false := decide_eq_false c19
        have c19b1 : decide (0 < a0_3.size) = false := decide_eq_false (by omega)
        clear c19
        by_cases c21 : (Int.tmod (a0_3.size : Int) 6) = 0
        ·
         rw [if_pos c21] at H
         have c21b0 : ((Int.tmod (a0_3.size : Int) 6) == 0) = true := beq_iff_eq.mpr c21
         have c21b1 : ((Int.tmod (a0_3.size : Int) 6) != 0) = false := bne_eq_false_iff_eq.mpr c21
         clear c21
         (try (have c21b7 := c21b0; rw [Int.tmod_eq_emod_of_nonneg (Int.natCast_nonneg _)] at c21b7))
         (try (have c21b6 := c21b1; rw [Int.tmod_eq_emod_of_nonneg (Int.natCast_nonneg _)] at c21b6))
         simp only [Option.some.injEq, Prod.mk.injEq] at H
         obtain ⟨rfl, rfl⟩ := H
         have hcz22_0 : wc.cell? ⟨gb141, 0, none⟩ = some (.int .u8 a0_0) := (blk_cell BK141.out 0).trans rfl
         have hcz22_1 : wc.cell? ⟨gb141, 1, none⟩ = some (.int .u8 a0_1) := (blk_cell BK141.out 1).trans rfl
         have hcz22_2 : wc.cell? ⟨gb141, 2, none⟩ = some (.int .u32 a0_2) := (blk_cell BK141.out 2).trans rfl
         have hcz22_3 : wc.cell? ⟨gb141, 3, none⟩ = some (.string a0_3) := (blk_cell BK141.out 3).trans rfl
         have hfz22_0 := blk_frozen BK141.out 0
         have hfz22_1 := blk_frozen BK141.out 1
         have hfz22_2 := blk_frozen BK141.out 2
         have hfz22_3 := blk_frozen BK141.out 3
         go_wp2
         go_ret2
         exact ⟨by first | rfl | (simp [errW_none, errW_some] <;> rfl) | (simp [*, errW_none, errW_some] <;> rfl), by repeat (first | (with_reducible first | exact HB.out | apply below_alloc | apply pw_below_drewN | apply below_drew1 | refine below_set ?_ GE141.out) | exact HB.out)⟩
        ·
         rw [if_neg c21] at H
         have c21b0 : ((Int.tmod (a0_3.size : Int) 6) == 0) = false := beq_eq_false_iff_ne.mpr c21
         have c21b1 : ((Int.tmod (a0_3.size : Int) 6) != 0) = true := bne_iff_ne.mpr c21
         (try (have c21b7 := c21b0; rw [Int.tmod_eq_emod_of_nonneg (Int.natCast_nonneg _)] at c21b7))
         (try (have c21b6 := c21b1; rw [Int.tmod_eq_emod_of_nonneg (Int.natCast_nonneg _)] at c21b6))
         simp only [Option.some.injEq, Prod.mk.injEq] at H
         obtain ⟨rfl, rfl⟩ := H
         have hcz23_0 : wc.cell? ⟨gb141, 0, none⟩ = some (.int .u8 a0_0) := (blk_cell BK141.out 0).trans rfl
         have hcz23_1 : wc.cell? ⟨gb141, 1, none⟩ = some (.int .u8 a0_1) := (blk_cell BK141.out 1).trans rfl
         have hcz23_2 : wc.cell? ⟨gb141, 2, none⟩ = some (.int .u32 a0_2) := (blk_cell BK141.out 2).trans rfl
         have hcz23_3 : wc.cell? ⟨gb141, 3, none⟩ = some (.string a0_3) := (blk_cell BK141.out 3).trans rfl
         have hfz23_0 := blk_frozen BK141.out 0
         have hfz23_1 := blk_frozen BK141.out 1
         have hfz23_2 := blk_frozen BK141.out 2
         have hfz23_3 := blk_frozen BK141.out 3
         go_wp2
         go_ret2
         exact ⟨by first | rfl | (simp [errW_none, errW_some] <;> rfl) | (simp [*, errW_none, errW_some] <;> rfl), by repeat (first | (with_reducible first | exact HB.out | apply below_alloc | apply pw_below_drewN | apply below_drew1 | refine below_set ?_ GE141.out) | exact HB.out)⟩
     ·
      rw [if_neg c14] at H
      have c14b0 : (a0_0 == 4) = false := beq_eq_false_iff_ne.mpr c14
      have c14b1 : (a0_0 != 4) = true := bne_iff_ne.mpr c14
      by_cases c24 : a0_0 = 6
      ·
       rw [if_pos c24] at H
       have c24b0 : (a0_0 == 6) = true := beq_iff_eq.mpr c24
       have c24b1 : (a0_0 != 6) = false := bne_eq_false_iff_eq.mpr c24
       clear c24
       by_cases c25 : (a0_3.size : Int) = 8
       ·
        rw [if_pos c25] at H
        have c25b0 : ((a0_3.size : Int) == 8) = true := beq_iff_eq.mpr c25
        have c25b1 : ((a0_3.size : Int) != 8) = false := bne_eq_false_iff_eq.mpr c25
        clear c25
        simp only [Option.some.injEq, Prod.mk.injEq] at H
        obtain ⟨rfl, rfl⟩ := H
        go_wp2
        go_ret2
        exact ⟨by first | rfl | (simp [errW_none, errW_some] <;> rfl) | (simp [*, errW_none, errW_some] <;> rfl), by repeat (first | (with_reducible first | exact HB.out | apply below_alloc | apply pw_below_drewN | apply below_drew1 | refine below_set ?_ GE141.out) | exact HB.out)⟩
       ·
        rw [if_neg c25] at H
        have c25b0 : ((a0_3.size : Int) == 8) = false := beq_eq_false_iff_ne.mpr c25
        have c25b1 : ((a0_3.size : Int) != 8) = true := bne_iff_ne.mpr c25
        simp only [Option.some.injEq, Prod.mk.injEq] at H
        obtain ⟨rfl, rfl⟩ := H
        go_wp2
        go_ret2
        exact ⟨by first | rfl | (simp [errW_none, errW_some] <;> rfl) | (simp [*, errW_none, errW_some] <;> rfl), by repeat (first | (with_reducible first | exact HB.out | apply below_alloc | apply pw_below_drewN | apply below_drew1 | refine below_set ?_ GE141.out) | exact HB.out)⟩
      ·
       rw [if_neg c24] at H
       have c24b0 : (a0_0 == 6) = false := beq_eq_false_iff_ne.mpr c24
       have c24b1 : (a0_0 != 6) = true := bne_iff_ne.mpr c24
       by_cases c26 : a0_0 = 7
       ·
        rw [if_pos c26] at H
        have c26b0 : (a0_0 == 7) = true := beq_iff_eq.mpr c26
        have c26b1 : (a0_0 != 7) = false := bne_eq_false_iff_eq.mpr c26
        clear c26
        by_cases c27 : (a0_3.size : Int) < 8
        ·
         rw [if_pos c27] at H
         have c27b0 : decide ((a0_3.size : Int) < 8) = true := decide_eq_true c27
         have c27b1 : decide (a0_3.size < 8) = true := decide_eq_true (by omega)
         clear c27
         simp only [Option.some.injEq, Prod.mk.injEq] at H
         obtain ⟨rfl, rfl⟩ := H
         go_wp2
         go_ret2
         exact ⟨by first | rfl | (simp [errW_none, errW_some] <;> rfl) | (simp [*, errW_none, errW_some] <;> rfl), by repeat (first | (with_reducible first | exact HB.out | apply below_alloc | apply pw_below_drewN | apply below_drew1 | refine below_set ?_ GE141.out) | exact HB.out)⟩
        ·
         rw [if_neg c27] at H
         have c27b0 : decide ((a0_3.size : Int) < 8) = false := decide_eq_false c27
         have c27b1 : decide (a0_3.size < 8) = false := decide_eq_false (by omega)
         clear c27
         simp only [Option.some.injEq, Prod.mk.injEq] at H
         obtain ⟨rfl, rfl⟩ := H
         go_wp2
         go_ret2
         exact ⟨by first | rfl | (simp [errW_none, errW_some] <;> rfl) | (simp [*, errW_none, errW_some] <;> rfl), by repeat (first | (with_reducible first | exact HB.out | apply below_alloc | apply pw_below_drewN | apply below_drew1 | refine below_set ?_ GE141.out) | exact HB.out)⟩
       ·
        rw [if_neg c26] at H
        have c26b0 : (a0_0 == 7) = false := beq_eq_false_iff_ne.mpr c26
        have c26b1 : (a0_0 != 7) = true := bne_iff_ne.mpr c26
        simp only [Option.some.injEq, Prod.mk.injEq] at H
        obtain ⟨rfl, rfl⟩ := H
        go_wp2
        go_ret2
        exact ⟨by first | rfl | (simp [errW_none, errW_some] <;> rfl) | (simp [*, errW_none, errW_some] <;> rfl), by repeat (first | (with_reducible first | exact HB.out | apply below_alloc | apply pw_below_drewN | apply below_drew1 | refine below_set ?_ GE141.out) | exact HB.out)⟩

end Go.Proofs.Ytimhhacnpjcjnaa.Mine
