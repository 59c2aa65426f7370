-- Written by this repo's own printer (wip/print), which builds on the kit's.
import Derived.Test.YtkcgenilgboimaaMinex0
namespace Go.Proofs.Ytkcgenilgboimaa.Mine
open Go.RowKit Go.Proofs.YtkcgenilgboimaaW.PrintWords Go.Proofs.YtkcgenilgboimaaW.PrintLast Go.Proofs.YtkcgenilgboimaaW.PrintMore
attribute [local go_sem] max2_int min2_int max_two min_two max_three min_three max_four min_four   -- for this text's walks alone
set_option linter.unusedVariables false
set_option linter.unusedSimpArgs false

/-! ### nuncioref16_wrong: function 19 -/
mutual
def nuncioref16_wrong.j0 : Nat → Bool → Int → Int → Option (Int)
 | 0, _, _, _ => none
 | k + 1, x20, x160000, x160001 => if x20 = true then (some 1) else (if x160000 = 4 then (nuncioref16_wrong.j1 k (decide (x160001 ≥ 2147483648)) x160000 x160001) else (nuncioref16_wrong.j1 k false x160000 x160001))
def nuncioref16_wrong.j1 : Nat → Bool → Int → Int → Option (Int)
 | 0, _, _, _ => none
 | k + 1, x28, x160000, x160001 => if x28 = true then (some 3) else (if x160000 = 5 then (if x160001 < 16384 then (some 1) else (if x160001 ≥ 16777216 then (some 1) else (some 0))) else (some 0))
end
def nuncioref16_wrong.f (k : Nat) (a0 : Bool) (a1_0 : Int) (a1_1 : Int) : Option (Int) := if a1_0 = 2 then (if a1_1 > 1 then (nuncioref16_wrong.j0 k true a1_0 a1_1) else (if a0 = true then (nuncioref16_wrong.j0 k (decide (a1_1 > 0)) a1_0 a1_1) else (nuncioref16_wrong.j0 k false a1_0 a1_1))) else (nuncioref16_wrong.j0 k false a1_0 a1_1)
theorem nuncioref16_wrong.mono_l : ∀ k, (∀ y0 y1 y2, LeO (nuncioref16_wrong.j0 k y0 y1 y2) (nuncioref16_wrong.j0 (k + 1) y0 y1 y2)) ∧ (∀ y0 y1 y2, LeO (nuncioref16_wrong.j1 k y0 y1 y2) (nuncioref16_wrong.j1 (k + 1) y0 y1 y2))
 | 0 => ⟨fun _ _ _ r h => by simp [nuncioref16_wrong.j0] at h, fun _ _ _ r h => by simp [nuncioref16_wrong.j1] at h⟩
 | k + 1 => by
  obtain ⟨ih0, ih1⟩ := nuncioref16_wrong.mono_l k
  refine ⟨?_, ?_⟩
  ·
   intro y0 y1 y2
   unfold nuncioref16_wrong.j0
   repeat' first
   | (with_reducible exact ih0 _ _ _)
   | (with_reducible exact ih1 _ _ _)
   | (with_reducible exact LeO.refl _)
   | (with_reducible exact LeO.none _)
   | (with_reducible refine LeO.ite ?_ ?_)
   | (with_reducible refine LeO.bind ?_ (fun _ => ?_))
   | exact ih0 _ _ _
   | exact ih1 _ _ _
   | exact LeO.none _
   | refine LeO.ite ?_ ?_
   | refine LeO.bind ?_ (fun _ => ?_)
  ·
   intro y0 y1 y2
   unfold nuncioref16_wrong.j1
   repeat' first
   | (with_reducible exact ih0 _ _ _)
   | (with_reducible exact ih1 _ _ _)
   | (with_reducible exact LeO.refl _)
   | (with_reducible exact LeO.none _)
   | (with_reducible refine LeO.ite ?_ ?_)
   | (with_reducible refine LeO.bind ?_ (fun _ => ?_))
   | exact ih0 _ _ _
   | exact ih1 _ _ _
   | exact LeO.none _
   | refine LeO.ite ?_ ?_
   | refine LeO.bind ?_ (fun _ => ?_)
theorem nuncioref16_wrong.mono : ∀ a0 a1 a2 k, LeO (nuncioref16_wrong.f k a0 a1 a2) (nuncioref16_wrong.f (k + 1) a0 a1 a2) := by
 intro a0 a1 a2 k
 obtain ⟨ih0, ih1⟩ := nuncioref16_wrong.mono_l k
 unfold nuncioref16_wrong.f
 repeat' first
   | (with_reducible exact ih0 _ _ _)
   | (with_reducible exact ih1 _ _ _)
   | (with_reducible exact LeO.refl _)
   | (with_reducible exact LeO.none _)
   | (with_reducible refine LeO.ite ?_ ?_)
   | (with_reducible refine LeO.bind ?_ (fun _ => ?_))
   | exact ih0 _ _ _
   | exact ih1 _ _ _
   | exact LeO.none _
   | refine LeO.ite ?_ ?_
   | refine LeO.bind ?_ (fun _ => ?_)
set_option maxHeartbeats 8000000 in
set_option maxRecDepth 100000 in
theorem nuncioref16_wrong.calls (k : Nat) (a0 : Bool) (a1_0 : Int) (a1_1 : Int) (r : Int) (w : World) (h : nuncioref16_wrong.f k a0 a1_0 a1_1 = some r) :
  Calls Try.prog 19 #[.bool a0, .agg #[.int .u16 a1_0, .int .u32 a1_1]] w fun e w' => e = .returned (.int .i64 r) ∧ Below w.heap.size w w' := by
 have hu42 := Try.underlying42
 have HB := Aside0.mk (Below.refl w.heap.size w)
 have H : (if a1_0 = 2 then (if a1_1 > 1 then (nuncioref16_wrong.j0 k true a1_0 a1_1) else (if a0 = true then (nuncioref16_wrong.j0 k (decide (a1_1 > 0)) a1_0 a1_1) else (nuncioref16_wrong.j0 k false a1_0 a1_1))) else (nuncioref16_wrong.j0 k false a1_0 a1_1)) = some r := h
 clear h
 have HC3 := Aside0.mk H
 clear H
 go_enter Try.func19, Try.ntmps19
 go_upto_region 1 with (first | ((with_reducible refine gate_dst (N := 3) rfl ?_); refine box_event ?hg (N := 3) ?hd (cs := #[.int .u16 a1_0, .int .u32 a1_1]) (t := 42) ?hr ?_; (case hd => rfl); (case hg => rfl); (case hr => first | (go_simp; done) | (go_simp; rfl)); intro gb159 hg w4 hbox hb; have n0_ := Aside0.mk (below_step (by repeat (first | (with_reducible first | exact HB.out | apply below_alloc | apply pw_below_drewN | apply below_drew1) | exact HB.out)) hb); have n1_ := Aside0.mk (hbox); have n2_ := Aside0.mk ((by rw [hg]; exact (below_size (by repeat (first | (with_reducible first | exact HB.out | apply below_alloc | apply pw_below_drewN | apply below_drew1) | exact HB.out))) : w.heap.size ≤ gb159)); have n3_ := Aside0.mk ((by rw [hg]; exact (below_size (by repeat (first | (with_reducible first | exact HB.out | apply below_alloc | apply pw_below_drewN | apply below_drew1) | exact HB.out))) : w.heap.size ≤ gb159)); clear HB; have HB := n0_; have BK159 := n1_; have GW159 := n2_; have GE159 := n3_; clear n0_ n1_ n2_ n3_; clear hb hbox hg))
 (try simp only [Act.put, List.setIfInBounds_toArray, List.set_cons_zero, List.set_cons_succ])
 go_cut [20] (fun v20 wc => ∃ (kq : Nat) (x20_2 : Bool), v20 = .bool x20_2 ∧ Aside0 (nuncioref16_wrong.j0 kq x20_2 a1_0 a1_1 = some r) ∧ Aside0 (kq ≤ k) ∧ Aside0 (wc.heap[gb159]? = some (.cells #[.int .u16 a1_0, .int .u32 a1_1] 42 (0, 0))) ∧ Aside0 (Below w.heap.size w wc))
 case first =>
  have H := HC3.out
  clear HC3
  by_cases c5 : a1_0 = 2
  ·
   rw [if_pos c5] at H
   have c5b0 : (a1_0 == 2) = true := beq_iff_eq.mpr c5
   have c5b1 : (a1_0 != 2) = false := bne_eq_false_iff_eq.mpr c5
   clear c5
   (first | rw [c5b0] | rw [c5b1] | (simp only [i64_w, i32_w]; rw [c5b0]) | skip)
   by_cases c6 : a1_1 > 1
   ·
    rw [if_pos c6] at H
    have c6b0 : decide (1 < a1_1) = true := decide_eq_true c6
    clear c6
    have H' := Aside0.mk H
    clear H
    have hcz7_0 : w4.cell? ⟨gb159, 0, none⟩ = some (.int .u16 a1_0) := (blk_cell BK159.out 0).trans rfl
    have hcz7_1 : w4.cell? ⟨gb159, 1, none⟩ = some (.int .u32 a1_1) := (blk_cell BK159.out 1).trans rfl
    have hfz7_0 := blk_frozen BK159.out 0
    have hfz7_1 := blk_frozen BK159.out 1
    go_wp2
    go_meet
    case rel => exact ⟨_, (true), (by first | rfl | (simp; done) | (simp [*]; done)), H', ⟨by first | omega | exact Nat.le_refl _⟩, ⟨by (with_reducible repeat (first | refine blk_drewN ?_ _ | refine blk_drew ?_ | refine blk_alloc ?_ _)); exact BK159.out⟩, ⟨by repeat (first | (with_reducible first | exact HB.out | apply below_alloc | apply pw_below_drewN | apply below_drew1 | refine below_set ?_ GE159.out) | exact HB.out)⟩⟩
   ·
    rw [if_neg c6] at H
    have c6b0 : decide (1 < a1_1) = false := decide_eq_false c6
    clear c6
    by_cases c8 : a0 = true
    ·
     subst c8
     have H1 : (nuncioref16_wrong.j0 k (decide (a1_1 > 0)) a1_0 a1_1) = some r := by rw [if_pos rfl] at H; exact H
     clear H
     have H := H1
     clear H1
     have H' := Aside0.mk H
     clear H
     have hcz9_0 : w4.cell? ⟨gb159, 0, none⟩ = some (.int .u16 a1_0) := (blk_cell BK159.out 0).trans rfl
     have hcz9_1 : w4.cell? ⟨gb159, 1, none⟩ = some (.int .u32 a1_1) := (blk_cell BK159.out 1).trans rfl
     have hfz9_0 := blk_frozen BK159.out 0
     have hfz9_1 := blk_frozen BK159.out 1
     go_wp2
     go_meet
     case rel => exact ⟨_, (decide (a1_1 > 0)), (by first | rfl | (simp; done) | (simp [*]; done)), H', ⟨by first | omega | exact Nat.le_refl _⟩, ⟨by (with_reducible repeat (first | refine blk_drewN ?_ _ | refine blk_drew ?_ | refine blk_alloc ?_ _)); exact BK159.out⟩, ⟨by repeat (first | (with_reducible first | exact HB.out | apply below_alloc | apply pw_below_drewN | apply below_drew1 | refine below_set ?_ GE159.out) | exact HB.out)⟩⟩
    ·
     replace c8 := Bool.eq_false_iff.mpr c8
     subst c8
     have H1 : (nuncioref16_wrong.j0 k false a1_0 a1_1) = some r := by rw [if_neg (show ¬ (false = true) by decide)] at H; exact H
     clear H
     have H := H1
     clear H1
     have H' := Aside0.mk H
     clear H
     have hcz10_0 : w4.cell? ⟨gb159, 0, none⟩ = some (.int .u16 a1_0) := (blk_cell BK159.out 0).trans rfl
     have hcz10_1 : w4.cell? ⟨gb159, 1, none⟩ = some (.int .u32 a1_1) := (blk_cell BK159.out 1).trans rfl
     have hfz10_0 := blk_frozen BK159.out 0
     have hfz10_1 := blk_frozen BK159.out 1
     go_wp2
     go_meet
     case rel => exact ⟨_, (false), (by first | rfl | (simp; done) | (simp [*]; done)), H', ⟨by first | omega | exact Nat.le_refl _⟩, ⟨by (with_reducible repeat (first | refine blk_drewN ?_ _ | refine blk_drew ?_ | refine blk_alloc ?_ _)); exact BK159.out⟩, ⟨by repeat (first | (with_reducible first | exact HB.out | apply below_alloc | apply pw_below_drewN | apply below_drew1 | refine below_set ?_ GE159.out) | exact HB.out)⟩⟩
  ·
   rw [if_neg c5] at H
   have c5b0 : (a1_0 == 2) = false := beq_eq_false_iff_ne.mpr c5
   have c5b1 : (a1_0 != 2) = true := bne_iff_ne.mpr c5
   (first | rw [c5b0] | rw [c5b1] | (simp only [i64_w, i32_w]; rw [c5b0]) | skip)
   have H' := Aside0.mk H
   clear H
   have hcz11_0 : w4.cell? ⟨gb159, 0, none⟩ = some (.int .u16 a1_0) := (blk_cell BK159.out 0).trans rfl
   have hcz11_1 : w4.cell? ⟨gb159, 1, none⟩ = some (.int .u32 a1_1) := (blk_cell BK159.out 1).trans rfl
   have hfz11_0 := blk_frozen BK159.out 0
   have hfz11_1 := blk_frozen BK159.out 1
   go_wp2
   go_meet
   case rel => exact ⟨_, (false), (by first | rfl | (simp; done) | (simp [*]; done)), H', ⟨by first | omega | exact Nat.le_refl _⟩, ⟨by (with_reducible repeat (first | refine blk_drewN ?_ _ | refine blk_drew ?_ | refine blk_alloc ?_ _)); exact BK159.out⟩, ⟨by repeat (first | (with_reducible first | exact HB.out | apply below_alloc | apply pw_below_drewN | apply below_drew1 | refine below_set ?_ GE159.out) | exact HB.out)⟩⟩
 case rest =>
  clear HC3
  try clear c1
  try clear p2
  try clear c5
  try clear c5b0
  try clear c5b1
  try clear c6
  try clear c6b0
  try clear c8
  try clear hcz10_0
  try clear hcz10_1
  try clear hcz11_0
  try clear hcz11_1
  try clear hcz7_0
  try clear hcz7_1
  try clear hcz9_0
  try clear hcz9_1
  try clear hfz10_0
  try clear hfz10_1
  try clear hfz11_0
  try clear hfz11_1
  try clear hfz7_0
  try clear hfz7_1
  try clear hfz9_0
  try clear hfz9_1
  obtain ⟨kq, x20_2, rfl, HA, HJ2, BK159, HB⟩ := hcut
  cases kq with
  | zero => exact absurd HA.out (by simp [nuncioref16_wrong.j0])
  | succ kj2 =>
   have H := HA.out
   clear HA
   simp only [nuncioref16_wrong.j0] at H
   by_cases c12 : x20_2 = true
   ·
    subst c12
    have H1 : (some 1) = some r := by rw [if_pos rfl] at H; exact H
    clear H
    have H := H1
    clear H1
    obtain rfl := Option.some.inj H
    go_wp2
    go_ret
    exact ⟨by first | rfl | (simp [errW_none, errW_some] <;> rfl) | (simp [*, errW_none, errW_some] <;> rfl), by repeat (first | (with_reducible first | exact HB.out | apply below_alloc | apply pw_below_drewN | apply below_drew1 | refine below_set ?_ GE159.out) | exact HB.out)⟩
   ·
    replace c12 := Bool.eq_false_iff.mpr c12
    subst c12
    have H1 : (if a1_0 = 4 then (nuncioref16_wrong.j1 kj2 (decide (a1_1 ≥ 2147483648)) a1_0 a1_1) else (nuncioref16_wrong.j1 kj2 false a1_0 a1_1)) = some r := by rw [if_neg (show ¬ (false = true) by decide)] at H; exact H
    clear H
    have H := H1
    clear H1
    have HC13 := Aside0.mk H
    clear H
    go_upto_region 3 with (fail)
    go_cut [28] (fun v28 wc => ∃ (kq : Nat) (x28_12 : Bool), v28 = .bool x28_12 ∧ Aside0 (nuncioref16_wrong.j1 kq x28_12 a1_0 a1_1 = some r) ∧ Aside0 (kq ≤ kj2) ∧ Aside0 (wc.heap[gb159]? = some (.cells #[.int .u16 a1_0, .int .u32 a1_1] 42 (0, 0))) ∧ Aside0 (Below w.heap.size w wc))
    case first =>
     have H := HC13.out
     clear HC13
     by_cases c14 : a1_0 = 4
     ·
      rw [if_pos c14] at H
      have c14b0 : (a1_0 == 4) = true := beq_iff_eq.mpr c14
      have c14b1 : (a1_0 != 4) = false := bne_eq_false_iff_eq.mpr c14
      clear c14
      (first | rw [c14b0] | rw [c14b1] | (simp only [i64_w, i32_w]; rw [c14b0]) | skip)
      have H' := Aside0.mk H
      clear H
      have hcz15_0 : wc.cell? ⟨gb159, 0, none⟩ = some (.int .u16 a1_0) := (blk_cell BK159.out 0).trans rfl
      have hcz15_1 : wc.cell? ⟨gb159, 1, none⟩ = some (.int .u32 a1_1) := (blk_cell BK159.out 1).trans rfl
      have hfz15_0 := blk_frozen BK159.out 0
      have hfz15_1 := blk_frozen BK159.out 1
      go_wp2
      go_meet
      case rel => exact ⟨_, (decide (a1_1 ≥ 2147483648)), (by first | rfl | (simp; done) | (simp [*]; done)), H', ⟨by have := HJ2.out; first | omega | exact Nat.le_refl _⟩, ⟨by (with_reducible repeat (first | refine blk_drewN ?_ _ | refine blk_drew ?_ | refine blk_alloc ?_ _)); exact BK159.out⟩, ⟨by repeat (first | (with_reducible first | exact HB.out | apply below_alloc | apply pw_below_drewN | apply below_drew1 | refine below_set ?_ GE159.out) | exact HB.out)⟩⟩
     ·
      rw [if_neg c14] at H
      have c14b0 : (a1_0 == 4) = false := beq_eq_false_iff_ne.mpr c14
      have c14b1 : (a1_0 != 4) = true := bne_iff_ne.mpr c14
      (first | rw [c14b0] | rw [c14b1] | (simp only [i64_w, i32_w]; rw [c14b0]) | skip)
      have H' := Aside0.mk H
      clear H
      have hcz16_0 : wc.cell? ⟨gb159, 0, none⟩ = some (.int .u16 a1_0) := (blk_cell BK159.out 0).trans rfl
      have hcz16_1 : wc.cell? ⟨gb159, 1, none⟩ = some (.int .u32 a1_1) := (blk_cell BK159.out 1).trans rfl
      have hfz16_0 := blk_frozen BK159.out 0
      have hfz16_1 := blk_frozen BK159.out 1
      go_wp2
      go_meet
      case rel => exact ⟨_, (false), (by first | rfl | (simp; done) | (simp [*]; done)), H', ⟨by have := HJ2.out; first | omega | exact Nat.le_refl _⟩, ⟨by (with_reducible repeat (first | refine blk_drewN ?_ _ | refine blk_drew ?_ | refine blk_alloc ?_ _)); exact BK159.out⟩, ⟨by repeat (first | (with_reducible first | exact HB.out | apply below_alloc | apply pw_below_drewN | apply below_drew1 | refine below_set ?_ GE159.out) | exact HB.out)⟩⟩
    case rest =>
     clear HC13
     try clear c1
     try clear p2
     try clear c5
     try clear c5b0
     try clear c5b1
     try clear c6
     try clear c6b0
     try clear c8
     try clear c12
     try clear c14
     try clear c14b0
     try clear c14b1
     try clear hcz10_0
     try clear hcz10_1
     try clear hcz11_0
     try clear hcz11_1
     try clear hcz15_0
     try clear hcz15_1
     try clear hcz16_0
     try clear hcz16_1
     try clear hcz7_0
     try clear hcz7_1
     try clear hcz9_0
     try clear hcz9_1
     try clear hfz10_0
     try clear hfz10_1
     try clear hfz11_0
     try clear hfz11_1
     try clear hfz15_0
     try clear hfz15_1
     try clear hfz16_0
     try clear hfz16_1
     try clear hfz7_0
     try clear hfz7_1
     try clear hfz9_0
     try clear hfz9_1
     try clear p2
     obtain ⟨kq, x28_12, rfl, HA, HJ12, BK159, HB⟩ := hcut
     cases kq with
     | zero => exact absurd HA.out (by simp [nuncioref16_wrong.j1])
     | succ kj12 =>
      have H := HA.out
      clear HA
      simp only [nuncioref16_wrong.j1] at H
      by_cases c17 : x28_12 = true
      ·
       subst c17
       have H1 : (some 3) = some r := by rw [if_pos rfl] at H; exact H
       clear H
       have H := H1
       clear H1
       obtain rfl := Option.some.inj H
       go_wp2
       go_ret
       exact ⟨by first | rfl | (simp [errW_none, errW_some] <;> rfl) | (simp [*, errW_none, errW_some] <;> rfl), by repeat (first | (with_reducible first | exact HB.out | apply below_alloc | apply pw_below_drewN | apply below_drew1 | refine below_set ?_ GE159.out) | exact HB.out)⟩
      ·
       replace c17 := Bool.eq_false_iff.mpr c17
       subst c17
       have H1 : (if a1_0 = 5 then (if a1_1 < 16384 then (some 1) else (if a1_1 ≥ 16777216 then (some 1) else (some 0))) else (some 0)) = some r := by rw [if_neg (show ¬ (false = true) by decide)] at H; exact H
       clear H
       have H := H1
       clear H1
       by_cases c18 : a1_0 = 5
       ·
        rw [if_pos c18] at H
        have c18b0 : (a1_0 == 5) = true := beq_iff_eq.mpr c18
        have c18b1 : (a1_0 != 5) = false := bne_eq_false_iff_eq.mpr c18
        clear c18
        by_cases c19 : a1_1 < 16384
        ·
         rw [if_pos c19] at H
         have c19b0 : decide (a1_1 < 16384) = true := decide_eq_true c19
         clear c19
         obtain rfl := Option.some.inj H
         have hcz20_0 : wc.cell? ⟨gb159, 0, none⟩ = some (.int .u16 a1_0) := (blk_cell BK159.out 0).trans rfl
         have hcz20_1 : wc.cell? ⟨gb159, 1, none⟩ = some (.int .u32 a1_1) := (blk_cell BK159.out 1).trans rfl
         have hfz20_0 := blk_frozen BK159.out 0
         have hfz20_1 := blk_frozen BK159.out 1
         go_wp2
         go_ret
         exact ⟨by first | rfl | (simp [errW_none, errW_some] <;> rfl) | (simp [*, errW_none, errW_some] <;> rfl), by repeat (first | (with_reducible first | exact HB.out | apply below_alloc | apply pw_below_drewN | apply below_drew1 | refine below_set ?_ GE159.out) | exact HB.out)⟩
        ·
         rw [if_neg c19] at H
         have c19b0 : decide (a1_1 < 16384) = false := decide_eq_false c19
         clear c19
         by_cases c21 : a1_1 ≥ 16777216
         ·
          rw [if_pos c21] at H
          have c21b0 : decide (16777216 ≤ a1_1) = true := decide_eq_true c21
          clear c21
          obtain rfl := Option.some.inj H
          have hcz22_0 : wc.cell? ⟨gb159, 0, none⟩ = some (.int .u16 a1_0) := (blk_cell BK159.out 0).trans rfl
          have hcz22_1 : wc.cell? ⟨gb159, 1, none⟩ = some (.int .u32 a1_1) := (blk_cell BK159.out 1).trans rfl
          have hfz22_0 := blk_frozen BK159.out 0
          have hfz22_1 := blk_frozen BK159.out 1
          go_wp2
          go_ret
          exact ⟨by first | rfl | (simp [errW_none, errW_some] <;> rfl) | (simp [*, errW_none, errW_some] <;> rfl), by repeat (first | (with_reducible first | exact HB.out | apply below_alloc | apply pw_below_drewN | apply below_drew1 | refine below_set ?_ GE159.out) | exact HB.out)⟩
         ·
          rw [if_neg c21] at H
          have c21b0 : decide (16777216 ≤ a1_1) = false := decide_eq_false c21
          clear c21
          obtain rfl := Option.some.inj H
          have hcz23_0 : wc.cell? ⟨gb159, 0, none⟩ = some (.int .u16 a1_0) := (blk_cell BK159.out 0).trans rfl
          have hcz23_1 : wc.cell? ⟨gb159, 1, none⟩ = some (.int .u32 a1_1) := (blk_cell BK159.out 1).trans rfl
          have hfz23_0 := blk_frozen BK159.out 0
          have hfz23_1 := blk_frozen BK159.out 1
          go_wp2
          go_ret
          exact ⟨by first | rfl | (simp [errW_none, errW_some] <;> rfl) | (simp [*, errW_none, errW_some] <;> rfl), by repeat (first | (with_reducible first | exact HB.out | apply below_alloc | apply pw_below_drewN | apply below_drew1 | refine below_set ?_ GE159.out) | exact HB.out)⟩
       ·
        rw [if_neg c18] at H
        have c18b0 : (a1_0 == 5) = false := beq_eq_false_iff_ne.mpr c18
        have c18b1 : (a1_0 != 5) = true := bne_iff_ne.mpr c18
        obtain rfl := Option.some.inj H
        have hcz24_0 : wc.cell? ⟨gb159, 0, none⟩ = some (.int .u16 a1_0) := (blk_cell BK159.out 0).trans rfl
        have hcz24_1 : wc.cell? ⟨gb159, 1, none⟩ = some (.int .u32 a1_1) := (blk_cell BK159.out 1).trans rfl
        have hfz24_0 := blk_frozen BK159.out 0
        have hfz24_1 := blk_frozen BK159.out 1
        go_wp2
        go_ret
        exact ⟨by first | rfl | (simp [errW_none, errW_some] <;> rfl) | (simp [*, errW_none, errW_some] <;> rfl), by repeat (first | (with_reducible first | exact HB.out | apply below_alloc | apply pw_below_drewN | apply below_drew1 | refine below_set ?_ GE159.out) | exact HB.out)⟩

end Go.Proofs.Ytkcgenilgboimaa.Mine
