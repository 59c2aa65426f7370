-- Written by this repo's own printer (wip/print), which builds on the kit's.
import Derived.Test.YtimhhacnpjcjnaaMinex0
namespace Go.Proofs.Ytimhhacnpjcjnaa.Mine
open Go.RowKit Go.Proofs.YtimhhacnpjcjnaaW.PrintWords Go.Proofs.YtimhhacnpjcjnaaW.PrintLast Go.Proofs.YtimhhacnpjcjnaaW.PrintMore
attribute [local go_sem] max2_int min2_int max_two min_two max_three min_three max_four min_four   -- for this text's walks alone
set_option linter.unusedVariables false
set_option linter.unusedSimpArgs false

/-! ### frame_place: function 26 -/
def frame_place.j0 : Nat → Int → Bool → Int → Int → Int → ByteArray → Option (Bool)
 | 0, _, _, _, _, _, _ => none
 | k + 1, x4, x5, x141000, x141001, x141002, x141003 => if x5 = true then (some (x141002 != 0)) else (if x4 = 4 then (some (x141002 == 0)) else (if x4 = 6 then (some (x141002 == 0)) else (if x4 = 7 then (some (x141002 == 0)) else (some (x141000 != 5)))))
def frame_place.f (k : Nat) (a0_0 : Int) (a0_1 : Int) (a0_2 : Int) (a0_3 : ByteArray) : Option (Bool) := if a0_0 = 0 then (frame_place.j0 k a0_0 (a0_0 == 0) a0_0 a0_1 a0_2 a0_3) else (if a0_0 = 1 then (frame_place.j0 k a0_0 (a0_0 == 1) a0_0 a0_1 a0_2 a0_3) else (if a0_0 = 2 then (frame_place.j0 k a0_0 (a0_0 == 2) a0_0 a0_1 a0_2 a0_3) else (if a0_0 = 3 then (frame_place.j0 k a0_0 (a0_0 == 3) a0_0 a0_1 a0_2 a0_3) else (frame_place.j0 k a0_0 (a0_0 == 9) a0_0 a0_1 a0_2 a0_3))))
theorem frame_place.mono_l : ∀ k, (∀ y0 y1 y2 y3 y4 y5, LeO (frame_place.j0 k y0 y1 y2 y3 y4 y5) (frame_place.j0 (k + 1) y0 y1 y2 y3 y4 y5))
 | 0 => fun _ _ _ _ _ _ r h => by simp [frame_place.j0] at h
 | k + 1 => by
  have ih0 := frame_place.mono_l k
  ·
   intro y0 y1 y2 y3 y4 y5
   unfold frame_place.j0
   repeat' first
   | (with_reducible exact ih0 _ _ _ _ _ _)
   | (with_reducible exact LeO.refl _)
   | (with_reducible exact LeO.none _)
   | (with_reducible refine LeO.ite ?_ ?_)
   | (with_reducible refine LeO.bind ?_ (fun _ => ?_))
   | exact ih0 _ _ _ _ _ _
   | exact LeO.none _
   | refine LeO.ite ?_ ?_
   | refine LeO.bind ?_ (fun _ => ?_)
theorem frame_place.mono : ∀ a0 a1 a2 a3 k, LeO (frame_place.f k a0 a1 a2 a3) (frame_place.f (k + 1) a0 a1 a2 a3) := by
 intro a0 a1 a2 a3 k
 have ih0 := frame_place.mono_l k
 unfold frame_place.f
 repeat' first
   | (with_reducible exact ih0 _ _ _ _ _ _)
   | (with_reducible exact LeO.refl _)
   | (with_reducible exact LeO.none _)
   | (with_reducible refine LeO.ite ?_ ?_)
   | (with_reducible refine LeO.bind ?_ (fun _ => ?_))
   | exact ih0 _ _ _ _ _ _
   | exact LeO.none _
   | refine LeO.ite ?_ ?_
   | refine LeO.bind ?_ (fun _ => ?_)
set_option maxHeartbeats 8000000 in
set_option maxRecDepth 100000 in
theorem frame_place.calls (k : Nat) (a0_0 : Int) (a0_1 : Int) (a0_2 : Int) (a0_3 : ByteArray) (r : Bool) (w : World) (h : frame_place.f k a0_0 a0_1 a0_2 a0_3 = some r) :
  Calls Try.prog 26 #[.agg #[.int .u8 a0_0, .int .u8 a0_1, .int .u32 a0_2, .string a0_3]] w fun e w' => e = .returned (.bool r) ∧ Below w.heap.size w w' := by
 have hu24 := Try.underlying24
 have HB := Aside0.mk (Below.refl w.heap.size w)
 have H : (if a0_0 = 0 then (frame_place.j0 k a0_0 (a0_0 == 0) a0_0 a0_1 a0_2 a0_3) else (if a0_0 = 1 then (frame_place.j0 k a0_0 (a0_0 == 1) a0_0 a0_1 a0_2 a0_3) else (if a0_0 = 2 then (frame_place.j0 k a0_0 (a0_0 == 2) a0_0 a0_1 a0_2 a0_3) else (if a0_0 = 3 then (frame_place.j0 k a0_0 (a0_0 == 3) a0_0 a0_1 a0_2 a0_3) else (frame_place.j0 k a0_0 (a0_0 == 9) a0_0 a0_1 a0_2 a0_3))))) = some r := h
 clear h
 have HC2 := Aside0.mk H
 clear H
 go_enter Try.func26, Try.ntmps26
 go_upto_if 5 with (first | ((with_reducible refine gate_dst (N := 1) rfl ?_); refine box_event ?hg (N := 1) ?hd (cs := #[.int .u8 a0_0, .int .u8 a0_1, .int .u32 a0_2, .string a0_3]) (t := 24) ?hr ?_; (case hd => rfl); (case hg => rfl); (case hr => first | (go_simp; done) | (go_simp; rfl)); intro gb140 hg w3 hbox hb; have n0_ := Aside0.mk (below_step (by repeat (first | (with_reducible first | exact HB.out | apply below_alloc | apply pw_below_drewN | apply below_drew1) | exact HB.out)) hb); have n1_ := Aside0.mk (hbox); have n2_ := Aside0.mk ((by rw [hg]; exact (below_size (by repeat (first | (with_reducible first | exact HB.out | apply below_alloc | apply pw_below_drewN | apply below_drew1) | exact HB.out))) : w.heap.size ≤ gb140)); have n3_ := Aside0.mk ((by rw [hg]; exact (below_size (by repeat (first | (with_reducible first | exact HB.out | apply below_alloc | apply pw_below_drewN | apply below_drew1) | exact HB.out))) : w.heap.size ≤ gb140)); clear HB; have HB := n0_; have BK140 := n1_; have GW140 := n2_; have GE140 := n3_; clear n0_ n1_ n2_ n3_; clear hb hbox hg; have hcz4_0 : w3.cell? ⟨gb140, 0, none⟩ = some (.int .u8 a0_0) := (blk_cell BK140.out 0).trans rfl; have hcz4_1 : w3.cell? ⟨gb140, 1, none⟩ = some (.int .u8 a0_1) := (blk_cell BK140.out 1).trans rfl; have hcz4_2 : w3.cell? ⟨gb140, 2, none⟩ = some (.int .u32 a0_2) := (blk_cell BK140.out 2).trans rfl; have hcz4_3 : w3.cell? ⟨gb140, 3, none⟩ = some (.string a0_3) := (blk_cell BK140.out 3).trans rfl; have hfz4_0 := blk_frozen BK140.out 0; have hfz4_1 := blk_frozen BK140.out 1; have hfz4_2 := blk_frozen BK140.out 2; have hfz4_3 := blk_frozen BK140.out 3))
 (try simp only [Act.put, List.setIfInBounds_toArray, List.set_cons_zero, List.set_cons_succ])
 go_cut [5] (fun v5 wc => ∃ (kq : Nat) (x5_1 : Bool), v5 = .bool x5_1 ∧ Aside0 (frame_place.j0 kq a0_0 x5_1 a0_0 a0_1 a0_2 a0_3 = some r) ∧ Aside0 (kq ≤ k) ∧ Aside0 (wc.heap[gb140]? = some (.cells #[.int .u8 a0_0, .int .u8 a0_1, .int .u32 a0_2, .string a0_3] 24 (0, 0))) ∧ Aside0 (Below w.heap.size w wc))
 case first =>
  have H := HC2.out
  clear HC2
  by_cases c5 : a0_0 = 0
  ·
   rw [if_pos c5] at H
   have c5b0 : (a0_0 == 0) = true := beq_iff_eq.mpr c5
   have c5b1 : (a0_0 != 0) = false := bne_eq_false_iff_eq.mpr c5
   clear c5
   (first | rw [c5b0] | (simp only [i64_w, i32_w]; rw [c5b0]) | skip)
   have H' := Aside0.mk H
   clear H
   go_wp2
   go_meet
   case rel => exact ⟨_, ((a0_0 == 0)), (by first | rfl | (simp; done) | (simp [*]; done)), H', ⟨by first | omega | exact Nat.le_refl _⟩, ⟨by (with_reducible repeat (first | refine blk_drewN ?_ _ | refine blk_drew ?_ | refine blk_alloc ?_ _)); exact BK140.out⟩, ⟨by repeat (first | (with_reducible first | exact HB.out | apply below_alloc | apply pw_below_drewN | apply below_drew1 | refine below_set ?_ GE140.out) | exact HB.out)⟩⟩
  ·
   rw [if_neg c5] at H
   have c5b0 : (a0_0 == 0) = false := beq_eq_false_iff_ne.mpr c5
   have c5b1 : (a0_0 != 0) = true := bne_iff_ne.mpr c5
   (first | rw [c5b0] | (simp only [i64_w, i32_w]; rw [c5b0]) | skip)
   by_cases c6 : a0_0 = 1
   ·
    rw [if_pos c6] at H
    have c6b0 : (a0_0 == 1) = true := beq_iff_eq.mpr c6
    have c6b1 : (a0_0 != 1) = false := bne_eq_false_iff_eq.mpr c6
    clear c6
    have H' := Aside0.mk H
    clear H
    go_wp2
    go_meet
    case rel => exact ⟨_, ((a0_0 == 1)), (by first | rfl | (simp; done) | (simp [*]; done)), H', ⟨by first | omega | exact Nat.le_refl _⟩, ⟨by (with_reducible repeat (first | refine blk_drewN ?_ _ | refine blk_drew ?_ | refine blk_alloc ?_ _)); exact BK140.out⟩, ⟨by repeat (first | (with_reducible first | exact HB.out | apply below_alloc | apply pw_below_drewN | apply below_drew1 | refine below_set ?_ GE140.out) | exact HB.out)⟩⟩
   ·
    rw [if_neg c6] at H
    have c6b0 : (a0_0 == 1) = false := beq_eq_false_iff_ne.mpr c6
    have c6b1 : (a0_0 != 1) = true := bne_iff_ne.mpr c6
    by_cases c7 : a0_0 = 2
    ·
     rw [if_pos c7] at H
     have c7b0 : (a0_0 == 2) = true := beq_iff_eq.mpr c7
     have c7b1 : (a0_0 != 2) = false := bne_eq_false_iff_eq.mpr c7
     clear c7
     have H' := Aside0.mk H
     clear H
     go_wp2
     go_meet
     case rel => exact ⟨_, ((a0_0 == 2)), (by first | rfl | (simp; done) | (simp [*]; done)), H', ⟨by first | omega | exact Nat.le_refl _⟩, ⟨by (with_reducible repeat (first | refine blk_drewN ?_ _ | refine blk_drew ?_ | refine blk_alloc ?_ _)); exact BK140.out⟩, ⟨by repeat (first | (with_reducible first | exact HB.out | apply below_alloc | apply pw_below_drewN | apply below_drew1 | refine below_set ?_ GE140.out) | exact HB.out)⟩⟩
    ·
     rw [if_neg c7] at H
     have c7b0 : (a0_0 == 2) = false := beq_eq_false_iff_ne.mpr c7
     have c7b1 : (a0_0 != 2) = true := bne_iff_ne.mpr c7
     by_cases c8 : a0_0 = 3
     ·
      rw [if_pos c8] at H
      have c8b0 : (a0_0 == 3) = true := beq_iff_eq.mpr c8
      have c8b1 : (a0_0 != 3) = false := bne_eq_false_iff_eq.mpr c8
      clear c8
      have H' := Aside0.mk H
      clear H
      go_wp2
      go_meet
      case rel => exact ⟨_, ((a0_0 == 3)), (by first | rfl | (simp; done) | (simp [*]; done)), H', ⟨by first | omega | exact Nat.le_refl _⟩, ⟨by (with_reducible repeat (first | refine blk_drewN ?_ _ | refine blk_drew ?_ | refine blk_alloc ?_ _)); exact BK140.out⟩, ⟨by repeat (first | (with_reducible first | exact HB.out | apply below_alloc | apply pw_below_drewN | apply below_drew1 | refine below_set ?_ GE140.out) | exact HB.out)⟩⟩
     ·
      rw [if_neg c8] at H
      have c8b0 : (a0_0 == 3) = false := beq_eq_false_iff_ne.mpr c8
      have c8b1 : (a0_0 != 3) = true := bne_iff_ne.mpr c8
      have H' := Aside0.mk H
      clear H
      go_wp2
      go_meet
      case rel => exact ⟨_, ((a0_0 == 9)), (by first | rfl | (simp; done) | (simp [*]; done)), H', ⟨by first | omega | exact Nat.le_refl _⟩, ⟨by (with_reducible repeat (first | refine blk_drewN ?_ _ | refine blk_drew ?_ | refine blk_alloc ?_ _)); exact BK140.out⟩, ⟨by repeat (first | (with_reducible first | exact HB.out | apply below_alloc | apply pw_below_drewN | apply below_drew1 | refine below_set ?_ GE140.out) | exact HB.out)⟩⟩
 case rest =>
  clear HC2
  try clear c2
  try clear p2
  try clear c5
  try clear c5b0
  try clear c5b1
  try clear c6
  try clear c6b0
  try clear c6b1
  try clear c7
  try clear c7b0
  try clear c7b1
  try clear c8
  try clear c8b0
  try clear c8b1
  try clear hcz4_0
  try clear hcz4_1
  try clear hcz4_2
  try clear hcz4_3
  try clear hfz4_0
  try clear hfz4_1
  try clear hfz4_2
  try clear hfz4_3
  obtain ⟨kq, x5_1, rfl, HA, HJ1, BK140, HB⟩ := hcut
  cases kq with
  | zero => exact absurd HA.out (by simp [frame_place.j0])
  | succ kj1 =>
   have H := HA.out
   clear HA
   simp only [frame_place.j0] at H
   by_cases c9 : x5_1 = true
   ·
    subst c9
    have H1 : (some (a0_2 != 0)) = some r := by rw [if_pos rfl] at H; exact H
    clear H
    have H := H1
    clear H1
    obtain rfl := Option.some.inj H
    have hcz10_0 : wc.cell? ⟨gb140, 0, none⟩ = some (.int .u8 a0_0) := (blk_cell BK140.out 0).trans rfl
    have hcz10_1 : wc.cell? ⟨gb140, 1, none⟩ = some (.int .u8 a0_1) := (blk_cell BK140.out 1).trans rfl
    have hcz10_2 : wc.cell? ⟨gb140, 2, none⟩ = some (.int .u32 a0_2) := (blk_cell BK140.out 2).trans rfl
    have hcz10_3 : wc.cell? ⟨gb140, 3, none⟩ = some (.string a0_3) := (blk_cell BK140.out 3).trans rfl
    have hfz10_0 := blk_frozen BK140.out 0
    have hfz10_1 := blk_frozen BK140.out 1
    have hfz10_2 := blk_frozen BK140.out 2
    have hfz10_3 := blk_frozen BK140.out 3
    go_wp2
    go_ret
    exact ⟨by first | rfl | (simp [errW_none, errW_some] <;> rfl) | (simp [*, errW_none, errW_some] <;> rfl), by repeat (first | (with_reducible first | exact HB.out | apply below_alloc | apply pw_below_drewN | apply below_drew1 | refine below_set ?_ GE140.out) | exact HB.out)⟩
   ·
    replace c9 := Bool.eq_false_iff.mpr c9
    subst c9
    have H1 : (if a0_0 = 4 then (some (a0_2 == 0)) else (if a0_0 = 6 then (some (a0_2 == 0)) else (if a0_0 = 7 then (some (a0_2 == 0)) else (some (a0_0 != 5))))) = some r := by rw [if_neg (show ¬ (false = true) by decide)] at H; exact H
    clear H
    have H := H1
    clear H1
    by_cases c11 : a0_0 = 4
    ·
     rw [if_pos c11] at H
     have c11b0 : (a0_0 == 4) = true := beq_iff_eq.mpr c11
     have c11b1 : (a0_0 != 4) = false := bne_eq_false_iff_eq.mpr c11
     clear c11
     obtain rfl := Option.some.inj H
     have hcz12_0 : wc.cell? ⟨gb140, 0, none⟩ = some (.int .u8 a0_0) := (blk_cell BK140.out 0).trans rfl
     have hcz12_1 : wc.cell? ⟨gb140, 1, none⟩ = some (.int .u8 a0_1) := (blk_cell BK140.out 1).trans rfl
     have hcz12_2 : wc.cell? ⟨gb140, 2, none⟩ = some (.int .u32 a0_2) := (blk_cell BK140.out 2).trans rfl
     have hcz12_3 : wc.cell? ⟨gb140, 3, none⟩ = some (.string a0_3) := (blk_cell BK140.out 3).trans rfl
     have hfz12_0 := blk_frozen BK140.out 0
     have hfz12_1 := blk_frozen BK140.out 1
     have hfz12_2 := blk_frozen BK140.out 2
     have hfz12_3 := blk_frozen BK140.out 3
     go_wp2
     go_ret
     exact ⟨by first | rfl | (simp [errW_none, errW_some] <;> rfl) | (simp [*, errW_none, errW_some] <;> rfl), by repeat (first | (with_reducible first | exact HB.out | apply below_alloc | apply pw_below_drewN | apply below_drew1 | refine below_set ?_ GE140.out) | exact HB.out)⟩
    ·
     rw [if_neg c11] at H
     have c11b0 : (a0_0 == 4) = false := beq_eq_false_iff_ne.mpr c11
     have c11b1 : (a0_0 != 4) = true := bne_iff_ne.mpr c11
     by_cases c13 : a0_0 = 6
     ·
      rw [if_pos c13] at H
      have c13b0 : (a0_0 == 6) = true := beq_iff_eq.mpr c13
      have c13b1 : (a0_0 != 6) = false := bne_eq_false_iff_eq.mpr c13
      clear c13
      obtain rfl := Option.some.inj H
      have hcz14_0 : wc.cell? ⟨gb140, 0, none⟩ = some (.int .u8 a0_0) := (blk_cell BK140.out 0).trans rfl
      have hcz14_1 : wc.cell? ⟨gb140, 1, none⟩ = some (.int .u8 a0_1) := (blk_cell BK140.out 1).trans rfl
      have hcz14_2 : wc.cell? ⟨gb140, 2, none⟩ = some (.int .u32 a0_2) := (blk_cell BK140.out 2).trans rfl
      have hcz14_3 : wc.cell? ⟨gb140, 3, none⟩ = some (.string a0_3) := (blk_cell BK140.out 3).trans rfl
      have hfz14_0 := blk_frozen BK140.out 0
      have hfz14_1 := blk_frozen BK140.out 1
      have hfz14_2 := blk_frozen BK140.out 2
      have hfz14_3 := blk_frozen BK140.out 3
      go_wp2
      go_ret
      exact ⟨by first | rfl | (simp [errW_none, errW_some] <;> rfl) | (simp [*, errW_none, errW_some] <;> rfl), by repeat (first | (with_reducible first | exact HB.out | apply below_alloc | apply pw_below_drewN | apply below_drew1 | refine below_set ?_ GE140.out) | exact HB.out)⟩
     ·
      rw [if_neg c13] at H
      have c13b0 : (a0_0 == 6) = false := beq_eq_false_iff_ne.mpr c13
      have c13b1 : (a0_0 != 6) = true := bne_iff_ne.mpr c13
      by_cases c15 : a0_0 = 7
      ·
       rw [if_pos c15] at H
       have c15b0 : (a0_0 == 7) = true := beq_iff_eq.mpr c15
       have c15b1 : (a0_0 != 7) = false := bne_eq_false_iff_eq.mpr c15
       clear c15
       obtain rfl := Option.some.inj H
       have hcz16_0 : wc.cell? ⟨gb140, 0, none⟩ = some (.int .u8 a0_0) := (blk_cell BK140.out 0).trans rfl
       have hcz16_1 : wc.cell? ⟨gb140, 1, none⟩ = some (.int .u8 a0_1) := (blk_cell BK140.out 1).trans rfl
       have hcz16_2 : wc.cell? ⟨gb140, 2, none⟩ = some (.int .u32 a0_2) := (blk_cell BK140.out 2).trans rfl
       have hcz16_3 : wc.cell? ⟨gb140, 3, none⟩ = some (.string a0_3) := (blk_cell BK140.out 3).trans rfl
       have hfz16_0 := blk_frozen BK140.out 0
       have hfz16_1 := blk_frozen BK140.out 1
       have hfz16_2 := blk_frozen BK140.out 2
       have hfz16_3 := blk_frozen BK140.out 3
       go_wp2
       go_ret
       exact ⟨by first | rfl | (simp [errW_none, errW_some] <;> rfl) | (simp [*, errW_none, errW_some] <;> rfl), by repeat (first | (with_reducible first | exact HB.out | apply below_alloc | apply pw_below_drewN | apply below_drew1 | refine below_set ?_ GE140.out) | exact HB.out)⟩
      ·
       rw [if_neg c15] at H
       have c15b0 : (a0_0 == 7) = false := beq_eq_false_iff_ne.mpr c15
       have c15b1 : (a0_0 != 7) = true := bne_iff_ne.mpr c15
       obtain rfl := Option.some.inj H
       have hcz17_0 : wc.cell? ⟨gb140, 0, none⟩ = some (.int .u8 a0_0) := (blk_cell BK140.out 0).trans rfl
       have hcz17_1 : wc.cell? ⟨gb140, 1, none⟩ = some (.int .u8 a0_1) := (blk_cell BK140.out 1).trans rfl
       have hcz17_2 : wc.cell? ⟨gb140, 2, none⟩ = some (.int .u32 a0_2) := (blk_cell BK140.out 2).trans rfl
       have hcz17_3 : wc.cell? ⟨gb140, 3, none⟩ = some (.string a0_3) := (blk_cell BK140.out 3).trans rfl
       have hfz17_0 := blk_frozen BK140.out 0
       have hfz17_1 := blk_frozen BK140.out 1
       have hfz17_2 := blk_frozen BK140.out 2
       have hfz17_3 := blk_frozen BK140.out 3
       go_wp2
       go_ret
       exact ⟨by first | rfl | (simp [errW_none, errW_some] <;> rfl) | (simp [*, errW_none, errW_some] <;> rfl), by repeat (first | (with_reducible first | exact HB.out | apply below_alloc | apply pw_below_drewN | apply below_drew1 | refine below_set ?_ GE140.out) | exact HB.out)⟩

end Go.Proofs.Ytimhhacnpjcjnaa.Mine
