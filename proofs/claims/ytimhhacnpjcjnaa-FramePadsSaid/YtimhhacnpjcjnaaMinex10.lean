-- Written by this repo's own printer (wip/print), which builds on the kit's.
import Derived.Test.YtimhhacnpjcjnaaMinex0
import Derived.Test.YtimhhacnpjcjnaaMinex6
import Derived.Test.YtimhhacnpjcjnaaMinex7
import Derived.Test.YtimhhacnpjcjnaaMinex8
import Derived.Test.YtimhhacnpjcjnaaMinex9
namespace Go.Proofs.Ytimhhacnpjcjnaa.Mine
open Go.RowKit Go.Proofs.YtimhhacnpjcjnaaW.PrintWords Go.Proofs.YtimhhacnpjcjnaaW.PrintLast Go.Proofs.YtimhhacnpjcjnaaW.PrintMore
attribute [local go_sem] max2_int min2_int max_two min_two max_three min_three max_four min_four   -- for this text's walks alone
set_option linter.unusedVariables false
set_option linter.unusedSimpArgs false

/-! ### frame_Wrong: function 13 -/
def frame_Wrong.j0 : Nat → Int → Bool → Int → Int → Int → ByteArray → Option (Int × Int)
 | 0, _, _, _, _, _, _ => none
 | k + 1, x17, x18, x149000, x149001, x149002, x149003 => if x18 = true then ((frame_padded.f k x149000 x149001 x149002 x149003).bind fun bt152 => (some (bt152.1, bt152.2))) else (if x17 = 2 then ((frame_number.f k x149003 0).bind fun t154 => (if t154 = x149002 then (some (1, 1)) else (some (0, 0)))) else (if x17 = 8 then ((frame_number.f k x149003 0).bind fun t155 => (if t155 = 0 then (if x149002 = 0 then (some (2, 1)) else (some (1, 1))) else (some (0, 0)))) else (some (0, 0))))
def frame_Wrong.f (k : Nat) (a0_0 : Int) (a0_1 : Int) (a0_2 : Int) (a0_3 : ByteArray) : Option (Int × Int) := (frame_place.f k a0_0 a0_1 a0_2 a0_3).bind fun t149 => (if t149 = true then ((frame_size.f k a0_0 a0_1 a0_2 a0_3).bind fun bt150 => (if bt150.1 = 0 then (if a0_0 = 0 then (frame_Wrong.j0 k a0_0 (a0_0 == 0) a0_0 a0_1 a0_2 a0_3) else (frame_Wrong.j0 k a0_0 (a0_0 == 1) a0_0 a0_1 a0_2 a0_3)) else (some (bt150.1, bt150.2)))) else (some (2, 1)))
theorem frame_Wrong.mono_l : ∀ k, (∀ y0 y1 y2 y3 y4 y5, LeO (frame_Wrong.j0 k y0 y1 y2 y3 y4 y5) (frame_Wrong.j0 (k + 1) y0 y1 y2 y3 y4 y5))
 | 0 => fun _ _ _ _ _ _ r h => by simp [frame_Wrong.j0] at h
 | k + 1 => by
  have ih0 := frame_Wrong.mono_l k
  ·
   intro y0 y1 y2 y3 y4 y5
   unfold frame_Wrong.j0
   repeat' first
   | (with_reducible exact ih0 _ _ _ _ _ _)
   | (with_reducible exact frame_number.mono _ _ _)
   | (with_reducible exact frame_padded.mono _ _ _ _ _)
   | (with_reducible exact frame_place.mono _ _ _ _ _)
   | (with_reducible exact frame_size.mono _ _ _ _ _)
   | (with_reducible exact LeO.refl _)
   | (with_reducible exact LeO.none _)
   | (with_reducible refine LeO.ite ?_ ?_)
   | (with_reducible refine LeO.bind ?_ (fun _ => ?_))
   | exact ih0 _ _ _ _ _ _
   | exact frame_number.mono _ _ _
   | exact frame_padded.mono _ _ _ _ _
   | exact frame_place.mono _ _ _ _ _
   | exact frame_size.mono _ _ _ _ _
   | exact LeO.none _
   | refine LeO.ite ?_ ?_
   | refine LeO.bind ?_ (fun _ => ?_)
theorem frame_Wrong.mono : ∀ a0 a1 a2 a3 k, LeO (frame_Wrong.f k a0 a1 a2 a3) (frame_Wrong.f (k + 1) a0 a1 a2 a3) := by
 intro a0 a1 a2 a3 k
 have ih0 := frame_Wrong.mono_l k
 unfold frame_Wrong.f
 repeat' first
   | (with_reducible exact ih0 _ _ _ _ _ _)
   | (with_reducible exact frame_number.mono _ _ _)
   | (with_reducible exact frame_padded.mono _ _ _ _ _)
   | (with_reducible exact frame_place.mono _ _ _ _ _)
   | (with_reducible exact frame_size.mono _ _ _ _ _)
   | (with_reducible exact LeO.refl _)
   | (with_reducible exact LeO.none _)
   | (with_reducible refine LeO.ite ?_ ?_)
   | (with_reducible refine LeO.bind ?_ (fun _ => ?_))
   | exact ih0 _ _ _ _ _ _
   | exact frame_number.mono _ _ _
   | exact frame_padded.mono _ _ _ _ _
   | exact frame_place.mono _ _ _ _ _
   | exact frame_size.mono _ _ _ _ _
   | exact LeO.none _
   | refine LeO.ite ?_ ?_
   | refine LeO.bind ?_ (fun _ => ?_)
set_option maxHeartbeats 8000000 in
set_option maxRecDepth 100000 in
theorem frame_Wrong.calls (k : Nat) (a0_0 : Int) (a0_1 : Int) (a0_2 : Int) (a0_3 : ByteArray) (r1 : Int) (r2 : Int) (w : World) (h : frame_Wrong.f k a0_0 a0_1 a0_2 a0_3 = some (r1, r2)) :
  Calls Try.prog 13 #[.agg #[.int .u8 a0_0, .int .u8 a0_1, .int .u32 a0_2, .string a0_3]] w fun e w' => e = .returned (.tuple #[.int .i64 r1, .int .u32 r2]) ∧ Below w.heap.size w w' := by
 have hu24 := Try.underlying24
 have HB := Aside0.mk (Below.refl w.heap.size w)
 have H : ((frame_place.f k a0_0 a0_1 a0_2 a0_3).bind fun t149 => (if t149 = true then ((frame_size.f k a0_0 a0_1 a0_2 a0_3).bind fun bt150 => (if bt150.1 = 0 then (if a0_0 = 0 then (frame_Wrong.j0 k a0_0 (a0_0 == 0) a0_0 a0_1 a0_2 a0_3) else (frame_Wrong.j0 k a0_0 (a0_0 == 1) a0_0 a0_1 a0_2 a0_3)) else (some (bt150.1, bt150.2)))) else (some (2, 1)))) = some (r1, r2) := h
 clear h
 replace H := Option.bind_eq_some_iff.mp H
 obtain ⟨t149, A20, H⟩ := H
 replace H : (if t149 = true then ((frame_size.f k a0_0 a0_1 a0_2 a0_3).bind fun bt150 => (if bt150.1 = 0 then (if a0_0 = 0 then (frame_Wrong.j0 k a0_0 (a0_0 == 0) a0_0 a0_1 a0_2 a0_3) else (frame_Wrong.j0 k a0_0 (a0_0 == 1) a0_0 a0_1 a0_2 a0_3)) else (some (bt150.1, bt150.2)))) else (some (2, 1))) = some (r1, r2) := H
 have A2 := Aside0.mk A20
 clear A20
 by_cases c3 : t149 = true
 ·
  subst c3
  have H1 : ((frame_size.f k a0_0 a0_1 a0_2 a0_3).bind fun bt150 => (if bt150.1 = 0 then (if a0_0 = 0 then (frame_Wrong.j0 k a0_0 (a0_0 == 0) a0_0 a0_1 a0_2 a0_3) else (frame_Wrong.j0 k a0_0 (a0_0 == 1) a0_0 a0_1 a0_2 a0_3)) else (some (bt150.1, bt150.2)))) = some (r1, r2) := by rw [if_pos rfl] at H; exact H
  clear H
  have H := H1
  clear H1
  replace H := Option.bind_eq_some_iff.mp H
  obtain ⟨⟨t150, t151⟩, A40, H⟩ := H
  replace H : (if t150 = 0 then (if a0_0 = 0 then (frame_Wrong.j0 k a0_0 (a0_0 == 0) a0_0 a0_1 a0_2 a0_3) else (frame_Wrong.j0 k a0_0 (a0_0 == 1) a0_0 a0_1 a0_2 a0_3)) else (some (t150, t151))) = some (r1, r2) := H
  have A4 := Aside0.mk A40
  clear A40
  by_cases c5 : t150 = 0
  ·
   rw [if_pos c5] at H
   have c5b0 : (t150 == 0) = true := beq_iff_eq.mpr c5
   have c5b1 : (t150 != 0) = false := bne_eq_false_iff_eq.mpr c5
   clear c5
   have HC6 := Aside0.mk H
   clear H
   go_enter Try.func13, Try.ntmps13
   go_upto_if 18 with (first | ((with_reducible refine gate_dst (N := 1) rfl ?_); refine box_event ?hg (N := 1) ?hd (cs := #[.int .u8 a0_0, .int .u8 a0_1, .int .u32 a0_2, .string a0_3]) (t := 24) ?hr ?_; (case hd => rfl); (case hg => rfl); (case hr => first | (go_simp; done) | (go_simp; rfl)); intro gb148 hg w7 hbox hb; have n0_ := Aside0.mk (below_step (by repeat (first | (with_reducible first | exact HB.out | apply below_alloc | apply pw_below_drewN | apply below_drew1) | exact HB.out)) hb); have n1_ := Aside0.mk (hbox); have n2_ := Aside0.mk ((by rw [hg]; exact (below_size (by repeat (first | (with_reducible first | exact HB.out | apply below_alloc | apply pw_below_drewN | apply below_drew1) | exact HB.out))) : w.heap.size ≤ gb148)); have n3_ := Aside0.mk ((by rw [hg]; exact (below_size (by repeat (first | (with_reducible first | exact HB.out | apply below_alloc | apply pw_below_drewN | apply below_drew1) | exact HB.out))) : w.heap.size ≤ gb148)); clear HB; have HB := n0_; have BK148 := n1_; have GW148 := n2_; have GE148 := n3_; clear n0_ n1_ n2_ n3_; clear hb hbox hg; have hcz8_0 : w7.cell? ⟨gb148, 0, none⟩ = some (.int .u8 a0_0) := (blk_cell BK148.out 0).trans rfl; have hcz8_1 : w7.cell? ⟨gb148, 1, none⟩ = some (.int .u8 a0_1) := (blk_cell BK148.out 1).trans rfl; have hcz8_2 : w7.cell? ⟨gb148, 2, none⟩ = some (.int .u32 a0_2) := (blk_cell BK148.out 2).trans rfl; have hcz8_3 : w7.cell? ⟨gb148, 3, none⟩ = some (.string a0_3) := (blk_cell BK148.out 3).trans rfl; have hfz8_0 := blk_frozen BK148.out 0; have hfz8_1 := blk_frozen BK148.out 1; have hfz8_2 := blk_frozen BK148.out 2; have hfz8_3 := blk_frozen BK148.out 3) | ((with_reducible refine gate_callee (f := 26) rfl ?_); refine goesL_ (some 5) rfl rfl Try.func26 (by kernel_rfl) rfl #[.agg #[.int .u8 a0_0, .int .u8 a0_1, .int .u32 a0_2, .string a0_3]] rfl (by (try simp only [List.map_toArray, List.map_cons, List.map_nil]); first | done | rfl | (simp only [List.length_drop, List.length_take]; rfl)) ?_; (with_reducible refine (frame_place.calls k a0_0 a0_1 a0_2 a0_3 true _ A2.out).mono ?_); rintro e w9 ⟨rfl, hb⟩; refine ⟨_, rfl, ?_⟩; have n0_ := Aside0.mk (blk_below (g := gb148) (o := .cells #[.int .u8 a0_0, .int .u8 a0_1, .int .u32 a0_2, .string a0_3] 24 (0, 0)) (by (with_reducible repeat (first | refine blk_drewN ?_ _ | refine blk_drew ?_ | refine blk_alloc ?_ _)); exact BK148.out) hb); have n1_ := Aside0.mk (below_step (by repeat (first | (with_reducible first | exact HB.out | apply below_alloc | apply pw_below_drewN | apply below_drew1 | refine below_set ?_ GE148.out) | exact HB.out)) hb); clear BK148; clear HB; have BK148 := n0_; have HB := n1_; clear n0_ n1_; (try clear hb); (try clear hb2); (try clear hk); (try clear hi); have hcz10_0 : w9.cell? ⟨gb148, 0, none⟩ = some (.int .u8 a0_0) := (blk_cell BK148.out 0).trans rfl; have hcz10_1 : w9.cell? ⟨gb148, 1, none⟩ = some (.int .u8 a0_1) := (blk_cell BK148.out 1).trans rfl; have hcz10_2 : w9.cell? ⟨gb148, 2, none⟩ = some (.int .u32 a0_2) := (blk_cell BK148.out 2).trans rfl; have hcz10_3 : w9.cell? ⟨gb148, 3, none⟩ = some (.string a0_3) := (blk_cell BK148.out 3).trans rfl; have hfz10_0 := blk_frozen BK148.out 0; have hfz10_1 := blk_frozen BK148.out 1; have hfz10_2 := blk_frozen BK148.out 2; have hfz10_3 := blk_frozen BK148.out 3) | ((with_reducible refine gate_callee (f := 27) rfl ?_); refine goesL_ (some 9) rfl rfl Try.func27 (by kernel_rfl) rfl #[.agg #[.int .u8 a0_0, .int .u8 a0_1, .int .u32 a0_2, .string a0_3]] rfl (by (try simp only [List.map_toArray, List.map_cons, List.map_nil]); first | done | rfl | (simp only [List.length_drop, List.length_take]; rfl)) ?_; (with_reducible refine (frame_size.calls k a0_0 a0_1 a0_2 a0_3 t150 t151 _ A4.out).mono ?_); rintro e w11 ⟨rfl, hb⟩; refine ⟨_, rfl, ?_⟩; have n0_ := Aside0.mk (blk_below (g := gb148) (o := .cells #[.int .u8 a0_0, .int .u8 a0_1, .int .u32 a0_2, .string a0_3] 24 (0, 0)) (by (with_reducible repeat (first | refine blk_drewN ?_ _ | refine blk_drew ?_ | refine blk_alloc ?_ _)); exact BK148.out) hb); have n1_ := Aside0.mk (below_step (by repeat (first | (with_reducible first | exact HB.out | apply below_alloc | apply pw_below_drewN | apply below_drew1 | refine below_set ?_ GE148.out) | exact HB.out)) hb); clear BK148; clear HB; have BK148 := n0_; have HB := n1_; clear n0_ n1_; (try clear hb); (try clear hb2); (try clear hk); (try clear hi); have hcz12_0 : w11.cell? ⟨gb148, 0, none⟩ = some (.int .u8 a0_0) := (blk_cell BK148.out 0).trans rfl; have hcz12_1 : w11.cell? ⟨gb148, 1, none⟩ = some (.int .u8 a0_1) := (blk_cell BK148.out 1).trans rfl; have hcz12_2 : w11.cell? ⟨gb148, 2, none⟩ = some (.int .u32 a0_2) := (blk_cell BK148.out 2).trans rfl; have hcz12_3 : w11.cell? ⟨gb148, 3, none⟩ = some (.string a0_3) := (blk_cell BK148.out 3).trans rfl; have hfz12_0 := blk_frozen BK148.out 0; have hfz12_1 := blk_frozen BK148.out 1; have hfz12_2 := blk_frozen BK148.out 2; have hfz12_3 := blk_frozen BK148.out 3))
   (try simp only [Act.put, List.setIfInBounds_toArray, List.set_cons_zero, List.set_cons_succ])
   go_cut [18] (fun v18 wc => ∃ (kq : Nat) (x18_5 : Bool), v18 = .bool x18_5 ∧ Aside0 (frame_Wrong.j0 kq a0_0 x18_5 a0_0 a0_1 a0_2 a0_3 = some (r1, r2)) ∧ Aside0 (kq ≤ k) ∧ Aside0 (wc.heap[gb148]? = some (.cells #[.int .u8 a0_0, .int .u8 a0_1, .int .u32 a0_2, .string a0_3] 24 (0, 0))) ∧ Aside0 (Below w.heap.size w wc))
   case first =>
    have H := HC6.out
    clear HC6
    by_cases c13 : a0_0 = 0
    ·
     rw [if_pos c13] at H
     have c13b0 : (a0_0 == 0) = true := beq_iff_eq.mpr c13
     have c13b1 : (a0_0 != 0) = false := bne_eq_false_iff_eq.mpr c13
     clear c13
     (first | rw [c13b0] | (simp only [i64_w, i32_w]; rw [c13b0]) | skip)
     have H' := Aside0.mk H
     clear H
     go_wp2
     go_meet
     case rel => exact ⟨_, ((a0_0 == 0)), (by first | rfl | (simp; done) | (simp [*]; done)), H', ⟨by first | omega | exact Nat.le_refl _⟩, ⟨by (with_reducible repeat (first | refine blk_drewN ?_ _ | refine blk_drew ?_ | refine blk_alloc ?_ _)); exact BK148.out⟩, ⟨by repeat (first | (with_reducible first | exact HB.out | apply below_alloc | apply pw_below_drewN | apply below_drew1 | refine below_set ?_ GE148.out) | exact HB.out)⟩⟩
    ·
     rw [if_neg c13] at H
     have c13b0 : (a0_0 == 0) = false := beq_eq_false_iff_ne.mpr c13
     have c13b1 : (a0_0 != 0) = true := bne_iff_ne.mpr c13
     (first | rw [c13b0] | (simp only [i64_w, i32_w]; rw [c13b0]) | skip)
     have H' := Aside0.mk H
     clear H
     go_wp2
     go_meet
     case rel => exact ⟨_, ((a0_0 == 1)), (by first | rfl | (simp; done) | (simp [*]; done)), H', ⟨by first | omega | exact Nat.le_refl _⟩, ⟨by (with_reducible repeat (first | refine blk_drewN ?_ _ | refine blk_drew ?_ | refine blk_alloc ?_ _)); exact BK148.out⟩, ⟨by repeat (first | (with_reducible first | exact HB.out | apply below_alloc | apply pw_below_drewN | apply below_drew1 | refine below_set ?_ GE148.out) | exact HB.out)⟩⟩
   case rest =>
    clear HC6
    try clear c1
    try clear c2
    try clear p2
    try clear c3
    try clear c5
    try clear c5b0
    try clear c5b1
    try clear c13
    try clear c13b0
    try clear c13b1
    try clear hcz10_0
    try clear hcz10_1
    try clear hcz10_2
    try clear hcz10_3
    try clear hcz12_0
    try clear hcz12_1
    try clear hcz12_2
    try clear hcz12_3
    try clear hcz8_0
    try clear hcz8_1
    try clear hcz8_2
    try clear hcz8_3
    try clear hfz10_0
    try clear hfz10_1
    try clear hfz10_2
    try clear hfz10_3
    try clear hfz12_0
    try clear hfz12_1
    try clear hfz12_2
    try clear hfz12_3
    try clear hfz8_0
    try clear hfz8_1
    try clear hfz8_2
    try clear hfz8_3
    obtain ⟨kq, x18_5, rfl, HA, HJ5, BK148, HB⟩ := hcut
    cases kq with
    | zero => exact absurd HA.out (by simp [frame_Wrong.j0])
    | succ kj5 =>
     have H := HA.out
     clear HA
     simp only [frame_Wrong.j0] at H
     by_cases c14 : x18_5 = true
     ·
      subst c14
      have H1 : ((frame_padded.f kj5 a0_0 a0_1 a0_2 a0_3).bind fun bt152 => (some (bt152.1, bt152.2))) = some (r1, r2) := by rw [if_pos rfl] at H; exact H
      clear H
      have H := H1
      clear H1
      replace H := Option.bind_eq_some_iff.mp H
      obtain ⟨⟨t152, t153⟩, A150, H⟩ := H
      replace H : (some (t152, t153)) = some (r1, r2) := H
      have A15 := Aside0.mk A150
      clear A150
      simp only [Option.some.injEq, Prod.mk.injEq] at H
      obtain ⟨rfl, rfl⟩ := H
      have hcz16_0 : wc.cell? ⟨gb148, 0, none⟩ = some (.int .u8 a0_0) := (blk_cell BK148.out 0).trans rfl
      have hcz16_1 : wc.cell? ⟨gb148, 1, none⟩ = some (.int .u8 a0_1) := (blk_cell BK148.out 1).trans rfl
      have hcz16_2 : wc.cell? ⟨gb148, 2, none⟩ = some (.int .u32 a0_2) := (blk_cell BK148.out 2).trans rfl
      have hcz16_3 : wc.cell? ⟨gb148, 3, none⟩ = some (.string a0_3) := (blk_cell BK148.out 3).trans rfl
      have hfz16_0 := blk_frozen BK148.out 0
      have hfz16_1 := blk_frozen BK148.out 1
      have hfz16_2 := blk_frozen BK148.out 2
      have hfz16_3 := blk_frozen BK148.out 3
      go_wp2_with (first | ((with_reducible refine gate_callee (f := 28) rfl ?_); refine goesL_ (some 22) rfl rfl Try.func28 (by kernel_rfl) rfl #[.agg #[.int .u8 a0_0, .int .u8 a0_1, .int .u32 a0_2, .string a0_3]] rfl (by (try simp only [List.map_toArray, List.map_cons, List.map_nil]); first | done | rfl | (simp only [List.length_drop, List.length_take]; rfl)) ?_; (with_reducible refine (frame_padded.calls kj5 a0_0 a0_1 a0_2 a0_3 t152 t153 _ A15.out).mono ?_); rintro e w17 ⟨rfl, hb⟩; refine ⟨_, rfl, ?_⟩; have n0_ := Aside0.mk (blk_below (g := gb148) (o := .cells #[.int .u8 a0_0, .int .u8 a0_1, .int .u32 a0_2, .string a0_3] 24 (0, 0)) (by (with_reducible repeat (first | refine blk_drewN ?_ _ | refine blk_drew ?_ | refine blk_alloc ?_ _)); exact BK148.out) hb); have n1_ := Aside0.mk (below_step (by repeat (first | (with_reducible first | exact HB.out | apply below_alloc | apply pw_below_drewN | apply below_drew1 | refine below_set ?_ GE148.out) | exact HB.out)) hb); clear BK148; clear HB; have BK148 := n0_; have HB := n1_; clear n0_ n1_; (try clear hb); (try clear hb2); (try clear hk); (try clear hi)))
      go_ret2
      exact ⟨by first | rfl | (simp [errW_none, errW_some] <;> rfl) | (simp [*, errW_none, errW_some] <;> rfl), by repeat (first | (with_reducible first | exact HB.out | apply below_alloc | apply pw_below_drewN | apply below_drew1 | refine below_set ?_ GE148.out) | exact HB.out)⟩
     ·
      replace c14 := Bool.eq_false_iff.mpr c14
      subst c14
      have H1 : (if a0_0 = 2 then ((frame_number.f kj5 a0_3 0).bind fun t154 => (if t154 = a0_2 then (some (1, 1)) else (some (0, 0)))) else (if a0_0 = 8 then ((frame_number.f kj5 a0_3 0).bind fun t155 => (if t155 = 0 then (if a0_2 = 0 then (some (2, 1)) else (some (1, 1))) else (some (0, 0)))) else (some (0, 0)))) = some (r1, r2) := by rw [if_neg (show ¬ (false = true) by decide)] at H; exact H
      clear H
      have H := H1
      clear H1
      by_cases c18 : a0_0 = 2
      ·
       rw [if_pos c18] at H
       have c18b0 : (a0_0 == 2) = true := beq_iff_eq.mpr c18
       have c18b1 : (a0_0 != 2) = false := bne_eq_false_iff_eq.mpr c18
       clear c18
       replace H := Option.bind_eq_some_iff.mp H
       obtain ⟨t154, A190, H⟩ := H
       replace H : (if t154 = a0_2 then (some (1, 1)) else (some (0, 0))) = some (r1, r2) := H
       have A19 := Aside0.mk A190
       clear A190
       by_cases c20 : t154 = a0_2
       ·
        rw [if_pos c20] at H
        have c20b0 : (t154 == a0_2) = true := beq_iff_eq.mpr c20
        have c20b1 : (t154 != a0_2) = false := bne_eq_false_iff_eq.mpr c20
        clear c20
        simp only [Option.some.injEq, Prod.mk.injEq] at H
        obtain ⟨rfl, rfl⟩ := H
        try go_wp2
        have n0_ := Aside0.mk (blk_drew BK148.out)
        have n1_ := Aside0.mk (below_drew1 HB.out)
        clear BK148
        clear HB
        have BK148 := n0_
        have HB := n1_
        clear n0_ n1_
        refine start_ (n := 6) (S := fun w' => w'.cell? ⟨gb148, 0, none⟩ = some (.int .u8 a0_0) ∧ w'.cell? ⟨gb148, 1, none⟩ = some (.int .u8 a0_1) ∧ w'.cell? ⟨gb148, 2, none⟩ = some (.int .u32 a0_2) ∧ w'.cell? ⟨gb148, 3, none⟩ = some (.string a0_3)) (ds := []) #[false, false, false, false, false, false] (by kernel_rfl) rfl rfl ⟨(blk_cell BK148.out 0).trans rfl, (blk_cell BK148.out 1).trans rfl, (blk_cell BK148.out 2).trans rfl, (blk_cell BK148.out 3).trans rfl⟩ (fun hHeld => ?_)
        generalize wc.drew = w21 at BK148 HB hHeld ⊢
        refine pure_ (i := 0) (N := some 27) (v := ?_) (a' := ?_) #[true, false, false, false, false, false] rfl rfl (by kernel_rfl) (fun _ _ _ h => h) (Or.inl ⟨by rfl, ?_⟩) ?_ ?_
        rotate_left
        ·
         intro w'
         go_simp
         with_reducible rfl
        rotate_left
        ·
         simp only [Act.put, List.setIfInBounds_toArray, List.set_cons_zero, List.set_cons_succ, i64_w, i32_w]
         rfl
        refine pure_ (i := 3) (N := some 30) (v := ?_) (a' := ?_) #[true, false, false, true, false, false] rfl rfl (by kernel_rfl) (fun _ _ _ h => h) (Or.inl ⟨by rfl, ?_⟩) ?_ ?_
        rotate_left
        ·
         intro w'
         go_simp
         with_reducible rfl
        rotate_left
        ·
         simp only [Act.put, List.setIfInBounds_toArray, List.set_cons_zero, List.set_cons_succ, i64_w, i32_w]
         rfl
        refine take_ (i := 1) (N := some 28) (v := ?_) (a' := ?_) #[true, true, false, true, false, false] rfl rfl (by kernel_rfl) (fun _ _ _ h => h) (Or.inl ⟨by rfl, ?_⟩) hHeld ?_ ?_
        rotate_left
        ·
         rintro w' ⟨s0, s1, s2, s3⟩
         go_simp
         with_reducible rfl
        rotate_left
        ·
         simp only [Act.put, List.setIfInBounds_toArray, List.set_cons_zero, List.set_cons_succ, i64_w, i32_w]
         rfl
        refine take_ (i := 4) (N := some 31) (v := ?_) (a' := ?_) #[true, true, false, true, true, false] rfl rfl (by kernel_rfl) (fun _ _ _ h => h) (Or.inl ⟨by rfl, ?_⟩) hHeld ?_ ?_
        rotate_left
        ·
         rintro w' ⟨s0, s1, s2, s3⟩
         go_simp
         with_reducible rfl
        rotate_left
        ·
         simp only [Act.put, List.setIfInBounds_toArray, List.set_cons_zero, List.set_cons_succ, i64_w, i32_w]
         rfl
        refine one_ (i := 2) (N := some 29) #[true, true, true, true, true, false] rfl rfl (by kernel_rfl) (by decide) (fun K hK => ?_)
        refine goes_ Try.func29 (by kernel_rfl) rfl #[.string a0_3, .int .i64 0] (by rfl) rfl rfl (by (try simp only [List.map_toArray, List.map_cons, List.map_nil]); first | done | rfl | (simp only [List.length_drop, List.length_take]; rfl)) ?_
        with_reducible refine (frame_number.calls kj5 a0_3 0 t154 _ A19.out).mono ?_
        rintro e w22 ⟨rfl, hb⟩
        refine ⟨_, rfl, ?_⟩
        have n0_ := Aside0.mk (blk_below (g := gb148) (o := .cells #[.int .u8 a0_0, .int .u8 a0_1, .int .u32 a0_2, .string a0_3] 24 (0, 0)) (by (with_reducible repeat (first | refine blk_drewN ?_ _ | refine blk_drew ?_ | refine blk_alloc ?_ _)); exact BK148.out) hb)
        have n1_ := Aside0.mk (below_step (by repeat (first | (with_reducible first | exact HB.out | apply below_alloc | apply pw_below_drewN | apply below_drew1 | refine below_set ?_ GE148.out) | exact HB.out)) hb)
        clear BK148
        clear HB
        have BK148 := n0_
        have HB := n1_
        clear n0_ n1_
        (try clear hb)
        (try clear hb2)
        (try clear hk)
        (try clear hi)
        refine hK.out _ _ ⟨(blk_cell BK148.out 0).trans rfl, (blk_cell BK148.out 1).trans rfl, (blk_cell BK148.out 2).trans rfl, (blk_cell BK148.out 3).trans rfl⟩ (fun hHeld => ?_)
        clear hK K
        refine norm_ (a' := ?_) ?_ ?_
        rotate_left
        ·
         show Act.put _ (some 29) _ = _
         simp only [Act.put, List.setIfInBounds_toArray, List.set_cons_zero, List.set_cons_succ, i64_w, i32_w]
         rfl
        refine pure_ (i := 5) (N := some 32) (v := ?_) (a' := ?_) #[true, true, true, true, true, true] rfl rfl (by kernel_rfl) (fun _ _ _ h => h) (Or.inl ⟨by rfl, ?_⟩) ?_ ?_
        rotate_left
        ·
         intro w'
         go_simp
         with_reducible rfl
        rotate_left
        ·
         simp only [Act.put, List.setIfInBounds_toArray, List.set_cons_zero, List.set_cons_succ, i64_w, i32_w]
         rfl
        refine done_ (by kernel_rfl) ?_
        try go_wp2
        go_ret2
        exact ⟨by first | rfl | (simp [errW_none, errW_some] <;> rfl) | (simp [*, errW_none, errW_some] <;> rfl), by repeat (first | (with_reducible first | exact HB.out | apply below_alloc | apply pw_below_drewN | apply below_drew1 | refine below_set ?_ GE148.out) | exact HB.out)⟩
       ·
        rw [if_neg c20] at H
        have c20b0 : (t154 == a0_2) = false := beq_eq_false_iff_ne.mpr c20
        have c20b1 : (t154 != a0_2) = true := bne_iff_ne.mpr c20
        simp only [Option.some.injEq, Prod.mk.injEq] at H
        obtain ⟨rfl, rfl⟩ := H
        try go_wp2
        have n0_ := Aside0.mk (blk_drew BK148.out)
        have n1_ := Aside0.mk (below_drew1 HB.out)
        clear BK148
        clear HB
        have BK148 := n0_
        have HB := n1_
        clear n0_ n1_
        refine start_ (n := 6) (S := fun w' => w'.cell? ⟨gb148, 0, none⟩ = some (.int .u8 a0_0) ∧ w'.cell? ⟨gb148, 1, none⟩ = some (.int .u8 a0_1) ∧ w'.cell? ⟨gb148, 2, none⟩ = some (.int .u32 a0_2) ∧ w'.cell? ⟨gb148, 3, none⟩ = some (.string a0_3)) (ds := []) #[false, false, false, false, false, false] (by kernel_rfl) rfl rfl ⟨(blk_cell BK148.out 0).trans rfl, (blk_cell BK148.out 1).trans rfl, (blk_cell BK148.out 2).trans rfl, (blk_cell BK148.out 3).trans rfl⟩ (fun hHeld => ?_)
        generalize wc.drew = w23 at BK148 HB hHeld ⊢
        refine pure_ (i := 0) (N := some 27) (v := ?_) (a' := ?_) #[true, false, false, false, false, false] rfl rfl (by kernel_rfl) (fun _ _ _ h => h) (Or.inl ⟨by rfl, ?_⟩) ?_ ?_
        rotate_left
        ·
         intro w'
         go_simp
         with_reducible rfl
        rotate_left
        ·
         simp only [Act.put, List.setIfInBounds_toArray, List.set_cons_zero, List.set_cons_succ, i64_w, i32_w]
         rfl
        refine pure_ (i := 3) (N := some 30) (v := ?_) (a' := ?_) #[true, false, false, true, false, false] rfl rfl (by kernel_rfl) (fun _ _ _ h => h) (Or.inl ⟨by rfl, ?_⟩) ?_ ?_
        rotate_left
        ·
         intro w'
         go_simp
         with_reducible rfl
        rotate_left
        ·
         simp only [Act.put, List.setIfInBounds_toArray, List.set_cons_zero, List.set_cons_succ, i64_w, i32_w]
         rfl
        refine take_ (i := 1) (N := some 28) (v := ?_) (a' := ?_) #[true, true, false, true, false, false] rfl rfl (by kernel_rfl) (fun _ _ _ h => h) (Or.inl ⟨by rfl, ?_⟩) hHeld ?_ ?_
        rotate_left
        ·
         rintro w' ⟨s0, s1, s2, s3⟩
         go_simp
         with_reducible rfl
        rotate_left
        ·
         simp only [Act.put, List.setIfInBounds_toArray, List.set_cons_zero, List.set_cons_succ, i64_w, i32_w]
         rfl
        refine take_ (i := 4) (N := some 31) (v := ?_) (a' := ?_) #[true, true, false, true, true, false] rfl rfl (by kernel_rfl) (fun _ _ _ h => h) (Or.inl ⟨by rfl, ?_⟩) hHeld ?_ ?_
        rotate_left
        ·
         rintro w' ⟨s0, s1, s2, s3⟩
         go_simp
         with_reducible rfl
        rotate_left
        ·
         simp only [Act.put, List.setIfInBounds_toArray, List.set_cons_zero, List.set_cons_succ, i64_w, i32_w]
         rfl
        refine one_ (i := 2) (N := some 29) #[true, true, true, true, true, false] rfl rfl (by kernel_rfl) (by decide) (fun K hK => ?_)
        refine goes_ Try.func29 (by kernel_rfl) rfl #[.string a0_3, .int .i64 0] (by rfl) rfl rfl (by (try simp only [List.map_toArray, List.map_cons, List.map_nil]); first | done | rfl | (simp only [List.length_drop, List.length_take]; rfl)) ?_
        with_reducible refine (frame_number.calls kj5 a0_3 0 t154 _ A19.out).mono ?_
        rintro e w24 ⟨rfl, hb⟩
        refine ⟨_, rfl, ?_⟩
        have n0_ := Aside0.mk (blk_below (g := gb148) (o := .cells #[.int .u8 a0_0, .int .u8 a0_1, .int .u32 a0_2, .string a0_3] 24 (0, 0)) (by (with_reducible repeat (first | refine blk_drewN ?_ _ | refine blk_drew ?_ | refine blk_alloc ?_ _)); exact BK148.out) hb)
        have n1_ := Aside0.mk (below_step (by repeat (first | (with_reducible first | exact HB.out | apply below_alloc | apply pw_below_drewN | apply below_drew1 | refine below_set ?_ GE148.out) | exact HB.out)) hb)
        clear BK148
        clear HB
        have BK148 := n0_
        have HB := n1_
        clear n0_ n1_
        (try clear hb)
        (try clear hb2)
        (try clear hk)
        (try clear hi)
        refine hK.out _ _ ⟨(blk_cell BK148.out 0).trans rfl, (blk_cell BK148.out 1).trans rfl, (blk_cell BK148.out 2).trans rfl, (blk_cell BK148.out 3).trans rfl⟩ (fun hHeld => ?_)
        clear hK K
        refine norm_ (a' := ?_) ?_ ?_
        rotate_left
        ·
         show Act.put _ (some 29) _ = _
         simp only [Act.put, List.setIfInBounds_toArray, List.set_cons_zero, List.set_cons_succ, i64_w, i32_w]
         rfl
        refine pure_ (i := 5) (N := some 32) (v := ?_) (a' := ?_) #[true, true, true, true, true, true] rfl rfl (by kernel_rfl) (fun _ _ _ h => h) (Or.inl ⟨by rfl, ?_⟩) ?_ ?_
        rotate_left
        ·
         intro w'
         go_simp
         with_reducible rfl
        rotate_left
        ·
         simp only [Act.put, List.setIfInBounds_toArray, List.set_cons_zero, List.set_cons_succ, i64_w, i32_w]
         rfl
        refine done_ (by kernel_rfl) ?_
        try go_wp2
        go_ret2
        exact ⟨by first | rfl | (simp [errW_none, errW_some] <;> rfl) | (simp [*, errW_none, errW_some] <;> rfl), by repeat (first | (with_reducible first | exact HB.out | apply below_alloc | apply pw_below_drewN | apply below_drew1 | refine below_set ?_ GE148.out) | exact HB.out)⟩
      ·
       rw [if_neg c18] at H
       have c18b0 : (a0_0 == 2) = false := beq_eq_false_iff_ne.mpr c18
       have c18b1 : (a0_0 != 2) = true := bne_iff_ne.mpr c18
       by_cases c25 : a0_0 = 8
       ·
        rw [if_pos c25] at H
        have c25b0 : (a0_0 == 8) = true := beq_iff_eq.mpr c25
        have c25b1 : (a0_0 != 8) = false := bne_eq_false_iff_eq.mpr c25
        clear c25
        replace H := Option.bind_eq_some_iff.mp H
        obtain ⟨t155, A260, H⟩ := H
        replace H : (if t155 = 0 then (if a0_2 = 0 then (some (2, 1)) else (some (1, 1))) else (some (0, 0))) = some (r1, r2) := H
        have A26 := Aside0.mk A260
        clear A260
        by_cases c27 : t155 = 0
        ·
         rw [if_pos c27] at H
         have c27b0 : (t155 == 0) = true := beq_iff_eq.mpr c27
         have c27b1 : (t155 != 0) = false := bne_eq_false_iff_eq.mpr c27
         clear c27
         by_cases c28 : a0_2 = 0
         ·
          rw [if_pos c28] at H
          have c28b0 : (a0_2 == 0) = true := beq_iff_eq.mpr c28
          have c28b1 : (a0_2 != 0) = false := bne_eq_false_iff_eq.mpr c28
          clear c28
          simp only [Option.some.injEq, Prod.mk.injEq] at H
          obtain ⟨rfl, rfl⟩ := H
          have hcz29_0 : wc.cell? ⟨gb148, 0, none⟩ = some (.int .u8 a0_0) := (blk_cell BK148.out 0).trans rfl
          have hcz29_1 : wc.cell? ⟨gb148, 1, none⟩ = some (.int .u8 a0_1) := (blk_cell BK148.out 1).trans rfl
          have hcz29_2 : wc.cell? ⟨gb148, 2, none⟩ = some (.int .u32 a0_2) := (blk_cell BK148.out 2).trans rfl
          have hcz29_3 : wc.cell? ⟨gb148, 3, none⟩ = some (.string a0_3) := (blk_cell BK148.out 3).trans rfl
          have hfz29_0 := blk_frozen BK148.out 0
          have hfz29_1 := blk_frozen BK148.out 1
          have hfz29_2 := blk_frozen BK148.out 2
          have hfz29_3 := blk_frozen BK148.out 3
          go_wp2_with (first | ((with_reducible refine gate_callee (f := 29) rfl ?_); refine goesL_ (some 37) rfl rfl Try.func29 (by kernel_rfl) rfl #[.string a0_3, .int .i64 0] rfl (by (try simp only [List.map_toArray, List.map_cons, List.map_nil]); first | done | rfl | (simp only [List.length_drop, List.length_take]; rfl)) ?_; (with_reducible refine (frame_number.calls kj5 a0_3 0 t155 _ A26.out).mono ?_); rintro e w30 ⟨rfl, hb⟩; refine ⟨_, rfl, ?_⟩; have n0_ := Aside0.mk (blk_below (g := gb148) (o := .cells #[.int .u8 a0_0, .int .u8 a0_1, .int .u32 a0_2, .string a0_3] 24 (0, 0)) (by (with_reducible repeat (first | refine blk_drewN ?_ _ | refine blk_drew ?_ | refine blk_alloc ?_ _)); exact BK148.out) hb); have n1_ := Aside0.mk (below_step (by repeat (first | (with_reducible first | exact HB.out | apply below_alloc | apply pw_below_drewN | apply below_drew1 | refine below_set ?_ GE148.out) | exact HB.out)) hb); clear BK148; clear HB; have BK148 := n0_; have HB := n1_; clear n0_ n1_; (try clear hb); (try clear hb2); (try clear hk); (try clear hi); have hcz31_0 : w30.cell? ⟨gb148, 0, none⟩ = some (.int .u8 a0_0) := (blk_cell BK148.out 0).trans rfl; have hcz31_1 : w30.cell? ⟨gb148, 1, none⟩ = some (.int .u8 a0_1) := (blk_cell BK148.out 1).trans rfl; have hcz31_2 : w30.cell? ⟨gb148, 2, none⟩ = some (.int .u32 a0_2) := (blk_cell BK148.out 2).trans rfl; have hcz31_3 : w30.cell? ⟨gb148, 3, none⟩ = some (.string a0_3) := (blk_cell BK148.out 3).trans rfl; have hfz31_0 := blk_frozen BK148.out 0; have hfz31_1 := blk_frozen BK148.out 1; have hfz31_2 := blk_frozen BK148.out 2; have hfz31_3 := blk_frozen BK148.out 3))
          go_ret2
          exact ⟨by first | rfl | (simp [errW_none, errW_some] <;> rfl) | (simp [*, errW_none, errW_some] <;> rfl), by repeat (first | (with_reducible first | exact HB.out | apply below_alloc | apply pw_below_drewN | apply below_drew1 | refine below_set ?_ GE148.out) | exact HB.out)⟩
         ·
          rw [if_neg c28] at H
          have c28b0 : (a0_2 == 0) = false := beq_eq_false_iff_ne.mpr c28
          have c28b1 : (a0_2 != 0) = true := bne_iff_ne.mpr c28
          simp only [Option.some.injEq, Prod.mk.injEq] at H
          obtain ⟨rfl, rfl⟩ := H
          have hcz32_0 : wc.cell? ⟨gb148, 0, none⟩ = some (.int .u8 a0_0) := (blk_cell BK148.out 0).trans rfl
          have hcz32_1 : wc.cell? ⟨gb148, 1, none⟩ = some (.int .u8 a0_1) := (blk_cell BK148.out 1).trans rfl
          have hcz32_2 : wc.cell? ⟨gb148, 2, none⟩ = some (.int .u32 a0_2) := (blk_cell BK148.out 2).trans rfl
          have hcz32_3 : wc.cell? ⟨gb148, 3, none⟩ = some (.string a0_3) := (blk_cell BK148.out 3).trans rfl
          have hfz32_0 := blk_frozen BK148.out 0
          have hfz32_1 := blk_frozen BK148.out 1
          have hfz32_2 := blk_frozen BK148.out 2
          have hfz32_3 := blk_frozen BK148.out 3
          go_wp2_with (first | ((with_reducible refine gate_callee (f := 29) rfl ?_); refine goesL_ (some 37) rfl rfl Try.func29 (by kernel_rfl) rfl #[.string a0_3, .int .i64 0] rfl (by (try simp only [List.map_toArray, List.map_cons, List.map_nil]); first | done | rfl | (simp only [List.length_drop, List.length_take]; rfl)) ?_; (with_reducible refine (frame_number.calls kj5 a0_3 0 t155 _ A26.out).mono ?_); rintro e w33 ⟨rfl, hb⟩; refine ⟨_, rfl, ?_⟩; have n0_ := Aside0.mk (blk_below (g := gb148) (o := .cells #[.int .u8 a0_0, .int .u8 a0_1, .int .u32 a0_2, .string a0_3] 24 (0, 0)) (by (with_reducible repeat (first | refine blk_drewN ?_ _ | refine blk_drew ?_ | refine blk_alloc ?_ _)); exact BK148.out) hb); have n1_ := Aside0.mk (below_step (by repeat (first | (with_reducible first | exact HB.out | apply below_alloc | apply pw_below_drewN | apply below_drew1 | refine below_set ?_ GE148.out) | exact HB.out)) hb); clear BK148; clear HB; have BK148 := n0_; have HB := n1_; clear n0_ n1_; (try clear hb); (try clear hb2); (try clear hk); (try clear hi); have hcz34_0 : w33.cell? ⟨gb148, 0, none⟩ = some (.int .u8 a0_0) := (blk_cell BK148.out 0).trans rfl; have hcz34_1 : w33.cell? ⟨gb148, 1, none⟩ = some (.int .u8 a0_1) := (blk_cell BK148.out 1).trans rfl; have hcz34_2 : w33.cell? ⟨gb148, 2, none⟩ = some (.int .u32 a0_2) := (blk_cell BK148.out 2).trans rfl; have hcz34_3 : w33.cell? ⟨gb148, 3, none⟩ = some (.string a0_3) := (blk_cell BK148.out 3).trans rfl; have hfz34_0 := blk_frozen BK148.out 0; have hfz34_1 := blk_frozen BK148.out 1; have hfz34_2 := blk_frozen BK148.out 2; have hfz34_3 := blk_frozen BK148.out 3))
          go_ret2
          exact ⟨by first | rfl | (simp [errW_none, errW_some] <;> rfl) | (simp [*, errW_none, errW_some] <;> rfl), by repeat (first | (with_reducible first | exact HB.out | apply below_alloc | apply pw_below_drewN | apply below_drew1 | refine below_set ?_ GE148.out) | exact HB.out)⟩
        ·
         rw [if_neg c27] at H
         have c27b0 : (t155 == 0) = false := beq_eq_false_iff_ne.mpr c27
         have c27b1 : (t155 != 0) = true := bne_iff_ne.mpr c27
         simp only [Option.some.injEq, Prod.mk.injEq] at H
         obtain ⟨rfl, rfl⟩ := H
         have hcz35_0 : wc.cell? ⟨gb148, 0, none⟩ = some (.int .u8 a0_0) := (blk_cell BK148.out 0).trans rfl
         have hcz35_1 : wc.cell? ⟨gb148, 1, none⟩ = some (.int .u8 a0_1) := (blk_cell BK148.out 1).trans rfl
         have hcz35_2 : wc.cell? ⟨gb148, 2, none⟩ = some (.int .u32 a0_2) := (blk_cell BK148.out 2).trans rfl
         have hcz35_3 : wc.cell? ⟨gb148, 3, none⟩ = some (.string a0_3) := (blk_cell BK148.out 3).trans rfl
         have hfz35_0 := blk_frozen BK148.out 0
         have hfz35_1 := blk_frozen BK148.out 1
         have hfz35_2 := blk_frozen BK148.out 2
         have hfz35_3 := blk_frozen BK148.out 3
         go_wp2_with (first | ((with_reducible refine gate_callee (f := 29) rfl ?_); refine goesL_ (some 37) rfl rfl Try.func29 (by kernel_rfl) rfl #[.string a0_3, .int .i64 0] rfl (by (try simp only [List.map_toArray, List.map_cons, List.map_nil]); first | done | rfl | (simp only [List.length_drop, List.length_take]; rfl)) ?_; (with_reducible refine (frame_number.calls kj5 a0_3 0 t155 _ A26.out).mono ?_); rintro e w36 ⟨rfl, hb⟩; refine ⟨_, rfl, ?_⟩; have n0_ := Aside0.mk (blk_below (g := gb148) (o := .cells #[.int .u8 a0_0, .int .u8 a0_1, .int .u32 a0_2, .string a0_3] 24 (0, 0)) (by (with_reducible repeat (first | refine blk_drewN ?_ _ | refine blk_drew ?_ | refine blk_alloc ?_ _)); exact BK148.out) hb); have n1_ := Aside0.mk (below_step (by repeat (first | (with_reducible first | exact HB.out | apply below_alloc | apply pw_below_drewN | apply below_drew1 | refine below_set ?_ GE148.out) | exact HB.out)) hb); clear BK148; clear HB; have BK148 := n0_; have HB := n1_; clear n0_ n1_; (try clear hb); (try clear hb2); (try clear hk); (try clear hi)))
         go_ret2
         exact ⟨by first | rfl | (simp [errW_none, errW_some] <;> rfl) | (simp [*, errW_none, errW_some] <;> rfl), by repeat (first | (with_reducible first | exact HB.out | apply below_alloc | apply pw_below_drewN | apply below_drew1 | refine below_set ?_ GE148.out) | exact HB.out)⟩
       ·
        rw [if_neg c25] at H
        have c25b0 : (a0_0 == 8) = false := beq_eq_false_iff_ne.mpr c25
        have c25b1 : (a0_0 != 8) = true := bne_iff_ne.mpr c25
        simp only [Option.some.injEq, Prod.mk.injEq] at H
        obtain ⟨rfl, rfl⟩ := H
        go_wp2
        go_ret2
        exact ⟨by first | rfl | (simp [errW_none, errW_some] <;> rfl) | (simp [*, errW_none, errW_some] <;> rfl), by repeat (first | (with_reducible first | exact HB.out | apply below_alloc | apply pw_below_drewN | apply below_drew1 | refine below_set ?_ GE148.out) | exact HB.out)⟩
  ·
   rw [if_neg c5] at H
   have c5b0 : (t150 == 0) = false := beq_eq_false_iff_ne.mpr c5
   have c5b1 : (t150 != 0) = true := bne_iff_ne.mpr c5
   simp only [Option.some.injEq, Prod.mk.injEq] at H
   obtain ⟨rfl, rfl⟩ := H
   go_enter Try.func13, Try.ntmps13
   go_wp2_with (first | ((with_reducible refine gate_dst (N := 1) rfl ?_); refine box_event ?hg (N := 1) ?hd (cs := #[.int .u8 a0_0, .int .u8 a0_1, .int .u32 a0_2, .string a0_3]) (t := 24) ?hr ?_; (case hd => rfl); (case hg => rfl); (case hr => first | (go_simp; done) | (go_simp; rfl)); intro gb148 hg w37 hbox hb; have n0_ := Aside0.mk (below_step (by repeat (first | (with_reducible first | exact HB.out | apply below_alloc | apply pw_below_drewN | apply below_drew1) | exact HB.out)) hb); have n1_ := Aside0.mk (hbox); have n2_ := Aside0.mk ((by rw [hg]; exact (below_size (by repeat (first | (with_reducible first | exact HB.out | apply below_alloc | apply pw_below_drewN | apply below_drew1) | exact HB.out))) : w.heap.size ≤ gb148)); have n3_ := Aside0.mk ((by rw [hg]; exact (below_size (by repeat (first | (with_reducible first | exact HB.out | apply below_alloc | apply pw_below_drewN | apply below_drew1) | exact HB.out))) : w.heap.size ≤ gb148)); clear HB; have HB := n0_; have BK148 := n1_; have GW148 := n2_; have GE148 := n3_; clear n0_ n1_ n2_ n3_; clear hb hbox hg; have hcz38_0 : w37.cell? ⟨gb148, 0, none⟩ = some (.int .u8 a0_0) := (blk_cell BK148.out 0).trans rfl; have hcz38_1 : w37.cell? ⟨gb148, 1, none⟩ = some (.int .u8 a0_1) := (blk_cell BK148.out 1).trans rfl; have hcz38_2 : w37.cell? ⟨gb148, 2, none⟩ = some (.int .u32 a0_2) := (blk_cell BK148.out 2).trans rfl; have hcz38_3 : w37.cell? ⟨gb148, 3, none⟩ = some (.string a0_3) := (blk_cell BK148.out 3).trans rfl; have hfz38_0 := blk_frozen BK148.out 0; have hfz38_1 := blk_frozen BK148.out 1; have hfz38_2 := blk_frozen BK148.out 2; have hfz38_3 := blk_frozen BK148.out 3) | ((with_reducible refine gate_callee (f := 26) rfl ?_); refine goesL_ (some 5) rfl rfl Try.func26 (by kernel_rfl) rfl #[.agg #[.int .u8 a0_0, .int .u8 a0_1, .int .u32 a0_2, .string a0_3]] rfl (by (try simp only [List.map_toArray, List.map_cons, List.map_nil]); first | done | rfl | (simp only [List.length_drop, List.length_take]; rfl)) ?_; (with_reducible refine (frame_place.calls k a0_0 a0_1 a0_2 a0_3 true _ A2.out).mono ?_); rintro e w39 ⟨rfl, hb⟩; refine ⟨_, rfl, ?_⟩; have n0_ := Aside0.mk (blk_below (g := gb148) (o := .cells #[.int .u8 a0_0, .int .u8 a0_1, .int .u32 a0_2, .string a0_3] 24 (0, 0)) (by (with_reducible repeat (first | refine blk_drewN ?_ _ | refine blk_drew ?_ | refine blk_alloc ?_ _)); exact BK148.out) hb); have n1_ := Aside0.mk (below_step (by repeat (first | (with_reducible first | exact HB.out | apply below_alloc | apply pw_below_drewN | apply below_drew1 | refine below_set ?_ GE148.out) | exact HB.out)) hb); clear BK148; clear HB; have BK148 := n0_; have HB := n1_; clear n0_ n1_; (try clear hb); (try clear hb2); (try clear hk); (try clear hi); have hcz40_0 : w39.cell? ⟨gb148, 0, none⟩ = some (.int .u8 a0_0) := (blk_cell BK148.out 0).trans rfl; have hcz40_1 : w39.cell? ⟨gb148, 1, none⟩ = some (.int .u8 a0_1) := (blk_cell BK148.out 1).trans rfl; have hcz40_2 : w39.cell? ⟨gb148, 2, none⟩ = some (.int .u32 a0_2) := (blk_cell BK148.out 2).trans rfl; have hcz40_3 : w39.cell? ⟨gb148, 3, none⟩ = some (.string a0_3) := (blk_cell BK148.out 3).trans rfl; have hfz40_0 := blk_frozen BK148.out 0; have hfz40_1 := blk_frozen BK148.out 1; have hfz40_2 := blk_frozen BK148.out 2; have hfz40_3 := blk_frozen BK148.out 3) | ((with_reducible refine gate_callee (f := 27) rfl ?_); refine goesL_ (some 9) rfl rfl Try.func27 (by kernel_rfl) rfl #[.agg #[.int .u8 a0_0, .int .u8 a0_1, .int .u32 a0_2, .string a0_3]] rfl (by (try simp only [List.map_toArray, List.map_cons, List.map_nil]); first | done | rfl | (simp only [List.length_drop, List.length_take]; rfl)) ?_; (with_reducible refine (frame_size.calls k a0_0 a0_1 a0_2 a0_3 t150 t151 _ A4.out).mono ?_); rintro e w41 ⟨rfl, hb⟩; refine ⟨_, rfl, ?_⟩; have n0_ := Aside0.mk (blk_below (g := gb148) (o := .cells #[.int .u8 a0_0, .int .u8 a0_1, .int .u32 a0_2, .string a0_3] 24 (0, 0)) (by (with_reducible repeat (first | refine blk_drewN ?_ _ | refine blk_drew ?_ | refine blk_alloc ?_ _)); exact BK148.out) hb); have n1_ := Aside0.mk (below_step (by repeat (first | (with_reducible first | exact HB.out | apply below_alloc | apply pw_below_drewN | apply below_drew1 | refine below_set ?_ GE148.out) | exact HB.out)) hb); clear BK148; clear HB; have BK148 := n0_; have HB := n1_; clear n0_ n1_; (try clear hb); (try clear hb2); (try clear hk); (try clear hi)))
   go_ret2
   exact ⟨by first | rfl | (simp [errW_none, errW_some] <;> rfl) | (simp [*, errW_none, errW_some] <;> rfl), by repeat (first | (with_reducible first | exact HB.out | apply below_alloc | apply pw_below_drewN | apply below_drew1 | refine below_set ?_ GE148.out) | exact HB.out)⟩
 ·
  replace c3 := Bool.eq_false_iff.mpr c3
  subst c3
  have H1 : (some (2, 1)) = some (r1, r2) := by rw [if_neg (show ¬ (false = true) by decide)] at H; exact H
  clear H
  have H := H1
  clear H1
  simp only [Option.some.injEq, Prod.mk.injEq] at H
  obtain ⟨rfl, rfl⟩ := H
  go_enter Try.func13, Try.ntmps13
  go_wp2_with (first | ((with_reducible refine gate_dst (N := 1) rfl ?_); refine box_event ?hg (N := 1) ?hd (cs := #[.int .u8 a0_0, .int .u8 a0_1, .int .u32 a0_2, .string a0_3]) (t := 24) ?hr ?_; (case hd => rfl); (case hg => rfl); (case hr => first | (go_simp; done) | (go_simp; rfl)); intro gb148 hg w42 hbox hb; have n0_ := Aside0.mk (below_step (by repeat (first | (with_reducible first | exact HB.out | apply below_alloc | apply pw_below_drewN | apply below_drew1) | exact HB.out)) hb); have n1_ := Aside0.mk (hbox); have n2_ := Aside0.mk ((by rw [hg]; exact (below_size (by repeat (first | (with_reducible first | exact HB.out | apply below_alloc | apply pw_below_drewN | apply below_drew1) | exact HB.out))) : w.heap.size ≤ gb148)); have n3_ := Aside0.mk ((by rw [hg]; exact (below_size (by repeat (first | (with_reducible first | exact HB.out | apply below_alloc | apply pw_below_drewN | apply below_drew1) | exact HB.out))) : w.heap.size ≤ gb148)); clear HB; have HB := n0_; have BK148 := n1_; have GW148 := n2_; have GE148 := n3_; clear n0_ n1_ n2_ n3_; clear hb hbox hg; have hcz43_0 : w42.cell? ⟨gb148, 0, none⟩ = some (.int .u8 a0_0) := (blk_cell BK148.out 0).trans rfl; have hcz43_1 : w42.cell? ⟨gb148, 1, none⟩ = some (.int .u8 a0_1) := (blk_cell BK148.out 1).trans rfl; have hcz43_2 : w42.cell? ⟨gb148, 2, none⟩ = some (.int .u32 a0_2) := (blk_cell BK148.out 2).trans rfl; have hcz43_3 : w42.cell? ⟨gb148, 3, none⟩ = some (.string a0_3) := (blk_cell BK148.out 3).trans rfl; have hfz43_0 := blk_frozen BK148.out 0; have hfz43_1 := blk_frozen BK148.out 1; have hfz43_2 := blk_frozen BK148.out 2; have hfz43_3 := blk_frozen BK148.out 3) | ((with_reducible refine gate_callee (f := 26) rfl ?_); refine goesL_ (some 5) rfl rfl Try.func26 (by kernel_rfl) rfl #[.agg #[.int .u8 a0_0, .int .u8 a0_1, .int .u32 a0_2, .string a0_3]] rfl (by (try simp only [List.map_toArray, List.map_cons, List.map_nil]); first | done | rfl | (simp only [List.length_drop, List.length_take]; rfl)) ?_; (with_reducible refine (frame_place.calls k a0_0 a0_1 a0_2 a0_3 false _ A2.out).mono ?_); rintro e w44 ⟨rfl, hb⟩; refine ⟨_, rfl, ?_⟩; have n0_ := Aside0.mk (blk_below (g := gb148) (o := .cells #[.int .u8 a0_0, .int .u8 a0_1, .int .u32 a0_2, .string a0_3] 24 (0, 0)) (by (with_reducible repeat (first | refine blk_drewN ?_ _ | refine blk_drew ?_ | refine blk_alloc ?_ _)); exact BK148.out) hb); have n1_ := Aside0.mk (below_step (by repeat (first | (with_reducible first | exact HB.out | apply below_alloc | apply pw_below_drewN | apply below_drew1 | refine below_set ?_ GE148.out) | exact HB.out)) hb); clear BK148; clear HB; have BK148 := n0_; have HB := n1_; clear n0_ n1_; (try clear hb); (try clear hb2); (try clear hk); (try clear hi)))
  go_ret2
  exact ⟨by first | rfl | (simp [errW_none, errW_some] <;> rfl) | (simp [*, errW_none, errW_some] <;> rfl), by repeat (first | (with_reducible first | exact HB.out | apply below_alloc | apply pw_below_drewN | apply below_drew1 | refine below_set ?_ GE148.out) | exact HB.out)⟩

end Go.Proofs.Ytimhhacnpjcjnaa.Mine
