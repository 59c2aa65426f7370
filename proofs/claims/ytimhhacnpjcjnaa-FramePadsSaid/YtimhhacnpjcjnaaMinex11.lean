-- Written by this repo's own printer (wip/print), which builds on the kit's.
import Derived.Test.YtimhhacnpjcjnaaMinex0
import Derived.Test.YtimhhacnpjcjnaaMinex8
import Derived.Test.YtimhhacnpjcjnaaMinex10
namespace Go.Proofs.Ytimhhacnpjcjnaa.Mine
open Go.RowKit Go.Proofs.YtimhhacnpjcjnaaW.PrintWords Go.Proofs.YtimhhacnpjcjnaaW.PrintLast Go.Proofs.YtimhhacnpjcjnaaW.PrintMore
attribute [local go_sem] max2_int min2_int max_two min_two max_three min_three max_four min_four   -- for this text's walks alone
set_option linter.unusedVariables false
set_option linter.unusedSimpArgs false

/-! ### frame_Content: function 15 -/
def frame_Content.j0 : Nat → Bool → Int → Int → Int → ByteArray → Option (ByteArray)
 | 0, _, _, _, _, _ => none
 | k + 1, x22, x157000, x157001, x157002, x157003 => if x22 = true then (some x157003) else (if (Go.bits .and .u8 x157001 8) = 0 then ((frame_extra.f x157000 x157001 x157002 x157003).bind fun t159 => (if 0 ≤ t159 then (if t159 ≤ (x157003.size : Int) then (if (x157003.size : Int) ≤ (x157003.size : Int) then (some (x157003.extract (t159 : Int).toNat ((x157003.size : Int) : Int).toNat)) else (none)) else (none)) else (none))) else (if 0 < (x157003.size : Int) then ((frame_extra.f x157000 x157001 x157002 x157003).bind fun t160 => (if 0 ≤ t160 then (if t160 ≤ (wrap64 ((x157003.size : Int) - (wrap64 (bt x157003 0)))) then (if (wrap64 ((x157003.size : Int) - (wrap64 (bt x157003 0)))) ≤ (x157003.size : Int) then (some (x157003.extract (t160 : Int).toNat ((wrap64 ((x157003.size : Int) - (wrap64 (bt x157003 0)))) : Int).toNat)) else (none)) else (none)) else (none))) else (none)))
def frame_Content.f (k : Nat) (a0_0 : Int) (a0_1 : Int) (a0_2 : Int) (a0_3 : ByteArray) : Option (ByteArray) := (frame_Wrong.f k a0_0 a0_1 a0_2 a0_3).bind fun bt157 => (if bt157.1 = 2 then (frame_Content.j0 k true a0_0 a0_1 a0_2 a0_3) else (if a0_0 = 0 then (frame_Content.j0 k false a0_0 a0_1 a0_2 a0_3) else (frame_Content.j0 k (a0_0 != 1) a0_0 a0_1 a0_2 a0_3)))
theorem frame_Content.mono_l : ∀ k, (∀ y0 y1 y2 y3 y4, LeO (frame_Content.j0 k y0 y1 y2 y3 y4) (frame_Content.j0 (k + 1) y0 y1 y2 y3 y4))
 | 0 => fun _ _ _ _ _ r h => by simp [frame_Content.j0] at h
 | k + 1 => by
  have ih0 := frame_Content.mono_l k
  ·
   intro y0 y1 y2 y3 y4
   unfold frame_Content.j0
   repeat' first
   | (with_reducible exact ih0 _ _ _ _ _)
   | (with_reducible exact frame_Wrong.mono _ _ _ _ _)
   | (with_reducible exact LeO.refl _)
   | (with_reducible exact LeO.none _)
   | (with_reducible refine LeO.ite ?_ ?_)
   | (with_reducible refine LeO.bind ?_ (fun _ => ?_))
   | exact ih0 _ _ _ _ _
   | exact frame_Wrong.mono _ _ _ _ _
   | exact LeO.none _
   | refine LeO.ite ?_ ?_
   | refine LeO.bind ?_ (fun _ => ?_)
theorem frame_Content.mono : ∀ a0 a1 a2 a3 k, LeO (frame_Content.f k a0 a1 a2 a3) (frame_Content.f (k + 1) a0 a1 a2 a3) := by
 intro a0 a1 a2 a3 k
 have ih0 := frame_Content.mono_l k
 unfold frame_Content.f
 repeat' first
   | (with_reducible exact ih0 _ _ _ _ _)
   | (with_reducible exact frame_Wrong.mono _ _ _ _ _)
   | (with_reducible exact LeO.refl _)
   | (with_reducible exact LeO.none _)
   | (with_reducible refine LeO.ite ?_ ?_)
   | (with_reducible refine LeO.bind ?_ (fun _ => ?_))
   | exact ih0 _ _ _ _ _
   | exact frame_Wrong.mono _ _ _ _ _
   | exact LeO.none _
   | refine LeO.ite ?_ ?_
   | refine LeO.bind ?_ (fun _ => ?_)
set_option maxHeartbeats 8000000 in
set_option maxRecDepth 100000 in
theorem frame_Content.calls (k : Nat) (a0_0 : Int) (a0_1 : Int) (a0_2 : Int) (a0_3 : ByteArray) (r : ByteArray) (w : World) (h : frame_Content.f k a0_0 a0_1 a0_2 a0_3 = some r) :
  Calls Try.prog 15 #[.agg #[.int .u8 a0_0, .int .u8 a0_1, .int .u32 a0_2, .string a0_3]] w fun e w' => e = .returned (.string r) ∧ Below w.heap.size w w' := by
 have hu24 := Try.underlying24
 have HB := Aside0.mk (Below.refl w.heap.size w)
 have H : ((frame_Wrong.f k a0_0 a0_1 a0_2 a0_3).bind fun bt157 => (if bt157.1 = 2 then (frame_Content.j0 k true a0_0 a0_1 a0_2 a0_3) else (if a0_0 = 0 then (frame_Content.j0 k false a0_0 a0_1 a0_2 a0_3) else (frame_Content.j0 k (a0_0 != 1) a0_0 a0_1 a0_2 a0_3)))) = some r := h
 clear h
 replace H := Option.bind_eq_some_iff.mp H
 obtain ⟨⟨t157, t158⟩, A20, H⟩ := H
 replace H : (if t157 = 2 then (frame_Content.j0 k true a0_0 a0_1 a0_2 a0_3) else (if a0_0 = 0 then (frame_Content.j0 k false a0_0 a0_1 a0_2 a0_3) else (frame_Content.j0 k (a0_0 != 1) a0_0 a0_1 a0_2 a0_3))) = some r := H
 have A2 := Aside0.mk A20
 clear A20
 have HC3 := Aside0.mk H
 clear H
 go_enter Try.func15, Try.ntmps15
 go_upto_region 2 with (first | ((with_reducible refine gate_dst (N := 1) rfl ?_); refine box_event ?hg (N := 1) ?hd (cs := #[.int .u8 a0_0, .int .u8 a0_1, .int .u32 a0_2, .string a0_3]) (t := 24) ?hr ?_; (case hd => rfl); (case hg => rfl); (case hr => first | (go_simp; done) | (go_simp; rfl)); intro gb156 hg w4 hbox hb; have n0_ := Aside0.mk (below_step (by repeat (first | (with_reducible first | exact HB.out | apply below_alloc | apply pw_below_drewN | apply below_drew1) | exact HB.out)) hb); have n1_ := Aside0.mk (hbox); have n2_ := Aside0.mk ((by rw [hg]; exact (below_size (by repeat (first | (with_reducible first | exact HB.out | apply below_alloc | apply pw_below_drewN | apply below_drew1) | exact HB.out))) : w.heap.size ≤ gb156)); have n3_ := Aside0.mk ((by rw [hg]; exact (below_size (by repeat (first | (with_reducible first | exact HB.out | apply below_alloc | apply pw_below_drewN | apply below_drew1) | exact HB.out))) : w.heap.size ≤ gb156)); clear HB; have HB := n0_; have BK156 := n1_; have GW156 := n2_; have GE156 := n3_; clear n0_ n1_ n2_ n3_; clear hb hbox hg; have hcz5_0 : w4.cell? ⟨gb156, 0, none⟩ = some (.int .u8 a0_0) := (blk_cell BK156.out 0).trans rfl; have hcz5_1 : w4.cell? ⟨gb156, 1, none⟩ = some (.int .u8 a0_1) := (blk_cell BK156.out 1).trans rfl; have hcz5_2 : w4.cell? ⟨gb156, 2, none⟩ = some (.int .u32 a0_2) := (blk_cell BK156.out 2).trans rfl; have hcz5_3 : w4.cell? ⟨gb156, 3, none⟩ = some (.string a0_3) := (blk_cell BK156.out 3).trans rfl; have hfz5_0 := blk_frozen BK156.out 0; have hfz5_1 := blk_frozen BK156.out 1; have hfz5_2 := blk_frozen BK156.out 2; have hfz5_3 := blk_frozen BK156.out 3) | ((with_reducible refine gate_callee (f := 13) rfl ?_); refine goesL_ (some 8) rfl rfl Try.func13 (by kernel_rfl) rfl #[.agg #[.int .u8 a0_0, .int .u8 a0_1, .int .u32 a0_2, .string a0_3]] rfl (by (try simp only [List.map_toArray, List.map_cons, List.map_nil]); first | done | rfl | (simp only [List.length_drop, List.length_take]; rfl)) ?_; (with_reducible refine (frame_Wrong.calls k a0_0 a0_1 a0_2 a0_3 t157 t158 _ A2.out).mono ?_); rintro e w6 ⟨rfl, hb⟩; refine ⟨_, rfl, ?_⟩; have n0_ := Aside0.mk (blk_below (g := gb156) (o := .cells #[.int .u8 a0_0, .int .u8 a0_1, .int .u32 a0_2, .string a0_3] 24 (0, 0)) (by (with_reducible repeat (first | refine blk_drewN ?_ _ | refine blk_drew ?_ | refine blk_alloc ?_ _)); exact BK156.out) hb); have n1_ := Aside0.mk (below_step (by repeat (first | (with_reducible first | exact HB.out | apply below_alloc | apply pw_below_drewN | apply below_drew1 | refine below_set ?_ GE156.out) | exact HB.out)) hb); clear BK156; clear HB; have BK156 := n0_; have HB := n1_; clear n0_ n1_; (try clear hb); (try clear hb2); (try clear hk); (try clear hi)))
 (try simp only [Act.put, List.setIfInBounds_toArray, List.set_cons_zero, List.set_cons_succ])
 go_cut [22] (fun v22 wc => ∃ (kq : Nat) (x22_2 : Bool), v22 = .bool x22_2 ∧ Aside0 (frame_Content.j0 kq x22_2 a0_0 a0_1 a0_2 a0_3 = some r) ∧ Aside0 (kq ≤ k) ∧ Aside0 (wc.heap[gb156]? = some (.cells #[.int .u8 a0_0, .int .u8 a0_1, .int .u32 a0_2, .string a0_3] 24 (0, 0))) ∧ Aside0 (Below w.heap.size w wc))
 case first =>
  have H := HC3.out
  clear HC3
  by_cases c7 : t157 = 2
  ·
   rw [if_pos c7] at H
   have c7b0 : (t157 == 2) = true := beq_iff_eq.mpr c7
   have c7b1 : (t157 != 2) = false := bne_eq_false_iff_eq.mpr c7
   clear c7
   (first | rw [c7b0] | (simp only [i64_w, i32_w]; rw [c7b0]) | skip)
   have H' := Aside0.mk H
   clear H
   go_wp2
   go_meet
   case rel => exact ⟨_, (true), (by first | rfl | (simp; done) | (simp [*]; done)), H', ⟨by first | omega | exact Nat.le_refl _⟩, ⟨by (with_reducible repeat (first | refine blk_drewN ?_ _ | refine blk_drew ?_ | refine blk_alloc ?_ _)); exact BK156.out⟩, ⟨by repeat (first | (with_reducible first | exact HB.out | apply below_alloc | apply pw_below_drewN | apply below_drew1 | refine below_set ?_ GE156.out) | exact HB.out)⟩⟩
  ·
   rw [if_neg c7] at H
   have c7b0 : (t157 == 2) = false := beq_eq_false_iff_ne.mpr c7
   have c7b1 : (t157 != 2) = true := bne_iff_ne.mpr c7
   (first | rw [c7b0] | (simp only [i64_w, i32_w]; rw [c7b0]) | skip)
   by_cases c8 : a0_0 = 0
   ·
    rw [if_pos c8] at H
    have c8b0 : (a0_0 == 0) = true := beq_iff_eq.mpr c8
    have c8b1 : (a0_0 != 0) = false := bne_eq_false_iff_eq.mpr c8
    clear c8
    have H' := Aside0.mk H
    clear H
    have hcz9_0 : w6.cell? ⟨gb156, 0, none⟩ = some (.int .u8 a0_0) := (blk_cell BK156.out 0).trans rfl
    have hcz9_1 : w6.cell? ⟨gb156, 1, none⟩ = some (.int .u8 a0_1) := (blk_cell BK156.out 1).trans rfl
    have hcz9_2 : w6.cell? ⟨gb156, 2, none⟩ = some (.int .u32 a0_2) := (blk_cell BK156.out 2).trans rfl
    have hcz9_3 : w6.cell? ⟨gb156, 3, none⟩ = some (.string a0_3) := (blk_cell BK156.out 3).trans rfl
    have hfz9_0 := blk_frozen BK156.out 0
    have hfz9_1 := blk_frozen BK156.out 1
    have hfz9_2 := blk_frozen BK156.out 2
    have hfz9_3 := blk_frozen BK156.out 3
    go_wp2
    go_meet
    case rel => exact ⟨_, (false), (by first | rfl | (simp; done) | (simp [*]; done)), H', ⟨by first | omega | exact Nat.le_refl _⟩, ⟨by (with_reducible repeat (first | refine blk_drewN ?_ _ | refine blk_drew ?_ | refine blk_alloc ?_ _)); exact BK156.out⟩, ⟨by repeat (first | (with_reducible first | exact HB.out | apply below_alloc | apply pw_below_drewN | apply below_drew1 | refine below_set ?_ GE156.out) | exact HB.out)⟩⟩
   ·
    rw [if_neg c8] at H
    have c8b0 : (a0_0 == 0) = false := beq_eq_false_iff_ne.mpr c8
    have c8b1 : (a0_0 != 0) = true := bne_iff_ne.mpr c8
    have H' := Aside0.mk H
    clear H
    have hcz10_0 : w6.cell? ⟨gb156, 0, none⟩ = some (.int .u8 a0_0) := (blk_cell BK156.out 0).trans rfl
    have hcz10_1 : w6.cell? ⟨gb156, 1, none⟩ = some (.int .u8 a0_1) := (blk_cell BK156.out 1).trans rfl
    have hcz10_2 : w6.cell? ⟨gb156, 2, none⟩ = some (.int .u32 a0_2) := (blk_cell BK156.out 2).trans rfl
    have hcz10_3 : w6.cell? ⟨gb156, 3, none⟩ = some (.string a0_3) := (blk_cell BK156.out 3).trans rfl
    have hfz10_0 := blk_frozen BK156.out 0
    have hfz10_1 := blk_frozen BK156.out 1
    have hfz10_2 := blk_frozen BK156.out 2
    have hfz10_3 := blk_frozen BK156.out 3
    go_wp2
    go_meet
    case rel => exact ⟨_, ((a0_0 != 1)), (by first | rfl | (simp; done) | (simp [*]; done)), H', ⟨by first | omega | exact Nat.le_refl _⟩, ⟨by (with_reducible repeat (first | refine blk_drewN ?_ _ | refine blk_drew ?_ | refine blk_alloc ?_ _)); exact BK156.out⟩, ⟨by repeat (first | (with_reducible first | exact HB.out | apply below_alloc | apply pw_below_drewN | apply below_drew1 | refine below_set ?_ GE156.out) | exact HB.out)⟩⟩
 case rest =>
  clear HC3
  try clear c1
  try clear p2
  try clear c7
  try clear c7b0
  try clear c7b1
  try clear c8
  try clear c8b0
  try clear c8b1
  try clear hcz10_0
  try clear hcz10_1
  try clear hcz10_2
  try clear hcz10_3
  try clear hcz5_0
  try clear hcz5_1
  try clear hcz5_2
  try clear hcz5_3
  try clear hcz9_0
  try clear hcz9_1
  try clear hcz9_2
  try clear hcz9_3
  try clear hfz10_0
  try clear hfz10_1
  try clear hfz10_2
  try clear hfz10_3
  try clear hfz5_0
  try clear hfz5_1
  try clear hfz5_2
  try clear hfz5_3
  try clear hfz9_0
  try clear hfz9_1
  try clear hfz9_2
  try clear hfz9_3
  obtain ⟨kq, x22_2, rfl, HA, HJ2, BK156, HB⟩ := hcut
  cases kq with
  | zero => exact absurd HA.out (by simp [frame_Content.j0])
  | succ kj2 =>
   have H := HA.out
   clear HA
   simp only [frame_Content.j0] at H
   by_cases c11 : x22_2 = true
   ·
    subst c11
    have H1 : (some a0_3) = some r := by rw [if_pos rfl] at H; exact H
    clear H
    have H := H1
    clear H1
    obtain rfl := Option.some.inj H
    have hcz12_0 : wc.cell? ⟨gb156, 0, none⟩ = some (.int .u8 a0_0) := (blk_cell BK156.out 0).trans rfl
    have hcz12_1 : wc.cell? ⟨gb156, 1, none⟩ = some (.int .u8 a0_1) := (blk_cell BK156.out 1).trans rfl
    have hcz12_2 : wc.cell? ⟨gb156, 2, none⟩ = some (.int .u32 a0_2) := (blk_cell BK156.out 2).trans rfl
    have hcz12_3 : wc.cell? ⟨gb156, 3, none⟩ = some (.string a0_3) := (blk_cell BK156.out 3).trans rfl
    have hfz12_0 := blk_frozen BK156.out 0
    have hfz12_1 := blk_frozen BK156.out 1
    have hfz12_2 := blk_frozen BK156.out 2
    have hfz12_3 := blk_frozen BK156.out 3
    go_wp2
    go_ret
    exact ⟨by first | rfl | (simp [errW_none, errW_some] <;> rfl) | (simp [*, errW_none, errW_some] <;> rfl), by repeat (first | (with_reducible first | exact HB.out | apply below_alloc | apply pw_below_drewN | apply below_drew1 | refine below_set ?_ GE156.out) | exact HB.out)⟩
   ·
    replace c11 := Bool.eq_false_iff.mpr c11
    subst c11
    have H1 : (if (Go.bits .and .u8 a0_1 8) = 0 then ((frame_extra.f a0_0 a0_1 a0_2 a0_3).bind fun t159 => (if 0 ≤ t159 then (if t159 ≤ (a0_3.size : Int) then (if (a0_3.size : Int) ≤ (a0_3.size : Int) then (some (a0_3.extract (t159 : Int).toNat ((a0_3.size : Int) : Int).toNat)) else (none)) else (none)) else (none))) else (if 0 < (a0_3.size : Int) then ((frame_extra.f a0_0 a0_1 a0_2 a0_3).bind fun t160 => (if 0 ≤ t160 then (if t160 ≤ (wrap64 ((a0_3.size : Int) - (wrap64 (bt a0_3 0)))) then (if (wrap64 ((a0_3.size : Int) - (wrap64 (bt a0_3 0)))) ≤ (a0_3.size : Int) then (some (a0_3.extract (t160 : Int).toNat ((wrap64 ((a0_3.size : Int) - (wrap64 (bt a0_3 0)))) : Int).toNat)) else (none)) else (none)) else (none))) else (none))) = some r := by rw [if_neg (show ¬ (false = true) by decide)] at H; exact H
    clear H
    have H := H1
    clear H1
    by_cases c13 : (Go.bits .and .u8 a0_1 8) = 0
    ·
     rw [if_pos c13] at H
     have c13b0 : ((Go.bits .and .u8 a0_1 8) == 0) = true := beq_iff_eq.mpr c13
     have c13b1 : ((Go.bits .and .u8 a0_1 8) != 0) = false := bne_eq_false_iff_eq.mpr c13
     clear c13
     replace H := Option.bind_eq_some_iff.mp H
     obtain ⟨t159, A140, H⟩ := H
     replace H : (if 0 ≤ t159 then (if t159 ≤ (a0_3.size : Int) then (if (a0_3.size : Int) ≤ (a0_3.size : Int) then (some (a0_3.extract (t159 : Int).toNat ((a0_3.size : Int) : Int).toNat)) else (none)) else (none)) else (none)) = some r := H
     have A14 := Aside0.mk A140
     clear A140
     by_cases c15 : 0 ≤ t159
     ·
      rw [if_pos c15] at H
      have c15b0 := eq_true c15
      have c15b1 : decide (0 ≤ t159) = true := decide_eq_true c15
      clear c15
      by_cases c16 : t159 ≤ (a0_3.size : Int)
      ·
       rw [if_pos c16] at H
       have c16b0 := eq_true c16
       have c16b1 : decide (t159 ≤ (a0_3.size : Int)) = true := decide_eq_true c16
       clear c16
       by_cases c17 : (a0_3.size : Int) ≤ (a0_3.size : Int)
       ·
        rw [if_pos c17] at H
        have c17b0 := eq_true c17
        have c17b1 : decide ((a0_3.size : Int) ≤ (a0_3.size : Int)) = true := decide_eq_true c17
        clear c17
        obtain rfl := Option.some.inj H
        have hcz18_0 : wc.cell? ⟨gb156, 0, none⟩ = some (.int .u8 a0_0) := (blk_cell BK156.out 0).trans rfl
        have hcz18_1 : wc.cell? ⟨gb156, 1, none⟩ = some (.int .u8 a0_1) := (blk_cell BK156.out 1).trans rfl
        have hcz18_2 : wc.cell? ⟨gb156, 2, none⟩ = some (.int .u32 a0_2) := (blk_cell BK156.out 2).trans rfl
        have hcz18_3 : wc.cell? ⟨gb156, 3, none⟩ = some (.string a0_3) := (blk_cell BK156.out 3).trans rfl
        have hfz18_0 := blk_frozen BK156.out 0
        have hfz18_1 := blk_frozen BK156.out 1
        have hfz18_2 := blk_frozen BK156.out 2
        have hfz18_3 := blk_frozen BK156.out 3
        try go_wp2
        have n0_ := Aside0.mk (blk_drew BK156.out)
        have n1_ := Aside0.mk (below_drew1 HB.out)
        clear BK156
        clear HB
        have BK156 := n0_
        have HB := n1_
        clear n0_ n1_
        refine start_ (n := 7) (S := fun w' => w'.cell? ⟨gb156, 0, none⟩ = some (.int .u8 a0_0) ∧ w'.cell? ⟨gb156, 1, none⟩ = some (.int .u8 a0_1) ∧ w'.cell? ⟨gb156, 2, none⟩ = some (.int .u32 a0_2) ∧ w'.cell? ⟨gb156, 3, none⟩ = some (.string a0_3)) (ds := []) #[false, false, false, false, false, false, false] (by kernel_rfl) rfl rfl ⟨(blk_cell BK156.out 0).trans rfl, (blk_cell BK156.out 1).trans rfl, (blk_cell BK156.out 2).trans rfl, (blk_cell BK156.out 3).trans rfl⟩ (fun hHeld => ?_)
        generalize wc.drew = w19 at BK156 HB hHeld ⊢
        refine pure_ (i := 0) (N := some 38) (v := ?_) (a' := ?_) #[true, false, false, false, false, false, false] rfl rfl (by kernel_rfl) (fun _ _ _ h => h) (Or.inl ⟨by rfl, ?_⟩) ?_ ?_
        rotate_left
        ·
         intro w'
         go_simp
         with_reducible rfl
        rotate_left
        ·
         simp only [Act.put, List.setIfInBounds_toArray, List.set_cons_zero, List.set_cons_succ, i64_w, i32_w]
         rfl
        refine pure_ (i := 4) (N := some 42) (v := ?_) (a' := ?_) #[true, false, false, false, true, false, false] rfl rfl (by kernel_rfl) (fun _ _ _ h => h) (Or.inl ⟨by rfl, ?_⟩) ?_ ?_
        rotate_left
        ·
         intro w'
         go_simp
         with_reducible rfl
        rotate_left
        ·
         simp only [Act.put, List.setIfInBounds_toArray, List.set_cons_zero, List.set_cons_succ, i64_w, i32_w]
         rfl
        refine take_ (i := 1) (N := some 39) (v := ?_) (a' := ?_) #[true, true, false, false, true, false, false] rfl rfl (by kernel_rfl) (fun _ _ _ h => h) (Or.inl ⟨by rfl, ?_⟩) hHeld ?_ ?_
        rotate_left
        ·
         rintro w' ⟨s0, s1, s2, s3⟩
         go_simp
         with_reducible rfl
        rotate_left
        ·
         simp only [Act.put, List.setIfInBounds_toArray, List.set_cons_zero, List.set_cons_succ, i64_w, i32_w]
         rfl
        refine take_ (i := 2) (N := some 40) (v := ?_) (a' := ?_) #[true, true, true, false, true, false, false] rfl rfl (by kernel_rfl) (fun _ _ _ h => h) (Or.inl ⟨by rfl, ?_⟩) hHeld ?_ ?_
        rotate_left
        ·
         rintro w' ⟨s0, s1, s2, s3⟩
         go_simp
         with_reducible rfl
        rotate_left
        ·
         simp only [Act.put, List.setIfInBounds_toArray, List.set_cons_zero, List.set_cons_succ, i64_w, i32_w]
         rfl
        refine one_ (i := 3) (N := some 41) #[true, true, true, true, true, false, false] rfl rfl (by kernel_rfl) (by decide) (fun K hK => ?_)
        refine goes_ Try.func33 (by kernel_rfl) rfl #[.agg #[.int .u8 a0_0, .int .u8 a0_1, .int .u32 a0_2, .string a0_3]] (by rfl) rfl rfl (by (try simp only [List.map_toArray, List.map_cons, List.map_nil]); first | done | rfl | (simp only [List.length_drop, List.length_take]; rfl)) ?_
        with_reducible refine (frame_extra.calls a0_0 a0_1 a0_2 a0_3 t159 _ A14.out).mono ?_
        rintro e w20 ⟨rfl, hb⟩
        refine ⟨_, rfl, ?_⟩
        have n0_ := Aside0.mk (blk_below (g := gb156) (o := .cells #[.int .u8 a0_0, .int .u8 a0_1, .int .u32 a0_2, .string a0_3] 24 (0, 0)) (by (with_reducible repeat (first | refine blk_drewN ?_ _ | refine blk_drew ?_ | refine blk_alloc ?_ _)); exact BK156.out) hb)
        have n1_ := Aside0.mk (below_step (by repeat (first | (with_reducible first | exact HB.out | apply below_alloc | apply pw_below_drewN | apply below_drew1 | refine below_set ?_ GE156.out) | exact HB.out)) hb)
        clear BK156
        clear HB
        have BK156 := n0_
        have HB := n1_
        clear n0_ n1_
        (try clear hb)
        (try clear hb2)
        (try clear hk)
        (try clear hi)
        refine hK.out _ _ ⟨(blk_cell BK156.out 0).trans rfl, (blk_cell BK156.out 1).trans rfl, (blk_cell BK156.out 2).trans rfl, (blk_cell BK156.out 3).trans rfl⟩ (fun hHeld => ?_)
        clear hK K
        refine norm_ (a' := ?_) ?_ ?_
        rotate_left
        ·
         show Act.put _ (some 41) _ = _
         simp only [Act.put, List.setIfInBounds_toArray, List.set_cons_zero, List.set_cons_succ, i64_w, i32_w]
         rfl
        refine pure_ (i := 5) (N := some 43) (v := ?_) (a' := ?_) #[true, true, true, true, true, true, false] rfl rfl (by kernel_rfl) (fun _ _ _ h => h) (Or.inl ⟨by rfl, ?_⟩) ?_ ?_
        rotate_left
        ·
         intro w'
         go_simp
         with_reducible rfl
        rotate_left
        ·
         simp only [Act.put, List.setIfInBounds_toArray, List.set_cons_zero, List.set_cons_succ, i64_w, i32_w]
         rfl
        refine pure_ (i := 6) (N := some 2) (v := ?_) (a' := ?_) #[true, true, true, true, true, true, true] rfl rfl (by kernel_rfl) (fun _ _ _ h => h) (Or.inl ⟨by rfl, ?_⟩) ?_ ?_
        rotate_left
        ·
         intro w'
         go_simp
         with_reducible rfl
        rotate_left
        ·
         simp only [Act.put, List.setIfInBounds_toArray, List.set_cons_zero, List.set_cons_succ, i64_w, i32_w]
         rfl
        refine done_ (by kernel_rfl) ?_
        try go_wp2
        go_ret
        exact ⟨by first | rfl | (simp [errW_none, errW_some] <;> rfl) | (simp [*, errW_none, errW_some] <;> rfl), by repeat (first | (with_reducible first | exact HB.out | apply below_alloc | apply pw_below_drewN | apply below_drew1 | refine below_set ?_ GE156.out) | exact HB.out)⟩
       ·
        rw [if_neg c17] at H
        exact absurd H (by simp)
      ·
       rw [if_neg c16] at H
       exact absurd H (by simp)
     ·
      rw [if_neg c15] at H
      exact absurd H (by simp)
    ·
     rw [if_neg c13] at H
     have c13b0 : ((Go.bits .and .u8 a0_1 8) == 0) = false := beq_eq_false_iff_ne.mpr c13
     have c13b1 : ((Go.bits .and .u8 a0_1 8) != 0) = true := bne_iff_ne.mpr c13
     by_cases c21 : 0 < (a0_3.size : Int)
     ·
      rw [if_pos c21] at H
      have c21b0 : decide (0 < (a0_3.size : Int)) = true := decide_eq_true c21
      have c21b1 : decide (0 < a0_3.size) = true := decide_eq_true (by omega)
      clear c21
      replace H := Option.bind_eq_some_iff.mp H
      obtain ⟨t160, A230, H⟩ := H
      replace H : (if 0 ≤ t160 then (if t160 ≤ (wrap64 ((a0_3.size : Int) - (wrap64 (bt a0_3 0)))) then (if (wrap64 ((a0_3.size : Int) - (wrap64 (bt a0_3 0)))) ≤ (a0_3.size : Int) then (some (a0_3.extract (t160 : Int).toNat ((wrap64 ((a0_3.size : Int) - (wrap64 (bt a0_3 0)))) : Int).toNat)) else (none)) else (none)) else (none)) = some r := H
      have A23 := Aside0.mk A230
      clear A230
      by_cases c24 : 0 ≤ t160
      ·
       rw [if_pos c24] at H
       have c24b0 := eq_true c24
       have c24b1 : decide (0 ≤ t160) = true := decide_eq_true c24
       clear c24
       by_cases c25 : t160 ≤ (wrap64 ((a0_3.size : Int) - (wrap64 (bt a0_3 0))))
       ·
        rw [if_pos c25] at H
        have c25b0 := eq_true c25
        have c25b1 : decide (t160 ≤ (wrap64 ((a0_3.size : Int) - (wrap64 (bt a0_3 0))))) = true := decide_eq_true c25
        clear c25
        by_cases c26 : (wrap64 ((a0_3.size : Int) - (wrap64 (bt a0_3 0)))) ≤ (a0_3.size : Int)
        ·
         rw [if_pos c26] at H
         have c26b0 := eq_true c26
         have c26b1 : decide ((wrap64 ((a0_3.size : Int) - (wrap64 (bt a0_3 0)))) ≤ (a0_3.size : Int)) = true := decide_eq_true c26
         clear c26
         obtain rfl := Option.some.inj H
         have hcz27_0 : wc.cell? ⟨gb156, 0, none⟩ = some (.int .u8 a0_0) := (blk_cell BK156.out 0).trans rfl
         have hcz27_1 : wc.cell? ⟨gb156, 1, none⟩ = some (.int .u8 a0_1) := (blk_cell BK156.out 1).trans rfl
         have hcz27_2 : wc.cell? ⟨gb156, 2, none⟩ = some (.int .u32 a0_2) := (blk_cell BK156.out 2).trans rfl
         have hcz27_3 : wc.cell? ⟨gb156, 3, none⟩ = some (.string a0_3) := (blk_cell BK156.out 3).trans rfl
         have hfz27_0 := blk_frozen BK156.out 0
         have hfz27_1 := blk_frozen BK156.out 1
         have hfz27_2 := blk_frozen BK156.out 2
         have hfz27_3 := blk_frozen BK156.out 3
         have p22 : 0 ≤ (0 : Int) := (by omega)
         have q22 : 0 < a0_3.size := (by have : (0 : Int) < (a0_3.size : Int) := of_decide_eq_true (by first | (with_reducible assumption) | assumption); omega)
         have hx22 : ∀ h : 0 < a0_3.size, ((a0_3[0]'h).toNat : Int) = bt a0_3 0 := bt_at a0_3 0
         clear p22
         have qi22 : (0 < (a0_3.size : Int)) = True := eq_true (of_decide_eq_true (by first | (with_reducible assumption) | assumption))
         replace q22 := eq_true q22
         try go_wp2
         have n0_ := Aside0.mk (blk_drew BK156.out)
         have n1_ := Aside0.mk (below_drew1 HB.out)
         clear BK156
         clear HB
         have BK156 := n0_
         have HB := n1_
         clear n0_ n1_
         refine start_ (n := 7) (S := fun w' => w'.cell? ⟨gb156, 0, none⟩ = some (.int .u8 a0_0) ∧ w'.cell? ⟨gb156, 1, none⟩ = some (.int .u8 a0_1) ∧ w'.cell? ⟨gb156, 2, none⟩ = some (.int .u32 a0_2) ∧ w'.cell? ⟨gb156, 3, none⟩ = some (.string a0_3)) (ds := []) #[false, false, false, false, false, false, false] (by kernel_rfl) rfl rfl ⟨(blk_cell BK156.out 0).trans rfl, (blk_cell BK156.out 1).trans rfl, (blk_cell BK156.out 2).trans rfl, (blk_cell BK156.out 3).trans rfl⟩ (fun hHeld => ?_)
         generalize wc.drew = w28 at BK156 HB hHeld ⊢
         refine pure_ (i := 0) (N := some 38) (v := ?_) (a' := ?_) #[true, false, false, false, false, false, false] rfl rfl (by kernel_rfl) (fun _ _ _ h => h) (Or.inl ⟨by rfl, ?_⟩) ?_ ?_
         rotate_left
         ·
          intro w'
          go_simp
          with_reducible rfl
         rotate_left
         ·
          simp only [Act.put, List.setIfInBounds_toArray, List.set_cons_zero, List.set_cons_succ, i64_w, i32_w]
          rfl
         refine pure_ (i := 4) (N := some 42) (v := ?_) (a' := ?_) #[true, false, false, false, true, false, false] rfl rfl (by kernel_rfl) (fun _ _ _ h => h) (Or.inl ⟨by rfl, ?_⟩) ?_ ?_
         rotate_left
         ·
          intro w'
          go_simp
          with_reducible rfl
         rotate_left
         ·
          simp only [Act.put, List.setIfInBounds_toArray, List.set_cons_zero, List.set_cons_succ, i64_w, i32_w]
          rfl
         refine take_ (i := 1) (N := some 39) (v := ?_) (a' := ?_) #[true, true, false, false, true, false, false] rfl rfl (by kernel_rfl) (fun _ _ _ h => h) (Or.inl ⟨by rfl, ?_⟩) hHeld ?_ ?_
         rotate_left
         ·
          rintro w' ⟨s0, s1, s2, s3⟩
          go_simp
          with_reducible rfl
         rotate_left
         ·
          simp only [Act.put, List.setIfInBounds_toArray, List.set_cons_zero, List.set_cons_succ, i64_w, i32_w]
          rfl
         refine take_ (i := 2) (N := some 40) (v := ?_) (a' := ?_) #[true, true, true, false, true, false, false] rfl rfl (by kernel_rfl) (fun _ _ _ h => h) (Or.inl ⟨by rfl, ?_⟩) hHeld ?_ ?_
         rotate_left
         ·
          rintro w' ⟨s0, s1, s2, s3⟩
          go_simp
          with_reducible rfl
         rotate_left
         ·
          simp only [Act.put, List.setIfInBounds_toArray, List.set_cons_zero, List.set_cons_succ, i64_w, i32_w]
          rfl
         refine one_ (i := 3) (N := some 41) #[true, true, true, true, true, false, false] rfl rfl (by kernel_rfl) (by decide) (fun K hK => ?_)
         refine goes_ Try.func33 (by kernel_rfl) rfl #[.agg #[.int .u8 a0_0, .int .u8 a0_1, .int .u32 a0_2, .string a0_3]] (by rfl) rfl rfl (by (try simp only [List.map_toArray, List.map_cons, List.map_nil]); first | done | rfl | (simp only [List.length_drop, List.length_take]; rfl)) ?_
         with_reducible refine (frame_extra.calls a0_0 a0_1 a0_2 a0_3 t160 _ A23.out).mono ?_
         rintro e w29 ⟨rfl, hb⟩
         refine ⟨_, rfl, ?_⟩
         have n0_ := Aside0.mk (blk_below (g := gb156) (o := .cells #[.int .u8 a0_0, .int .u8 a0_1, .int .u32 a0_2, .string a0_3] 24 (0, 0)) (by (with_reducible repeat (first | refine blk_drewN ?_ _ | refine blk_drew ?_ | refine blk_alloc ?_ _)); exact BK156.out) hb)
         have n1_ := Aside0.mk (below_step (by repeat (first | (with_reducible first | exact HB.out | apply below_alloc | apply pw_below_drewN | apply below_drew1 | refine below_set ?_ GE156.out) | exact HB.out)) hb)
         clear BK156
         clear HB
         have BK156 := n0_
         have HB := n1_
         clear n0_ n1_
         (try clear hb)
         (try clear hb2)
         (try clear hk)
         (try clear hi)
         refine hK.out _ _ ⟨(blk_cell BK156.out 0).trans rfl, (blk_cell BK156.out 1).trans rfl, (blk_cell BK156.out 2).trans rfl, (blk_cell BK156.out 3).trans rfl⟩ (fun hHeld => ?_)
         clear hK K
         refine norm_ (a' := ?_) ?_ ?_
         rotate_left
         ·
          show Act.put _ (some 41) _ = _
          simp only [Act.put, List.setIfInBounds_toArray, List.set_cons_zero, List.set_cons_succ, i64_w, i32_w]
          rfl
         refine pure_ (i := 5) (N := some 43) (v := ?_) (a' := ?_) #[true, true, true, true, true, true, false] rfl rfl (by kernel_rfl) (fun _ _ _ h => h) (Or.inl ⟨by rfl, ?_⟩) ?_ ?_
         rotate_left
         ·
          intro w'
          go_simp
          with_reducible rfl
         rotate_left
         ·
          simp only [Act.put, List.setIfInBounds_toArray, List.set_cons_zero, List.set_cons_succ, i64_w, i32_w]
          rfl
         refine pure_ (i := 6) (N := some 2) (v := ?_) (a' := ?_) #[true, true, true, true, true, true, true] rfl rfl (by kernel_rfl) (fun _ _ _ h => h) (Or.inl ⟨by rfl, ?_⟩) ?_ ?_
         rotate_left
         ·
          intro w'
          go_simp
          with_reducible rfl
         rotate_left
         ·
          simp only [Act.put, List.setIfInBounds_toArray, List.set_cons_zero, List.set_cons_succ, i64_w, i32_w]
          rfl
         refine done_ (by kernel_rfl) ?_
         try go_wp2
         go_ret
         exact ⟨by first | rfl | (simp [errW_none, errW_some] <;> rfl) | (simp [*, errW_none, errW_some] <;> rfl), by repeat (first | (with_reducible first | exact HB.out | apply below_alloc | apply pw_below_drewN | apply below_drew1 | refine below_set ?_ GE156.out) | exact HB.out)⟩
        ·
         rw [if_neg c26] at H
         exact absurd H (by simp)
       ·
        rw [if_neg c25] at H
        exact absurd H (by simp)
      ·
       rw [if_neg c24] at H
       exact absurd H (by simp)
     ·
      rw [if_neg c21] at H
      exact absurd H (by simp)

end Go.Proofs.Ytimhhacnpjcjnaa.Mine
