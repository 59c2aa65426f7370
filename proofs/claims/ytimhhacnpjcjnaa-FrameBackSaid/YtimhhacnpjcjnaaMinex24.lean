-- Written by this repo's own printer (wip/print), which builds on the kit's.
import Derived.Test.YtimhhacnpjcjnaaMinex0
import Derived.Test.YtimhhacnpjcjnaaMinex1
import Derived.Test.YtimhhacnpjcjnaaMinex3
import Derived.Test.YtimhhacnpjcjnaaMinex5
import Derived.Test.YtimhhacnpjcjnaaMinex13
namespace Go.Proofs.Ytimhhacnpjcjnaa.Mine
open Go.RowKit Go.Proofs.YtimhhacnpjcjnaaW.PrintWords Go.Proofs.YtimhhacnpjcjnaaW.PrintLast Go.Proofs.YtimhhacnpjcjnaaW.PrintMore
attribute [local go_sem] max2_int min2_int max_two min_two max_three min_three max_four min_four   -- for this text's walks alone
set_option linter.unusedVariables false
set_option linter.unusedSimpArgs false

attribute [local go_sem high] eqA24
/-! ### nunciolaw14_FrameBack: function 5 -/
mutual
def nunciolaw14_FrameBack.j0 : Nat → ByteArray → ByteArray → Bool → Int → Int → Int → ByteArray → Option (Bool)
  | 0, _, _, _, _, _, _, _ => none
  | k + 1, x1, x2, x35, x275000, x275001, x275002, x275003 => if x35 = true then (some true) else ((frame_Print.f k x275000 x275001 x275002 x275003).bind fun bt276 => (if bt276.2 = 0 then (if bt276.1.size + x1.size ≤ 9223372036854775807 then ((frame_Parse.f k (bt276.1 ++ x1)).bind fun bt278 => (if 0 ≤ (wrap64 ((bt276.1.size : Int) - 1)) then (if (wrap64 ((bt276.1.size : Int) - 1)) ≤ (bt276.1.size : Int) then ((frame_Parse.f k (bt276.1.extract 0 ((wrap64 ((bt276.1.size : Int) - 1)) : Int).toNat)).bind fun bt285 => (if (!(bt278.1 == x275000) || (!(bt278.2.1 == x275001) || (!(bt278.2.2.1 == x275002) || (!(bt278.2.2.2.1.toList == x275003.toList))))) = true then (some false) else (if bt278.2.2.2.2.1 = (bt276.1.size : Int) then (if bt278.2.2.2.2.2 = 0 then (if bt285.2.2.2.2.2 = 2 then (nunciolaw14_FrameBack.j1 k x2) else (some false)) else (some false)) else (some false)))) else (none)) else (none))) else (none)) else (if x275002 ≤ 2147483647 then (if (x275003.size : Int) ≤ 16384 then (some false) else (nunciolaw14_FrameBack.j1 k x2)) else (nunciolaw14_FrameBack.j1 k x2))))
def nunciolaw14_FrameBack.j1 : Nat → ByteArray → Option (Bool)
  | 0, _ => none
  | k + 1, x2 => (frame_Parse.f k x2).bind fun bt292 => (if bt292.2.2.2.2.2 = 0 then ((frame_Print.f k bt292.1 bt292.2.1 bt292.2.2.1 bt292.2.2.2.1).bind fun bt299 => (if bt299.2 = 0 then (if (bt299.1.size : Int) = bt292.2.2.2.2.1 then (if 0 ≤ 5 then (if 5 ≤ (bt299.1.size : Int) then (if 5 ≤ (x2.size : Int) then (if (bt299.1.extract 0 5).toList = (x2.extract 0 5).toList then (if 6 ≤ (bt299.1.size : Int) then (if 6 ≤ bt292.2.2.2.2.1 then (if bt292.2.2.2.2.1 ≤ (x2.size : Int) then (if (bt299.1.extract 6 bt299.1.size).toList = (x2.extract 6 (bt292.2.2.2.2.1 : Int).toNat).toList then (if 5 < (bt299.1.size : Int) then (if 5 < (x2.size : Int) then (some ((Int.tmod (bt bt299.1 5) 128) == (Int.tmod (bt x2 5) 128))) else (none)) else (none)) else (some false)) else (none)) else (none)) else (none)) else (some false)) else (none)) else (none)) else (none)) else (some false)) else (some false))) else (some (bt292.2.2.2.2.1 == 0)))
end
def nunciolaw14_FrameBack.f (k : Nat) (a0_0 : Int) (a0_1 : Int) (a0_2 : Int) (a0_3 : ByteArray) (a1 : ByteArray) (a2 : ByteArray) : Option (Bool) := (nunciolaw14_awake.f k).bind fun t275 => (if t275 = true then (if (a0_3.size : Int) > 40000 then (nunciolaw14_FrameBack.j0 k a1 a2 true a0_0 a0_1 a0_2 a0_3) else (if (a1.size : Int) > 1000 then (nunciolaw14_FrameBack.j0 k a1 a2 true a0_0 a0_1 a0_2 a0_3) else (nunciolaw14_FrameBack.j0 k a1 a2 (decide ((a2.size : Int) > 40000)) a0_0 a0_1 a0_2 a0_3))) else (some false))
theorem nunciolaw14_FrameBack.mono_l : ∀ k, (∀ y0 y1 y2 y3 y4 y5 y6, LeO (nunciolaw14_FrameBack.j0 k y0 y1 y2 y3 y4 y5 y6) (nunciolaw14_FrameBack.j0 (k + 1) y0 y1 y2 y3 y4 y5 y6)) ∧ (∀ y0, LeO (nunciolaw14_FrameBack.j1 k y0) (nunciolaw14_FrameBack.j1 (k + 1) y0))
  | 0 => ⟨fun _ _ _ _ _ _ _ r h => by simp [nunciolaw14_FrameBack.j0] at h, fun _ r h => by simp [nunciolaw14_FrameBack.j1] at h⟩
  | k + 1 => by
    obtain ⟨ih0, ih1⟩ := nunciolaw14_FrameBack.mono_l k
    refine ⟨?_, ?_⟩
    · intro y0 y1 y2 y3 y4 y5 y6
      unfold nunciolaw14_FrameBack.j0
      repeat' first
      | (with_reducible exact ih0 _ _ _ _ _ _ _)
      | (with_reducible exact ih1 _)
      | (with_reducible exact frame_Parse.mono _ _)
      | (with_reducible exact frame_Print.mono _ _ _ _ _)
      | (with_reducible exact nunciolaw14_awake.mono _)
      | (with_reducible exact LeO.refl _)
      | (with_reducible exact LeO.none _)
      | (with_reducible refine LeO.ite ?_ ?_)
      | (with_reducible refine LeO.bind ?_ (fun _ => ?_))
      | exact ih0 _ _ _ _ _ _ _
      | exact ih1 _
      | exact frame_Parse.mono _ _
      | exact frame_Print.mono _ _ _ _ _
      | exact nunciolaw14_awake.mono _
      | exact LeO.none _
      | refine LeO.ite ?_ ?_
      | refine LeO.bind ?_ (fun _ => ?_)
    · intro y0
      unfold nunciolaw14_FrameBack.j1
      repeat' first
      | (with_reducible exact ih0 _ _ _ _ _ _ _)
      | (with_reducible exact ih1 _)
      | (with_reducible exact frame_Parse.mono _ _)
      | (with_reducible exact frame_Print.mono _ _ _ _ _)
      | (with_reducible exact nunciolaw14_awake.mono _)
      | (with_reducible exact LeO.refl _)
      | (with_reducible exact LeO.none _)
      | (with_reducible refine LeO.ite ?_ ?_)
      | (with_reducible refine LeO.bind ?_ (fun _ => ?_))
      | exact ih0 _ _ _ _ _ _ _
      | exact ih1 _
      | exact frame_Parse.mono _ _
      | exact frame_Print.mono _ _ _ _ _
      | exact nunciolaw14_awake.mono _
      | exact LeO.none _
      | refine LeO.ite ?_ ?_
      | refine LeO.bind ?_ (fun _ => ?_)
theorem nunciolaw14_FrameBack.mono : ∀ a0 a1 a2 a3 a4 a5 k, LeO (nunciolaw14_FrameBack.f k a0 a1 a2 a3 a4 a5) (nunciolaw14_FrameBack.f (k + 1) a0 a1 a2 a3 a4 a5) := by
  intro a0 a1 a2 a3 a4 a5 k
  obtain ⟨ih0, ih1⟩ := nunciolaw14_FrameBack.mono_l k
  unfold nunciolaw14_FrameBack.f
  repeat' first
      | (with_reducible exact ih0 _ _ _ _ _ _ _)
      | (with_reducible exact ih1 _)
      | (with_reducible exact frame_Parse.mono _ _)
      | (with_reducible exact frame_Print.mono _ _ _ _ _)
      | (with_reducible exact nunciolaw14_awake.mono _)
      | (with_reducible exact LeO.refl _)
      | (with_reducible exact LeO.none _)
      | (with_reducible refine LeO.ite ?_ ?_)
      | (with_reducible refine LeO.bind ?_ (fun _ => ?_))
      | exact ih0 _ _ _ _ _ _ _
      | exact ih1 _
      | exact frame_Parse.mono _ _
      | exact frame_Print.mono _ _ _ _ _
      | exact nunciolaw14_awake.mono _
      | exact LeO.none _
      | refine LeO.ite ?_ ?_
      | refine LeO.bind ?_ (fun _ => ?_)
set_option maxHeartbeats 8000000 in
set_option maxRecDepth 100000 in
theorem nunciolaw14_FrameBack.calls (k : Nat) (a0_0 : Int) (a0_1 : Int) (a0_2 : Int) (a0_3 : ByteArray) (a1 : ByteArray) (a2 : ByteArray) (r : Bool) (w : World) (h : nunciolaw14_FrameBack.f k a0_0 a0_1 a0_2 a0_3 a1 a2 = some r) (hT : r = true) :
    Calls Try.prog 5 #[.agg #[.int .u8 a0_0, .int .u8 a0_1, .int .u32 a0_2, .string a0_3], .string a1, .string a2] w fun e w' => e = .returned (.bool r) ∧ Below w.heap.size w w' := by
  have hu24 := Try.underlying24
  have HB := Aside0.mk (Below.refl w.heap.size w)
  have HT := Aside0.mk hT
  clear hT
  have H : ((nunciolaw14_awake.f k).bind fun t275 => (if t275 = true then (if (a0_3.size : Int) > 40000 then (nunciolaw14_FrameBack.j0 k a1 a2 true a0_0 a0_1 a0_2 a0_3) else (if (a1.size : Int) > 1000 then (nunciolaw14_FrameBack.j0 k a1 a2 true a0_0 a0_1 a0_2 a0_3) else (nunciolaw14_FrameBack.j0 k a1 a2 (decide ((a2.size : Int) > 40000)) a0_0 a0_1 a0_2 a0_3))) else (some false))) = some r := h
  clear h
  replace H := Option.bind_eq_some_iff.mp H
  obtain ⟨t275, A40, H⟩ := H
  replace H : (if t275 = true then (if (a0_3.size : Int) > 40000 then (nunciolaw14_FrameBack.j0 k a1 a2 true a0_0 a0_1 a0_2 a0_3) else (if (a1.size : Int) > 1000 then (nunciolaw14_FrameBack.j0 k a1 a2 true a0_0 a0_1 a0_2 a0_3) else (nunciolaw14_FrameBack.j0 k a1 a2 (decide ((a2.size : Int) > 40000)) a0_0 a0_1 a0_2 a0_3))) else (some false)) = some r := H
  have A4 := Aside0.mk A40
  clear A40
  by_cases c5 : t275 = true
  · subst c5
    have H1 : (if (a0_3.size : Int) > 40000 then (nunciolaw14_FrameBack.j0 k a1 a2 true a0_0 a0_1 a0_2 a0_3) else (if (a1.size : Int) > 1000 then (nunciolaw14_FrameBack.j0 k a1 a2 true a0_0 a0_1 a0_2 a0_3) else (nunciolaw14_FrameBack.j0 k a1 a2 (decide ((a2.size : Int) > 40000)) a0_0 a0_1 a0_2 a0_3))) = some r := by rw [if_pos rfl] at H; exact H
    clear H
    have H := H1
    clear H1
    have HC6 := Aside0.mk H
    clear H
    go_enter Try.func5, Try.ntmps5
    go_upto_region 3 with (first | ((with_reducible refine gate_dst (N := 3) rfl ?_); (try (refine gate_guard (by rfl) ?_; dsimp only)); refine box_event ?hg (N := 3) ?hd (cs := #[.int .u8 a0_0, .int .u8 a0_1, .int .u32 a0_2, .string a0_3]) (t := 24) ?hr ?_; (case hd => rfl); (case hg => rfl); (case hr => first | (go_simp; done) | (go_simp; rfl)); intro gb274 hg w7 hbox hb; have n0_ := Aside0.mk (below_step (by repeat (first | (with_reducible first | exact HB.out | apply below_alloc | apply pw_below_drewN | apply below_drew1) | exact HB.out)) hb); have n1_ := Aside0.mk (hbox); have n2_ := Aside0.mk ((by rw [hg]; exact (below_size (by repeat (first | (with_reducible first | exact HB.out | apply below_alloc | apply pw_below_drewN | apply below_drew1) | exact HB.out))) : w.heap.size ≤ gb274)); have n3_ := Aside0.mk ((by rw [hg]; exact (below_size (by repeat (first | (with_reducible first | exact HB.out | apply below_alloc | apply pw_below_drewN | apply below_drew1) | exact HB.out))) : w.heap.size ≤ gb274)); clear HB; have HB := n0_; have BK274 := n1_; have GW274 := n2_; have GE274 := n3_; clear n0_ n1_ n2_ n3_; clear hb hbox hg) | (go_at_call 8; (with_reducible refine (nunciolaw14_awake.calls k  true _ A4.out).mono ?_); rintro e w8 ⟨rfl, hb⟩; have n0_ := Aside0.mk (blk_below (g := gb274) (o := .cells #[.int .u8 a0_0, .int .u8 a0_1, .int .u32 a0_2, .string a0_3] 24 (0, 0)) (by (with_reducible repeat (first | refine blk_drewN ?_ _ | refine blk_drew ?_ | refine blk_alloc ?_ _)); exact BK274.out) hb); have n1_ := Aside0.mk (below_step (by repeat (first | (with_reducible first | exact HB.out | apply below_alloc | apply pw_below_drewN | apply below_drew1 | refine below_set ?_ GE274.out) | exact HB.out)) hb); clear BK274; clear HB; have BK274 := n0_; have HB := n1_; clear n0_ n1_; (try clear hb); (try clear hb2); (try clear hk); (try clear hi)))
    repeat (go_quiet (first | ((with_reducible refine gate_dst (N := 3) rfl ?_); (try (refine gate_guard (by rfl) ?_; dsimp only)); refine box_event ?hg (N := 3) ?hd (cs := #[.int .u8 a0_0, .int .u8 a0_1, .int .u32 a0_2, .string a0_3]) (t := 24) ?hr ?_; (case hd => rfl); (case hg => rfl); (case hr => first | (go_simp; done) | (go_simp; rfl)); intro gb274 hg w7 hbox hb; have n0_ := Aside0.mk (below_step (by repeat (first | (with_reducible first | exact HB.out | apply below_alloc | apply pw_below_drewN | apply below_drew1) | exact HB.out)) hb); have n1_ := Aside0.mk (hbox); have n2_ := Aside0.mk ((by rw [hg]; exact (below_size (by repeat (first | (with_reducible first | exact HB.out | apply below_alloc | apply pw_below_drewN | apply below_drew1) | exact HB.out))) : w.heap.size ≤ gb274)); have n3_ := Aside0.mk ((by rw [hg]; exact (below_size (by repeat (first | (with_reducible first | exact HB.out | apply below_alloc | apply pw_below_drewN | apply below_drew1) | exact HB.out))) : w.heap.size ≤ gb274)); clear HB; have HB := n0_; have BK274 := n1_; have GW274 := n2_; have GE274 := n3_; clear n0_ n1_ n2_ n3_; clear hb hbox hg) | (go_at_call 8; (with_reducible refine (nunciolaw14_awake.calls k  true _ A4.out).mono ?_); rintro e w8 ⟨rfl, hb⟩; have n0_ := Aside0.mk (blk_below (g := gb274) (o := .cells #[.int .u8 a0_0, .int .u8 a0_1, .int .u32 a0_2, .string a0_3] 24 (0, 0)) (by (with_reducible repeat (first | refine blk_drewN ?_ _ | refine blk_drew ?_ | refine blk_alloc ?_ _)); exact BK274.out) hb); have n1_ := Aside0.mk (below_step (by repeat (first | (with_reducible first | exact HB.out | apply below_alloc | apply pw_below_drewN | apply below_drew1 | refine below_set ?_ GE274.out) | exact HB.out)) hb); clear BK274; clear HB; have BK274 := n0_; have HB := n1_; clear n0_ n1_; (try clear hb); (try clear hb2); (try clear hk); (try clear hi))); go_upto_region 3 with (first | ((with_reducible refine gate_dst (N := 3) rfl ?_); (try (refine gate_guard (by rfl) ?_; dsimp only)); refine box_event ?hg (N := 3) ?hd (cs := #[.int .u8 a0_0, .int .u8 a0_1, .int .u32 a0_2, .string a0_3]) (t := 24) ?hr ?_; (case hd => rfl); (case hg => rfl); (case hr => first | (go_simp; done) | (go_simp; rfl)); intro gb274 hg w7 hbox hb; have n0_ := Aside0.mk (below_step (by repeat (first | (with_reducible first | exact HB.out | apply below_alloc | apply pw_below_drewN | apply below_drew1) | exact HB.out)) hb); have n1_ := Aside0.mk (hbox); have n2_ := Aside0.mk ((by rw [hg]; exact (below_size (by repeat (first | (with_reducible first | exact HB.out | apply below_alloc | apply pw_below_drewN | apply below_drew1) | exact HB.out))) : w.heap.size ≤ gb274)); have n3_ := Aside0.mk ((by rw [hg]; exact (below_size (by repeat (first | (with_reducible first | exact HB.out | apply below_alloc | apply pw_below_drewN | apply below_drew1) | exact HB.out))) : w.heap.size ≤ gb274)); clear HB; have HB := n0_; have BK274 := n1_; have GW274 := n2_; have GE274 := n3_; clear n0_ n1_ n2_ n3_; clear hb hbox hg) | (go_at_call 8; (with_reducible refine (nunciolaw14_awake.calls k  true _ A4.out).mono ?_); rintro e w8 ⟨rfl, hb⟩; have n0_ := Aside0.mk (blk_below (g := gb274) (o := .cells #[.int .u8 a0_0, .int .u8 a0_1, .int .u32 a0_2, .string a0_3] 24 (0, 0)) (by (with_reducible repeat (first | refine blk_drewN ?_ _ | refine blk_drew ?_ | refine blk_alloc ?_ _)); exact BK274.out) hb); have n1_ := Aside0.mk (below_step (by repeat (first | (with_reducible first | exact HB.out | apply below_alloc | apply pw_below_drewN | apply below_drew1 | refine below_set ?_ GE274.out) | exact HB.out)) hb); clear BK274; clear HB; have BK274 := n0_; have HB := n1_; clear n0_ n1_; (try clear hb); (try clear hb2); (try clear hk); (try clear hi))))
    (try simp only [Act.put, List.setIfInBounds_toArray, List.set_cons_zero, List.set_cons_succ])
    go_cut [35] (fun v35 wc => ∃ (kq : Nat) (x35_5 : Bool), v35 = .bool x35_5 ∧ Aside0 (nunciolaw14_FrameBack.j0 kq a1 a2 x35_5 a0_0 a0_1 a0_2 a0_3 = some r) ∧ Aside0 (kq ≤ k) ∧ Aside0 (wc.heap[gb274]? = some (.cells #[.int .u8 a0_0, .int .u8 a0_1, .int .u32 a0_2, .string a0_3] 24 (0, 0))) ∧ Aside0 (Below w.heap.size w wc))
    case first =>
      have H := HC6.out
      clear HC6
      by_cases c9 : (a0_3.size : Int) > 40000
      · rw [if_pos c9] at H
        have c9b0 : decide (40000 < (a0_3.size : Int)) = true := decide_eq_true c9
        have c9b1 : decide (40000 < a0_3.size) = true := decide_eq_true (by omega)
        clear c9
        (first | rw [c9b0] | (simp only [i64_w, i32_w]; rw [c9b0]) | skip)
        have H' := Aside0.mk H
        clear H
        have hcz10_0 : w8.cell? ⟨gb274, 0, none⟩ = some (.int .u8 a0_0) := (blk_cell BK274.out 0).trans rfl
        have hcz10_1 : w8.cell? ⟨gb274, 1, none⟩ = some (.int .u8 a0_1) := (blk_cell BK274.out 1).trans rfl
        have hcz10_2 : w8.cell? ⟨gb274, 2, none⟩ = some (.int .u32 a0_2) := (blk_cell BK274.out 2).trans rfl
        have hcz10_3 : w8.cell? ⟨gb274, 3, none⟩ = some (.string a0_3) := (blk_cell BK274.out 3).trans rfl
        have hfz10_0 := blk_frozen BK274.out 0
        have hfz10_1 := blk_frozen BK274.out 1
        have hfz10_2 := blk_frozen BK274.out 2
        have hfz10_3 := blk_frozen BK274.out 3
        go_wp2
        repeat (go_quiet (fail); try go_wp2)
        go_meet
        case rel => exact ⟨_, (true), (by first | rfl | (simp; done) | (simp [*]; done)), H', ⟨by first | omega | exact Nat.le_refl _⟩, ⟨by (with_reducible repeat (first | refine blk_drewN ?_ _ | refine blk_drew ?_ | refine blk_alloc ?_ _)); exact BK274.out⟩, ⟨by repeat (first | (with_reducible first | exact HB.out | apply below_alloc | apply pw_below_drewN | apply below_drew1 | refine below_set ?_ GE274.out) | exact HB.out)⟩⟩
      · rw [if_neg c9] at H
        have c9b0 : decide (40000 < (a0_3.size : Int)) = false := decide_eq_false c9
        have c9b1 : decide (40000 < a0_3.size) = false := decide_eq_false (by omega)
        clear c9
        (first | rw [c9b0] | (simp only [i64_w, i32_w]; rw [c9b0]) | skip)
        by_cases c11 : (a1.size : Int) > 1000
        · rw [if_pos c11] at H
          have c11b0 : decide (1000 < (a1.size : Int)) = true := decide_eq_true c11
          have c11b1 : decide (1000 < a1.size) = true := decide_eq_true (by omega)
          clear c11
          have H' := Aside0.mk H
          clear H
          have hcz12_0 : w8.cell? ⟨gb274, 0, none⟩ = some (.int .u8 a0_0) := (blk_cell BK274.out 0).trans rfl
          have hcz12_1 : w8.cell? ⟨gb274, 1, none⟩ = some (.int .u8 a0_1) := (blk_cell BK274.out 1).trans rfl
          have hcz12_2 : w8.cell? ⟨gb274, 2, none⟩ = some (.int .u32 a0_2) := (blk_cell BK274.out 2).trans rfl
          have hcz12_3 : w8.cell? ⟨gb274, 3, none⟩ = some (.string a0_3) := (blk_cell BK274.out 3).trans rfl
          have hfz12_0 := blk_frozen BK274.out 0
          have hfz12_1 := blk_frozen BK274.out 1
          have hfz12_2 := blk_frozen BK274.out 2
          have hfz12_3 := blk_frozen BK274.out 3
          go_wp2
          repeat (go_quiet (fail); try go_wp2)
          go_meet
          case rel => exact ⟨_, (true), (by first | rfl | (simp; done) | (simp [*]; done)), H', ⟨by first | omega | exact Nat.le_refl _⟩, ⟨by (with_reducible repeat (first | refine blk_drewN ?_ _ | refine blk_drew ?_ | refine blk_alloc ?_ _)); exact BK274.out⟩, ⟨by repeat (first | (with_reducible first | exact HB.out | apply below_alloc | apply pw_below_drewN | apply below_drew1 | refine below_set ?_ GE274.out) | exact HB.out)⟩⟩
        · rw [if_neg c11] at H
          have c11b0 : decide (1000 < (a1.size : Int)) = false := decide_eq_false c11
          have c11b1 : decide (1000 < a1.size) = false := decide_eq_false (by omega)
          clear c11
          have H' := Aside0.mk H
          clear H
          have hcz13_0 : w8.cell? ⟨gb274, 0, none⟩ = some (.int .u8 a0_0) := (blk_cell BK274.out 0).trans rfl
          have hcz13_1 : w8.cell? ⟨gb274, 1, none⟩ = some (.int .u8 a0_1) := (blk_cell BK274.out 1).trans rfl
          have hcz13_2 : w8.cell? ⟨gb274, 2, none⟩ = some (.int .u32 a0_2) := (blk_cell BK274.out 2).trans rfl
          have hcz13_3 : w8.cell? ⟨gb274, 3, none⟩ = some (.string a0_3) := (blk_cell BK274.out 3).trans rfl
          have hfz13_0 := blk_frozen BK274.out 0
          have hfz13_1 := blk_frozen BK274.out 1
          have hfz13_2 := blk_frozen BK274.out 2
          have hfz13_3 := blk_frozen BK274.out 3
          go_wp2
          repeat (go_quiet (fail); try go_wp2)
          go_meet
          case rel => exact ⟨_, (decide ((a2.size : Int) > 40000)), (by first | rfl | (simp; done) | (simp [*]; done)), H', ⟨by first | omega | exact Nat.le_refl _⟩, ⟨by (with_reducible repeat (first | refine blk_drewN ?_ _ | refine blk_drew ?_ | refine blk_alloc ?_ _)); exact BK274.out⟩, ⟨by repeat (first | (with_reducible first | exact HB.out | apply below_alloc | apply pw_below_drewN | apply below_drew1 | refine below_set ?_ GE274.out) | exact HB.out)⟩⟩
    case rest =>
      clear HC6
      try clear c1
      try clear p2
      try clear c5
      try clear c9
      try clear c9b0
      try clear c9b1
      try clear c11
      try clear c11b0
      try clear c11b1
      try clear hcz10_0
      try clear hcz10_1
      try clear hcz10_2
      try clear hcz10_3
      try clear hcz12_0
      try clear hcz12_1
      try clear hcz12_2
      try clear hcz12_3
      try clear hcz13_0
      try clear hcz13_1
      try clear hcz13_2
      try clear hcz13_3
      try clear hfz10_0
      try clear hfz10_1
      try clear hfz10_2
      try clear hfz10_3
      try clear hfz12_0
      try clear hfz12_1
      try clear hfz12_2
      try clear hfz12_3
      try clear hfz13_0
      try clear hfz13_1
      try clear hfz13_2
      try clear hfz13_3
      obtain ⟨kq, x35_5, rfl, HA, HJ5, BK274, HB⟩ := hcut
      cases kq with
      | zero => exact absurd HA.out (by simp [nunciolaw14_FrameBack.j0])
      | succ kj5 =>
        have H := HA.out
        clear HA
        simp only [nunciolaw14_FrameBack.j0] at H
        by_cases c14 : x35_5 = true
        · subst c14
          have H1 : (some true) = some r := by rw [if_pos rfl] at H; exact H
          clear H
          have H := H1
          clear H1
          obtain rfl := Option.some.inj H
          go_wp2
          repeat (go_quiet (fail); try go_wp2)
          go_ret
          exact ⟨by first | rfl | (simp [errW_none, errW_some] <;> rfl) | (simp [*, errW_none, errW_some] <;> rfl), by repeat (first | (with_reducible first | exact HB.out | apply below_alloc | apply pw_below_drewN | apply below_drew1 | refine below_set ?_ GE274.out) | exact HB.out)⟩
        · replace c14 := Bool.eq_false_iff.mpr c14
          subst c14
          have H1 : ((frame_Print.f kj5 a0_0 a0_1 a0_2 a0_3).bind fun bt276 => (if bt276.2 = 0 then (if bt276.1.size + a1.size ≤ 9223372036854775807 then ((frame_Parse.f kj5 (bt276.1 ++ a1)).bind fun bt278 => (if 0 ≤ (wrap64 ((bt276.1.size : Int) - 1)) then (if (wrap64 ((bt276.1.size : Int) - 1)) ≤ (bt276.1.size : Int) then ((frame_Parse.f kj5 (bt276.1.extract 0 ((wrap64 ((bt276.1.size : Int) - 1)) : Int).toNat)).bind fun bt285 => (if (!(bt278.1 == a0_0) || (!(bt278.2.1 == a0_1) || (!(bt278.2.2.1 == a0_2) || (!(bt278.2.2.2.1.toList == a0_3.toList))))) = true then (some false) else (if bt278.2.2.2.2.1 = (bt276.1.size : Int) then (if bt278.2.2.2.2.2 = 0 then (if bt285.2.2.2.2.2 = 2 then (nunciolaw14_FrameBack.j1 kj5 a2) else (some false)) else (some false)) else (some false)))) else (none)) else (none))) else (none)) else (if a0_2 ≤ 2147483647 then (if (a0_3.size : Int) ≤ 16384 then (some false) else (nunciolaw14_FrameBack.j1 kj5 a2)) else (nunciolaw14_FrameBack.j1 kj5 a2)))) = some r := by rw [if_neg (show ¬ (false = true) by decide)] at H; exact H
          clear H
          have H := H1
          clear H1
          replace H := Option.bind_eq_some_iff.mp H
          obtain ⟨⟨t276, t277⟩, A150, H⟩ := H
          replace H : (if t277 = 0 then (if t276.size + a1.size ≤ 9223372036854775807 then ((frame_Parse.f kj5 (t276 ++ a1)).bind fun bt278 => (if 0 ≤ (wrap64 ((t276.size : Int) - 1)) then (if (wrap64 ((t276.size : Int) - 1)) ≤ (t276.size : Int) then ((frame_Parse.f kj5 (t276.extract 0 ((wrap64 ((t276.size : Int) - 1)) : Int).toNat)).bind fun bt285 => (if (!(bt278.1 == a0_0) || (!(bt278.2.1 == a0_1) || (!(bt278.2.2.1 == a0_2) || (!(bt278.2.2.2.1.toList == a0_3.toList))))) = true then (some false) else (if bt278.2.2.2.2.1 = (t276.size : Int) then (if bt278.2.2.2.2.2 = 0 then (if bt285.2.2.2.2.2 = 2 then (nunciolaw14_FrameBack.j1 kj5 a2) else (some false)) else (some false)) else (some false)))) else (none)) else (none))) else (none)) else (if a0_2 ≤ 2147483647 then (if (a0_3.size : Int) ≤ 16384 then (some false) else (nunciolaw14_FrameBack.j1 kj5 a2)) else (nunciolaw14_FrameBack.j1 kj5 a2))) = some r := H
          have A15 := Aside0.mk A150
          clear A150
          have HC16 := Aside0.mk H
          clear H
          have hcz17_0 : wc.cell? ⟨gb274, 0, none⟩ = some (.int .u8 a0_0) := (blk_cell BK274.out 0).trans rfl
          have hcz17_1 : wc.cell? ⟨gb274, 1, none⟩ = some (.int .u8 a0_1) := (blk_cell BK274.out 1).trans rfl
          have hcz17_2 : wc.cell? ⟨gb274, 2, none⟩ = some (.int .u32 a0_2) := (blk_cell BK274.out 2).trans rfl
          have hcz17_3 : wc.cell? ⟨gb274, 3, none⟩ = some (.string a0_3) := (blk_cell BK274.out 3).trans rfl
          have hfz17_0 := blk_frozen BK274.out 0
          have hfz17_1 := blk_frozen BK274.out 1
          have hfz17_2 := blk_frozen BK274.out 2
          have hfz17_3 := blk_frozen BK274.out 3
          go_upto_if 42 with (first | (go_at_call 11; (with_reducible refine (frame_Print.calls kj5 a0_0 a0_1 a0_2 a0_3 t276 t277 _ A15.out).mono ?_); rintro e w18 ⟨rfl, hb⟩; have n0_ := Aside0.mk (blk_below (g := gb274) (o := .cells #[.int .u8 a0_0, .int .u8 a0_1, .int .u32 a0_2, .string a0_3] 24 (0, 0)) (by (with_reducible repeat (first | refine blk_drewN ?_ _ | refine blk_drew ?_ | refine blk_alloc ?_ _)); exact BK274.out) hb); have n1_ := Aside0.mk (below_step (by repeat (first | (with_reducible first | exact HB.out | apply below_alloc | apply pw_below_drewN | apply below_drew1 | refine below_set ?_ GE274.out) | exact HB.out)) hb); clear BK274; clear HB; have BK274 := n0_; have HB := n1_; clear n0_ n1_; (try clear hb); (try clear hb2); (try clear hk); (try clear hi)))
          repeat (go_quiet (first | (go_at_call 11; (with_reducible refine (frame_Print.calls kj5 a0_0 a0_1 a0_2 a0_3 t276 t277 _ A15.out).mono ?_); rintro e w18 ⟨rfl, hb⟩; have n0_ := Aside0.mk (blk_below (g := gb274) (o := .cells #[.int .u8 a0_0, .int .u8 a0_1, .int .u32 a0_2, .string a0_3] 24 (0, 0)) (by (with_reducible repeat (first | refine blk_drewN ?_ _ | refine blk_drew ?_ | refine blk_alloc ?_ _)); exact BK274.out) hb); have n1_ := Aside0.mk (below_step (by repeat (first | (with_reducible first | exact HB.out | apply below_alloc | apply pw_below_drewN | apply below_drew1 | refine below_set ?_ GE274.out) | exact HB.out)) hb); clear BK274; clear HB; have BK274 := n0_; have HB := n1_; clear n0_ n1_; (try clear hb); (try clear hb2); (try clear hk); (try clear hi))); go_upto_if 42 with (first | (go_at_call 11; (with_reducible refine (frame_Print.calls kj5 a0_0 a0_1 a0_2 a0_3 t276 t277 _ A15.out).mono ?_); rintro e w18 ⟨rfl, hb⟩; have n0_ := Aside0.mk (blk_below (g := gb274) (o := .cells #[.int .u8 a0_0, .int .u8 a0_1, .int .u32 a0_2, .string a0_3] 24 (0, 0)) (by (with_reducible repeat (first | refine blk_drewN ?_ _ | refine blk_drew ?_ | refine blk_alloc ?_ _)); exact BK274.out) hb); have n1_ := Aside0.mk (below_step (by repeat (first | (with_reducible first | exact HB.out | apply below_alloc | apply pw_below_drewN | apply below_drew1 | refine below_set ?_ GE274.out) | exact HB.out)) hb); clear BK274; clear HB; have BK274 := n0_; have HB := n1_; clear n0_ n1_; (try clear hb); (try clear hb2); (try clear hk); (try clear hi))))
          (try simp only [Act.put, List.setIfInBounds_toArray, List.set_cons_zero, List.set_cons_succ])
          go_cut [] (fun wc => ∃ (kq : Nat), Aside0 (nunciolaw14_FrameBack.j1 kq a2 = some r) ∧ Aside0 (kq ≤ kj5) ∧ Aside0 (wc.heap[gb274]? = some (.cells #[.int .u8 a0_0, .int .u8 a0_1, .int .u32 a0_2, .string a0_3] 24 (0, 0))) ∧ Aside0 (Below w.heap.size w wc))
          case first =>
            have H := HC16.out
            clear HC16
            by_cases c19 : t277 = 0
            · rw [if_pos c19] at H
              have c19b0 : (t277 == 0) = true := beq_iff_eq.mpr c19
              have c19b1 : (t277 != 0) = false := bne_eq_false_iff_eq.mpr c19
              clear c19
              (first | rw [c19b0] | (simp only [i64_w, i32_w]; rw [c19b0]) | skip)
              by_cases c20 : t276.size + a1.size ≤ 9223372036854775807
              · rw [if_pos c20] at H
                have c20b0 := eq_true c20
                have c20b1 : decide (t276.size + a1.size ≤ 9223372036854775807) = true := decide_eq_true c20
                try have c20b2 : (9223372036854775807 < t276.size + a1.size) = False := eq_false (Nat.not_lt.2 c20)
                replace H := Option.bind_eq_some_iff.mp H
                obtain ⟨⟨t278, t279, t280, t281, t282, t283⟩, A210, H⟩ := H
                replace H : (if 0 ≤ (wrap64 ((t276.size : Int) - 1)) then (if (wrap64 ((t276.size : Int) - 1)) ≤ (t276.size : Int) then ((frame_Parse.f kj5 (t276.extract 0 ((wrap64 ((t276.size : Int) - 1)) : Int).toNat)).bind fun bt285 => (if (!(t278 == a0_0) || (!(t279 == a0_1) || (!(t280 == a0_2) || (!(t281.toList == a0_3.toList))))) = true then (some false) else (if t282 = (t276.size : Int) then (if t283 = 0 then (if bt285.2.2.2.2.2 = 2 then (nunciolaw14_FrameBack.j1 kj5 a2) else (some false)) else (some false)) else (some false)))) else (none)) else (none)) = some r := H
                have A21 := Aside0.mk A210
                clear A210
                obtain ⟨ji22, hji22⟩ : ∃ j_ : Int, (wrap64 ((t276.size : Int) - 1)) = j_ := ⟨_, rfl⟩
                replace H : (if 0 ≤ (ji22) then (if (ji22) ≤ (t276.size : Int) then ((frame_Parse.f kj5 (t276.extract 0 ((ji22) : Int).toNat)).bind fun bt285 => (if (!(t278 == a0_0) || (!(t279 == a0_1) || (!(t280 == a0_2) || (!(t281.toList == a0_3.toList))))) = true then (some false) else (if t282 = (t276.size : Int) then (if t283 = 0 then (if bt285.2.2.2.2.2 = 2 then (nunciolaw14_FrameBack.j1 kj5 a2) else (some false)) else (some false)) else (some false)))) else (none)) else (none)) = some r := by first | (rw [hji22] at H; exact H) | (simp only [hji22] at H ⊢; exact H)
                (try rw [hji22] at A21)
                have hji22w : (IntKind.i64.wrap ((t276.size : Int) - 1)) = ji22 := (i64_w _).trans hji22
                by_cases c23 : 0 ≤ (ji22)
                · rw [if_pos c23] at H
                  have c23b0 := eq_true c23
                  have c23b1 : decide (0 ≤ (ji22)) = true := decide_eq_true c23
                  clear c23
                  by_cases c24 : (ji22) ≤ (t276.size : Int)
                  · rw [if_pos c24] at H
                    have c24b0 := eq_true c24
                    have c24b1 : decide ((ji22) ≤ (t276.size : Int)) = true := decide_eq_true c24
                    clear c24
                    replace H := Option.bind_eq_some_iff.mp H
                    obtain ⟨⟨t285, t286, t287, t288, t289, t290⟩, A250, H⟩ := H
                    replace H : (if (!(t278 == a0_0) || (!(t279 == a0_1) || (!(t280 == a0_2) || (!(t281.toList == a0_3.toList))))) = true then (some false) else (if t282 = (t276.size : Int) then (if t283 = 0 then (if t290 = 2 then (nunciolaw14_FrameBack.j1 kj5 a2) else (some false)) else (some false)) else (some false))) = some r := H
                    have A25 := Aside0.mk A250
                    clear A250
                    by_cases c26 : (!(t278 == a0_0) || (!(t279 == a0_1) || (!(t280 == a0_2) || (!(t281.toList == a0_3.toList))))) = true
                    · rw [if_pos c26] at H
                      have c26b0 : (!(t278 == a0_0) || (!(t279 == a0_1) || (!(t280 == a0_2) || (!(t281.toList == a0_3.toList))))) = true := c26
                      clear c26
                      (try (have c26b9 := c26b0; simp only [beq_true, beq_false] at c26b9))
                      exact absurd ((Option.some.inj H).trans HT.out) (by decide)
                    · rw [if_neg c26] at H
                      have c26b0 : (!(t278 == a0_0) || (!(t279 == a0_1) || (!(t280 == a0_2) || (!(t281.toList == a0_3.toList))))) = false := by simpa using c26
                      clear c26
                      (try (have c26b9 := c26b0; simp only [beq_true, beq_false] at c26b9))
                      by_cases c27 : t282 = (t276.size : Int)
                      · rw [if_pos c27] at H
                        have c27b0 : (t282 == (t276.size : Int)) = true := beq_iff_eq.mpr c27
                        have c27b1 : (t282 != (t276.size : Int)) = false := bne_eq_false_iff_eq.mpr c27
                        clear c27
                        by_cases c28 : t283 = 0
                        · rw [if_pos c28] at H
                          have c28b0 : (t283 == 0) = true := beq_iff_eq.mpr c28
                          have c28b1 : (t283 != 0) = false := bne_eq_false_iff_eq.mpr c28
                          clear c28
                          by_cases c29 : t290 = 2
                          · rw [if_pos c29] at H
                            have c29b0 : (t290 == 2) = true := beq_iff_eq.mpr c29
                            have c29b1 : (t290 != 2) = false := bne_eq_false_iff_eq.mpr c29
                            clear c29
                            have H' := Aside0.mk H
                            clear H
                            go_wp2_with (first | (go_at_call 9; (with_reducible refine (frame_Parse.calls kj5 (t276 ++ a1) t278 t279 t280 t281 t282 t283 _ A21.out).mono ?_); rintro e w30 ⟨rfl, hb⟩; have n0_ := Aside0.mk (blk_below (g := gb274) (o := .cells #[.int .u8 a0_0, .int .u8 a0_1, .int .u32 a0_2, .string a0_3] 24 (0, 0)) (by (with_reducible repeat (first | refine blk_drewN ?_ _ | refine blk_drew ?_ | refine blk_alloc ?_ _)); exact BK274.out) hb); have n1_ := Aside0.mk (below_step (by repeat (first | (with_reducible first | exact HB.out | apply below_alloc | apply pw_below_drewN | apply below_drew1 | refine below_set ?_ GE274.out) | exact HB.out)) hb); clear BK274; clear HB; have BK274 := n0_; have HB := n1_; clear n0_ n1_; (try clear hb); (try clear hb2); (try clear hk); (try clear hi)) | ((with_reducible refine gate_dst (N := 9) rfl ?_); (try (refine gate_guard (by rfl) ?_; dsimp only)); refine box_event ?hg (N := 9) ?hd (cs := #[.int .u8 0, .int .u8 0, .int .u32 0, .string (⟨#[]⟩ : ByteArray)]) (t := 24) ?hr ?_; (case hd => rfl); (case hg => rfl); (case hr => first | (go_simp; done) | (go_simp; rfl)); intro gb284 hg w31 hbox hb; have n0_ := Aside0.mk (blk_below (g := gb274) (o := .cells #[.int .u8 a0_0, .int .u8 a0_1, .int .u32 a0_2, .string a0_3] 24 (0, 0)) (by (with_reducible repeat (first | refine blk_drewN ?_ _ | refine blk_drew ?_ | refine blk_alloc ?_ _)); exact BK274.out) hb); have n1_ := Aside0.mk (below_step (by repeat (first | (with_reducible first | exact HB.out | apply below_alloc | apply pw_below_drewN | apply below_drew1 | refine below_set ?_ GE274.out) | exact HB.out)) hb); have n2_ := Aside0.mk (hbox); have n3_ := Aside0.mk ((by rw [hg]; exact (below_size (by repeat (first | (with_reducible first | exact HB.out | apply below_alloc | apply pw_below_drewN | apply below_drew1 | refine below_set ?_ GE274.out) | exact HB.out))) : w.heap.size ≤ gb284)); have n4_ := Aside0.mk ((by rw [hg]; exact (below_size (by repeat (first | (with_reducible first | exact HB.out | apply below_alloc | apply pw_below_drewN | apply below_drew1 | refine below_set ?_ GE274.out) | exact HB.out))) : w.heap.size ≤ gb284)); have n5_ := Aside0.mk ((by rw [hg]; exact Nat.ne_of_lt (blk_lt (g := gb274) (o := .cells #[.int .u8 a0_0, .int .u8 a0_1, .int .u32 a0_2, .string a0_3] 24 (0, 0)) (by (with_reducible repeat (first | refine blk_drewN ?_ _ | refine blk_drew ?_ | refine blk_alloc ?_ _)); exact BK274.out)) : gb274 ≠ gb284)); have n6_ := Aside0.mk ((by rw [hg]; exact Nat.ne_of_gt (blk_lt (g := gb274) (o := .cells #[.int .u8 a0_0, .int .u8 a0_1, .int .u32 a0_2, .string a0_3] 24 (0, 0)) (by (with_reducible repeat (first | refine blk_drewN ?_ _ | refine blk_drew ?_ | refine blk_alloc ?_ _)); exact BK274.out)) : gb284 ≠ gb274)); clear BK274; clear HB; have BK274 := n0_; have HB := n1_; have BK284 := n2_; have GW284 := n3_; have GE284 := n4_; have NB274_284 := n5_; have NB284_274 := n6_; clear n0_ n1_ n2_ n3_ n4_ n5_ n6_; clear hb hbox hg; have hnb32 := NB284_274.out; have hnc32 := NB274_284.out; have hcz33_0 : w31.cell? ⟨gb284, 0, none⟩ = some (.int .u8 0) := (blk_cell BK284.out 0).trans rfl; have hcz33_1 : w31.cell? ⟨gb284, 1, none⟩ = some (.int .u8 0) := (blk_cell BK284.out 1).trans rfl; have hcz33_2 : w31.cell? ⟨gb284, 2, none⟩ = some (.int .u32 0) := (blk_cell BK284.out 2).trans rfl; have hcz33_3 : w31.cell? ⟨gb284, 3, none⟩ = some (.string (⟨#[]⟩ : ByteArray)) := (blk_cell BK284.out 3).trans rfl; have hfz33_0 := blk_frozen BK284.out 0; have hfz33_1 := blk_frozen BK284.out 1; have hfz33_2 := blk_frozen BK284.out 2; have hfz33_3 := blk_frozen BK284.out 3) | (go_at_call 9; (with_reducible refine (frame_Parse.calls kj5 (t276.extract 0 ((ji22) : Int).toNat) t285 t286 t287 t288 t289 t290 _ A25.out).mono ?_); rintro e w34 ⟨rfl, hb⟩; have n0_ := Aside0.mk (blk_below (g := gb274) (o := .cells #[.int .u8 a0_0, .int .u8 a0_1, .int .u32 a0_2, .string a0_3] 24 (0, 0)) (by (with_reducible repeat (first | refine blk_drewN ?_ _ | refine blk_drew ?_ | refine blk_alloc ?_ _)); refine blk_far ?_ NB274_284.out _; (with_reducible repeat (first | refine blk_drewN ?_ _ | refine blk_drew ?_ | refine blk_alloc ?_ _)); refine blk_far ?_ NB274_284.out _; (with_reducible repeat (first | refine blk_drewN ?_ _ | refine blk_drew ?_ | refine blk_alloc ?_ _)); refine blk_far ?_ NB274_284.out _; (with_reducible repeat (first | refine blk_drewN ?_ _ | refine blk_drew ?_ | refine blk_alloc ?_ _)); refine blk_far ?_ NB274_284.out _; (with_reducible repeat (first | refine blk_drewN ?_ _ | refine blk_drew ?_ | refine blk_alloc ?_ _)); exact BK274.out) hb); have n1_ := Aside0.mk (blk_below (g := gb284) (o := .cells #[.int .u8 t278, .int .u8 t279, .int .u32 t280, .string t281] 24 (0, 0)) (by (with_reducible repeat (first | refine blk_drewN ?_ _ | refine blk_drew ?_ | refine blk_alloc ?_ _)); refine blk_put (cs := #[.int .u8 t278, .int .u8 t279, .int .u32 t280, .string (⟨#[]⟩ : ByteArray)]) ?_ 3 _ rfl; (with_reducible repeat (first | refine blk_drewN ?_ _ | refine blk_drew ?_ | refine blk_alloc ?_ _)); refine blk_put (cs := #[.int .u8 t278, .int .u8 t279, .int .u32 0, .string (⟨#[]⟩ : ByteArray)]) ?_ 2 _ rfl; (with_reducible repeat (first | refine blk_drewN ?_ _ | refine blk_drew ?_ | refine blk_alloc ?_ _)); refine blk_put (cs := #[.int .u8 t278, .int .u8 0, .int .u32 0, .string (⟨#[]⟩ : ByteArray)]) ?_ 1 _ rfl; (with_reducible repeat (first | refine blk_drewN ?_ _ | refine blk_drew ?_ | refine blk_alloc ?_ _)); refine blk_put (cs := #[.int .u8 0, .int .u8 0, .int .u32 0, .string (⟨#[]⟩ : ByteArray)]) ?_ 0 _ rfl; (with_reducible repeat (first | refine blk_drewN ?_ _ | refine blk_drew ?_ | refine blk_alloc ?_ _)); exact BK284.out) hb); have n2_ := Aside0.mk (below_step (by repeat (first | (with_reducible first | exact HB.out | apply below_alloc | apply pw_below_drewN | apply below_drew1 | refine below_set ?_ GE274.out | refine below_set ?_ GE284.out) | exact HB.out)) hb); clear BK274; clear BK284; clear HB; have BK274 := n0_; have BK284 := n1_; have HB := n2_; clear n0_ n1_ n2_; (try clear hb); (try clear hb2); (try clear hk); (try clear hi)) | ((with_reducible refine gate_dst (N := 12) rfl ?_); (try (refine gate_guard (by rfl) ?_; dsimp only)); refine box_event ?hg (N := 12) ?hd (cs := #[.int .u8 0, .int .u8 0, .int .u32 0, .string (⟨#[]⟩ : ByteArray)]) (t := 24) ?hr ?_; (case hd => rfl); (case hg => rfl); (case hr => first | (go_simp; done) | (go_simp; rfl)); intro gb291 hg w35 hbox hb; have n0_ := Aside0.mk (blk_below (g := gb274) (o := .cells #[.int .u8 a0_0, .int .u8 a0_1, .int .u32 a0_2, .string a0_3] 24 (0, 0)) (by (with_reducible repeat (first | refine blk_drewN ?_ _ | refine blk_drew ?_ | refine blk_alloc ?_ _)); exact BK274.out) hb); have n1_ := Aside0.mk (blk_below (g := gb284) (o := .cells #[.int .u8 t278, .int .u8 t279, .int .u32 t280, .string t281] 24 (0, 0)) (by (with_reducible repeat (first | refine blk_drewN ?_ _ | refine blk_drew ?_ | refine blk_alloc ?_ _)); exact BK284.out) hb); have n2_ := Aside0.mk (below_step (by repeat (first | (with_reducible first | exact HB.out | apply below_alloc | apply pw_below_drewN | apply below_drew1 | refine below_set ?_ GE274.out | refine below_set ?_ GE284.out) | exact HB.out)) hb); have n3_ := Aside0.mk (hbox); have n4_ := Aside0.mk ((by rw [hg]; exact (below_size (by repeat (first | (with_reducible first | exact HB.out | apply below_alloc | apply pw_below_drewN | apply below_drew1 | refine below_set ?_ GE274.out | refine below_set ?_ GE284.out) | exact HB.out))) : w.heap.size ≤ gb291)); have n5_ := Aside0.mk ((by rw [hg]; exact (below_size (by repeat (first | (with_reducible first | exact HB.out | apply below_alloc | apply pw_below_drewN | apply below_drew1 | refine below_set ?_ GE274.out | refine below_set ?_ GE284.out) | exact HB.out))) : w.heap.size ≤ gb291)); have n6_ := Aside0.mk ((by rw [hg]; exact Nat.ne_of_lt (blk_lt (g := gb274) (o := .cells #[.int .u8 a0_0, .int .u8 a0_1, .int .u32 a0_2, .string a0_3] 24 (0, 0)) (by (with_reducible repeat (first | refine blk_drewN ?_ _ | refine blk_drew ?_ | refine blk_alloc ?_ _)); exact BK274.out)) : gb274 ≠ gb291)); have n7_ := Aside0.mk ((by rw [hg]; exact Nat.ne_of_gt (blk_lt (g := gb274) (o := .cells #[.int .u8 a0_0, .int .u8 a0_1, .int .u32 a0_2, .string a0_3] 24 (0, 0)) (by (with_reducible repeat (first | refine blk_drewN ?_ _ | refine blk_drew ?_ | refine blk_alloc ?_ _)); exact BK274.out)) : gb291 ≠ gb274)); have n8_ := Aside0.mk ((by rw [hg]; exact Nat.ne_of_lt (blk_lt (g := gb284) (o := .cells #[.int .u8 t278, .int .u8 t279, .int .u32 t280, .string t281] 24 (0, 0)) (by (with_reducible repeat (first | refine blk_drewN ?_ _ | refine blk_drew ?_ | refine blk_alloc ?_ _)); exact BK284.out)) : gb284 ≠ gb291)); have n9_ := Aside0.mk ((by rw [hg]; exact Nat.ne_of_gt (blk_lt (g := gb284) (o := .cells #[.int .u8 t278, .int .u8 t279, .int .u32 t280, .string t281] 24 (0, 0)) (by (with_reducible repeat (first | refine blk_drewN ?_ _ | refine blk_drew ?_ | refine blk_alloc ?_ _)); exact BK284.out)) : gb291 ≠ gb284)); clear BK274; clear BK284; clear HB; have BK274 := n0_; have BK284 := n1_; have HB := n2_; have BK291 := n3_; have GW291 := n4_; have GE291 := n5_; have NB274_291 := n6_; have NB291_274 := n7_; have NB284_291 := n8_; have NB291_284 := n9_; clear n0_ n1_ n2_ n3_ n4_ n5_ n6_ n7_ n8_ n9_; clear hb hbox hg; have hnb36 := NB291_274.out; have hnc36 := NB274_291.out; have hnb37 := NB291_284.out; have hnc37 := NB284_291.out; have hcz38_0 : w35.cell? ⟨gb291, 0, none⟩ = some (.int .u8 0) := (blk_cell BK291.out 0).trans rfl; have hcz38_1 : w35.cell? ⟨gb291, 1, none⟩ = some (.int .u8 0) := (blk_cell BK291.out 1).trans rfl; have hcz38_2 : w35.cell? ⟨gb291, 2, none⟩ = some (.int .u32 0) := (blk_cell BK291.out 2).trans rfl; have hcz38_3 : w35.cell? ⟨gb291, 3, none⟩ = some (.string (⟨#[]⟩ : ByteArray)) := (blk_cell BK291.out 3).trans rfl; have hfz38_0 := blk_frozen BK291.out 0; have hfz38_1 := blk_frozen BK291.out 1; have hfz38_2 := blk_frozen BK291.out 2; have hfz38_3 := blk_frozen BK291.out 3; have hcz39_0 : w35.cell? ⟨gb284, 0, none⟩ = some (.int .u8 t278) := (blk_cell BK284.out 0).trans rfl; have hcz39_1 : w35.cell? ⟨gb284, 1, none⟩ = some (.int .u8 t279) := (blk_cell BK284.out 1).trans rfl; have hcz39_2 : w35.cell? ⟨gb284, 2, none⟩ = some (.int .u32 t280) := (blk_cell BK284.out 2).trans rfl; have hcz39_3 : w35.cell? ⟨gb284, 3, none⟩ = some (.string t281) := (blk_cell BK284.out 3).trans rfl; have hfz39_0 := blk_frozen BK284.out 0; have hfz39_1 := blk_frozen BK284.out 1; have hfz39_2 := blk_frozen BK284.out 2; have hfz39_3 := blk_frozen BK284.out 3; have hcz40_0 : w35.cell? ⟨gb274, 0, none⟩ = some (.int .u8 a0_0) := (blk_cell BK274.out 0).trans rfl; have hcz40_1 : w35.cell? ⟨gb274, 1, none⟩ = some (.int .u8 a0_1) := (blk_cell BK274.out 1).trans rfl; have hcz40_2 : w35.cell? ⟨gb274, 2, none⟩ = some (.int .u32 a0_2) := (blk_cell BK274.out 2).trans rfl; have hcz40_3 : w35.cell? ⟨gb274, 3, none⟩ = some (.string a0_3) := (blk_cell BK274.out 3).trans rfl; have hfz40_0 := blk_frozen BK274.out 0; have hfz40_1 := blk_frozen BK274.out 1; have hfz40_2 := blk_frozen BK274.out 2; have hfz40_3 := blk_frozen BK274.out 3))
                            repeat (go_quiet (first | (go_at_call 9; (with_reducible refine (frame_Parse.calls kj5 (t276 ++ a1) t278 t279 t280 t281 t282 t283 _ A21.out).mono ?_); rintro e w30 ⟨rfl, hb⟩; have n0_ := Aside0.mk (blk_below (g := gb274) (o := .cells #[.int .u8 a0_0, .int .u8 a0_1, .int .u32 a0_2, .string a0_3] 24 (0, 0)) (by (with_reducible repeat (first | refine blk_drewN ?_ _ | refine blk_drew ?_ | refine blk_alloc ?_ _)); exact BK274.out) hb); have n1_ := Aside0.mk (below_step (by repeat (first | (with_reducible first | exact HB.out | apply below_alloc | apply pw_below_drewN | apply below_drew1 | refine below_set ?_ GE274.out) | exact HB.out)) hb); clear BK274; clear HB; have BK274 := n0_; have HB := n1_; clear n0_ n1_; (try clear hb); (try clear hb2); (try clear hk); (try clear hi)) | ((with_reducible refine gate_dst (N := 9) rfl ?_); (try (refine gate_guard (by rfl) ?_; dsimp only)); refine box_event ?hg (N := 9) ?hd (cs := #[.int .u8 0, .int .u8 0, .int .u32 0, .string (⟨#[]⟩ : ByteArray)]) (t := 24) ?hr ?_; (case hd => rfl); (case hg => rfl); (case hr => first | (go_simp; done) | (go_simp; rfl)); intro gb284 hg w31 hbox hb; have n0_ := Aside0.mk (blk_below (g := gb274) (o := .cells #[.int .u8 a0_0, .int .u8 a0_1, .int .u32 a0_2, .string a0_3] 24 (0, 0)) (by (with_reducible repeat (first | refine blk_drewN ?_ _ | refine blk_drew ?_ | refine blk_alloc ?_ _)); exact BK274.out) hb); have n1_ := Aside0.mk (below_step (by repeat (first | (with_reducible first | exact HB.out | apply below_alloc | apply pw_below_drewN | apply below_drew1 | refine below_set ?_ GE274.out) | exact HB.out)) hb); have n2_ := Aside0.mk (hbox); have n3_ := Aside0.mk ((by rw [hg]; exact (below_size (by repeat (first | (with_reducible first | exact HB.out | apply below_alloc | apply pw_below_drewN | apply below_drew1 | refine below_set ?_ GE274.out) | exact HB.out))) : w.heap.size ≤ gb284)); have n4_ := Aside0.mk ((by rw [hg]; exact (below_size (by repeat (first | (with_reducible first | exact HB.out | apply below_alloc | apply pw_below_drewN | apply below_drew1 | refine below_set ?_ GE274.out) | exact HB.out))) : w.heap.size ≤ gb284)); have n5_ := Aside0.mk ((by rw [hg]; exact Nat.ne_of_lt (blk_lt (g := gb274) (o := .cells #[.int .u8 a0_0, .int .u8 a0_1, .int .u32 a0_2, .string a0_3] 24 (0, 0)) (by (with_reducible repeat (first | refine blk_drewN ?_ _ | refine blk_drew ?_ | refine blk_alloc ?_ _)); exact BK274.out)) : gb274 ≠ gb284)); have n6_ := Aside0.mk ((by rw [hg]; exact Nat.ne_of_gt (blk_lt (g := gb274) (o := .cells #[.int .u8 a0_0, .int .u8 a0_1, .int .u32 a0_2, .string a0_3] 24 (0, 0)) (by (with_reducible repeat (first | refine blk_drewN ?_ _ | refine blk_drew ?_ | refine blk_alloc ?_ _)); exact BK274.out)) : gb284 ≠ gb274)); clear BK274; clear HB; have BK274 := n0_; have HB := n1_; have BK284 := n2_; have GW284 := n3_; have GE284 := n4_; have NB274_284 := n5_; have NB284_274 := n6_; clear n0_ n1_ n2_ n3_ n4_ n5_ n6_; clear hb hbox hg; have hnb32 := NB284_274.out; have hnc32 := NB274_284.out; have hcz33_0 : w31.cell? ⟨gb284, 0, none⟩ = some (.int .u8 0) := (blk_cell BK284.out 0).trans rfl; have hcz33_1 : w31.cell? ⟨gb284, 1, none⟩ = some (.int .u8 0) := (blk_cell BK284.out 1).trans rfl; have hcz33_2 : w31.cell? ⟨gb284, 2, none⟩ = some (.int .u32 0) := (blk_cell BK284.out 2).trans rfl; have hcz33_3 : w31.cell? ⟨gb284, 3, none⟩ = some (.string (⟨#[]⟩ : ByteArray)) := (blk_cell BK284.out 3).trans rfl; have hfz33_0 := blk_frozen BK284.out 0; have hfz33_1 := blk_frozen BK284.out 1; have hfz33_2 := blk_frozen BK284.out 2; have hfz33_3 := blk_frozen BK284.out 3) | (go_at_call 9; (with_reducible refine (frame_Parse.calls kj5 (t276.extract 0 ((ji22) : Int).toNat) t285 t286 t287 t288 t289 t290 _ A25.out).mono ?_); rintro e w34 ⟨rfl, hb⟩; have n0_ := Aside0.mk (blk_below (g := gb274) (o := .cells #[.int .u8 a0_0, .int .u8 a0_1, .int .u32 a0_2, .string a0_3] 24 (0, 0)) (by (with_reducible repeat (first | refine blk_drewN ?_ _ | refine blk_drew ?_ | refine blk_alloc ?_ _)); refine blk_far ?_ NB274_284.out _; (with_reducible repeat (first | refine blk_drewN ?_ _ | refine blk_drew ?_ | refine blk_alloc ?_ _)); refine blk_far ?_ NB274_284.out _; (with_reducible repeat (first | refine blk_drewN ?_ _ | refine blk_drew ?_ | refine blk_alloc ?_ _)); refine blk_far ?_ NB274_284.out _; (with_reducible repeat (first | refine blk_drewN ?_ _ | refine blk_drew ?_ | refine blk_alloc ?_ _)); refine blk_far ?_ NB274_284.out _; (with_reducible repeat (first | refine blk_drewN ?_ _ | refine blk_drew ?_ | refine blk_alloc ?_ _)); exact BK274.out) hb); have n1_ := Aside0.mk (blk_below (g := gb284) (o := .cells #[.int .u8 t278, .int .u8 t279, .int .u32 t280, .string t281] 24 (0, 0)) (by (with_reducible repeat (first | refine blk_drewN ?_ _ | refine blk_drew ?_ | refine blk_alloc ?_ _)); refine blk_put (cs := #[.int .u8 t278, .int .u8 t279, .int .u32 t280, .string (⟨#[]⟩ : ByteArray)]) ?_ 3 _ rfl; (with_reducible repeat (first | refine blk_drewN ?_ _ | refine blk_drew ?_ | refine blk_alloc ?_ _)); refine blk_put (cs := #[.int .u8 t278, .int .u8 t279, .int .u32 0, .string (⟨#[]⟩ : ByteArray)]) ?_ 2 _ rfl; (with_reducible repeat (first | refine blk_drewN ?_ _ | refine blk_drew ?_ | refine blk_alloc ?_ _)); refine blk_put (cs := #[.int .u8 t278, .int .u8 0, .int .u32 0, .string (⟨#[]⟩ : ByteArray)]) ?_ 1 _ rfl; (with_reducible repeat (first | refine blk_drewN ?_ _ | refine blk_drew ?_ | refine blk_alloc ?_ _)); refine blk_put (cs := #[.int .u8 0, .int .u8 0, .int .u32 0, .string (⟨#[]⟩ : ByteArray)]) ?_ 0 _ rfl; (with_reducible repeat (first | refine blk_drewN ?_ _ | refine blk_drew ?_ | refine blk_alloc ?_ _)); exact BK284.out) hb); have n2_ := Aside0.mk (below_step (by repeat (first | (with_reducible first | exact HB.out | apply below_alloc | apply pw_below_drewN | apply below_drew1 | refine below_set ?_ GE274.out | refine below_set ?_ GE284.out) | exact HB.out)) hb); clear BK274; clear BK284; clear HB; have BK274 := n0_; have BK284 := n1_; have HB := n2_; clear n0_ n1_ n2_; (try clear hb); (try clear hb2); (try clear hk); (try clear hi)) | ((with_reducible refine gate_dst (N := 12) rfl ?_); (try (refine gate_guard (by rfl) ?_; dsimp only)); refine box_event ?hg (N := 12) ?hd (cs := #[.int .u8 0, .int .u8 0, .int .u32 0, .string (⟨#[]⟩ : ByteArray)]) (t := 24) ?hr ?_; (case hd => rfl); (case hg => rfl); (case hr => first | (go_simp; done) | (go_simp; rfl)); intro gb291 hg w35 hbox hb; have n0_ := Aside0.mk (blk_below (g := gb274) (o := .cells #[.int .u8 a0_0, .int .u8 a0_1, .int .u32 a0_2, .string a0_3] 24 (0, 0)) (by (with_reducible repeat (first | refine blk_drewN ?_ _ | refine blk_drew ?_ | refine blk_alloc ?_ _)); exact BK274.out) hb); have n1_ := Aside0.mk (blk_below (g := gb284) (o := .cells #[.int .u8 t278, .int .u8 t279, .int .u32 t280, .string t281] 24 (0, 0)) (by (with_reducible repeat (first | refine blk_drewN ?_ _ | refine blk_drew ?_ | refine blk_alloc ?_ _)); exact BK284.out) hb); have n2_ := Aside0.mk (below_step (by repeat (first | (with_reducible first | exact HB.out | apply below_alloc | apply pw_below_drewN | apply below_drew1 | refine below_set ?_ GE274.out | refine below_set ?_ GE284.out) | exact HB.out)) hb); have n3_ := Aside0.mk (hbox); have n4_ := Aside0.mk ((by rw [hg]; exact (below_size (by repeat (first | (with_reducible first | exact HB.out | apply below_alloc | apply pw_below_drewN | apply below_drew1 | refine below_set ?_ GE274.out | refine below_set ?_ GE284.out) | exact HB.out))) : w.heap.size ≤ gb291)); have n5_ := Aside0.mk ((by rw [hg]; exact (below_size (by repeat (first | (with_reducible first | exact HB.out | apply below_alloc | apply pw_below_drewN | apply below_drew1 | refine below_set ?_ GE274.out | refine below_set ?_ GE284.out) | exact HB.out))) : w.heap.size ≤ gb291)); have n6_ := Aside0.mk ((by rw [hg]; exact Nat.ne_of_lt (blk_lt (g := gb274) (o := .cells #[.int .u8 a0_0, .int .u8 a0_1, .int .u32 a0_2, .string a0_3] 24 (0, 0)) (by (with_reducible repeat (first | refine blk_drewN ?_ _ | refine blk_drew ?_ | refine blk_alloc ?_ _)); exact BK274.out)) : gb274 ≠ gb291)); have n7_ := Aside0.mk ((by rw [hg]; exact Nat.ne_of_gt (blk_lt (g := gb274) (o := .cells #[.int .u8 a0_0, .int .u8 a0_1, .int .u32 a0_2, .string a0_3] 24 (0, 0)) (by (with_reducible repeat (first | refine blk_drewN ?_ _ | refine blk_drew ?_ | refine blk_alloc ?_ _)); exact BK274.out)) : gb291 ≠ gb274)); have n8_ := Aside0.mk ((by rw [hg]; exact Nat.ne_of_lt (blk_lt (g := gb284) (o := .cells #[.int .u8 t278, .int .u8 t279, .int .u32 t280, .string t281] 24 (0, 0)) (by (with_reducible repeat (first | refine blk_drewN ?_ _ | refine blk_drew ?_ | refine blk_alloc ?_ _)); exact BK284.out)) : gb284 ≠ gb291)); have n9_ := Aside0.mk ((by rw [hg]; exact Nat.ne_of_gt (blk_lt (g := gb284) (o := .cells #[.int .u8 t278, .int .u8 t279, .int .u32 t280, .string t281] 24 (0, 0)) (by (with_reducible repeat (first | refine blk_drewN ?_ _ | refine blk_drew ?_ | refine blk_alloc ?_ _)); exact BK284.out)) : gb291 ≠ gb284)); clear BK274; clear BK284; clear HB; have BK274 := n0_; have BK284 := n1_; have HB := n2_; have BK291 := n3_; have GW291 := n4_; have GE291 := n5_; have NB274_291 := n6_; have NB291_274 := n7_; have NB284_291 := n8_; have NB291_284 := n9_; clear n0_ n1_ n2_ n3_ n4_ n5_ n6_ n7_ n8_ n9_; clear hb hbox hg; have hnb36 := NB291_274.out; have hnc36 := NB274_291.out; have hnb37 := NB291_284.out; have hnc37 := NB284_291.out; have hcz38_0 : w35.cell? ⟨gb291, 0, none⟩ = some (.int .u8 0) := (blk_cell BK291.out 0).trans rfl; have hcz38_1 : w35.cell? ⟨gb291, 1, none⟩ = some (.int .u8 0) := (blk_cell BK291.out 1).trans rfl; have hcz38_2 : w35.cell? ⟨gb291, 2, none⟩ = some (.int .u32 0) := (blk_cell BK291.out 2).trans rfl; have hcz38_3 : w35.cell? ⟨gb291, 3, none⟩ = some (.string (⟨#[]⟩ : ByteArray)) := (blk_cell BK291.out 3).trans rfl; have hfz38_0 := blk_frozen BK291.out 0; have hfz38_1 := blk_frozen BK291.out 1; have hfz38_2 := blk_frozen BK291.out 2; have hfz38_3 := blk_frozen BK291.out 3; have hcz39_0 : w35.cell? ⟨gb284, 0, none⟩ = some (.int .u8 t278) := (blk_cell BK284.out 0).trans rfl; have hcz39_1 : w35.cell? ⟨gb284, 1, none⟩ = some (.int .u8 t279) := (blk_cell BK284.out 1).trans rfl; have hcz39_2 : w35.cell? ⟨gb284, 2, none⟩ = some (.int .u32 t280) := (blk_cell BK284.out 2).trans rfl; have hcz39_3 : w35.cell? ⟨gb284, 3, none⟩ = some (.string t281) := (blk_cell BK284.out 3).trans rfl; have hfz39_0 := blk_frozen BK284.out 0; have hfz39_1 := blk_frozen BK284.out 1; have hfz39_2 := blk_frozen BK284.out 2; have hfz39_3 := blk_frozen BK284.out 3; have hcz40_0 : w35.cell? ⟨gb274, 0, none⟩ = some (.int .u8 a0_0) := (blk_cell BK274.out 0).trans rfl; have hcz40_1 : w35.cell? ⟨gb274, 1, none⟩ = some (.int .u8 a0_1) := (blk_cell BK274.out 1).trans rfl; have hcz40_2 : w35.cell? ⟨gb274, 2, none⟩ = some (.int .u32 a0_2) := (blk_cell BK274.out 2).trans rfl; have hcz40_3 : w35.cell? ⟨gb274, 3, none⟩ = some (.string a0_3) := (blk_cell BK274.out 3).trans rfl; have hfz40_0 := blk_frozen BK274.out 0; have hfz40_1 := blk_frozen BK274.out 1; have hfz40_2 := blk_frozen BK274.out 2; have hfz40_3 := blk_frozen BK274.out 3)); try go_wp2_with (first | (go_at_call 9; (with_reducible refine (frame_Parse.calls kj5 (t276 ++ a1) t278 t279 t280 t281 t282 t283 _ A21.out).mono ?_); rintro e w30 ⟨rfl, hb⟩; have n0_ := Aside0.mk (blk_below (g := gb274) (o := .cells #[.int .u8 a0_0, .int .u8 a0_1, .int .u32 a0_2, .string a0_3] 24 (0, 0)) (by (with_reducible repeat (first | refine blk_drewN ?_ _ | refine blk_drew ?_ | refine blk_alloc ?_ _)); exact BK274.out) hb); have n1_ := Aside0.mk (below_step (by repeat (first | (with_reducible first | exact HB.out | apply below_alloc | apply pw_below_drewN | apply below_drew1 | refine below_set ?_ GE274.out) | exact HB.out)) hb); clear BK274; clear HB; have BK274 := n0_; have HB := n1_; clear n0_ n1_; (try clear hb); (try clear hb2); (try clear hk); (try clear hi)) | ((with_reducible refine gate_dst (N := 9) rfl ?_); (try (refine gate_guard (by rfl) ?_; dsimp only)); refine box_event ?hg (N := 9) ?hd (cs := #[.int .u8 0, .int .u8 0, .int .u32 0, .string (⟨#[]⟩ : ByteArray)]) (t := 24) ?hr ?_; (case hd => rfl); (case hg => rfl); (case hr => first | (go_simp; done) | (go_simp; rfl)); intro gb284 hg w31 hbox hb; have n0_ := Aside0.mk (blk_below (g := gb274) (o := .cells #[.int .u8 a0_0, .int .u8 a0_1, .int .u32 a0_2, .string a0_3] 24 (0, 0)) (by (with_reducible repeat (first | refine blk_drewN ?_ _ | refine blk_drew ?_ | refine blk_alloc ?_ _)); exact BK274.out) hb); have n1_ := Aside0.mk (below_step (by repeat (first | (with_reducible first | exact HB.out | apply below_alloc | apply pw_below_drewN | apply below_drew1 | refine below_set ?_ GE274.out) | exact HB.out)) hb); have n2_ := Aside0.mk (hbox); have n3_ := Aside0.mk ((by rw [hg]; exact (below_size (by repeat (first | (with_reducible first | exact HB.out | apply below_alloc | apply pw_below_drewN | apply below_drew1 | refine below_set ?_ GE274.out) | exact HB.out))) : w.heap.size ≤ gb284)); have n4_ := Aside0.mk ((by rw [hg]; exact (below_size (by repeat (first | (with_reducible first | exact HB.out | apply below_alloc | apply pw_below_drewN | apply below_drew1 | refine below_set ?_ GE274.out) | exact HB.out))) : w.heap.size ≤ gb284)); have n5_ := Aside0.mk ((by rw [hg]; exact Nat.ne_of_lt (blk_lt (g := gb274) (o := .cells #[.int .u8 a0_0, .int .u8 a0_1, .int .u32 a0_2, .string a0_3] 24 (0, 0)) (by (with_reducible repeat (first | refine blk_drewN ?_ _ | refine blk_drew ?_ | refine blk_alloc ?_ _)); exact BK274.out)) : gb274 ≠ gb284)); have n6_ := Aside0.mk ((by rw [hg]; exact Nat.ne_of_gt (blk_lt (g := gb274) (o := .cells #[.int .u8 a0_0, .int .u8 a0_1, .int .u32 a0_2, .string a0_3] 24 (0, 0)) (by (with_reducible repeat (first | refine blk_drewN ?_ _ | refine blk_drew ?_ | refine blk_alloc ?_ _)); exact BK274.out)) : gb284 ≠ gb274)); clear BK274; clear HB; have BK274 := n0_; have HB := n1_; have BK284 := n2_; have GW284 := n3_; have GE284 := n4_; have NB274_284 := n5_; have NB284_274 := n6_; clear n0_ n1_ n2_ n3_ n4_ n5_ n6_; clear hb hbox hg; have hnb32 := NB284_274.out; have hnc32 := NB274_284.out; have hcz33_0 : w31.cell? ⟨gb284, 0, none⟩ = some (.int .u8 0) := (blk_cell BK284.out 0).trans rfl; have hcz33_1 : w31.cell? ⟨gb284, 1, none⟩ = some (.int .u8 0) := (blk_cell BK284.out 1).trans rfl; have hcz33_2 : w31.cell? ⟨gb284, 2, none⟩ = some (.int .u32 0) := (blk_cell BK284.out 2).trans rfl; have hcz33_3 : w31.cell? ⟨gb284, 3, none⟩ = some (.string (⟨#[]⟩ : ByteArray)) := (blk_cell BK284.out 3).trans rfl; have hfz33_0 := blk_frozen BK284.out 0; have hfz33_1 := blk_frozen BK284.out 1; have hfz33_2 := blk_frozen BK284.out 2; have hfz33_3 := blk_frozen BK284.out 3) | (go_at_call 9; (with_reducible refine (frame_Parse.calls kj5 (t276.extract 0 ((ji22) : Int).toNat) t285 t286 t287 t288 t289 t290 _ A25.out).mono ?_); rintro e w34 ⟨rfl, hb⟩; have n0_ := Aside0.mk (blk_below (g := gb274) (o := .cells #[.int .u8 a0_0, .int .u8 a0_1, .int .u32 a0_2, .string a0_3] 24 (0, 0)) (by (with_reducible repeat (first | refine blk_drewN ?_ _ | refine blk_drew ?_ | refine blk_alloc ?_ _)); refine blk_far ?_ NB274_284.out _; (with_reducible repeat (first | refine blk_drewN ?_ _ | refine blk_drew ?_ | refine blk_alloc ?_ _)); refine blk_far ?_ NB274_284.out _; (with_reducible repeat (first | refine blk_drewN ?_ _ | refine blk_drew ?_ | refine blk_alloc ?_ _)); refine blk_far ?_ NB274_284.out _; (with_reducible repeat (first | refine blk_drewN ?_ _ | refine blk_drew ?_ | refine blk_alloc ?_ _)); refine blk_far ?_ NB274_284.out _; (with_reducible repeat (first | refine blk_drewN ?_ _ | refine blk_drew ?_ | refine blk_alloc ?_ _)); exact BK274.out) hb); have n1_ := Aside0.mk (blk_below (g := gb284) (o := .cells #[.int .u8 t278, .int .u8 t279, .int .u32 t280, .string t281] 24 (0, 0)) (by (with_reducible repeat (first | refine blk_drewN ?_ _ | refine blk_drew ?_ | refine blk_alloc ?_ _)); refine blk_put (cs := #[.int .u8 t278, .int .u8 t279, .int .u32 t280, .string (⟨#[]⟩ : ByteArray)]) ?_ 3 _ rfl; (with_reducible repeat (first | refine blk_drewN ?_ _ | refine blk_drew ?_ | refine blk_alloc ?_ _)); refine blk_put (cs := #[.int .u8 t278, .int .u8 t279, .int .u32 0, .string (⟨#[]⟩ : ByteArray)]) ?_ 2 _ rfl; (with_reducible repeat (first | refine blk_drewN ?_ _ | refine blk_drew ?_ | refine blk_alloc ?_ _)); refine blk_put (cs := #[.int .u8 t278, .int .u8 0, .int .u32 0, .string (⟨#[]⟩ : ByteArray)]) ?_ 1 _ rfl; (with_reducible repeat (first | refine blk_drewN ?_ _ | refine blk_drew ?_ | refine blk_alloc ?_ _)); refine blk_put (cs := #[.int .u8 0, .int .u8 0, .int .u32 0, .string (⟨#[]⟩ : ByteArray)]) ?_ 0 _ rfl; (with_reducible repeat (first | refine blk_drewN ?_ _ | refine blk_drew ?_ | refine blk_alloc ?_ _)); exact BK284.out) hb); have n2_ := Aside0.mk (below_step (by repeat (first | (with_reducible first | exact HB.out | apply below_alloc | apply pw_below_drewN | apply below_drew1 | refine below_set ?_ GE274.out | refine below_set ?_ GE284.out) | exact HB.out)) hb); clear BK274; clear BK284; clear HB; have BK274 := n0_; have BK284 := n1_; have HB := n2_; clear n0_ n1_ n2_; (try clear hb); (try clear hb2); (try clear hk); (try clear hi)) | ((with_reducible refine gate_dst (N := 12) rfl ?_); (try (refine gate_guard (by rfl) ?_; dsimp only)); refine box_event ?hg (N := 12) ?hd (cs := #[.int .u8 0, .int .u8 0, .int .u32 0, .string (⟨#[]⟩ : ByteArray)]) (t := 24) ?hr ?_; (case hd => rfl); (case hg => rfl); (case hr => first | (go_simp; done) | (go_simp; rfl)); intro gb291 hg w35 hbox hb; have n0_ := Aside0.mk (blk_below (g := gb274) (o := .cells #[.int .u8 a0_0, .int .u8 a0_1, .int .u32 a0_2, .string a0_3] 24 (0, 0)) (by (with_reducible repeat (first | refine blk_drewN ?_ _ | refine blk_drew ?_ | refine blk_alloc ?_ _)); exact BK274.out) hb); have n1_ := Aside0.mk (blk_below (g := gb284) (o := .cells #[.int .u8 t278, .int .u8 t279, .int .u32 t280, .string t281] 24 (0, 0)) (by (with_reducible repeat (first | refine blk_drewN ?_ _ | refine blk_drew ?_ | refine blk_alloc ?_ _)); exact BK284.out) hb); have n2_ := Aside0.mk (below_step (by repeat (first | (with_reducible first | exact HB.out | apply below_alloc | apply pw_below_drewN | apply below_drew1 | refine below_set ?_ GE274.out | refine below_set ?_ GE284.out) | exact HB.out)) hb); have n3_ := Aside0.mk (hbox); have n4_ := Aside0.mk ((by rw [hg]; exact (below_size (by repeat (first | (with_reducible first | exact HB.out | apply below_alloc | apply pw_below_drewN | apply below_drew1 | refine below_set ?_ GE274.out | refine below_set ?_ GE284.out) | exact HB.out))) : w.heap.size ≤ gb291)); have n5_ := Aside0.mk ((by rw [hg]; exact (below_size (by repeat (first | (with_reducible first | exact HB.out | apply below_alloc | apply pw_below_drewN | apply below_drew1 | refine below_set ?_ GE274.out | refine below_set ?_ GE284.out) | exact HB.out))) : w.heap.size ≤ gb291)); have n6_ := Aside0.mk ((by rw [hg]; exact Nat.ne_of_lt (blk_lt (g := gb274) (o := .cells #[.int .u8 a0_0, .int .u8 a0_1, .int .u32 a0_2, .string a0_3] 24 (0, 0)) (by (with_reducible repeat (first | refine blk_drewN ?_ _ | refine blk_drew ?_ | refine blk_alloc ?_ _)); exact BK274.out)) : gb274 ≠ gb291)); have n7_ := Aside0.mk ((by rw [hg]; exact Nat.ne_of_gt (blk_lt (g := gb274) (o := .cells #[.int .u8 a0_0, .int .u8 a0_1, .int .u32 a0_2, .string a0_3] 24 (0, 0)) (by (with_reducible repeat (first | refine blk_drewN ?_ _ | refine blk_drew ?_ | refine blk_alloc ?_ _)); exact BK274.out)) : gb291 ≠ gb274)); have n8_ := Aside0.mk ((by rw [hg]; exact Nat.ne_of_lt (blk_lt (g := gb284) (o := .cells #[.int .u8 t278, .int .u8 t279, .int .u32 t280, .string t281] 24 (0, 0)) (by (with_reducible repeat (first | refine blk_drewN ?_ _ | refine blk_drew ?_ | refine blk_alloc ?_ _)); exact BK284.out)) : gb284 ≠ gb291)); have n9_ := Aside0.mk ((by rw [hg]; exact Nat.ne_of_gt (blk_lt (g := gb284) (o := .cells #[.int .u8 t278, .int .u8 t279, .int .u32 t280, .string t281] 24 (0, 0)) (by (with_reducible repeat (first | refine blk_drewN ?_ _ | refine blk_drew ?_ | refine blk_alloc ?_ _)); exact BK284.out)) : gb291 ≠ gb284)); clear BK274; clear BK284; clear HB; have BK274 := n0_; have BK284 := n1_; have HB := n2_; have BK291 := n3_; have GW291 := n4_; have GE291 := n5_; have NB274_291 := n6_; have NB291_274 := n7_; have NB284_291 := n8_; have NB291_284 := n9_; clear n0_ n1_ n2_ n3_ n4_ n5_ n6_ n7_ n8_ n9_; clear hb hbox hg; have hnb36 := NB291_274.out; have hnc36 := NB274_291.out; have hnb37 := NB291_284.out; have hnc37 := NB284_291.out; have hcz38_0 : w35.cell? ⟨gb291, 0, none⟩ = some (.int .u8 0) := (blk_cell BK291.out 0).trans rfl; have hcz38_1 : w35.cell? ⟨gb291, 1, none⟩ = some (.int .u8 0) := (blk_cell BK291.out 1).trans rfl; have hcz38_2 : w35.cell? ⟨gb291, 2, none⟩ = some (.int .u32 0) := (blk_cell BK291.out 2).trans rfl; have hcz38_3 : w35.cell? ⟨gb291, 3, none⟩ = some (.string (⟨#[]⟩ : ByteArray)) := (blk_cell BK291.out 3).trans rfl; have hfz38_0 := blk_frozen BK291.out 0; have hfz38_1 := blk_frozen BK291.out 1; have hfz38_2 := blk_frozen BK291.out 2; have hfz38_3 := blk_frozen BK291.out 3; have hcz39_0 : w35.cell? ⟨gb284, 0, none⟩ = some (.int .u8 t278) := (blk_cell BK284.out 0).trans rfl; have hcz39_1 : w35.cell? ⟨gb284, 1, none⟩ = some (.int .u8 t279) := (blk_cell BK284.out 1).trans rfl; have hcz39_2 : w35.cell? ⟨gb284, 2, none⟩ = some (.int .u32 t280) := (blk_cell BK284.out 2).trans rfl; have hcz39_3 : w35.cell? ⟨gb284, 3, none⟩ = some (.string t281) := (blk_cell BK284.out 3).trans rfl; have hfz39_0 := blk_frozen BK284.out 0; have hfz39_1 := blk_frozen BK284.out 1; have hfz39_2 := blk_frozen BK284.out 2; have hfz39_3 := blk_frozen BK284.out 3; have hcz40_0 : w35.cell? ⟨gb274, 0, none⟩ = some (.int .u8 a0_0) := (blk_cell BK274.out 0).trans rfl; have hcz40_1 : w35.cell? ⟨gb274, 1, none⟩ = some (.int .u8 a0_1) := (blk_cell BK274.out 1).trans rfl; have hcz40_2 : w35.cell? ⟨gb274, 2, none⟩ = some (.int .u32 a0_2) := (blk_cell BK274.out 2).trans rfl; have hcz40_3 : w35.cell? ⟨gb274, 3, none⟩ = some (.string a0_3) := (blk_cell BK274.out 3).trans rfl; have hfz40_0 := blk_frozen BK274.out 0; have hfz40_1 := blk_frozen BK274.out 1; have hfz40_2 := blk_frozen BK274.out 2; have hfz40_3 := blk_frozen BK274.out 3)))
                            go_meet
                            case rel => exact ⟨_, H', ⟨by have := HJ5.out; first | omega | exact Nat.le_refl _⟩, ⟨by (with_reducible repeat (first | refine blk_drewN ?_ _ | refine blk_drew ?_ | refine blk_alloc ?_ _)); refine blk_far ?_ NB274_291.out _; (with_reducible repeat (first | refine blk_drewN ?_ _ | refine blk_drew ?_ | refine blk_alloc ?_ _)); refine blk_far ?_ NB274_291.out _; (with_reducible repeat (first | refine blk_drewN ?_ _ | refine blk_drew ?_ | refine blk_alloc ?_ _)); refine blk_far ?_ NB274_291.out _; (with_reducible repeat (first | refine blk_drewN ?_ _ | refine blk_drew ?_ | refine blk_alloc ?_ _)); refine blk_far ?_ NB274_291.out _; (with_reducible repeat (first | refine blk_drewN ?_ _ | refine blk_drew ?_ | refine blk_alloc ?_ _)); exact BK274.out⟩, ⟨by repeat (first | (with_reducible first | exact HB.out | apply below_alloc | apply pw_below_drewN | apply below_drew1 | refine below_set ?_ GE274.out | refine below_set ?_ GE284.out | refine below_set ?_ GE291.out) | exact HB.out)⟩⟩
                          · rw [if_neg c29] at H
                            have c29b0 : (t290 == 2) = false := beq_eq_false_iff_ne.mpr c29
                            have c29b1 : (t290 != 2) = true := bne_iff_ne.mpr c29
                            exact absurd ((Option.some.inj H).trans HT.out) (by decide)
                        · rw [if_neg c28] at H
                          have c28b0 : (t283 == 0) = false := beq_eq_false_iff_ne.mpr c28
                          have c28b1 : (t283 != 0) = true := bne_iff_ne.mpr c28
                          exact absurd ((Option.some.inj H).trans HT.out) (by decide)
                      · rw [if_neg c27] at H
                        have c27b0 : (t282 == (t276.size : Int)) = false := beq_eq_false_iff_ne.mpr c27
                        have c27b1 : (t282 != (t276.size : Int)) = true := bne_iff_ne.mpr c27
                        exact absurd ((Option.some.inj H).trans HT.out) (by decide)
                  · rw [if_neg c24] at H
                    exact absurd H (by simp)
                · rw [if_neg c23] at H
                  exact absurd H (by simp)
              · rw [if_neg c20] at H
                exact absurd H (by simp)
            · rw [if_neg c19] at H
              have c19b0 : (t277 == 0) = false := beq_eq_false_iff_ne.mpr c19
              have c19b1 : (t277 != 0) = true := bne_iff_ne.mpr c19
              (first | rw [c19b0] | (simp only [i64_w, i32_w]; rw [c19b0]) | skip)
              by_cases c41 : a0_2 ≤ 2147483647
              · rw [if_pos c41] at H
                have c41b0 : decide (a0_2 ≤ 2147483647) = true := decide_eq_true c41
                clear c41
                by_cases c42 : (a0_3.size : Int) ≤ 16384
                · rw [if_pos c42] at H
                  have c42b0 : decide ((a0_3.size : Int) ≤ 16384) = true := decide_eq_true c42
                  have c42b1 : decide (a0_3.size ≤ 16384) = true := decide_eq_true (by omega)
                  clear c42
                  exact absurd ((Option.some.inj H).trans HT.out) (by decide)
                · rw [if_neg c42] at H
                  have c42b0 : decide ((a0_3.size : Int) ≤ 16384) = false := decide_eq_false c42
                  have c42b1 : decide (a0_3.size ≤ 16384) = false := decide_eq_false (by omega)
                  clear c42
                  have H' := Aside0.mk H
                  clear H
                  have hcz43_0 : w18.cell? ⟨gb274, 0, none⟩ = some (.int .u8 a0_0) := (blk_cell BK274.out 0).trans rfl
                  have hcz43_1 : w18.cell? ⟨gb274, 1, none⟩ = some (.int .u8 a0_1) := (blk_cell BK274.out 1).trans rfl
                  have hcz43_2 : w18.cell? ⟨gb274, 2, none⟩ = some (.int .u32 a0_2) := (blk_cell BK274.out 2).trans rfl
                  have hcz43_3 : w18.cell? ⟨gb274, 3, none⟩ = some (.string a0_3) := (blk_cell BK274.out 3).trans rfl
                  have hfz43_0 := blk_frozen BK274.out 0
                  have hfz43_1 := blk_frozen BK274.out 1
                  have hfz43_2 := blk_frozen BK274.out 2
                  have hfz43_3 := blk_frozen BK274.out 3
                  go_wp2
                  repeat (go_quiet (fail); try go_wp2)
                  go_meet
                  case rel => exact ⟨_, H', ⟨by have := HJ5.out; first | omega | exact Nat.le_refl _⟩, ⟨by (with_reducible repeat (first | refine blk_drewN ?_ _ | refine blk_drew ?_ | refine blk_alloc ?_ _)); exact BK274.out⟩, ⟨by repeat (first | (with_reducible first | exact HB.out | apply below_alloc | apply pw_below_drewN | apply below_drew1 | refine below_set ?_ GE274.out) | exact HB.out)⟩⟩
              · rw [if_neg c41] at H
                have c41b0 : decide (a0_2 ≤ 2147483647) = false := decide_eq_false c41
                clear c41
                have H' := Aside0.mk H
                clear H
                have hcz44_0 : w18.cell? ⟨gb274, 0, none⟩ = some (.int .u8 a0_0) := (blk_cell BK274.out 0).trans rfl
                have hcz44_1 : w18.cell? ⟨gb274, 1, none⟩ = some (.int .u8 a0_1) := (blk_cell BK274.out 1).trans rfl
                have hcz44_2 : w18.cell? ⟨gb274, 2, none⟩ = some (.int .u32 a0_2) := (blk_cell BK274.out 2).trans rfl
                have hcz44_3 : w18.cell? ⟨gb274, 3, none⟩ = some (.string a0_3) := (blk_cell BK274.out 3).trans rfl
                have hfz44_0 := blk_frozen BK274.out 0
                have hfz44_1 := blk_frozen BK274.out 1
                have hfz44_2 := blk_frozen BK274.out 2
                have hfz44_3 := blk_frozen BK274.out 3
                go_wp2
                repeat (go_quiet (fail); try go_wp2)
                go_meet
                case rel => exact ⟨_, H', ⟨by have := HJ5.out; first | omega | exact Nat.le_refl _⟩, ⟨by (with_reducible repeat (first | refine blk_drewN ?_ _ | refine blk_drew ?_ | refine blk_alloc ?_ _)); exact BK274.out⟩, ⟨by repeat (first | (with_reducible first | exact HB.out | apply below_alloc | apply pw_below_drewN | apply below_drew1 | refine below_set ?_ GE274.out) | exact HB.out)⟩⟩
          case rest =>
            clear HC16
            try clear c1
            try clear c2
            try clear p2
            try clear c3
            try clear c4
            try clear c5
            try clear p6
            try clear c9
            try clear c9b0
            try clear c9b1
            try clear c11
            try clear c11b0
            try clear c11b1
            try clear c14
            try clear c19
            try clear c19b0
            try clear c19b1
            try clear c20
            try clear c20b0
            try clear c20b1
            try clear c20b2
            try clear c23
            try clear c23b0
            try clear c23b1
            try clear c24
            try clear c24b0
            try clear c24b1
            try clear c26
            try clear c26b0
            try clear c27
            try clear c27b0
            try clear c27b1
            try clear c28
            try clear c28b0
            try clear c28b1
            try clear c29
            try clear c29b0
            try clear c29b1
            try clear c32
            try clear c36
            try clear c37
            try clear c41
            try clear c41b0
            try clear c42
            try clear c42b0
            try clear c42b1
            try clear hcz10_0
            try clear hcz10_1
            try clear hcz10_2
            try clear hcz10_3
            try clear hcz12_0
            try clear hcz12_1
            try clear hcz12_2
            try clear hcz12_3
            try clear hcz13_0
            try clear hcz13_1
            try clear hcz13_2
            try clear hcz13_3
            try clear hcz17_0
            try clear hcz17_1
            try clear hcz17_2
            try clear hcz17_3
            try clear hcz33_0
            try clear hcz33_1
            try clear hcz33_2
            try clear hcz33_3
            try clear hcz38_0
            try clear hcz38_1
            try clear hcz38_2
            try clear hcz38_3
            try clear hcz39_0
            try clear hcz39_1
            try clear hcz39_2
            try clear hcz39_3
            try clear hcz40_0
            try clear hcz40_1
            try clear hcz40_2
            try clear hcz40_3
            try clear hcz43_0
            try clear hcz43_1
            try clear hcz43_2
            try clear hcz43_3
            try clear hcz44_0
            try clear hcz44_1
            try clear hcz44_2
            try clear hcz44_3
            try clear hfz10_0
            try clear hfz10_1
            try clear hfz10_2
            try clear hfz10_3
            try clear hfz12_0
            try clear hfz12_1
            try clear hfz12_2
            try clear hfz12_3
            try clear hfz13_0
            try clear hfz13_1
            try clear hfz13_2
            try clear hfz13_3
            try clear hfz17_0
            try clear hfz17_1
            try clear hfz17_2
            try clear hfz17_3
            try clear hfz33_0
            try clear hfz33_1
            try clear hfz33_2
            try clear hfz33_3
            try clear hfz38_0
            try clear hfz38_1
            try clear hfz38_2
            try clear hfz38_3
            try clear hfz39_0
            try clear hfz39_1
            try clear hfz39_2
            try clear hfz39_3
            try clear hfz40_0
            try clear hfz40_1
            try clear hfz40_2
            try clear hfz40_3
            try clear hfz43_0
            try clear hfz43_1
            try clear hfz43_2
            try clear hfz43_3
            try clear hfz44_0
            try clear hfz44_1
            try clear hfz44_2
            try clear hfz44_3
            try clear p2
            obtain ⟨kq, HA, HJ15, BK274, HB⟩ := hcut
            cases kq with
            | zero => exact absurd HA.out (by simp [nunciolaw14_FrameBack.j1])
            | succ kj15 =>
              have H := HA.out
              clear HA
              simp only [nunciolaw14_FrameBack.j1] at H
              replace H := Option.bind_eq_some_iff.mp H
              obtain ⟨⟨t292, t293, t294, t295, t296, t297⟩, A450, H⟩ := H
              replace H : (if t297 = 0 then ((frame_Print.f kj15 t292 t293 t294 t295).bind fun bt299 => (if bt299.2 = 0 then (if (bt299.1.size : Int) = t296 then (if 0 ≤ 5 then (if 5 ≤ (bt299.1.size : Int) then (if 5 ≤ (a2.size : Int) then (if (bt299.1.extract 0 5).toList = (a2.extract 0 5).toList then (if 6 ≤ (bt299.1.size : Int) then (if 6 ≤ t296 then (if t296 ≤ (a2.size : Int) then (if (bt299.1.extract 6 bt299.1.size).toList = (a2.extract 6 (t296 : Int).toNat).toList then (if 5 < (bt299.1.size : Int) then (if 5 < (a2.size : Int) then (some ((Int.tmod (bt bt299.1 5) 128) == (Int.tmod (bt a2 5) 128))) else (none)) else (none)) else (some false)) else (none)) else (none)) else (none)) else (some false)) else (none)) else (none)) else (none)) else (some false)) else (some false))) else (some (t296 == 0))) = some r := H
              have A45 := Aside0.mk A450
              clear A450
              by_cases c46 : t297 = 0
              · rw [if_pos c46] at H
                have c46b0 : (t297 == 0) = true := beq_iff_eq.mpr c46
                have c46b1 : (t297 != 0) = false := bne_eq_false_iff_eq.mpr c46
                clear c46
                replace H := Option.bind_eq_some_iff.mp H
                obtain ⟨⟨t299, t300⟩, A470, H⟩ := H
                replace H : (if t300 = 0 then (if (t299.size : Int) = t296 then (if 0 ≤ 5 then (if 5 ≤ (t299.size : Int) then (if 5 ≤ (a2.size : Int) then (if (t299.extract 0 5).toList = (a2.extract 0 5).toList then (if 6 ≤ (t299.size : Int) then (if 6 ≤ t296 then (if t296 ≤ (a2.size : Int) then (if (t299.extract 6 t299.size).toList = (a2.extract 6 (t296 : Int).toNat).toList then (if 5 < (t299.size : Int) then (if 5 < (a2.size : Int) then (some ((Int.tmod (bt t299 5) 128) == (Int.tmod (bt a2 5) 128))) else (none)) else (none)) else (some false)) else (none)) else (none)) else (none)) else (some false)) else (none)) else (none)) else (none)) else (some false)) else (some false)) = some r := H
                have A47 := Aside0.mk A470
                clear A470
                by_cases c48 : t300 = 0
                · rw [if_pos c48] at H
                  have c48b0 : (t300 == 0) = true := beq_iff_eq.mpr c48
                  have c48b1 : (t300 != 0) = false := bne_eq_false_iff_eq.mpr c48
                  clear c48
                  by_cases c49 : (t299.size : Int) = t296
                  · rw [if_pos c49] at H
                    have c49b0 : ((t299.size : Int) == t296) = true := beq_iff_eq.mpr c49
                    have c49b1 : ((t299.size : Int) != t296) = false := bne_eq_false_iff_eq.mpr c49
                    clear c49
                    by_cases c50 : 0 ≤ 5
                    · rw [if_pos c50] at H
                      have c50b0 := eq_true c50
                      have c50b1 : decide (0 ≤ 5) = true := decide_eq_true c50
                      clear c50
                      by_cases c51 : 5 ≤ (t299.size : Int)
                      · rw [if_pos c51] at H
                        have c51b0 := eq_true c51
                        have c51b1 : decide (5 ≤ (t299.size : Int)) = true := decide_eq_true c51
                        clear c51
                        have c52b0 := eq_true (of_decide_eq_true (by first | (with_reducible assumption) | assumption) : 0 ≤ 5)
                        by_cases c53 : 5 ≤ (a2.size : Int)
                        · rw [if_pos c53] at H
                          have c53b0 := eq_true c53
                          have c53b1 : decide (5 ≤ (a2.size : Int)) = true := decide_eq_true c53
                          clear c53
                          by_cases c54 : (t299.extract 0 5).toList = (a2.extract 0 5).toList
                          · rw [if_pos c54] at H
                            have c54b0 : ((t299.extract 0 5).toList == (a2.extract 0 5).toList) = true := beq_iff_eq.mpr c54
                            have c54b1 : ((t299.extract 0 5).toList != (a2.extract 0 5).toList) = false := bne_eq_false_iff_eq.mpr c54
                            clear c54
                            by_cases c55 : 6 ≤ (t299.size : Int)
                            · rw [if_pos c55] at H
                              have c55b0 := eq_true c55
                              have c55b1 : decide (6 ≤ (t299.size : Int)) = true := decide_eq_true c55
                              clear c55
                              by_cases c56 : 6 ≤ t296
                              · rw [if_pos c56] at H
                                have c56b0 := eq_true c56
                                have c56b1 : decide (6 ≤ t296) = true := decide_eq_true c56
                                clear c56
                                by_cases c57 : t296 ≤ (a2.size : Int)
                                · rw [if_pos c57] at H
                                  have c57b0 := eq_true c57
                                  have c57b1 : decide (t296 ≤ (a2.size : Int)) = true := decide_eq_true c57
                                  clear c57
                                  by_cases c58 : (t299.extract 6 t299.size).toList = (a2.extract 6 (t296 : Int).toNat).toList
                                  · rw [if_pos c58] at H
                                    have c58b0 : ((t299.extract 6 t299.size).toList == (a2.extract 6 (t296 : Int).toNat).toList) = true := beq_iff_eq.mpr c58
                                    have c58b1 : ((t299.extract 6 t299.size).toList != (a2.extract 6 (t296 : Int).toNat).toList) = false := bne_eq_false_iff_eq.mpr c58
                                    clear c58
                                    by_cases c59 : 5 < (t299.size : Int)
                                    · rw [if_pos c59] at H
                                      have c59b0 : decide (5 < (t299.size : Int)) = true := decide_eq_true c59
                                      have c59b1 : decide (5 < t299.size) = true := decide_eq_true (by omega)
                                      clear c59
                                      by_cases c61 : 5 < (a2.size : Int)
                                      · rw [if_pos c61] at H
                                        have c61b0 : decide (5 < (a2.size : Int)) = true := decide_eq_true c61
                                        have c61b1 : decide (5 < a2.size) = true := decide_eq_true (by omega)
                                        clear c61
                                        obtain rfl := Option.some.inj H
                                        go_wp2_with (first | (go_at_call 9; (with_reducible refine (frame_Parse.calls kj15 a2 t292 t293 t294 t295 t296 t297 _ A45.out).mono ?_); rintro e w63 ⟨rfl, hb⟩; have n0_ := Aside0.mk (blk_below (g := gb274) (o := .cells #[.int .u8 a0_0, .int .u8 a0_1, .int .u32 a0_2, .string a0_3] 24 (0, 0)) (by (with_reducible repeat (first | refine blk_drewN ?_ _ | refine blk_drew ?_ | refine blk_alloc ?_ _)); exact BK274.out) hb); have n1_ := Aside0.mk (below_step (by repeat (first | (with_reducible first | exact HB.out | apply below_alloc | apply pw_below_drewN | apply below_drew1 | refine below_set ?_ GE274.out) | exact HB.out)) hb); clear BK274; clear HB; have BK274 := n0_; have HB := n1_; clear n0_ n1_; (try clear hb); (try clear hb2); (try clear hk); (try clear hi)) | ((with_reducible refine gate_dst (N := 15) rfl ?_); (try (refine gate_guard (by rfl) ?_; dsimp only)); refine box_event ?hg (N := 15) ?hd (cs := #[.int .u8 0, .int .u8 0, .int .u32 0, .string (⟨#[]⟩ : ByteArray)]) (t := 24) ?hr ?_; (case hd => rfl); (case hg => rfl); (case hr => first | (go_simp; done) | (go_simp; rfl)); intro gb298 hg w64 hbox hb; have n0_ := Aside0.mk (blk_below (g := gb274) (o := .cells #[.int .u8 a0_0, .int .u8 a0_1, .int .u32 a0_2, .string a0_3] 24 (0, 0)) (by (with_reducible repeat (first | refine blk_drewN ?_ _ | refine blk_drew ?_ | refine blk_alloc ?_ _)); exact BK274.out) hb); have n1_ := Aside0.mk (below_step (by repeat (first | (with_reducible first | exact HB.out | apply below_alloc | apply pw_below_drewN | apply below_drew1 | refine below_set ?_ GE274.out) | exact HB.out)) hb); have n2_ := Aside0.mk (hbox); have n3_ := Aside0.mk ((by rw [hg]; exact (below_size (by repeat (first | (with_reducible first | exact HB.out | apply below_alloc | apply pw_below_drewN | apply below_drew1 | refine below_set ?_ GE274.out) | exact HB.out))) : w.heap.size ≤ gb298)); have n4_ := Aside0.mk ((by rw [hg]; exact (below_size (by repeat (first | (with_reducible first | exact HB.out | apply below_alloc | apply pw_below_drewN | apply below_drew1 | refine below_set ?_ GE274.out) | exact HB.out))) : w.heap.size ≤ gb298)); have n5_ := Aside0.mk ((by rw [hg]; exact Nat.ne_of_lt (blk_lt (g := gb274) (o := .cells #[.int .u8 a0_0, .int .u8 a0_1, .int .u32 a0_2, .string a0_3] 24 (0, 0)) (by (with_reducible repeat (first | refine blk_drewN ?_ _ | refine blk_drew ?_ | refine blk_alloc ?_ _)); exact BK274.out)) : gb274 ≠ gb298)); have n6_ := Aside0.mk ((by rw [hg]; exact Nat.ne_of_gt (blk_lt (g := gb274) (o := .cells #[.int .u8 a0_0, .int .u8 a0_1, .int .u32 a0_2, .string a0_3] 24 (0, 0)) (by (with_reducible repeat (first | refine blk_drewN ?_ _ | refine blk_drew ?_ | refine blk_alloc ?_ _)); exact BK274.out)) : gb298 ≠ gb274)); clear BK274; clear HB; have BK274 := n0_; have HB := n1_; have BK298 := n2_; have GW298 := n3_; have GE298 := n4_; have NB274_298 := n5_; have NB298_274 := n6_; clear n0_ n1_ n2_ n3_ n4_ n5_ n6_; clear hb hbox hg; have hnb65 := NB298_274.out; have hnc65 := NB274_298.out; have hcz66_0 : w64.cell? ⟨gb298, 0, none⟩ = some (.int .u8 0) := (blk_cell BK298.out 0).trans rfl; have hcz66_1 : w64.cell? ⟨gb298, 1, none⟩ = some (.int .u8 0) := (blk_cell BK298.out 1).trans rfl; have hcz66_2 : w64.cell? ⟨gb298, 2, none⟩ = some (.int .u32 0) := (blk_cell BK298.out 2).trans rfl; have hcz66_3 : w64.cell? ⟨gb298, 3, none⟩ = some (.string (⟨#[]⟩ : ByteArray)) := (blk_cell BK298.out 3).trans rfl; have hfz66_0 := blk_frozen BK298.out 0; have hfz66_1 := blk_frozen BK298.out 1; have hfz66_2 := blk_frozen BK298.out 2; have hfz66_3 := blk_frozen BK298.out 3) | (go_at_call 11; (with_reducible refine (frame_Print.calls kj15 t292 t293 t294 t295 t299 t300 _ A47.out).mono ?_); rintro e w67 ⟨rfl, hb⟩; have n0_ := Aside0.mk (blk_below (g := gb274) (o := .cells #[.int .u8 a0_0, .int .u8 a0_1, .int .u32 a0_2, .string a0_3] 24 (0, 0)) (by (with_reducible repeat (first | refine blk_drewN ?_ _ | refine blk_drew ?_ | refine blk_alloc ?_ _)); refine blk_far ?_ NB274_298.out _; (with_reducible repeat (first | refine blk_drewN ?_ _ | refine blk_drew ?_ | refine blk_alloc ?_ _)); refine blk_far ?_ NB274_298.out _; (with_reducible repeat (first | refine blk_drewN ?_ _ | refine blk_drew ?_ | refine blk_alloc ?_ _)); refine blk_far ?_ NB274_298.out _; (with_reducible repeat (first | refine blk_drewN ?_ _ | refine blk_drew ?_ | refine blk_alloc ?_ _)); refine blk_far ?_ NB274_298.out _; (with_reducible repeat (first | refine blk_drewN ?_ _ | refine blk_drew ?_ | refine blk_alloc ?_ _)); exact BK274.out) hb); have n1_ := Aside0.mk (blk_below (g := gb298) (o := .cells #[.int .u8 t292, .int .u8 t293, .int .u32 t294, .string t295] 24 (0, 0)) (by (with_reducible repeat (first | refine blk_drewN ?_ _ | refine blk_drew ?_ | refine blk_alloc ?_ _)); refine blk_put (cs := #[.int .u8 t292, .int .u8 t293, .int .u32 t294, .string (⟨#[]⟩ : ByteArray)]) ?_ 3 _ rfl; (with_reducible repeat (first | refine blk_drewN ?_ _ | refine blk_drew ?_ | refine blk_alloc ?_ _)); refine blk_put (cs := #[.int .u8 t292, .int .u8 t293, .int .u32 0, .string (⟨#[]⟩ : ByteArray)]) ?_ 2 _ rfl; (with_reducible repeat (first | refine blk_drewN ?_ _ | refine blk_drew ?_ | refine blk_alloc ?_ _)); refine blk_put (cs := #[.int .u8 t292, .int .u8 0, .int .u32 0, .string (⟨#[]⟩ : ByteArray)]) ?_ 1 _ rfl; (with_reducible repeat (first | refine blk_drewN ?_ _ | refine blk_drew ?_ | refine blk_alloc ?_ _)); refine blk_put (cs := #[.int .u8 0, .int .u8 0, .int .u32 0, .string (⟨#[]⟩ : ByteArray)]) ?_ 0 _ rfl; (with_reducible repeat (first | refine blk_drewN ?_ _ | refine blk_drew ?_ | refine blk_alloc ?_ _)); exact BK298.out) hb); have n2_ := Aside0.mk (below_step (by repeat (first | (with_reducible first | exact HB.out | apply below_alloc | apply pw_below_drewN | apply below_drew1 | refine below_set ?_ GE274.out | refine below_set ?_ GE298.out) | exact HB.out)) hb); clear BK274; clear BK298; clear HB; have BK274 := n0_; have BK298 := n1_; have HB := n2_; clear n0_ n1_ n2_; (try clear hb); (try clear hb2); (try clear hk); (try clear hi); have p60 : 0 ≤ (5 : Int) := (by omega); have q60 : 5 < t299.size := (by have : (5 : Int) < (t299.size : Int) := of_decide_eq_true (by first | (with_reducible assumption) | assumption); omega); have hx60 : ∀ h : 5 < t299.size, ((t299[5]'h).toNat : Int) = bt t299 5 := bt_at t299 5; clear p60; have qi60 : (5 < (t299.size : Int)) = True := eq_true (of_decide_eq_true (by first | (with_reducible assumption) | assumption)); replace q60 := eq_true q60; have p62 : 0 ≤ (5 : Int) := (by omega); have q62 : 5 < a2.size := (by have : (5 : Int) < (a2.size : Int) := of_decide_eq_true (by first | (with_reducible assumption) | assumption); omega); have hx62 : ∀ h : 5 < a2.size, ((a2[5]'h).toNat : Int) = bt a2 5 := bt_at a2 5; clear p62; have qi62 : (5 < (a2.size : Int)) = True := eq_true (of_decide_eq_true (by first | (with_reducible assumption) | assumption)); replace q62 := eq_true q62))
                                        repeat (go_quiet (first | (go_at_call 9; (with_reducible refine (frame_Parse.calls kj15 a2 t292 t293 t294 t295 t296 t297 _ A45.out).mono ?_); rintro e w63 ⟨rfl, hb⟩; have n0_ := Aside0.mk (blk_below (g := gb274) (o := .cells #[.int .u8 a0_0, .int .u8 a0_1, .int .u32 a0_2, .string a0_3] 24 (0, 0)) (by (with_reducible repeat (first | refine blk_drewN ?_ _ | refine blk_drew ?_ | refine blk_alloc ?_ _)); exact BK274.out) hb); have n1_ := Aside0.mk (below_step (by repeat (first | (with_reducible first | exact HB.out | apply below_alloc | apply pw_below_drewN | apply below_drew1 | refine below_set ?_ GE274.out) | exact HB.out)) hb); clear BK274; clear HB; have BK274 := n0_; have HB := n1_; clear n0_ n1_; (try clear hb); (try clear hb2); (try clear hk); (try clear hi)) | ((with_reducible refine gate_dst (N := 15) rfl ?_); (try (refine gate_guard (by rfl) ?_; dsimp only)); refine box_event ?hg (N := 15) ?hd (cs := #[.int .u8 0, .int .u8 0, .int .u32 0, .string (⟨#[]⟩ : ByteArray)]) (t := 24) ?hr ?_; (case hd => rfl); (case hg => rfl); (case hr => first | (go_simp; done) | (go_simp; rfl)); intro gb298 hg w64 hbox hb; have n0_ := Aside0.mk (blk_below (g := gb274) (o := .cells #[.int .u8 a0_0, .int .u8 a0_1, .int .u32 a0_2, .string a0_3] 24 (0, 0)) (by (with_reducible repeat (first | refine blk_drewN ?_ _ | refine blk_drew ?_ | refine blk_alloc ?_ _)); exact BK274.out) hb); have n1_ := Aside0.mk (below_step (by repeat (first | (with_reducible first | exact HB.out | apply below_alloc | apply pw_below_drewN | apply below_drew1 | refine below_set ?_ GE274.out) | exact HB.out)) hb); have n2_ := Aside0.mk (hbox); have n3_ := Aside0.mk ((by rw [hg]; exact (below_size (by repeat (first | (with_reducible first | exact HB.out | apply below_alloc | apply pw_below_drewN | apply below_drew1 | refine below_set ?_ GE274.out) | exact HB.out))) : w.heap.size ≤ gb298)); have n4_ := Aside0.mk ((by rw [hg]; exact (below_size (by repeat (first | (with_reducible first | exact HB.out | apply below_alloc | apply pw_below_drewN | apply below_drew1 | refine below_set ?_ GE274.out) | exact HB.out))) : w.heap.size ≤ gb298)); have n5_ := Aside0.mk ((by rw [hg]; exact Nat.ne_of_lt (blk_lt (g := gb274) (o := .cells #[.int .u8 a0_0, .int .u8 a0_1, .int .u32 a0_2, .string a0_3] 24 (0, 0)) (by (with_reducible repeat (first | refine blk_drewN ?_ _ | refine blk_drew ?_ | refine blk_alloc ?_ _)); exact BK274.out)) : gb274 ≠ gb298)); have n6_ := Aside0.mk ((by rw [hg]; exact Nat.ne_of_gt (blk_lt (g := gb274) (o := .cells #[.int .u8 a0_0, .int .u8 a0_1, .int .u32 a0_2, .string a0_3] 24 (0, 0)) (by (with_reducible repeat (first | refine blk_drewN ?_ _ | refine blk_drew ?_ | refine blk_alloc ?_ _)); exact BK274.out)) : gb298 ≠ gb274)); clear BK274; clear HB; have BK274 := n0_; have HB := n1_; have BK298 := n2_; have GW298 := n3_; have GE298 := n4_; have NB274_298 := n5_; have NB298_274 := n6_; clear n0_ n1_ n2_ n3_ n4_ n5_ n6_; clear hb hbox hg; have hnb65 := NB298_274.out; have hnc65 := NB274_298.out; have hcz66_0 : w64.cell? ⟨gb298, 0, none⟩ = some (.int .u8 0) := (blk_cell BK298.out 0).trans rfl; have hcz66_1 : w64.cell? ⟨gb298, 1, none⟩ = some (.int .u8 0) := (blk_cell BK298.out 1).trans rfl; have hcz66_2 : w64.cell? ⟨gb298, 2, none⟩ = some (.int .u32 0) := (blk_cell BK298.out 2).trans rfl; have hcz66_3 : w64.cell? ⟨gb298, 3, none⟩ = some (.string (⟨#[]⟩ : ByteArray)) := (blk_cell BK298.out 3).trans rfl; have hfz66_0 := blk_frozen BK298.out 0; have hfz66_1 := blk_frozen BK298.out 1; have hfz66_2 := blk_frozen BK298.out 2; have hfz66_3 := blk_frozen BK298.out 3) | (go_at_call 11; (with_reducible refine (frame_Print.calls kj15 t292 t293 t294 t295 t299 t300 _ A47.out).mono ?_); rintro e w67 ⟨rfl, hb⟩; have n0_ := Aside0.mk (blk_below (g := gb274) (o := .cells #[.int .u8 a0_0, .int .u8 a0_1, .int .u32 a0_2, .string a0_3] 24 (0, 0)) (by (with_reducible repeat (first | refine blk_drewN ?_ _ | refine blk_drew ?_ | refine blk_alloc ?_ _)); refine blk_far ?_ NB274_298.out _; (with_reducible repeat (first | refine blk_drewN ?_ _ | refine blk_drew ?_ | refine blk_alloc ?_ _)); refine blk_far ?_ NB274_298.out _; (with_reducible repeat (first | refine blk_drewN ?_ _ | refine blk_drew ?_ | refine blk_alloc ?_ _)); refine blk_far ?_ NB274_298.out _; (with_reducible repeat (first | refine blk_drewN ?_ _ | refine blk_drew ?_ | refine blk_alloc ?_ _)); refine blk_far ?_ NB274_298.out _; (with_reducible repeat (first | refine blk_drewN ?_ _ | refine blk_drew ?_ | refine blk_alloc ?_ _)); exact BK274.out) hb); have n1_ := Aside0.mk (blk_below (g := gb298) (o := .cells #[.int .u8 t292, .int .u8 t293, .int .u32 t294, .string t295] 24 (0, 0)) (by (with_reducible repeat (first | refine blk_drewN ?_ _ | refine blk_drew ?_ | refine blk_alloc ?_ _)); refine blk_put (cs := #[.int .u8 t292, .int .u8 t293, .int .u32 t294, .string (⟨#[]⟩ : ByteArray)]) ?_ 3 _ rfl; (with_reducible repeat (first | refine blk_drewN ?_ _ | refine blk_drew ?_ | refine blk_alloc ?_ _)); refine blk_put (cs := #[.int .u8 t292, .int .u8 t293, .int .u32 0, .string (⟨#[]⟩ : ByteArray)]) ?_ 2 _ rfl; (with_reducible repeat (first | refine blk_drewN ?_ _ | refine blk_drew ?_ | refine blk_alloc ?_ _)); refine blk_put (cs := #[.int .u8 t292, .int .u8 0, .int .u32 0, .string (⟨#[]⟩ : ByteArray)]) ?_ 1 _ rfl; (with_reducible repeat (first | refine blk_drewN ?_ _ | refine blk_drew ?_ | refine blk_alloc ?_ _)); refine blk_put (cs := #[.int .u8 0, .int .u8 0, .int .u32 0, .string (⟨#[]⟩ : ByteArray)]) ?_ 0 _ rfl; (with_reducible repeat (first | refine blk_drewN ?_ _ | refine blk_drew ?_ | refine blk_alloc ?_ _)); exact BK298.out) hb); have n2_ := Aside0.mk (below_step (by repeat (first | (with_reducible first | exact HB.out | apply below_alloc | apply pw_below_drewN | apply below_drew1 | refine below_set ?_ GE274.out | refine below_set ?_ GE298.out) | exact HB.out)) hb); clear BK274; clear BK298; clear HB; have BK274 := n0_; have BK298 := n1_; have HB := n2_; clear n0_ n1_ n2_; (try clear hb); (try clear hb2); (try clear hk); (try clear hi); have p60 : 0 ≤ (5 : Int) := (by omega); have q60 : 5 < t299.size := (by have : (5 : Int) < (t299.size : Int) := of_decide_eq_true (by first | (with_reducible assumption) | assumption); omega); have hx60 : ∀ h : 5 < t299.size, ((t299[5]'h).toNat : Int) = bt t299 5 := bt_at t299 5; clear p60; have qi60 : (5 < (t299.size : Int)) = True := eq_true (of_decide_eq_true (by first | (with_reducible assumption) | assumption)); replace q60 := eq_true q60; have p62 : 0 ≤ (5 : Int) := (by omega); have q62 : 5 < a2.size := (by have : (5 : Int) < (a2.size : Int) := of_decide_eq_true (by first | (with_reducible assumption) | assumption); omega); have hx62 : ∀ h : 5 < a2.size, ((a2[5]'h).toNat : Int) = bt a2 5 := bt_at a2 5; clear p62; have qi62 : (5 < (a2.size : Int)) = True := eq_true (of_decide_eq_true (by first | (with_reducible assumption) | assumption)); replace q62 := eq_true q62)); try go_wp2_with (first | (go_at_call 9; (with_reducible refine (frame_Parse.calls kj15 a2 t292 t293 t294 t295 t296 t297 _ A45.out).mono ?_); rintro e w63 ⟨rfl, hb⟩; have n0_ := Aside0.mk (blk_below (g := gb274) (o := .cells #[.int .u8 a0_0, .int .u8 a0_1, .int .u32 a0_2, .string a0_3] 24 (0, 0)) (by (with_reducible repeat (first | refine blk_drewN ?_ _ | refine blk_drew ?_ | refine blk_alloc ?_ _)); exact BK274.out) hb); have n1_ := Aside0.mk (below_step (by repeat (first | (with_reducible first | exact HB.out | apply below_alloc | apply pw_below_drewN | apply below_drew1 | refine below_set ?_ GE274.out) | exact HB.out)) hb); clear BK274; clear HB; have BK274 := n0_; have HB := n1_; clear n0_ n1_; (try clear hb); (try clear hb2); (try clear hk); (try clear hi)) | ((with_reducible refine gate_dst (N := 15) rfl ?_); (try (refine gate_guard (by rfl) ?_; dsimp only)); refine box_event ?hg (N := 15) ?hd (cs := #[.int .u8 0, .int .u8 0, .int .u32 0, .string (⟨#[]⟩ : ByteArray)]) (t := 24) ?hr ?_; (case hd => rfl); (case hg => rfl); (case hr => first | (go_simp; done) | (go_simp; rfl)); intro gb298 hg w64 hbox hb; have n0_ := Aside0.mk (blk_below (g := gb274) (o := .cells #[.int .u8 a0_0, .int .u8 a0_1, .int .u32 a0_2, .string a0_3] 24 (0, 0)) (by (with_reducible repeat (first | refine blk_drewN ?_ _ | refine blk_drew ?_ | refine blk_alloc ?_ _)); exact BK274.out) hb); have n1_ := Aside0.mk (below_step (by repeat (first | (with_reducible first | exact HB.out | apply below_alloc | apply pw_below_drewN | apply below_drew1 | refine below_set ?_ GE274.out) | exact HB.out)) hb); have n2_ := Aside0.mk (hbox); have n3_ := Aside0.mk ((by rw [hg]; exact (below_size (by repeat (first | (with_reducible first | exact HB.out | apply below_alloc | apply pw_below_drewN | apply below_drew1 | refine below_set ?_ GE274.out) | exact HB.out))) : w.heap.size ≤ gb298)); have n4_ := Aside0.mk ((by rw [hg]; exact (below_size (by repeat (first | (with_reducible first | exact HB.out | apply below_alloc | apply pw_below_drewN | apply below_drew1 | refine below_set ?_ GE274.out) | exact HB.out))) : w.heap.size ≤ gb298)); have n5_ := Aside0.mk ((by rw [hg]; exact Nat.ne_of_lt (blk_lt (g := gb274) (o := .cells #[.int .u8 a0_0, .int .u8 a0_1, .int .u32 a0_2, .string a0_3] 24 (0, 0)) (by (with_reducible repeat (first | refine blk_drewN ?_ _ | refine blk_drew ?_ | refine blk_alloc ?_ _)); exact BK274.out)) : gb274 ≠ gb298)); have n6_ := Aside0.mk ((by rw [hg]; exact Nat.ne_of_gt (blk_lt (g := gb274) (o := .cells #[.int .u8 a0_0, .int .u8 a0_1, .int .u32 a0_2, .string a0_3] 24 (0, 0)) (by (with_reducible repeat (first | refine blk_drewN ?_ _ | refine blk_drew ?_ | refine blk_alloc ?_ _)); exact BK274.out)) : gb298 ≠ gb274)); clear BK274; clear HB; have BK274 := n0_; have HB := n1_; have BK298 := n2_; have GW298 := n3_; have GE298 := n4_; have NB274_298 := n5_; have NB298_274 := n6_; clear n0_ n1_ n2_ n3_ n4_ n5_ n6_; clear hb hbox hg; have hnb65 := NB298_274.out; have hnc65 := NB274_298.out; have hcz66_0 : w64.cell? ⟨gb298, 0, none⟩ = some (.int .u8 0) := (blk_cell BK298.out 0).trans rfl; have hcz66_1 : w64.cell? ⟨gb298, 1, none⟩ = some (.int .u8 0) := (blk_cell BK298.out 1).trans rfl; have hcz66_2 : w64.cell? ⟨gb298, 2, none⟩ = some (.int .u32 0) := (blk_cell BK298.out 2).trans rfl; have hcz66_3 : w64.cell? ⟨gb298, 3, none⟩ = some (.string (⟨#[]⟩ : ByteArray)) := (blk_cell BK298.out 3).trans rfl; have hfz66_0 := blk_frozen BK298.out 0; have hfz66_1 := blk_frozen BK298.out 1; have hfz66_2 := blk_frozen BK298.out 2; have hfz66_3 := blk_frozen BK298.out 3) | (go_at_call 11; (with_reducible refine (frame_Print.calls kj15 t292 t293 t294 t295 t299 t300 _ A47.out).mono ?_); rintro e w67 ⟨rfl, hb⟩; have n0_ := Aside0.mk (blk_below (g := gb274) (o := .cells #[.int .u8 a0_0, .int .u8 a0_1, .int .u32 a0_2, .string a0_3] 24 (0, 0)) (by (with_reducible repeat (first | refine blk_drewN ?_ _ | refine blk_drew ?_ | refine blk_alloc ?_ _)); refine blk_far ?_ NB274_298.out _; (with_reducible repeat (first | refine blk_drewN ?_ _ | refine blk_drew ?_ | refine blk_alloc ?_ _)); refine blk_far ?_ NB274_298.out _; (with_reducible repeat (first | refine blk_drewN ?_ _ | refine blk_drew ?_ | refine blk_alloc ?_ _)); refine blk_far ?_ NB274_298.out _; (with_reducible repeat (first | refine blk_drewN ?_ _ | refine blk_drew ?_ | refine blk_alloc ?_ _)); refine blk_far ?_ NB274_298.out _; (with_reducible repeat (first | refine blk_drewN ?_ _ | refine blk_drew ?_ | refine blk_alloc ?_ _)); exact BK274.out) hb); have n1_ := Aside0.mk (blk_below (g := gb298) (o := .cells #[.int .u8 t292, .int .u8 t293, .int .u32 t294, .string t295] 24 (0, 0)) (by (with_reducible repeat (first | refine blk_drewN ?_ _ | refine blk_drew ?_ | refine blk_alloc ?_ _)); refine blk_put (cs := #[.int .u8 t292, .int .u8 t293, .int .u32 t294, .string (⟨#[]⟩ : ByteArray)]) ?_ 3 _ rfl; (with_reducible repeat (first | refine blk_drewN ?_ _ | refine blk_drew ?_ | refine blk_alloc ?_ _)); refine blk_put (cs := #[.int .u8 t292, .int .u8 t293, .int .u32 0, .string (⟨#[]⟩ : ByteArray)]) ?_ 2 _ rfl; (with_reducible repeat (first | refine blk_drewN ?_ _ | refine blk_drew ?_ | refine blk_alloc ?_ _)); refine blk_put (cs := #[.int .u8 t292, .int .u8 0, .int .u32 0, .string (⟨#[]⟩ : ByteArray)]) ?_ 1 _ rfl; (with_reducible repeat (first | refine blk_drewN ?_ _ | refine blk_drew ?_ | refine blk_alloc ?_ _)); refine blk_put (cs := #[.int .u8 0, .int .u8 0, .int .u32 0, .string (⟨#[]⟩ : ByteArray)]) ?_ 0 _ rfl; (with_reducible repeat (first | refine blk_drewN ?_ _ | refine blk_drew ?_ | refine blk_alloc ?_ _)); exact BK298.out) hb); have n2_ := Aside0.mk (below_step (by repeat (first | (with_reducible first | exact HB.out | apply below_alloc | apply pw_below_drewN | apply below_drew1 | refine below_set ?_ GE274.out | refine below_set ?_ GE298.out) | exact HB.out)) hb); clear BK274; clear BK298; clear HB; have BK274 := n0_; have BK298 := n1_; have HB := n2_; clear n0_ n1_ n2_; (try clear hb); (try clear hb2); (try clear hk); (try clear hi); have p60 : 0 ≤ (5 : Int) := (by omega); have q60 : 5 < t299.size := (by have : (5 : Int) < (t299.size : Int) := of_decide_eq_true (by first | (with_reducible assumption) | assumption); omega); have hx60 : ∀ h : 5 < t299.size, ((t299[5]'h).toNat : Int) = bt t299 5 := bt_at t299 5; clear p60; have qi60 : (5 < (t299.size : Int)) = True := eq_true (of_decide_eq_true (by first | (with_reducible assumption) | assumption)); replace q60 := eq_true q60; have p62 : 0 ≤ (5 : Int) := (by omega); have q62 : 5 < a2.size := (by have : (5 : Int) < (a2.size : Int) := of_decide_eq_true (by first | (with_reducible assumption) | assumption); omega); have hx62 : ∀ h : 5 < a2.size, ((a2[5]'h).toNat : Int) = bt a2 5 := bt_at a2 5; clear p62; have qi62 : (5 < (a2.size : Int)) = True := eq_true (of_decide_eq_true (by first | (with_reducible assumption) | assumption)); replace q62 := eq_true q62)))
                                        go_ret
                                        exact ⟨by first | rfl | (simp [errW_none, errW_some] <;> rfl) | (simp [*, errW_none, errW_some] <;> rfl), by repeat (first | (with_reducible first | exact HB.out | apply below_alloc | apply pw_below_drewN | apply below_drew1 | refine below_set ?_ GE274.out | refine below_set ?_ GE298.out) | exact HB.out)⟩
                                      · rw [if_neg c61] at H
                                        exact absurd H (by simp)
                                    · rw [if_neg c59] at H
                                      exact absurd H (by simp)
                                  · rw [if_neg c58] at H
                                    have c58b0 : ((t299.extract 6 t299.size).toList == (a2.extract 6 (t296 : Int).toNat).toList) = false := beq_eq_false_iff_ne.mpr c58
                                    have c58b1 : ((t299.extract 6 t299.size).toList != (a2.extract 6 (t296 : Int).toNat).toList) = true := bne_iff_ne.mpr c58
                                    exact absurd ((Option.some.inj H).trans HT.out) (by decide)
                                · rw [if_neg c57] at H
                                  exact absurd H (by simp)
                              · rw [if_neg c56] at H
                                exact absurd H (by simp)
                            · rw [if_neg c55] at H
                              exact absurd H (by simp)
                          · rw [if_neg c54] at H
                            have c54b0 : ((t299.extract 0 5).toList == (a2.extract 0 5).toList) = false := beq_eq_false_iff_ne.mpr c54
                            have c54b1 : ((t299.extract 0 5).toList != (a2.extract 0 5).toList) = true := bne_iff_ne.mpr c54
                            exact absurd ((Option.some.inj H).trans HT.out) (by decide)
                        · rw [if_neg c53] at H
                          exact absurd H (by simp)
                      · rw [if_neg c51] at H
                        exact absurd H (by simp)
                    · rw [if_neg c50] at H
                      exact absurd H (by simp)
                  · rw [if_neg c49] at H
                    have c49b0 : ((t299.size : Int) == t296) = false := beq_eq_false_iff_ne.mpr c49
                    have c49b1 : ((t299.size : Int) != t296) = true := bne_iff_ne.mpr c49
                    exact absurd ((Option.some.inj H).trans HT.out) (by decide)
                · rw [if_neg c48] at H
                  have c48b0 : (t300 == 0) = false := beq_eq_false_iff_ne.mpr c48
                  have c48b1 : (t300 != 0) = true := bne_iff_ne.mpr c48
                  exact absurd ((Option.some.inj H).trans HT.out) (by decide)
              · rw [if_neg c46] at H
                have c46b0 : (t297 == 0) = false := beq_eq_false_iff_ne.mpr c46
                have c46b1 : (t297 != 0) = true := bne_iff_ne.mpr c46
                obtain rfl := Option.some.inj H
                go_wp2_with (first | (go_at_call 9; (with_reducible refine (frame_Parse.calls kj15 a2 t292 t293 t294 t295 t296 t297 _ A45.out).mono ?_); rintro e w68 ⟨rfl, hb⟩; have n0_ := Aside0.mk (blk_below (g := gb274) (o := .cells #[.int .u8 a0_0, .int .u8 a0_1, .int .u32 a0_2, .string a0_3] 24 (0, 0)) (by (with_reducible repeat (first | refine blk_drewN ?_ _ | refine blk_drew ?_ | refine blk_alloc ?_ _)); exact BK274.out) hb); have n1_ := Aside0.mk (below_step (by repeat (first | (with_reducible first | exact HB.out | apply below_alloc | apply pw_below_drewN | apply below_drew1 | refine below_set ?_ GE274.out) | exact HB.out)) hb); clear BK274; clear HB; have BK274 := n0_; have HB := n1_; clear n0_ n1_; (try clear hb); (try clear hb2); (try clear hk); (try clear hi)) | ((with_reducible refine gate_dst (N := 15) rfl ?_); (try (refine gate_guard (by rfl) ?_; dsimp only)); refine box_event ?hg (N := 15) ?hd (cs := #[.int .u8 0, .int .u8 0, .int .u32 0, .string (⟨#[]⟩ : ByteArray)]) (t := 24) ?hr ?_; (case hd => rfl); (case hg => rfl); (case hr => first | (go_simp; done) | (go_simp; rfl)); intro gb298 hg w69 hbox hb; have n0_ := Aside0.mk (blk_below (g := gb274) (o := .cells #[.int .u8 a0_0, .int .u8 a0_1, .int .u32 a0_2, .string a0_3] 24 (0, 0)) (by (with_reducible repeat (first | refine blk_drewN ?_ _ | refine blk_drew ?_ | refine blk_alloc ?_ _)); exact BK274.out) hb); have n1_ := Aside0.mk (below_step (by repeat (first | (with_reducible first | exact HB.out | apply below_alloc | apply pw_below_drewN | apply below_drew1 | refine below_set ?_ GE274.out) | exact HB.out)) hb); have n2_ := Aside0.mk (hbox); have n3_ := Aside0.mk ((by rw [hg]; exact (below_size (by repeat (first | (with_reducible first | exact HB.out | apply below_alloc | apply pw_below_drewN | apply below_drew1 | refine below_set ?_ GE274.out) | exact HB.out))) : w.heap.size ≤ gb298)); have n4_ := Aside0.mk ((by rw [hg]; exact (below_size (by repeat (first | (with_reducible first | exact HB.out | apply below_alloc | apply pw_below_drewN | apply below_drew1 | refine below_set ?_ GE274.out) | exact HB.out))) : w.heap.size ≤ gb298)); have n5_ := Aside0.mk ((by rw [hg]; exact Nat.ne_of_lt (blk_lt (g := gb274) (o := .cells #[.int .u8 a0_0, .int .u8 a0_1, .int .u32 a0_2, .string a0_3] 24 (0, 0)) (by (with_reducible repeat (first | refine blk_drewN ?_ _ | refine blk_drew ?_ | refine blk_alloc ?_ _)); exact BK274.out)) : gb274 ≠ gb298)); have n6_ := Aside0.mk ((by rw [hg]; exact Nat.ne_of_gt (blk_lt (g := gb274) (o := .cells #[.int .u8 a0_0, .int .u8 a0_1, .int .u32 a0_2, .string a0_3] 24 (0, 0)) (by (with_reducible repeat (first | refine blk_drewN ?_ _ | refine blk_drew ?_ | refine blk_alloc ?_ _)); exact BK274.out)) : gb298 ≠ gb274)); clear BK274; clear HB; have BK274 := n0_; have HB := n1_; have BK298 := n2_; have GW298 := n3_; have GE298 := n4_; have NB274_298 := n5_; have NB298_274 := n6_; clear n0_ n1_ n2_ n3_ n4_ n5_ n6_; clear hb hbox hg; have hnb70 := NB298_274.out; have hnc70 := NB274_298.out; have hcz71_0 : w69.cell? ⟨gb298, 0, none⟩ = some (.int .u8 0) := (blk_cell BK298.out 0).trans rfl; have hcz71_1 : w69.cell? ⟨gb298, 1, none⟩ = some (.int .u8 0) := (blk_cell BK298.out 1).trans rfl; have hcz71_2 : w69.cell? ⟨gb298, 2, none⟩ = some (.int .u32 0) := (blk_cell BK298.out 2).trans rfl; have hcz71_3 : w69.cell? ⟨gb298, 3, none⟩ = some (.string (⟨#[]⟩ : ByteArray)) := (blk_cell BK298.out 3).trans rfl; have hfz71_0 := blk_frozen BK298.out 0; have hfz71_1 := blk_frozen BK298.out 1; have hfz71_2 := blk_frozen BK298.out 2; have hfz71_3 := blk_frozen BK298.out 3))
                repeat (go_quiet (first | (go_at_call 9; (with_reducible refine (frame_Parse.calls kj15 a2 t292 t293 t294 t295 t296 t297 _ A45.out).mono ?_); rintro e w68 ⟨rfl, hb⟩; have n0_ := Aside0.mk (blk_below (g := gb274) (o := .cells #[.int .u8 a0_0, .int .u8 a0_1, .int .u32 a0_2, .string a0_3] 24 (0, 0)) (by (with_reducible repeat (first | refine blk_drewN ?_ _ | refine blk_drew ?_ | refine blk_alloc ?_ _)); exact BK274.out) hb); have n1_ := Aside0.mk (below_step (by repeat (first | (with_reducible first | exact HB.out | apply below_alloc | apply pw_below_drewN | apply below_drew1 | refine below_set ?_ GE274.out) | exact HB.out)) hb); clear BK274; clear HB; have BK274 := n0_; have HB := n1_; clear n0_ n1_; (try clear hb); (try clear hb2); (try clear hk); (try clear hi)) | ((with_reducible refine gate_dst (N := 15) rfl ?_); (try (refine gate_guard (by rfl) ?_; dsimp only)); refine box_event ?hg (N := 15) ?hd (cs := #[.int .u8 0, .int .u8 0, .int .u32 0, .string (⟨#[]⟩ : ByteArray)]) (t := 24) ?hr ?_; (case hd => rfl); (case hg => rfl); (case hr => first | (go_simp; done) | (go_simp; rfl)); intro gb298 hg w69 hbox hb; have n0_ := Aside0.mk (blk_below (g := gb274) (o := .cells #[.int .u8 a0_0, .int .u8 a0_1, .int .u32 a0_2, .string a0_3] 24 (0, 0)) (by (with_reducible repeat (first | refine blk_drewN ?_ _ | refine blk_drew ?_ | refine blk_alloc ?_ _)); exact BK274.out) hb); have n1_ := Aside0.mk (below_step (by repeat (first | (with_reducible first | exact HB.out | apply below_alloc | apply pw_below_drewN | apply below_drew1 | refine below_set ?_ GE274.out) | exact HB.out)) hb); have n2_ := Aside0.mk (hbox); have n3_ := Aside0.mk ((by rw [hg]; exact (below_size (by repeat (first | (with_reducible first | exact HB.out | apply below_alloc | apply pw_below_drewN | apply below_drew1 | refine below_set ?_ GE274.out) | exact HB.out))) : w.heap.size ≤ gb298)); have n4_ := Aside0.mk ((by rw [hg]; exact (below_size (by repeat (first | (with_reducible first | exact HB.out | apply below_alloc | apply pw_below_drewN | apply below_drew1 | refine below_set ?_ GE274.out) | exact HB.out))) : w.heap.size ≤ gb298)); have n5_ := Aside0.mk ((by rw [hg]; exact Nat.ne_of_lt (blk_lt (g := gb274) (o := .cells #[.int .u8 a0_0, .int .u8 a0_1, .int .u32 a0_2, .string a0_3] 24 (0, 0)) (by (with_reducible repeat (first | refine blk_drewN ?_ _ | refine blk_drew ?_ | refine blk_alloc ?_ _)); exact BK274.out)) : gb274 ≠ gb298)); have n6_ := Aside0.mk ((by rw [hg]; exact Nat.ne_of_gt (blk_lt (g := gb274) (o := .cells #[.int .u8 a0_0, .int .u8 a0_1, .int .u32 a0_2, .string a0_3] 24 (0, 0)) (by (with_reducible repeat (first | refine blk_drewN ?_ _ | refine blk_drew ?_ | refine blk_alloc ?_ _)); exact BK274.out)) : gb298 ≠ gb274)); clear BK274; clear HB; have BK274 := n0_; have HB := n1_; have BK298 := n2_; have GW298 := n3_; have GE298 := n4_; have NB274_298 := n5_; have NB298_274 := n6_; clear n0_ n1_ n2_ n3_ n4_ n5_ n6_; clear hb hbox hg; have hnb70 := NB298_274.out; have hnc70 := NB274_298.out; have hcz71_0 : w69.cell? ⟨gb298, 0, none⟩ = some (.int .u8 0) := (blk_cell BK298.out 0).trans rfl; have hcz71_1 : w69.cell? ⟨gb298, 1, none⟩ = some (.int .u8 0) := (blk_cell BK298.out 1).trans rfl; have hcz71_2 : w69.cell? ⟨gb298, 2, none⟩ = some (.int .u32 0) := (blk_cell BK298.out 2).trans rfl; have hcz71_3 : w69.cell? ⟨gb298, 3, none⟩ = some (.string (⟨#[]⟩ : ByteArray)) := (blk_cell BK298.out 3).trans rfl; have hfz71_0 := blk_frozen BK298.out 0; have hfz71_1 := blk_frozen BK298.out 1; have hfz71_2 := blk_frozen BK298.out 2; have hfz71_3 := blk_frozen BK298.out 3)); try go_wp2_with (first | (go_at_call 9; (with_reducible refine (frame_Parse.calls kj15 a2 t292 t293 t294 t295 t296 t297 _ A45.out).mono ?_); rintro e w68 ⟨rfl, hb⟩; have n0_ := Aside0.mk (blk_below (g := gb274) (o := .cells #[.int .u8 a0_0, .int .u8 a0_1, .int .u32 a0_2, .string a0_3] 24 (0, 0)) (by (with_reducible repeat (first | refine blk_drewN ?_ _ | refine blk_drew ?_ | refine blk_alloc ?_ _)); exact BK274.out) hb); have n1_ := Aside0.mk (below_step (by repeat (first | (with_reducible first | exact HB.out | apply below_alloc | apply pw_below_drewN | apply below_drew1 | refine below_set ?_ GE274.out) | exact HB.out)) hb); clear BK274; clear HB; have BK274 := n0_; have HB := n1_; clear n0_ n1_; (try clear hb); (try clear hb2); (try clear hk); (try clear hi)) | ((with_reducible refine gate_dst (N := 15) rfl ?_); (try (refine gate_guard (by rfl) ?_; dsimp only)); refine box_event ?hg (N := 15) ?hd (cs := #[.int .u8 0, .int .u8 0, .int .u32 0, .string (⟨#[]⟩ : ByteArray)]) (t := 24) ?hr ?_; (case hd => rfl); (case hg => rfl); (case hr => first | (go_simp; done) | (go_simp; rfl)); intro gb298 hg w69 hbox hb; have n0_ := Aside0.mk (blk_below (g := gb274) (o := .cells #[.int .u8 a0_0, .int .u8 a0_1, .int .u32 a0_2, .string a0_3] 24 (0, 0)) (by (with_reducible repeat (first | refine blk_drewN ?_ _ | refine blk_drew ?_ | refine blk_alloc ?_ _)); exact BK274.out) hb); have n1_ := Aside0.mk (below_step (by repeat (first | (with_reducible first | exact HB.out | apply below_alloc | apply pw_below_drewN | apply below_drew1 | refine below_set ?_ GE274.out) | exact HB.out)) hb); have n2_ := Aside0.mk (hbox); have n3_ := Aside0.mk ((by rw [hg]; exact (below_size (by repeat (first | (with_reducible first | exact HB.out | apply below_alloc | apply pw_below_drewN | apply below_drew1 | refine below_set ?_ GE274.out) | exact HB.out))) : w.heap.size ≤ gb298)); have n4_ := Aside0.mk ((by rw [hg]; exact (below_size (by repeat (first | (with_reducible first | exact HB.out | apply below_alloc | apply pw_below_drewN | apply below_drew1 | refine below_set ?_ GE274.out) | exact HB.out))) : w.heap.size ≤ gb298)); have n5_ := Aside0.mk ((by rw [hg]; exact Nat.ne_of_lt (blk_lt (g := gb274) (o := .cells #[.int .u8 a0_0, .int .u8 a0_1, .int .u32 a0_2, .string a0_3] 24 (0, 0)) (by (with_reducible repeat (first | refine blk_drewN ?_ _ | refine blk_drew ?_ | refine blk_alloc ?_ _)); exact BK274.out)) : gb274 ≠ gb298)); have n6_ := Aside0.mk ((by rw [hg]; exact Nat.ne_of_gt (blk_lt (g := gb274) (o := .cells #[.int .u8 a0_0, .int .u8 a0_1, .int .u32 a0_2, .string a0_3] 24 (0, 0)) (by (with_reducible repeat (first | refine blk_drewN ?_ _ | refine blk_drew ?_ | refine blk_alloc ?_ _)); exact BK274.out)) : gb298 ≠ gb274)); clear BK274; clear HB; have BK274 := n0_; have HB := n1_; have BK298 := n2_; have GW298 := n3_; have GE298 := n4_; have NB274_298 := n5_; have NB298_274 := n6_; clear n0_ n1_ n2_ n3_ n4_ n5_ n6_; clear hb hbox hg; have hnb70 := NB298_274.out; have hnc70 := NB274_298.out; have hcz71_0 : w69.cell? ⟨gb298, 0, none⟩ = some (.int .u8 0) := (blk_cell BK298.out 0).trans rfl; have hcz71_1 : w69.cell? ⟨gb298, 1, none⟩ = some (.int .u8 0) := (blk_cell BK298.out 1).trans rfl; have hcz71_2 : w69.cell? ⟨gb298, 2, none⟩ = some (.int .u32 0) := (blk_cell BK298.out 2).trans rfl; have hcz71_3 : w69.cell? ⟨gb298, 3, none⟩ = some (.string (⟨#[]⟩ : ByteArray)) := (blk_cell BK298.out 3).trans rfl; have hfz71_0 := blk_frozen BK298.out 0; have hfz71_1 := blk_frozen BK298.out 1; have hfz71_2 := blk_frozen BK298.out 2; have hfz71_3 := blk_frozen BK298.out 3)))
                go_ret
                exact ⟨by first | rfl | (simp [errW_none, errW_some] <;> rfl) | (simp [*, errW_none, errW_some] <;> rfl), by repeat (first | (with_reducible first | exact HB.out | apply below_alloc | apply pw_below_drewN | apply below_drew1 | refine below_set ?_ GE274.out | refine below_set ?_ GE298.out) | exact HB.out)⟩
  · replace c5 := Bool.eq_false_iff.mpr c5
    subst c5
    have H1 : (some false) = some r := by rw [if_neg (show ¬ (false = true) by decide)] at H; exact H
    clear H
    have H := H1
    clear H1
    exact absurd ((Option.some.inj H).trans HT.out) (by decide)

/-- THE ONE PURE STATEMENT of nunciolaw14_FrameBack: yours. -/
def nunciolaw14_FrameBack.Pure : Prop := ∀ (a0_0 : Int) (a0_1 : Int) (a0_2 : Int) (a0_3 : ByteArray) (a1 : ByteArray) (a2 : ByteArray), ((Lit.int .u8 a0_0).wf = true) → ((Lit.int .u8 a0_1).wf = true) → ((Lit.int .u32 a0_2).wf = true) → (a0_3.size ≤ 140737488351232) → (a1.size ≤ 140737488351232) → (a2.size ≤ 140737488351232) → ∃ k, nunciolaw14_FrameBack.f k a0_0 a0_1 a0_2 a0_3 a1 a2 = some true
theorem nunciolaw14_FrameBack.walk (P : nunciolaw14_FrameBack.Pure) (a0_0 : Int) (a0_1 : Int) (a0_2 : Int) (a0_3 : ByteArray) (a1 : ByteArray) (a2 : ByteArray) (w : World) (w0_0 : (Lit.int .u8 a0_0).wf = true) (w0_1 : (Lit.int .u8 a0_1).wf = true) (w0_2 : (Lit.int .u32 a0_2).wf = true) (w0_3 : a0_3.size ≤ 140737488351232) (w1 : a1.size ≤ 140737488351232) (w2 : a2.size ≤ 140737488351232) :
    Calls Try.prog 5 #[.agg #[.int .u8 a0_0, .int .u8 a0_1, .int .u32 a0_2, .string a0_3], .string a1, .string a2] w fun e w' => e = .returned (.bool true) ∧ Below w.heap.size w w' := by
  obtain ⟨k, h⟩ := P a0_0 a0_1 a0_2 a0_3 a1 a2 w0_0 w0_1 w0_2 w0_3 w1 w2
  refine (nunciolaw14_FrameBack.calls k a0_0 a0_1 a0_2 a0_3 a1 a2 true w h rfl).mono ?_
  rintro e w' ⟨rfl, hd⟩
  exact ⟨rfl, hd⟩

end Go.Proofs.Ytimhhacnpjcjnaa.Mine
