-- Written by this repo's own printer (wip/print), which builds on the kit's.
import Derived.Test.YtimhhacnpjcjnaaMinex0
import Derived.Test.YtimhhacnpjcjnaaMinex12
namespace Go.Proofs.Ytimhhacnpjcjnaa.Mine
open Go.RowKit Go.Proofs.YtimhhacnpjcjnaaW.PrintWords Go.Proofs.YtimhhacnpjcjnaaW.PrintLast Go.Proofs.YtimhhacnpjcjnaaW.PrintMore
attribute [local go_sem] max2_int min2_int max_two min_two max_three min_three max_four min_four   -- for this text's walks alone
set_option linter.unusedVariables false
set_option linter.unusedSimpArgs false

-- NOT PRINTED: function 5 (nunciolaw14_FrameBack)

-- NOT PRINTED: function 6 (nunciolaw14_FramePads)

/-! ### frame_Goaway: function 20 -/
def frame_Goaway.f (k : Nat) (a0 : Int) (a1 : Int) : Option (Int × Int × Int × ByteArray) := (frame_four.f k (Go.bits .and .u32 a0 2147483647)).bind fun t308 => ((frame_four.f k a1).bind fun t309 => (if t308.size + t309.size ≤ 9223372036854775807 then (some (7, 0, 0, t308 ++ t309)) else (none)))
theorem frame_Goaway.mono : ∀ a0 a1 k, LeO (frame_Goaway.f k a0 a1) (frame_Goaway.f (k + 1) a0 a1) := by
  intro a0 a1 k
  unfold frame_Goaway.f
  repeat' first
      | (with_reducible exact frame_four.mono _ _)
      | (with_reducible exact LeO.refl _)
      | (with_reducible exact LeO.none _)
      | (with_reducible refine LeO.ite ?_ ?_)
      | (with_reducible refine LeO.bind ?_ (fun _ => ?_))
      | exact frame_four.mono _ _
      | exact LeO.none _
      | refine LeO.ite ?_ ?_
      | refine LeO.bind ?_ (fun _ => ?_)
set_option maxHeartbeats 8000000 in
set_option maxRecDepth 100000 in
theorem frame_Goaway.calls (k : Nat) (a0 : Int) (a1 : Int) (r1 : Int) (r2 : Int) (r3 : Int) (r4 : ByteArray) (w : World) (h : frame_Goaway.f k a0 a1 = some (r1, r2, r3, r4)) :
    Calls Try.prog 20 #[.int .u32 a0, .int .u32 a1] w fun e w' => e = .returned (.agg #[.int .u8 r1, .int .u8 r2, .int .u32 r3, .string r4]) ∧ Below w.heap.size w w' := by
  have hu24 := Try.underlying24
  have HB := Aside0.mk (Below.refl w.heap.size w)
  have H : ((frame_four.f k (Go.bits .and .u32 a0 2147483647)).bind fun t308 => ((frame_four.f k a1).bind fun t309 => (if t308.size + t309.size ≤ 9223372036854775807 then (some (7, 0, 0, t308 ++ t309)) else (none)))) = some (r1, r2, r3, r4) := h
  clear h
  replace H := Option.bind_eq_some_iff.mp H
  obtain ⟨t308, A30, H⟩ := H
  replace H : ((frame_four.f k a1).bind fun t309 => (if t308.size + t309.size ≤ 9223372036854775807 then (some (7, 0, 0, t308 ++ t309)) else (none))) = some (r1, r2, r3, r4) := H
  have A3 := Aside0.mk A30
  clear A30
  replace H := Option.bind_eq_some_iff.mp H
  obtain ⟨t309, A40, H⟩ := H
  replace H : (if t308.size + t309.size ≤ 9223372036854775807 then (some (7, 0, 0, t308 ++ t309)) else (none)) = some (r1, r2, r3, r4) := H
  have A4 := Aside0.mk A40
  clear A40
  by_cases c5 : t308.size + t309.size ≤ 9223372036854775807
  · rw [if_pos c5] at H
    have c5b0 := eq_true c5
    have c5b1 : decide (t308.size + t309.size ≤ 9223372036854775807) = true := decide_eq_true c5
    try have c5b2 : (9223372036854775807 < t308.size + t309.size) = False := eq_false (Nat.not_lt.2 c5)
    simp only [Option.some.injEq, Prod.mk.injEq] at H
    obtain ⟨rfl, rfl, rfl, rfl⟩ := H
    go_enter Try.func20, Try.ntmps20
    go_wp2_with (first | ((with_reducible refine gate_dst (N := 4) rfl ?_); refine box_event ?hg (N := 4) ?hd (cs := #[.int .u8 0, .int .u8 0, .int .u32 0, .string (⟨#[]⟩ : ByteArray)]) (t := 24) ?hr ?_; (case hd => rfl); (case hg => rfl); (case hr => first | (go_simp; done) | (go_simp; rfl)); intro gb307 hg w6 hbox hb; have n0_ := Aside0.mk (below_step (by repeat (first | (with_reducible first | exact HB.out | apply below_alloc | apply pw_below_drewN | apply below_drew1) | exact HB.out)) hb); have n1_ := Aside0.mk (hbox); have n2_ := Aside0.mk ((by rw [hg]; exact (below_size (by repeat (first | (with_reducible first | exact HB.out | apply below_alloc | apply pw_below_drewN | apply below_drew1) | exact HB.out))) : w.heap.size ≤ gb307)); have n3_ := Aside0.mk ((by rw [hg]; exact (below_size (by repeat (first | (with_reducible first | exact HB.out | apply below_alloc | apply pw_below_drewN | apply below_drew1) | exact HB.out))) : w.heap.size ≤ gb307)); clear HB; have HB := n0_; have BK307 := n1_; have GW307 := n2_; have GE307 := n3_; clear n0_ n1_ n2_ n3_; clear hb hbox hg) | ((with_reducible refine gate_callee (f := 35) rfl ?_); refine goesL_ (some 7) rfl rfl Try.func35 (by kernel_rfl) rfl #[.int .u32 (Go.bits .and .u32 a0 2147483647)] rfl (by (try simp only [List.map_toArray, List.map_cons, List.map_nil]); first | done | rfl | (simp only [List.length_drop, List.length_take]; rfl)) ?_; (with_reducible refine (frame_four.calls k (Go.bits .and .u32 a0 2147483647) t308 _ A3.out).mono ?_); rintro e w7 ⟨rfl, hb⟩; refine ⟨_, rfl, ?_⟩; have n0_ := Aside0.mk (blk_below (g := gb307) (o := .cells #[.int .u8 0, .int .u8 0, .int .u32 0, .string (⟨#[]⟩ : ByteArray)] 24 (0, 0)) (by (with_reducible repeat (first | refine blk_drewN ?_ _ | refine blk_drew ?_ | refine blk_alloc ?_ _)); exact BK307.out) hb); have n1_ := Aside0.mk (below_step (by repeat (first | (with_reducible first | exact HB.out | apply below_alloc | apply pw_below_drewN | apply below_drew1 | refine below_set ?_ GE307.out) | exact HB.out)) hb); clear BK307; clear HB; have BK307 := n0_; have HB := n1_; clear n0_ n1_; (try clear hb); (try clear hb2); (try clear hk); (try clear hi)) | ((with_reducible refine gate_callee (f := 35) rfl ?_); refine goesL_ (some 9) rfl rfl Try.func35 (by kernel_rfl) rfl #[.int .u32 a1] rfl (by (try simp only [List.map_toArray, List.map_cons, List.map_nil]); first | done | rfl | (simp only [List.length_drop, List.length_take]; rfl)) ?_; (with_reducible refine (frame_four.calls k a1 t309 _ A4.out).mono ?_); rintro e w8 ⟨rfl, hb⟩; refine ⟨_, rfl, ?_⟩; have n0_ := Aside0.mk (blk_below (g := gb307) (o := .cells #[.int .u8 0, .int .u8 0, .int .u32 0, .string (⟨#[]⟩ : ByteArray)] 24 (0, 0)) (by (with_reducible repeat (first | refine blk_drewN ?_ _ | refine blk_drew ?_ | refine blk_alloc ?_ _)); exact BK307.out) hb); have n1_ := Aside0.mk (below_step (by repeat (first | (with_reducible first | exact HB.out | apply below_alloc | apply pw_below_drewN | apply below_drew1 | refine below_set ?_ GE307.out) | exact HB.out)) hb); clear BK307; clear HB; have BK307 := n0_; have HB := n1_; clear n0_ n1_; (try clear hb); (try clear hb2); (try clear hk); (try clear hi); have hcz9_0 : w8.cell? ⟨gb307, 0, none⟩ = some (.int .u8 0) := (blk_cell BK307.out 0).trans rfl; have hcz9_1 : w8.cell? ⟨gb307, 1, none⟩ = some (.int .u8 0) := (blk_cell BK307.out 1).trans rfl; have hcz9_2 : w8.cell? ⟨gb307, 2, none⟩ = some (.int .u32 0) := (blk_cell BK307.out 2).trans rfl; have hcz9_3 : w8.cell? ⟨gb307, 3, none⟩ = some (.string (⟨#[]⟩ : ByteArray)) := (blk_cell BK307.out 3).trans rfl; have hfz9_0 := blk_frozen BK307.out 0; have hfz9_1 := blk_frozen BK307.out 1; have hfz9_2 := blk_frozen BK307.out 2; have hfz9_3 := blk_frozen BK307.out 3))
    refine bodyPost_ret (results_cell_row rfl _ _ gb307 24 #[.int .u8 7, .int .u8 0, .int .u32 0, .string (t308 ++ t309)] (0, 0) _ rfl (by (with_reducible repeat (first | refine blk_drewN ?_ _ | refine blk_drew ?_ | refine blk_alloc ?_ _)); refine blk_put (cs := #[.int .u8 7, .int .u8 0, .int .u32 0, .string (⟨#[]⟩ : ByteArray)]) ?_ 3 _ rfl; (with_reducible repeat (first | refine blk_drewN ?_ _ | refine blk_drew ?_ | refine blk_alloc ?_ _)); refine blk_put (cs := #[.int .u8 7, .int .u8 0, .int .u32 0, .string (⟨#[]⟩ : ByteArray)]) ?_ 2 _ rfl; (with_reducible repeat (first | refine blk_drewN ?_ _ | refine blk_drew ?_ | refine blk_alloc ?_ _)); refine blk_put (cs := #[.int .u8 7, .int .u8 0, .int .u32 0, .string (⟨#[]⟩ : ByteArray)]) ?_ 1 _ rfl; (with_reducible repeat (first | refine blk_drewN ?_ _ | refine blk_drew ?_ | refine blk_alloc ?_ _)); refine blk_put (cs := #[.int .u8 0, .int .u8 0, .int .u32 0, .string (⟨#[]⟩ : ByteArray)]) ?_ 0 _ rfl; (with_reducible repeat (first | refine blk_drewN ?_ _ | refine blk_drew ?_ | refine blk_alloc ?_ _)); exact BK307.out) Try.underlying24 rfl (by kernel_rfl)) rfl ?_
    exact ⟨by first | rfl | (simp [errW_none, errW_some] <;> rfl) | (simp [*, errW_none, errW_some] <;> rfl), by repeat (first | (with_reducible first | exact HB.out | apply below_alloc | apply pw_below_drewN | apply below_drew1 | refine below_set ?_ GE307.out) | exact HB.out)⟩
  · rw [if_neg c5] at H
    exact absurd H (by simp)

end Go.Proofs.Ytimhhacnpjcjnaa.Mine
