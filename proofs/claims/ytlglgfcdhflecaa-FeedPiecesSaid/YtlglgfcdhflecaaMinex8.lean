-- Written by this repo's own printer (wip/print), which builds on the kit's.
import Derived.Test.YtlglgfcdhflecaaMinex0
import Derived.Test.YtlglgfcdhflecaaMinex7
namespace Go.Proofs.Ytlglgfcdhflecaa.Mine
open Go.RowKit Go.Proofs.YtlglgfcdhflecaaW.PrintWords Go.Proofs.YtlglgfcdhflecaaW.PrintLast Go.Proofs.YtlglgfcdhflecaaW.PrintMore
attribute [local go_sem] max2_int min2_int max_two min_two max_three min_three max_four min_four   -- for this text's walks alone
set_option linter.unusedVariables false
set_option linter.unusedSimpArgs false

/-! ### nuncioref14_Parse: function 18 -/
def nuncioref14_Parse.f (k : Nat) (a0 : ByteArray) : Option (Int × Int × Int × ByteArray × Int × Int) := if (a0.size : Int) < 9 then (some (0, 0, 0, (⟨#[]⟩ : ByteArray), 0, 2)) else ((nuncioref14_get.f k a0 0 3).bind fun t179 => (if t179 > 16384 then (some (0, 0, 0, (⟨#[]⟩ : ByteArray), 0, 3)) else (if (wrap64 ((a0.size : Int) - 9)) < t179 then (some (0, 0, 0, (⟨#[]⟩ : ByteArray), 0, 2)) else (if 3 < (a0.size : Int) then (if 4 < (a0.size : Int) then ((nuncioref14_get.f k a0 5 4).bind fun t180 => (if 9 ≤ (wrap64 (9 + t179)) then (if (wrap64 (9 + t179)) ≤ (a0.size : Int) then (some (bt a0 3, bt a0 4, (Int.tmod t180 2147483648) % 4294967296, a0.extract 9 ((wrap64 (9 + t179)) : Int).toNat, wrap64 (9 + t179), 0)) else (none)) else (none))) else (none)) else (none)))))
theorem nuncioref14_Parse.mono : ∀ a0 k, LeO (nuncioref14_Parse.f k a0) (nuncioref14_Parse.f (k + 1) a0) := by
 intro a0 k
 unfold nuncioref14_Parse.f
 repeat' first
   | (with_reducible exact nuncioref14_get.mono _ _ _ _)
   | (with_reducible exact LeO.refl _)
   | (with_reducible exact LeO.none _)
   | (with_reducible refine LeO.ite ?_ ?_)
   | (with_reducible refine LeO.bind ?_ (fun _ => ?_))
   | exact nuncioref14_get.mono _ _ _ _
   | exact LeO.none _
   | refine LeO.ite ?_ ?_
   | refine LeO.bind ?_ (fun _ => ?_)
def nuncioref14_Parse.T8 : Bool × List (List Nat × List Nat) := (true, [([], []), ([0], [0]), ([], []), ([2], [2]), ([], []), ([4], [4]), ([5], [5]), ([6], [6]), ([], []), ([], []), ([9], [9]), ([8, 10], [8, 10]), ([1, 3, 7, 11], [1, 3, 7, 11]), ([], []), ([13], [13]), ([12, 5, 0, 1, 2, 3, 4, 5, 6, 7, 8, 9, 10, 11, 12], [12]), ([14, 15, 0, 1, 2, 3, 4, 5, 6, 7, 8, 9, 10, 11, 12, 13, 14, 15], [14]), ([16, 0, 1, 2, 3, 4, 5, 6, 7, 8, 9, 10, 11, 12, 13, 14, 15, 16], [])])
def nuncioref14_Parse.B8 : List Nat := [0, 1, 0, 4, 0, 16, 48, 112, 0, 0, 512, 1792, 4095, 0, 8192, 8191, 65535, 131071]
theorem nuncioref14_Parse.tab8 : rtab .any (opsOf Try.f18 8) = nuncioref14_Parse.T8 := by kernel_rfl
theorem nuncioref14_Parse.bits8 : waitsOk nuncioref14_Parse.T8.2 nuncioref14_Parse.B8 = true := by kernel_rfl
set_option maxHeartbeats 8000000 in
set_option maxRecDepth 100000 in
theorem nuncioref14_Parse.calls (k : Nat) (a0 : ByteArray) (r1 : Int) (r2 : Int) (r3 : Int) (r4 : ByteArray) (r5 : Int) (r6 : Int) (w : World) (h : nuncioref14_Parse.f k a0 = some (r1, r2, r3, r4, r5, r6)) :
  Calls Try.prog 18 #[.string a0] w fun e w' => e = .returned (.tuple #[.agg #[.int .u8 r1, .int .u8 r2, .int .u32 r3, .string r4], .int .i64 r5, .int .i64 r6]) ∧ Below w.heap.size w w' := by
 have hu40 := Try.underlying40
 have HB := Aside0.mk (Below.refl w.heap.size w)
 have H : (if (a0.size : Int) < 9 then (some (0, 0, 0, (⟨#[]⟩ : ByteArray), 0, 2)) else ((nuncioref14_get.f k a0 0 3).bind fun t179 => (if t179 > 16384 then (some (0, 0, 0, (⟨#[]⟩ : ByteArray), 0, 3)) else (if (wrap64 ((a0.size : Int) - 9)) < t179 then (some (0, 0, 0, (⟨#[]⟩ : ByteArray), 0, 2)) else (if 3 < (a0.size : Int) then (if 4 < (a0.size : Int) then ((nuncioref14_get.f k a0 5 4).bind fun t180 => (if 9 ≤ (wrap64 (9 + t179)) then (if (wrap64 (9 + t179)) ≤ (a0.size : Int) then (some (bt a0 3, bt a0 4, (Int.tmod t180 2147483648) % 4294967296, a0.extract 9 ((wrap64 (9 + t179)) : Int).toNat, wrap64 (9 + t179), 0)) else (none)) else (none))) else (none)) else (none)))))) = some (r1, r2, r3, r4, r5, r6) := h
 clear h
 by_cases c2 : (a0.size : Int) < 9
 ·
  rw [if_pos c2] at H
  have c2b0 : decide ((a0.size : Int) < 9) = true := decide_eq_true c2
  have c2b1 : decide (a0.size < 9) = true := decide_eq_true (by omega)
  clear c2
  simp only [Option.some.injEq, Prod.mk.injEq] at H
  obtain ⟨rfl, rfl, rfl, rfl, rfl, rfl⟩ := H
  go_enter Try.func18, Try.ntmps18
  go_wp2_with (first | ((with_reducible refine gate_dst (N := 2) rfl ?_); refine box_event ?hg (N := 2) ?hd (cs := #[.int .u8 0, .int .u8 0, .int .u32 0, .string (⟨#[]⟩ : ByteArray)]) (t := 40) ?hr ?_; (case hd => rfl); (case hg => rfl); (case hr => first | (go_simp; done) | (go_simp; rfl)); intro gb178 hg w3 hbox hb; have n0_ := Aside0.mk (below_step (by repeat (first | (with_reducible first | exact HB.out | apply below_alloc | apply pw_below_drewN | apply below_drew1) | exact HB.out)) hb); have n1_ := Aside0.mk (hbox); have n2_ := Aside0.mk ((by rw [hg]; exact (below_size (by repeat (first | (with_reducible first | exact HB.out | apply below_alloc | apply pw_below_drewN | apply below_drew1) | exact HB.out))) : w.heap.size ≤ gb178)); have n3_ := Aside0.mk ((by rw [hg]; exact (below_size (by repeat (first | (with_reducible first | exact HB.out | apply below_alloc | apply pw_below_drewN | apply below_drew1) | exact HB.out))) : w.heap.size ≤ gb178)); clear HB; have HB := n0_; have BK178 := n1_; have GW178 := n2_; have GE178 := n3_; clear n0_ n1_ n2_ n3_; clear hb hbox hg; have hcz4_0 : w3.cell? ⟨gb178, 0, none⟩ = some (.int .u8 0) := (blk_cell BK178.out 0).trans rfl; have hcz4_1 : w3.cell? ⟨gb178, 1, none⟩ = some (.int .u8 0) := (blk_cell BK178.out 1).trans rfl; have hcz4_2 : w3.cell? ⟨gb178, 2, none⟩ = some (.int .u32 0) := (blk_cell BK178.out 2).trans rfl; have hcz4_3 : w3.cell? ⟨gb178, 3, none⟩ = some (.string (⟨#[]⟩ : ByteArray)) := (blk_cell BK178.out 3).trans rfl; have hfz4_0 := blk_frozen BK178.out 0; have hfz4_1 := blk_frozen BK178.out 1; have hfz4_2 := blk_frozen BK178.out 2; have hfz4_3 := blk_frozen BK178.out 3))
  refine bodyPost_ret (results_ctt rfl _ _ gb178 40 #[.int .u8 0, .int .u8 0, .int .u32 0, .string (⟨#[]⟩ : ByteArray)] (0, 0) _ rfl (by (with_reducible repeat (first | refine blk_drewN ?_ _ | refine blk_drew ?_ | refine blk_alloc ?_ _)); refine blk_put (cs := #[.int .u8 0, .int .u8 0, .int .u32 0, .string (⟨#[]⟩ : ByteArray)]) ?_ 3 _ rfl; (with_reducible repeat (first | refine blk_drewN ?_ _ | refine blk_drew ?_ | refine blk_alloc ?_ _)); refine blk_put (cs := #[.int .u8 0, .int .u8 0, .int .u32 0, .string (⟨#[]⟩ : ByteArray)]) ?_ 2 _ rfl; (with_reducible repeat (first | refine blk_drewN ?_ _ | refine blk_drew ?_ | refine blk_alloc ?_ _)); refine blk_put (cs := #[.int .u8 0, .int .u8 0, .int .u32 0, .string (⟨#[]⟩ : ByteArray)]) ?_ 1 _ rfl; (with_reducible repeat (first | refine blk_drewN ?_ _ | refine blk_drew ?_ | refine blk_alloc ?_ _)); refine blk_put (cs := #[.int .u8 0, .int .u8 0, .int .u32 0, .string (⟨#[]⟩ : ByteArray)]) ?_ 0 _ rfl; (with_reducible repeat (first | refine blk_drewN ?_ _ | refine blk_drew ?_ | refine blk_alloc ?_ _)); exact BK178.out) Try.underlying40 rfl (by kernel_rfl)) rfl ?_
  exact ⟨by first | rfl | (simp [errW_none, errW_some] <;> rfl) | (simp [*, errW_none, errW_some] <;> rfl), by repeat (first | (with_reducible first | exact HB.out | apply below_alloc | apply pw_below_drewN | apply below_drew1 | refine below_set ?_ GE178.out) | exact HB.out)⟩
 ·
  rw [if_neg c2] at H
  have c2b0 : decide ((a0.size : Int) < 9) = false := decide_eq_false c2
  have c2b1 : decide (a0.size < 9) = false := decide_eq_false (by omega)
  clear c2
  replace H := Option.bind_eq_some_iff.mp H
  obtain ⟨t179, A50, H⟩ := H
  replace H : (if t179 > 16384 then (some (0, 0, 0, (⟨#[]⟩ : ByteArray), 0, 3)) else (if (wrap64 ((a0.size : Int) - 9)) < t179 then (some (0, 0, 0, (⟨#[]⟩ : ByteArray), 0, 2)) else (if 3 < (a0.size : Int) then (if 4 < (a0.size : Int) then ((nuncioref14_get.f k a0 5 4).bind fun t180 => (if 9 ≤ (wrap64 (9 + t179)) then (if (wrap64 (9 + t179)) ≤ (a0.size : Int) then (some (bt a0 3, bt a0 4, (Int.tmod t180 2147483648) % 4294967296, a0.extract 9 ((wrap64 (9 + t179)) : Int).toNat, wrap64 (9 + t179), 0)) else (none)) else (none))) else (none)) else (none)))) = some (r1, r2, r3, r4, r5, r6) := H
  have A5 := Aside0.mk A50
  clear A50
  by_cases c6 : t179 > 16384
  ·
   rw [if_pos c6] at H
   have c6b0 : decide (16384 < t179) = true := decide_eq_true c6
   clear c6
   simp only [Option.some.injEq, Prod.mk.injEq] at H
   obtain ⟨rfl, rfl, rfl, rfl, rfl, rfl⟩ := H
   go_enter Try.func18, Try.ntmps18
   go_wp2_with (first | ((with_reducible refine gate_dst (N := 2) rfl ?_); refine box_event ?hg (N := 2) ?hd (cs := #[.int .u8 0, .int .u8 0, .int .u32 0, .string (⟨#[]⟩ : ByteArray)]) (t := 40) ?hr ?_; (case hd => rfl); (case hg => rfl); (case hr => first | (go_simp; done) | (go_simp; rfl)); intro gb178 hg w7 hbox hb; have n0_ := Aside0.mk (below_step (by repeat (first | (with_reducible first | exact HB.out | apply below_alloc | apply pw_below_drewN | apply below_drew1) | exact HB.out)) hb); have n1_ := Aside0.mk (hbox); have n2_ := Aside0.mk ((by rw [hg]; exact (below_size (by repeat (first | (with_reducible first | exact HB.out | apply below_alloc | apply pw_below_drewN | apply below_drew1) | exact HB.out))) : w.heap.size ≤ gb178)); have n3_ := Aside0.mk ((by rw [hg]; exact (below_size (by repeat (first | (with_reducible first | exact HB.out | apply below_alloc | apply pw_below_drewN | apply below_drew1) | exact HB.out))) : w.heap.size ≤ gb178)); clear HB; have HB := n0_; have BK178 := n1_; have GW178 := n2_; have GE178 := n3_; clear n0_ n1_ n2_ n3_; clear hb hbox hg) | ((with_reducible refine gate_callee (f := 24) rfl ?_); refine goesL_ (some 11) rfl rfl Try.func24 (by kernel_rfl) rfl #[.string a0, .int .i64 0, .int .i64 3] rfl (by (try simp only [List.map_toArray, List.map_cons, List.map_nil]); first | done | rfl | (simp only [List.length_drop, List.length_take]; rfl)) ?_; (with_reducible refine (nuncioref14_get.calls k a0 0 3 t179 _ A5.out).mono ?_); rintro e w' ⟨rfl, ⟨nd, rfl⟩⟩; refine ⟨_, rfl, ?_⟩; (try (rw [drewN_self w7]; generalize hq_ : World.drewN w7 _ = w7; have n0_ : Aside0 (w7.heap[gb178]? = some (.cells #[.int .u8 0, .int .u8 0, .int .u32 0, .string (⟨#[]⟩ : ByteArray)] 40 (0, 0))) := ⟨by rw [← hq_]; exact (by (with_reducible repeat (first | refine blk_drewN ?_ _ | refine blk_drew ?_ | refine blk_alloc ?_ _)); exact BK178.out)⟩; have n1_ : Aside0 (Below w.heap.size w w7) := ⟨by rw [← hq_]; exact (by repeat (first | (with_reducible first | exact HB.out | apply below_alloc | apply pw_below_drewN | apply below_drew1 | refine below_set ?_ GE178.out) | exact HB.out))⟩; clear BK178 HB hq_; have BK178 := n0_; have HB := n1_; clear n0_ n1_)); have hcz8_0 : w7.cell? ⟨gb178, 0, none⟩ = some (.int .u8 0) := (blk_cell BK178.out 0).trans rfl; have hcz8_1 : w7.cell? ⟨gb178, 1, none⟩ = some (.int .u8 0) := (blk_cell BK178.out 1).trans rfl; have hcz8_2 : w7.cell? ⟨gb178, 2, none⟩ = some (.int .u32 0) := (blk_cell BK178.out 2).trans rfl; have hcz8_3 : w7.cell? ⟨gb178, 3, none⟩ = some (.string (⟨#[]⟩ : ByteArray)) := (blk_cell BK178.out 3).trans rfl; have hfz8_0 := blk_frozen BK178.out 0; have hfz8_1 := blk_frozen BK178.out 1; have hfz8_2 := blk_frozen BK178.out 2; have hfz8_3 := blk_frozen BK178.out 3))
   refine bodyPost_ret (results_ctt rfl _ _ gb178 40 #[.int .u8 0, .int .u8 0, .int .u32 0, .string (⟨#[]⟩ : ByteArray)] (0, 0) _ rfl (by (with_reducible repeat (first | refine blk_drewN ?_ _ | refine blk_drew ?_ | refine blk_alloc ?_ _)); refine blk_put (cs := #[.int .u8 0, .int .u8 0, .int .u32 0, .string (⟨#[]⟩ : ByteArray)]) ?_ 3 _ rfl; (with_reducible repeat (first | refine blk_drewN ?_ _ | refine blk_drew ?_ | refine blk_alloc ?_ _)); refine blk_put (cs := #[.int .u8 0, .int .u8 0, .int .u32 0, .string (⟨#[]⟩ : ByteArray)]) ?_ 2 _ rfl; (with_reducible repeat (first | refine blk_drewN ?_ _ | refine blk_drew ?_ | refine blk_alloc ?_ _)); refine blk_put (cs := #[.int .u8 0, .int .u8 0, .int .u32 0, .string (⟨#[]⟩ : ByteArray)]) ?_ 1 _ rfl; (with_reducible repeat (first | refine blk_drewN ?_ _ | refine blk_drew ?_ | refine blk_alloc ?_ _)); refine blk_put (cs := #[.int .u8 0, .int .u8 0, .int .u32 0, .string (⟨#[]⟩ : ByteArray)]) ?_ 0 _ rfl; (with_reducible repeat (first | refine blk_drewN ?_ _ | refine blk_drew ?_ | refine blk_alloc ?_ _)); exact BK178.out) Try.underlying40 rfl (by kernel_rfl)) rfl ?_
   exact ⟨by first | rfl | (simp [errW_none, errW_some] <;> rfl) | (simp [*, errW_none, errW_some] <;> rfl), by repeat (first | (with_reducible first | exact HB.out | apply below_alloc | apply pw_below_drewN | apply below_drew1 | refine below_set ?_ GE178.out) | exact HB.out)⟩
  ·
   rw [if_neg c6] at H
   have c6b0 : decide (16384 < t179) = false := decide_eq_false c6
   clear c6
   by_cases c9 : (wrap64 ((a0.size : Int) - 9)) < t179
   ·
    rw [if_pos c9] at H
    have c9b0 : decide ((wrap64 ((a0.size : Int) - 9)) < t179) = true := decide_eq_true c9
    clear c9
    simp only [Option.some.injEq, Prod.mk.injEq] at H
    obtain ⟨rfl, rfl, rfl, rfl, rfl, rfl⟩ := H
    go_enter Try.func18, Try.ntmps18
    go_wp2_with (first | ((with_reducible refine gate_dst (N := 2) rfl ?_); refine box_event ?hg (N := 2) ?hd (cs := #[.int .u8 0, .int .u8 0, .int .u32 0, .string (⟨#[]⟩ : ByteArray)]) (t := 40) ?hr ?_; (case hd => rfl); (case hg => rfl); (case hr => first | (go_simp; done) | (go_simp; rfl)); intro gb178 hg w10 hbox hb; have n0_ := Aside0.mk (below_step (by repeat (first | (with_reducible first | exact HB.out | apply below_alloc | apply pw_below_drewN | apply below_drew1) | exact HB.out)) hb); have n1_ := Aside0.mk (hbox); have n2_ := Aside0.mk ((by rw [hg]; exact (below_size (by repeat (first | (with_reducible first | exact HB.out | apply below_alloc | apply pw_below_drewN | apply below_drew1) | exact HB.out))) : w.heap.size ≤ gb178)); have n3_ := Aside0.mk ((by rw [hg]; exact (below_size (by repeat (first | (with_reducible first | exact HB.out | apply below_alloc | apply pw_below_drewN | apply below_drew1) | exact HB.out))) : w.heap.size ≤ gb178)); clear HB; have HB := n0_; have BK178 := n1_; have GW178 := n2_; have GE178 := n3_; clear n0_ n1_ n2_ n3_; clear hb hbox hg) | ((with_reducible refine gate_callee (f := 24) rfl ?_); refine goesL_ (some 11) rfl rfl Try.func24 (by kernel_rfl) rfl #[.string a0, .int .i64 0, .int .i64 3] rfl (by (try simp only [List.map_toArray, List.map_cons, List.map_nil]); first | done | rfl | (simp only [List.length_drop, List.length_take]; rfl)) ?_; (with_reducible refine (nuncioref14_get.calls k a0 0 3 t179 _ A5.out).mono ?_); rintro e w' ⟨rfl, ⟨nd, rfl⟩⟩; refine ⟨_, rfl, ?_⟩; (try (rw [drewN_self w10]; generalize hq_ : World.drewN w10 _ = w10; have n0_ : Aside0 (w10.heap[gb178]? = some (.cells #[.int .u8 0, .int .u8 0, .int .u32 0, .string (⟨#[]⟩ : ByteArray)] 40 (0, 0))) := ⟨by rw [← hq_]; exact (by (with_reducible repeat (first | refine blk_drewN ?_ _ | refine blk_drew ?_ | refine blk_alloc ?_ _)); exact BK178.out)⟩; have n1_ : Aside0 (Below w.heap.size w w10) := ⟨by rw [← hq_]; exact (by repeat (first | (with_reducible first | exact HB.out | apply below_alloc | apply pw_below_drewN | apply below_drew1 | refine below_set ?_ GE178.out) | exact HB.out))⟩; clear BK178 HB hq_; have BK178 := n0_; have HB := n1_; clear n0_ n1_)); have hcz11_0 : w10.cell? ⟨gb178, 0, none⟩ = some (.int .u8 0) := (blk_cell BK178.out 0).trans rfl; have hcz11_1 : w10.cell? ⟨gb178, 1, none⟩ = some (.int .u8 0) := (blk_cell BK178.out 1).trans rfl; have hcz11_2 : w10.cell? ⟨gb178, 2, none⟩ = some (.int .u32 0) := (blk_cell BK178.out 2).trans rfl; have hcz11_3 : w10.cell? ⟨gb178, 3, none⟩ = some (.string (⟨#[]⟩ : ByteArray)) := (blk_cell BK178.out 3).trans rfl; have hfz11_0 := blk_frozen BK178.out 0; have hfz11_1 := blk_frozen BK178.out 1; have hfz11_2 := blk_frozen BK178.out 2; have hfz11_3 := blk_frozen BK178.out 3))
    refine bodyPost_ret (results_ctt rfl _ _ gb178 40 #[.int .u8 0, .int .u8 0, .int .u32 0, .string (⟨#[]⟩ : ByteArray)] (0, 0) _ rfl (by (with_reducible repeat (first | refine blk_drewN ?_ _ | refine blk_drew ?_ | refine blk_alloc ?_ _)); refine blk_put (cs := #[.int .u8 0, .int .u8 0, .int .u32 0, .string (⟨#[]⟩ : ByteArray)]) ?_ 3 _ rfl; (with_reducible repeat (first | refine blk_drewN ?_ _ | refine blk_drew ?_ | refine blk_alloc ?_ _)); refine blk_put (cs := #[.int .u8 0, .int .u8 0, .int .u32 0, .string (⟨#[]⟩ : ByteArray)]) ?_ 2 _ rfl; (with_reducible repeat (first | refine blk_drewN ?_ _ | refine blk_drew ?_ | refine blk_alloc ?_ _)); refine blk_put (cs := #[.int .u8 0, .int .u8 0, .int .u32 0, .string (⟨#[]⟩ : ByteArray)]) ?_ 1 _ rfl; (with_reducible repeat (first | refine blk_drewN ?_ _ | refine blk_drew ?_ | refine blk_alloc ?_ _)); refine blk_put (cs := #[.int .u8 0, .int .u8 0, .int .u32 0, .string (⟨#[]⟩ : ByteArray)]) ?_ 0 _ rfl; (with_reducible repeat (first | refine blk_drewN ?_ _ | refine blk_drew ?_ | refine blk_alloc ?_ _)); exact BK178.out) Try.underlying40 rfl (by kernel_rfl)) rfl ?_
    exact ⟨by first | rfl | (simp [errW_none, errW_some] <;> rfl) | (simp [*, errW_none, errW_some] <;> rfl), by repeat (first | (with_reducible first | exact HB.out | apply below_alloc | apply pw_below_drewN | apply below_drew1 | refine below_set ?_ GE178.out) | exact HB.out)⟩
   ·
    rw [if_neg c9] at H
    have c9b0 : decide ((wrap64 ((a0.size : Int) - 9)) < t179) = false := decide_eq_false c9
    clear c9
    by_cases c12 : 3 < (a0.size : Int)
    ·
     rw [if_pos c12] at H
     have c12b0 : decide (3 < (a0.size : Int)) = true := decide_eq_true c12
     have c12b1 : decide (3 < a0.size) = true := decide_eq_true (by omega)
     clear c12
     by_cases c14 : 4 < (a0.size : Int)
     ·
      rw [if_pos c14] at H
      have c14b0 : decide (4 < (a0.size : Int)) = true := decide_eq_true c14
      have c14b1 : decide (4 < a0.size) = true := decide_eq_true (by omega)
      clear c14
      replace H := Option.bind_eq_some_iff.mp H
      obtain ⟨t180, A160, H⟩ := H
      replace H : (if 9 ≤ (wrap64 (9 + t179)) then (if (wrap64 (9 + t179)) ≤ (a0.size : Int) then (some (bt a0 3, bt a0 4, (Int.tmod t180 2147483648) % 4294967296, a0.extract 9 ((wrap64 (9 + t179)) : Int).toNat, wrap64 (9 + t179), 0)) else (none)) else (none)) = some (r1, r2, r3, r4, r5, r6) := H
      have A16 := Aside0.mk A160
      clear A160
      by_cases c17 : 9 ≤ (wrap64 (9 + t179))
      ·
       rw [if_pos c17] at H
       have c17b0 := eq_true c17
       have c17b1 : decide (9 ≤ (wrap64 (9 + t179))) = true := decide_eq_true c17
       by_cases c18 : (wrap64 (9 + t179)) ≤ (a0.size : Int)
       ·
        rw [if_pos c18] at H
        have c18b0 := eq_true c18
        have c18b1 : decide ((wrap64 (9 + t179)) ≤ (a0.size : Int)) = true := decide_eq_true c18
        simp only [Option.some.injEq, Prod.mk.injEq] at H
        obtain ⟨rfl, rfl, rfl, rfl, rfl, rfl⟩ := H
        go_enter Try.func18, Try.ntmps18
        try go_wp2_with (first | ((with_reducible refine gate_dst (N := 2) rfl ?_); refine box_event ?hg (N := 2) ?hd (cs := #[.int .u8 0, .int .u8 0, .int .u32 0, .string (⟨#[]⟩ : ByteArray)]) (t := 40) ?hr ?_; (case hd => rfl); (case hg => rfl); (case hr => first | (go_simp; done) | (go_simp; rfl)); intro gb178 hg w19 hbox hb; have n0_ := Aside0.mk (below_step (by repeat (first | (with_reducible first | exact HB.out | apply below_alloc | apply pw_below_drewN | apply below_drew1) | exact HB.out)) hb); have n1_ := Aside0.mk (hbox); have n2_ := Aside0.mk ((by rw [hg]; exact (below_size (by repeat (first | (with_reducible first | exact HB.out | apply below_alloc | apply pw_below_drewN | apply below_drew1) | exact HB.out))) : w.heap.size ≤ gb178)); have n3_ := Aside0.mk ((by rw [hg]; exact (below_size (by repeat (first | (with_reducible first | exact HB.out | apply below_alloc | apply pw_below_drewN | apply below_drew1) | exact HB.out))) : w.heap.size ≤ gb178)); clear HB; have HB := n0_; have BK178 := n1_; have GW178 := n2_; have GE178 := n3_; clear n0_ n1_ n2_ n3_; clear hb hbox hg) | ((with_reducible refine gate_callee (f := 24) rfl ?_); refine goesL_ (some 11) rfl rfl Try.func24 (by kernel_rfl) rfl #[.string a0, .int .i64 0, .int .i64 3] rfl (by (try simp only [List.map_toArray, List.map_cons, List.map_nil]); first | done | rfl | (simp only [List.length_drop, List.length_take]; rfl)) ?_; (with_reducible refine (nuncioref14_get.calls k a0 0 3 t179 _ A5.out).mono ?_); rintro e w' ⟨rfl, ⟨nd, rfl⟩⟩; refine ⟨_, rfl, ?_⟩; (try (rw [drewN_self w19]; generalize hq_ : World.drewN w19 _ = w19; have n0_ : Aside0 (w19.heap[gb178]? = some (.cells #[.int .u8 0, .int .u8 0, .int .u32 0, .string (⟨#[]⟩ : ByteArray)] 40 (0, 0))) := ⟨by rw [← hq_]; exact (by (with_reducible repeat (first | refine blk_drewN ?_ _ | refine blk_drew ?_ | refine blk_alloc ?_ _)); exact BK178.out)⟩; have n1_ : Aside0 (Below w.heap.size w w19) := ⟨by rw [← hq_]; exact (by repeat (first | (with_reducible first | exact HB.out | apply below_alloc | apply pw_below_drewN | apply below_drew1 | refine below_set ?_ GE178.out) | exact HB.out))⟩; clear BK178 HB hq_; have BK178 := n0_; have HB := n1_; clear n0_ n1_))))
        have n0_ := Aside0.mk (blk_drew BK178.out)
        have n1_ := Aside0.mk (below_drew1 HB.out)
        clear BK178
        clear HB
        have BK178 := n0_
        have HB := n1_
        clear n0_ n1_
        have p13 : 0 ≤ (3 : Int) := (by omega)
        have q13 : 3 < a0.size := (by have : (3 : Int) < (a0.size : Int) := of_decide_eq_true (by first | (with_reducible assumption) | assumption); omega)
        have hx13 : ∀ h : 3 < a0.size, ((a0[3]'h).toNat : Int) = bt a0 3 := bt_at a0 3
        clear p13
        have qi13 : (3 < (a0.size : Int)) = True := eq_true (of_decide_eq_true (by first | (with_reducible assumption) | assumption))
        replace q13 := eq_true q13
        have p15 : 0 ≤ (4 : Int) := (by omega)
        have q15 : 4 < a0.size := (by have : (4 : Int) < (a0.size : Int) := of_decide_eq_true (by first | (with_reducible assumption) | assumption); omega)
        have hx15 : ∀ h : 4 < a0.size, ((a0[4]'h).toNat : Int) = bt a0 4 := bt_at a0 4
        clear p15
        have qi15 : (4 < (a0.size : Int)) = True := eq_true (of_decide_eq_true (by first | (with_reducible assumption) | assumption))
        replace q15 := eq_true q15
        refine start_ (n := 18) (S := fun w' => True) (ds := []) #[false, false, false, false, false, false, false, false, false, false, false, false, false, false, false, false, false, false] (by kernel_rfl) rfl rfl trivial (fun hHeld => ?_); refine with_tabW nuncioref14_Parse.tab8 nuncioref14_Parse.bits8 (fun HT_ HW_ => ?_)
        generalize w19.drew = w20 at BK178 HB hHeld ⊢
        refine pure_ (i := 0) (N := some 21) (v := ?_) (a' := ?_) #[true, false, false, false, false, false, false, false, false, false, false, false, false, false, false, false, false, false] rfl rfl (any_of HT_.out (by kernel_rfl)) (fun _ _ _ h => h) (Or.inl ⟨by rfl, ?_⟩) ?_ ?_
        rotate_left
        ·
         intro w'
         go_simp
         with_reducible rfl
        rotate_left
        ·
         simp only [Act.put, List.setIfInBounds_toArray, List.set_cons_zero, List.set_cons_succ, i64_w, i32_w]
         rfl
        refine pure_ (i := 2) (N := some 23) (v := ?_) (a' := ?_) #[true, false, true, false, false, false, false, false, false, false, false, false, false, false, false, false, false, false] rfl rfl (any_of HT_.out (by kernel_rfl)) (fun _ _ _ h => h) (Or.inl ⟨by rfl, ?_⟩) ?_ ?_
        rotate_left
        ·
         intro w'
         go_simp
         with_reducible rfl
        rotate_left
        ·
         simp only [Act.put, List.setIfInBounds_toArray, List.set_cons_zero, List.set_cons_succ, i64_w, i32_w]
         rfl
        refine pure_ (i := 4) (N := some 25) (v := ?_) (a' := ?_) #[true, false, true, false, true, false, false, false, false, false, false, false, false, false, false, false, false, false] rfl rfl (any_of HT_.out (by kernel_rfl)) (fun _ _ _ h => h) (Or.inl ⟨by rfl, ?_⟩) ?_ ?_
        rotate_left
        ·
         intro w'
         go_simp
         with_reducible rfl
        rotate_left
        ·
         simp only [Act.put, List.setIfInBounds_toArray, List.set_cons_zero, List.set_cons_succ, i64_w, i32_w]
         rfl
        refine pure_ (i := 8) (N := some 29) (v := ?_) (a' := ?_) #[true, false, true, false, true, false, false, false, true, false, false, false, false, false, false, false, false, false] rfl rfl (any_of HT_.out (by kernel_rfl)) (fun _ _ _ h => h) (Or.inl ⟨by rfl, ?_⟩) ?_ ?_
        rotate_left
        ·
         intro w'
         go_simp
         with_reducible rfl
        rotate_left
        ·
         simp only [Act.put, List.setIfInBounds_toArray, List.set_cons_zero, List.set_cons_succ, i64_w, i32_w]
         rfl
        refine pure_ (i := 9) (N := some 30) (v := ?_) (a' := ?_) #[true, false, true, false, true, false, false, false, true, true, false, false, false, false, false, false, false, false] rfl rfl (any_of HT_.out (by kernel_rfl)) (fun _ _ _ h => h) (Or.inl ⟨by rfl, ?_⟩) ?_ ?_
        rotate_left
        ·
         intro w'
         go_simp
         with_reducible rfl
        rotate_left
        ·
         simp only [Act.put, List.setIfInBounds_toArray, List.set_cons_zero, List.set_cons_succ, i64_w, i32_w]
         rfl
        refine pure_ (i := 10) (N := some 31) (v := ?_) (a' := ?_) #[true, false, true, false, true, false, false, false, true, true, true, false, false, false, false, false, false, false] rfl rfl (any_of HT_.out (by kernel_rfl)) (fun _ _ _ h => h) (Or.inl ⟨by rfl, ?_⟩) ?_ ?_
        rotate_left
        ·
         intro w'
         go_simp
         with_reducible rfl
        rotate_left
        ·
         simp only [Act.put, List.setIfInBounds_toArray, List.set_cons_zero, List.set_cons_succ, i64_w, i32_w]
         rfl
        refine pure_ (i := 11) (N := some 32) (v := ?_) (a' := ?_) #[true, false, true, false, true, false, false, false, true, true, true, true, false, false, false, false, false, false] rfl rfl (any_of HT_.out (by kernel_rfl)) (fun _ _ _ h => h) (Or.inl ⟨by rfl, ?_⟩) ?_ ?_
        rotate_left
        ·
         intro w'
         go_simp
         with_reducible rfl
        rotate_left
        ·
         simp only [Act.put, List.setIfInBounds_toArray, List.set_cons_zero, List.set_cons_succ, i64_w, i32_w]
         rfl
        refine pure_ (i := 13) (N := some 34) (v := ?_) (a' := ?_) #[true, false, true, false, true, false, false, false, true, true, true, true, false, true, false, false, false, false] rfl rfl (any_of HT_.out (by kernel_rfl)) (fun _ _ _ h => h) (Or.inl ⟨by rfl, ?_⟩) ?_ ?_
        rotate_left
        ·
         intro w'
         go_simp
         with_reducible rfl
        rotate_left
        ·
         simp only [Act.put, List.setIfInBounds_toArray, List.set_cons_zero, List.set_cons_succ, i64_w, i32_w]
         rfl
        refine pure_ (i := 14) (N := some 35) (v := ?_) (a' := ?_) #[true, false, true, false, true, false, false, false, true, true, true, true, false, true, true, false, false, false] rfl rfl (any_of HT_.out (by kernel_rfl)) (fun _ _ _ h => h) (Or.inl ⟨by rfl, ?_⟩) ?_ ?_
        rotate_left
        ·
         intro w'
         go_simp
         with_reducible rfl
        rotate_left
        ·
         simp only [Act.put, List.setIfInBounds_toArray, List.set_cons_zero, List.set_cons_succ, i64_w, i32_w]
         rfl
        refine take_ (i := 1) (N := some 22) (v := ?_) (a' := ?_) #[true, true, true, false, true, false, false, false, true, true, true, true, false, true, true, false, false, false] rfl rfl (take_ofW HT_.out HW_.out (by kernel_rfl)) (fun _ _ _ h => h) (Or.inl ⟨by rfl, ?_⟩) hHeld ?_ ?_
        rotate_left
        ·
         intro w' _
         go_simp
         with_reducible rfl
        rotate_left
        ·
         simp only [Act.put, List.setIfInBounds_toArray, List.set_cons_zero, List.set_cons_succ, i64_w, i32_w]
         rfl
        refine take_ (i := 3) (N := some 24) (v := ?_) (a' := ?_) #[true, true, true, true, true, false, false, false, true, true, true, true, false, true, true, false, false, false] rfl rfl (take_ofW HT_.out HW_.out (by kernel_rfl)) (fun _ _ _ h => h) (Or.inl ⟨by rfl, ?_⟩) hHeld ?_ ?_
        rotate_left
        ·
         intro w' _
         go_simp
         with_reducible rfl
        rotate_left
        ·
         simp only [Act.put, List.setIfInBounds_toArray, List.set_cons_zero, List.set_cons_succ, i64_w, i32_w]
         rfl
        refine one_ (i := 5) (N := some 26) #[true, true, true, true, true, true, false, false, true, true, true, true, false, true, true, false, false, false] rfl rfl (one_of HT_.out (by kernel_rfl)) (by decide) (fun K hK => ?_)
        refine goes_ Try.func24 (by kernel_rfl) rfl #[.string a0, .int .i64 5, .int .i64 4] (by rfl) rfl rfl (by (try simp only [List.map_toArray, List.map_cons, List.map_nil]); first | done | rfl | (simp only [List.length_drop, List.length_take]; rfl)) ?_
        with_reducible refine (nuncioref14_get.calls k a0 5 4 t180 _ A16.out).mono ?_
        rintro e w' ⟨rfl, ⟨nd, rfl⟩⟩
        refine ⟨_, rfl, ?_⟩
        refine hK.out _ _ trivial (fun hHeld => ?_)
        clear hK K
        refine norm_ (a' := ?_) ?_ ?_
        rotate_left
        ·
         show Act.put _ (some 26) _ = _
         simp only [Act.put, List.setIfInBounds_toArray, List.set_cons_zero, List.set_cons_succ, i64_w, i32_w]
         rfl
        refine pure_ (i := 6) (N := some 27) (v := ?_) (a' := ?_) #[true, true, true, true, true, true, true, false, true, true, true, true, false, true, true, false, false, false] rfl rfl (any_of HT_.out (by kernel_rfl)) (fun _ _ _ h => h) (Or.inl ⟨by rfl, ?_⟩) ?_ ?_
        rotate_left
        ·
         intro w'
         go_simp
         with_reducible rfl
        rotate_left
        ·
         simp only [Act.put, List.setIfInBounds_toArray, List.set_cons_zero, List.set_cons_succ, i64_w, i32_w]
         rfl
        refine pure_ (i := 7) (N := some 28) (v := ?_) (a' := ?_) #[true, true, true, true, true, true, true, true, true, true, true, true, false, true, true, false, false, false] rfl rfl (any_of HT_.out (by kernel_rfl)) (fun _ _ _ h => h) (Or.inl ⟨by rfl, ?_⟩) ?_ ?_
        rotate_left
        ·
         intro w'
         go_simp
         with_reducible rfl
        rotate_left
        ·
         simp only [Act.put, List.setIfInBounds_toArray, List.set_cons_zero, List.set_cons_succ, i64_w, i32_w]
         rfl
        refine pure_ (i := 12) (N := some 33) (v := ?_) (a' := ?_) #[true, true, true, true, true, true, true, true, true, true, true, true, true, true, true, false, false, false] rfl rfl (any_of HT_.out (by kernel_rfl)) (fun _ _ _ h => h) (Or.inl ⟨by rfl, ?_⟩) ?_ ?_
        rotate_left
        ·
         intro w'
         go_simp
         with_reducible rfl
        rotate_left
        ·
         simp only [Act.put, List.setIfInBounds_toArray, List.set_cons_zero, List.set_cons_succ, i64_w, i32_w]
         rfl
        refine one_ (i := 15) (N := none) #[true, true, true, true, true, true, true, true, true, true, true, true, true, true, true, true, false, false] rfl rfl (one_of HT_.out (by kernel_rfl)) (by decide) (fun K hK => ?_)
        have hs21 : w20.cell? ⟨gb178, 0, none⟩ = some (.int .u8 0) := (blk_cell BK178.out 0).trans rfl
        have hfs21 := blk_frozen BK178.out 0
        have hs22 : w20.cell? ⟨gb178, 1, none⟩ = some (.int .u8 0) := (blk_cell BK178.out 1).trans rfl
        have hfs22 := blk_frozen BK178.out 1
        have hs23 : w20.cell? ⟨gb178, 2, none⟩ = some (.int .u32 0) := (blk_cell BK178.out 2).trans rfl
        have hfs23 := blk_frozen BK178.out 2
        have hs24 : w20.cell? ⟨gb178, 3, none⟩ = some (.string (⟨#[]⟩ : ByteArray)) := (blk_cell BK178.out 3).trans rfl
        have hfs24 := blk_frozen BK178.out 3
        refine skip_ (w1 := ?_) (by rfl) rfl ?_ ?_
        rotate_left
        ·
         go_simp
         rfl
        refine hK.out _ _ trivial (fun hHeld => ?_)
        clear hK K
        refine pure_ (i := 16) (N := some 3) (v := ?_) (a' := ?_) #[true, true, true, true, true, true, true, true, true, true, true, true, true, true, true, true, true, false] rfl rfl (any_of HT_.out (by kernel_rfl)) (fun _ _ _ h => h) (Or.inl ⟨by rfl, ?_⟩) ?_ ?_
        rotate_left
        ·
         intro w'
         go_simp
         with_reducible rfl
        rotate_left
        ·
         simp only [Act.put, List.setIfInBounds_toArray, List.set_cons_zero, List.set_cons_succ, i64_w, i32_w]
         rfl
        refine pure_ (i := 17) (N := some 4) (v := ?_) (a' := ?_) #[true, true, true, true, true, true, true, true, true, true, true, true, true, true, true, true, true, true] rfl rfl (any_of HT_.out (by kernel_rfl)) (fun _ _ _ h => h) (Or.inl ⟨by rfl, ?_⟩) ?_ ?_
        rotate_left
        ·
         intro w'
         go_simp
         with_reducible rfl
        rotate_left
        ·
         simp only [Act.put, List.setIfInBounds_toArray, List.set_cons_zero, List.set_cons_succ, i64_w, i32_w]
         rfl
        refine done_ (done_of HT_.out (by kernel_rfl)) ?_
        try go_wp2
        refine bodyPost_ret (results_ctt rfl _ _ gb178 40 #[.int .u8 (bt a0 3), .int .u8 (bt a0 4), .int .u32 ((Int.tmod t180 2147483648) % 4294967296), .string (a0.extract 9 ((wrap64 (9 + t179)) : Int).toNat)] (0, 0) _ rfl (by (with_reducible repeat (first | refine blk_drewN ?_ _ | refine blk_drew ?_ | refine blk_alloc ?_ _)); refine blk_put (cs := #[.int .u8 (bt a0 3), .int .u8 (bt a0 4), .int .u32 ((Int.tmod t180 2147483648) % 4294967296), .string (⟨#[]⟩ : ByteArray)]) ?_ 3 _ rfl; (with_reducible repeat (first | refine blk_drewN ?_ _ | refine blk_drew ?_ | refine blk_alloc ?_ _)); refine blk_put (cs := #[.int .u8 (bt a0 3), .int .u8 (bt a0 4), .int .u32 0, .string (⟨#[]⟩ : ByteArray)]) ?_ 2 _ rfl; (with_reducible repeat (first | refine blk_drewN ?_ _ | refine blk_drew ?_ | refine blk_alloc ?_ _)); refine blk_put (cs := #[.int .u8 (bt a0 3), .int .u8 0, .int .u32 0, .string (⟨#[]⟩ : ByteArray)]) ?_ 1 _ rfl; (with_reducible repeat (first | refine blk_drewN ?_ _ | refine blk_drew ?_ | refine blk_alloc ?_ _)); refine blk_put (cs := #[.int .u8 0, .int .u8 0, .int .u32 0, .string (⟨#[]⟩ : ByteArray)]) ?_ 0 _ rfl; (with_reducible repeat (first | refine blk_drewN ?_ _ | refine blk_drew ?_ | refine blk_alloc ?_ _)); exact BK178.out) Try.underlying40 rfl (by kernel_rfl)) rfl ?_
        exact ⟨by first | rfl | (simp [errW_none, errW_some] <;> rfl) | (simp [*, errW_none, errW_some] <;> rfl), by repeat (first | (with_reducible first | exact HB.out | apply below_alloc | apply pw_below_drewN | apply below_drew1 | refine below_set ?_ GE178.out) | exact HB.out)⟩
       ·
        rw [if_neg c18] at H
        exact absurd H (by simp)
      ·
       rw [if_neg c17] at H
       exact absurd H (by simp)
     ·
      rw [if_neg c14] at H
      exact absurd H (by simp)
    ·
     rw [if_neg c12] at H
     exact absurd H (by simp)

end Go.Proofs.Ytlglgfcdhflecaa.Mine
