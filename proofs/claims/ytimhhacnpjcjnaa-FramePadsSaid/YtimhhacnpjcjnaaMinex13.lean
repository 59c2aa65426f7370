-- Written by this repo's own printer (wip/print), which builds on the kit's.
import Derived.Test.YtimhhacnpjcjnaaMinex0
import Derived.Test.YtimhhacnpjcjnaaMinex3
import Derived.Test.YtimhhacnpjcjnaaMinex5
import Derived.Test.YtimhhacnpjcjnaaMinex10
import Derived.Test.YtimhhacnpjcjnaaMinex11
import Derived.Test.YtimhhacnpjcjnaaMinex12
namespace Go.Proofs.Ytimhhacnpjcjnaa.Mine
open Go.RowKit Go.Proofs.YtimhhacnpjcjnaaW.PrintWords Go.Proofs.YtimhhacnpjcjnaaW.PrintLast Go.Proofs.YtimhhacnpjcjnaaW.PrintMore
attribute [local go_sem] max2_int min2_int max_two min_two max_three min_three max_four min_four   -- for this text's walks alone
set_option linter.unusedVariables false
set_option linter.unusedSimpArgs false

/-! ### frame_Reset: function 19 -/
def frame_Reset.f (k : Nat) (a0 : Int) (a1 : Int) : Option (Int × Int × Int × ByteArray) := (frame_four.f k a1).bind fun t174 => (some (3, 0, Go.bits .and .u32 a0 2147483647, t174))
theorem frame_Reset.mono : ∀ a0 a1 k, LeO (frame_Reset.f k a0 a1) (frame_Reset.f (k + 1) a0 a1) := by
 intro a0 a1 k
 unfold frame_Reset.f
 repeat' first
   | (with_reducible exact frame_four.mono _ _)
   | (with_reducible exact LeO.refl _)
   | (with_reducible exact LeO.none _)
   | (with_reducible refine LeO.ite ?_ ?_)
   | (with_reducible refine LeO.bind ?_ (fun _ => ?_))
   | exact frame_four.mono _ _
   | exact LeO.none _
   | refine LeO.ite ?_ ?_
   | refine LeO.bind ?_ (fun _ => ?_)
set_option maxHeartbeats 8000000 in
set_option maxRecDepth 100000 in
theorem frame_Reset.calls (k : Nat) (a0 : Int) (a1 : Int) (r1 : Int) (r2 : Int) (r3 : Int) (r4 : ByteArray) (w : World) (h : frame_Reset.f k a0 a1 = some (r1, r2, r3, r4)) :
  Calls Try.prog 19 #[.int .u32 a0, .int .u32 a1] w fun e w' => e = .returned (.agg #[.int .u8 r1, .int .u8 r2, .int .u32 r3, .string r4]) ∧ Below w.heap.size w w' := by
 have hu24 := Try.underlying24
 have HB := Aside0.mk (Below.refl w.heap.size w)
 have H : ((frame_four.f k a1).bind fun t174 => (some (3, 0, Go.bits .and .u32 a0 2147483647, t174))) = some (r1, r2, r3, r4) := h
 clear h
 replace H := Option.bind_eq_some_iff.mp H
 obtain ⟨t174, A30, H⟩ := H
 replace H : (some (3, 0, Go.bits .and .u32 a0 2147483647, t174)) = some (r1, r2, r3, r4) := H
 have A3 := Aside0.mk A30
 clear A30
 simp only [Option.some.injEq, Prod.mk.injEq] at H
 obtain ⟨rfl, rfl, rfl, rfl⟩ := H
 go_enter Try.func19, Try.ntmps19
 go_wp2_with (first | ((with_reducible refine gate_dst (N := 4) rfl ?_); refine box_event ?hg (N := 4) ?hd (cs := #[.int .u8 0, .int .u8 0, .int .u32 0, .string (⟨#[]⟩ : ByteArray)]) (t := 24) ?hr ?_; (case hd => rfl); (case hg => rfl); (case hr => first | (go_simp; done) | (go_simp; rfl)); intro gb173 hg w4 hbox hb; have n0_ := Aside0.mk (below_step (by repeat (first | (with_reducible first | exact HB.out | apply below_alloc | apply pw_below_drewN | apply below_drew1) | exact HB.out)) hb); have n1_ := Aside0.mk (hbox); have n2_ := Aside0.mk ((by rw [hg]; exact (below_size (by repeat (first | (with_reducible first | exact HB.out | apply below_alloc | apply pw_below_drewN | apply below_drew1) | exact HB.out))) : w.heap.size ≤ gb173)); have n3_ := Aside0.mk ((by rw [hg]; exact (below_size (by repeat (first | (with_reducible first | exact HB.out | apply below_alloc | apply pw_below_drewN | apply below_drew1) | exact HB.out))) : w.heap.size ≤ gb173)); clear HB; have HB := n0_; have BK173 := n1_; have GW173 := n2_; have GE173 := n3_; clear n0_ n1_ n2_ n3_; clear hb hbox hg) | ((with_reducible refine gate_callee (f := 35) rfl ?_); refine goesL_ (some 8) rfl rfl Try.func35 (by kernel_rfl) rfl #[.int .u32 a1] rfl (by (try simp only [List.map_toArray, List.map_cons, List.map_nil]); first | done | rfl | (simp only [List.length_drop, List.length_take]; rfl)) ?_; (with_reducible refine (frame_four.calls k a1 t174 _ A3.out).mono ?_); rintro e w5 ⟨rfl, hb⟩; refine ⟨_, rfl, ?_⟩; have n0_ := Aside0.mk (blk_below (g := gb173) (o := .cells #[.int .u8 0, .int .u8 0, .int .u32 0, .string (⟨#[]⟩ : ByteArray)] 24 (0, 0)) (by (with_reducible repeat (first | refine blk_drewN ?_ _ | refine blk_drew ?_ | refine blk_alloc ?_ _)); exact BK173.out) hb); have n1_ := Aside0.mk (below_step (by repeat (first | (with_reducible first | exact HB.out | apply below_alloc | apply pw_below_drewN | apply below_drew1 | refine below_set ?_ GE173.out) | exact HB.out)) hb); clear BK173; clear HB; have BK173 := n0_; have HB := n1_; clear n0_ n1_; (try clear hb); (try clear hb2); (try clear hk); (try clear hi); have hcz6_0 : w5.cell? ⟨gb173, 0, none⟩ = some (.int .u8 0) := (blk_cell BK173.out 0).trans rfl; have hcz6_1 : w5.cell? ⟨gb173, 1, none⟩ = some (.int .u8 0) := (blk_cell BK173.out 1).trans rfl; have hcz6_2 : w5.cell? ⟨gb173, 2, none⟩ = some (.int .u32 0) := (blk_cell BK173.out 2).trans rfl; have hcz6_3 : w5.cell? ⟨gb173, 3, none⟩ = some (.string (⟨#[]⟩ : ByteArray)) := (blk_cell BK173.out 3).trans rfl; have hfz6_0 := blk_frozen BK173.out 0; have hfz6_1 := blk_frozen BK173.out 1; have hfz6_2 := blk_frozen BK173.out 2; have hfz6_3 := blk_frozen BK173.out 3))
 refine bodyPost_ret (results_cell_row rfl _ _ gb173 24 #[.int .u8 3, .int .u8 0, .int .u32 (Go.bits .and .u32 a0 2147483647), .string t174] (0, 0) _ rfl (by (with_reducible repeat (first | refine blk_drewN ?_ _ | refine blk_drew ?_ | refine blk_alloc ?_ _)); refine blk_put (cs := #[.int .u8 3, .int .u8 0, .int .u32 (Go.bits .and .u32 a0 2147483647), .string (⟨#[]⟩ : ByteArray)]) ?_ 3 _ rfl; (with_reducible repeat (first | refine blk_drewN ?_ _ | refine blk_drew ?_ | refine blk_alloc ?_ _)); refine blk_put (cs := #[.int .u8 3, .int .u8 0, .int .u32 0, .string (⟨#[]⟩ : ByteArray)]) ?_ 2 _ rfl; (with_reducible repeat (first | refine blk_drewN ?_ _ | refine blk_drew ?_ | refine blk_alloc ?_ _)); refine blk_put (cs := #[.int .u8 3, .int .u8 0, .int .u32 0, .string (⟨#[]⟩ : ByteArray)]) ?_ 1 _ rfl; (with_reducible repeat (first | refine blk_drewN ?_ _ | refine blk_drew ?_ | refine blk_alloc ?_ _)); refine blk_put (cs := #[.int .u8 0, .int .u8 0, .int .u32 0, .string (⟨#[]⟩ : ByteArray)]) ?_ 0 _ rfl; (with_reducible repeat (first | refine blk_drewN ?_ _ | refine blk_drew ?_ | refine blk_alloc ?_ _)); exact BK173.out) Try.underlying24 rfl (by kernel_rfl)) rfl ?_
 exact ⟨by first | rfl | (simp [errW_none, errW_some] <;> rfl) | (simp [*, errW_none, errW_some] <;> rfl), by repeat (first | (with_reducible first | exact HB.out | apply below_alloc | apply pw_below_drewN | apply below_drew1 | refine below_set ?_ GE173.out) | exact HB.out)⟩

/-! ### frame_Window: function 21 -/
def frame_Window.f (k : Nat) (a0 : Int) (a1 : Int) : Option (Int × Int × Int × ByteArray) := (frame_four.f k (Go.bits .and .u32 a1 2147483647)).bind fun t176 => (some (8, 0, Go.bits .and .u32 a0 2147483647, t176))
theorem frame_Window.mono : ∀ a0 a1 k, LeO (frame_Window.f k a0 a1) (frame_Window.f (k + 1) a0 a1) := by
 intro a0 a1 k
 unfold frame_Window.f
 repeat' first
   | (with_reducible exact frame_four.mono _ _)
   | (with_reducible exact LeO.refl _)
   | (with_reducible exact LeO.none _)
   | (with_reducible refine LeO.ite ?_ ?_)
   | (with_reducible refine LeO.bind ?_ (fun _ => ?_))
   | exact frame_four.mono _ _
   | exact LeO.none _
   | refine LeO.ite ?_ ?_
   | refine LeO.bind ?_ (fun _ => ?_)
set_option maxHeartbeats 8000000 in
set_option maxRecDepth 100000 in
theorem frame_Window.calls (k : Nat) (a0 : Int) (a1 : Int) (r1 : Int) (r2 : Int) (r3 : Int) (r4 : ByteArray) (w : World) (h : frame_Window.f k a0 a1 = some (r1, r2, r3, r4)) :
  Calls Try.prog 21 #[.int .u32 a0, .int .u32 a1] w fun e w' => e = .returned (.agg #[.int .u8 r1, .int .u8 r2, .int .u32 r3, .string r4]) ∧ Below w.heap.size w w' := by
 have hu24 := Try.underlying24
 have HB := Aside0.mk (Below.refl w.heap.size w)
 have H : ((frame_four.f k (Go.bits .and .u32 a1 2147483647)).bind fun t176 => (some (8, 0, Go.bits .and .u32 a0 2147483647, t176))) = some (r1, r2, r3, r4) := h
 clear h
 replace H := Option.bind_eq_some_iff.mp H
 obtain ⟨t176, A30, H⟩ := H
 replace H : (some (8, 0, Go.bits .and .u32 a0 2147483647, t176)) = some (r1, r2, r3, r4) := H
 have A3 := Aside0.mk A30
 clear A30
 simp only [Option.some.injEq, Prod.mk.injEq] at H
 obtain ⟨rfl, rfl, rfl, rfl⟩ := H
 go_enter Try.func21, Try.ntmps21
 go_wp2_with (first | ((with_reducible refine gate_dst (N := 4) rfl ?_); refine box_event ?hg (N := 4) ?hd (cs := #[.int .u8 0, .int .u8 0, .int .u32 0, .string (⟨#[]⟩ : ByteArray)]) (t := 24) ?hr ?_; (case hd => rfl); (case hg => rfl); (case hr => first | (go_simp; done) | (go_simp; rfl)); intro gb175 hg w4 hbox hb; have n0_ := Aside0.mk (below_step (by repeat (first | (with_reducible first | exact HB.out | apply below_alloc | apply pw_below_drewN | apply below_drew1) | exact HB.out)) hb); have n1_ := Aside0.mk (hbox); have n2_ := Aside0.mk ((by rw [hg]; exact (below_size (by repeat (first | (with_reducible first | exact HB.out | apply below_alloc | apply pw_below_drewN | apply below_drew1) | exact HB.out))) : w.heap.size ≤ gb175)); have n3_ := Aside0.mk ((by rw [hg]; exact (below_size (by repeat (first | (with_reducible first | exact HB.out | apply below_alloc | apply pw_below_drewN | apply below_drew1) | exact HB.out))) : w.heap.size ≤ gb175)); clear HB; have HB := n0_; have BK175 := n1_; have GW175 := n2_; have GE175 := n3_; clear n0_ n1_ n2_ n3_; clear hb hbox hg) | ((with_reducible refine gate_callee (f := 35) rfl ?_); refine goesL_ (some 9) rfl rfl Try.func35 (by kernel_rfl) rfl #[.int .u32 (Go.bits .and .u32 a1 2147483647)] rfl (by (try simp only [List.map_toArray, List.map_cons, List.map_nil]); first | done | rfl | (simp only [List.length_drop, List.length_take]; rfl)) ?_; (with_reducible refine (frame_four.calls k (Go.bits .and .u32 a1 2147483647) t176 _ A3.out).mono ?_); rintro e w5 ⟨rfl, hb⟩; refine ⟨_, rfl, ?_⟩; have n0_ := Aside0.mk (blk_below (g := gb175) (o := .cells #[.int .u8 0, .int .u8 0, .int .u32 0, .string (⟨#[]⟩ : ByteArray)] 24 (0, 0)) (by (with_reducible repeat (first | refine blk_drewN ?_ _ | refine blk_drew ?_ | refine blk_alloc ?_ _)); exact BK175.out) hb); have n1_ := Aside0.mk (below_step (by repeat (first | (with_reducible first | exact HB.out | apply below_alloc | apply pw_below_drewN | apply below_drew1 | refine below_set ?_ GE175.out) | exact HB.out)) hb); clear BK175; clear HB; have BK175 := n0_; have HB := n1_; clear n0_ n1_; (try clear hb); (try clear hb2); (try clear hk); (try clear hi); have hcz6_0 : w5.cell? ⟨gb175, 0, none⟩ = some (.int .u8 0) := (blk_cell BK175.out 0).trans rfl; have hcz6_1 : w5.cell? ⟨gb175, 1, none⟩ = some (.int .u8 0) := (blk_cell BK175.out 1).trans rfl; have hcz6_2 : w5.cell? ⟨gb175, 2, none⟩ = some (.int .u32 0) := (blk_cell BK175.out 2).trans rfl; have hcz6_3 : w5.cell? ⟨gb175, 3, none⟩ = some (.string (⟨#[]⟩ : ByteArray)) := (blk_cell BK175.out 3).trans rfl; have hfz6_0 := blk_frozen BK175.out 0; have hfz6_1 := blk_frozen BK175.out 1; have hfz6_2 := blk_frozen BK175.out 2; have hfz6_3 := blk_frozen BK175.out 3))
 refine bodyPost_ret (results_cell_row rfl _ _ gb175 24 #[.int .u8 8, .int .u8 0, .int .u32 (Go.bits .and .u32 a0 2147483647), .string t176] (0, 0) _ rfl (by (with_reducible repeat (first | refine blk_drewN ?_ _ | refine blk_drew ?_ | refine blk_alloc ?_ _)); refine blk_put (cs := #[.int .u8 8, .int .u8 0, .int .u32 (Go.bits .and .u32 a0 2147483647), .string (⟨#[]⟩ : ByteArray)]) ?_ 3 _ rfl; (with_reducible repeat (first | refine blk_drewN ?_ _ | refine blk_drew ?_ | refine blk_alloc ?_ _)); refine blk_put (cs := #[.int .u8 8, .int .u8 0, .int .u32 0, .string (⟨#[]⟩ : ByteArray)]) ?_ 2 _ rfl; (with_reducible repeat (first | refine blk_drewN ?_ _ | refine blk_drew ?_ | refine blk_alloc ?_ _)); refine blk_put (cs := #[.int .u8 8, .int .u8 0, .int .u32 0, .string (⟨#[]⟩ : ByteArray)]) ?_ 1 _ rfl; (with_reducible repeat (first | refine blk_drewN ?_ _ | refine blk_drew ?_ | refine blk_alloc ?_ _)); refine blk_put (cs := #[.int .u8 0, .int .u8 0, .int .u32 0, .string (⟨#[]⟩ : ByteArray)]) ?_ 0 _ rfl; (with_reducible repeat (first | refine blk_drewN ?_ _ | refine blk_drew ?_ | refine blk_alloc ?_ _)); exact BK175.out) Try.underlying24 rfl (by kernel_rfl)) rfl ?_
 exact ⟨by first | rfl | (simp [errW_none, errW_some] <;> rfl) | (simp [*, errW_none, errW_some] <;> rfl), by repeat (first | (with_reducible first | exact HB.out | apply below_alloc | apply pw_below_drewN | apply below_drew1 | refine below_set ?_ GE175.out) | exact HB.out)⟩

/-! ### nunciolaw14_awake: function 8 -/
def nunciolaw14_awake.f (k : Nat)  : Option (Bool) := (frame_Reset.f k 1 8).bind fun bt177 => ((frame_Print.f k bt177.1 bt177.2.1 bt177.2.2.1 bt177.2.2.2).bind fun bt181 => ((frame_Parse.f k bt181.1).bind fun bt183 => ((frame_Window.f k 0 0).bind fun bt190 => ((frame_Wrong.f k bt190.1 bt190.2.1 bt190.2.2.1 bt190.2.2.2).bind fun bt194 => ((frame_Settings.f k ([] : List (S50))).bind fun bt196 => ((frame_Print.f k bt196.1 bt196.2.1 bt196.2.2.1 bt196.2.2.2).bind fun bt200 => (if bt181.1.toList = ([0, 0, 4, 3, 0, 0, 0, 0, 1, 0, 0, 0, 8] : List UInt8) then (if bt181.2 = 0 then (if bt183.2.2.2.2.1 = 13 then (if bt183.2.2.2.2.2 = 0 then (if bt183.2.2.1 = 1 then (if bt194.1 = 2 then (if bt194.2 = 1 then (if bt200.1.toList = ([0, 0, 0, 4, 0, 0, 0, 0, 0] : List UInt8) then (if bt200.2 = 0 then ((frame_Content.f k 0 8 1 (⟨#[1, 97, 98]⟩ : ByteArray)).bind fun t202 => (some (t202.toList == ([97] : List UInt8)))) else (some false)) else (some false)) else (some false)) else (some false)) else (some false)) else (some false)) else (some false)) else (some false)) else (some false))))))))
theorem nunciolaw14_awake.mono : ∀ k, LeO (nunciolaw14_awake.f k ) (nunciolaw14_awake.f (k + 1) ) := by
 intro  k
 unfold nunciolaw14_awake.f
 repeat' first
   | (with_reducible exact frame_Content.mono _ _ _ _ _)
   | (with_reducible exact frame_Parse.mono _ _)
   | (with_reducible exact frame_Print.mono _ _ _ _ _)
   | (with_reducible exact frame_Reset.mono _ _ _)
   | (with_reducible exact frame_Settings.mono _ _)
   | (with_reducible exact frame_Window.mono _ _ _)
   | (with_reducible exact frame_Wrong.mono _ _ _ _ _)
   | (with_reducible exact LeO.refl _)
   | (with_reducible exact LeO.none _)
   | (with_reducible refine LeO.ite ?_ ?_)
   | (with_reducible refine LeO.bind ?_ (fun _ => ?_))
   | exact frame_Content.mono _ _ _ _ _
   | exact frame_Parse.mono _ _
   | exact frame_Print.mono _ _ _ _ _
   | exact frame_Reset.mono _ _ _
   | exact frame_Settings.mono _ _
   | exact frame_Window.mono _ _ _
   | exact frame_Wrong.mono _ _ _ _ _
   | exact LeO.none _
   | refine LeO.ite ?_ ?_
   | refine LeO.bind ?_ (fun _ => ?_)
set_option maxHeartbeats 8000000 in
set_option maxRecDepth 100000 in
theorem nunciolaw14_awake.calls (k : Nat)  (r : Bool) (w : World) (h : nunciolaw14_awake.f k  = some r) :
  Calls Try.prog 8 #[] w fun e w' => e = .returned (.bool r) ∧ Below w.heap.size w w' := by
 have hu24 := Try.underlying24
 have HB := Aside0.mk (Below.refl w.heap.size w)
 have HT : Aside0 (r = true) := ⟨Option.some.inj ((at_rounds nunciolaw14_awake.mono (Nat.le_max_left k 400) h).symm.trans (at_rounds nunciolaw14_awake.mono (Nat.le_max_right k 400) (by decide +kernel : nunciolaw14_awake.f 400 = some true)))⟩
 have H : ((frame_Reset.f k 1 8).bind fun bt177 => ((frame_Print.f k bt177.1 bt177.2.1 bt177.2.2.1 bt177.2.2.2).bind fun bt181 => ((frame_Parse.f k bt181.1).bind fun bt183 => ((frame_Window.f k 0 0).bind fun bt190 => ((frame_Wrong.f k bt190.1 bt190.2.1 bt190.2.2.1 bt190.2.2.2).bind fun bt194 => ((frame_Settings.f k ([] : List (S50))).bind fun bt196 => ((frame_Print.f k bt196.1 bt196.2.1 bt196.2.2.1 bt196.2.2.2).bind fun bt200 => (if bt181.1.toList = ([0, 0, 4, 3, 0, 0, 0, 0, 1, 0, 0, 0, 8] : List UInt8) then (if bt181.2 = 0 then (if bt183.2.2.2.2.1 = 13 then (if bt183.2.2.2.2.2 = 0 then (if bt183.2.2.1 = 1 then (if bt194.1 = 2 then (if bt194.2 = 1 then (if bt200.1.toList = ([0, 0, 0, 4, 0, 0, 0, 0, 0] : List UInt8) then (if bt200.2 = 0 then ((frame_Content.f k 0 8 1 (⟨#[1, 97, 98]⟩ : ByteArray)).bind fun t202 => (some (t202.toList == ([97] : List UInt8)))) else (some false)) else (some false)) else (some false)) else (some false)) else (some false)) else (some false)) else (some false)) else (some false)) else (some false))))))))) = some r := h
 clear h
 replace H := Option.bind_eq_some_iff.mp H
 obtain ⟨⟨t177, t178, t179, t180⟩, A10, H⟩ := H
 replace H : ((frame_Print.f k t177 t178 t179 t180).bind fun bt181 => ((frame_Parse.f k bt181.1).bind fun bt183 => ((frame_Window.f k 0 0).bind fun bt190 => ((frame_Wrong.f k bt190.1 bt190.2.1 bt190.2.2.1 bt190.2.2.2).bind fun bt194 => ((frame_Settings.f k ([] : List (S50))).bind fun bt196 => ((frame_Print.f k bt196.1 bt196.2.1 bt196.2.2.1 bt196.2.2.2).bind fun bt200 => (if bt181.1.toList = ([0, 0, 4, 3, 0, 0, 0, 0, 1, 0, 0, 0, 8] : List UInt8) then (if bt181.2 = 0 then (if bt183.2.2.2.2.1 = 13 then (if bt183.2.2.2.2.2 = 0 then (if bt183.2.2.1 = 1 then (if bt194.1 = 2 then (if bt194.2 = 1 then (if bt200.1.toList = ([0, 0, 0, 4, 0, 0, 0, 0, 0] : List UInt8) then (if bt200.2 = 0 then ((frame_Content.f k 0 8 1 (⟨#[1, 97, 98]⟩ : ByteArray)).bind fun t202 => (some (t202.toList == ([97] : List UInt8)))) else (some false)) else (some false)) else (some false)) else (some false)) else (some false)) else (some false)) else (some false)) else (some false)) else (some false)))))))) = some r := H
 have A1 := Aside0.mk A10
 clear A10
 replace H := Option.bind_eq_some_iff.mp H
 obtain ⟨⟨t181, t182⟩, A20, H⟩ := H
 replace H : ((frame_Parse.f k t181).bind fun bt183 => ((frame_Window.f k 0 0).bind fun bt190 => ((frame_Wrong.f k bt190.1 bt190.2.1 bt190.2.2.1 bt190.2.2.2).bind fun bt194 => ((frame_Settings.f k ([] : List (S50))).bind fun bt196 => ((frame_Print.f k bt196.1 bt196.2.1 bt196.2.2.1 bt196.2.2.2).bind fun bt200 => (if t181.toList = ([0, 0, 4, 3, 0, 0, 0, 0, 1, 0, 0, 0, 8] : List UInt8) then (if t182 = 0 then (if bt183.2.2.2.2.1 = 13 then (if bt183.2.2.2.2.2 = 0 then (if bt183.2.2.1 = 1 then (if bt194.1 = 2 then (if bt194.2 = 1 then (if bt200.1.toList = ([0, 0, 0, 4, 0, 0, 0, 0, 0] : List UInt8) then (if bt200.2 = 0 then ((frame_Content.f k 0 8 1 (⟨#[1, 97, 98]⟩ : ByteArray)).bind fun t202 => (some (t202.toList == ([97] : List UInt8)))) else (some false)) else (some false)) else (some false)) else (some false)) else (some false)) else (some false)) else (some false)) else (some false)) else (some false))))))) = some r := H
 have A2 := Aside0.mk A20
 clear A20
 replace H := Option.bind_eq_some_iff.mp H
 obtain ⟨⟨t183, t184, t185, t186, t187, t188⟩, A30, H⟩ := H
 replace H : ((frame_Window.f k 0 0).bind fun bt190 => ((frame_Wrong.f k bt190.1 bt190.2.1 bt190.2.2.1 bt190.2.2.2).bind fun bt194 => ((frame_Settings.f k ([] : List (S50))).bind fun bt196 => ((frame_Print.f k bt196.1 bt196.2.1 bt196.2.2.1 bt196.2.2.2).bind fun bt200 => (if t181.toList = ([0, 0, 4, 3, 0, 0, 0, 0, 1, 0, 0, 0, 8] : List UInt8) then (if t182 = 0 then (if t187 = 13 then (if t188 = 0 then (if t185 = 1 then (if bt194.1 = 2 then (if bt194.2 = 1 then (if bt200.1.toList = ([0, 0, 0, 4, 0, 0, 0, 0, 0] : List UInt8) then (if bt200.2 = 0 then ((frame_Content.f k 0 8 1 (⟨#[1, 97, 98]⟩ : ByteArray)).bind fun t202 => (some (t202.toList == ([97] : List UInt8)))) else (some false)) else (some false)) else (some false)) else (some false)) else (some false)) else (some false)) else (some false)) else (some false)) else (some false)))))) = some r := H
 have A3 := Aside0.mk A30
 clear A30
 replace H := Option.bind_eq_some_iff.mp H
 obtain ⟨⟨t190, t191, t192, t193⟩, A40, H⟩ := H
 replace H : ((frame_Wrong.f k t190 t191 t192 t193).bind fun bt194 => ((frame_Settings.f k ([] : List (S50))).bind fun bt196 => ((frame_Print.f k bt196.1 bt196.2.1 bt196.2.2.1 bt196.2.2.2).bind fun bt200 => (if t181.toList = ([0, 0, 4, 3, 0, 0, 0, 0, 1, 0, 0, 0, 8] : List UInt8) then (if t182 = 0 then (if t187 = 13 then (if t188 = 0 then (if t185 = 1 then (if bt194.1 = 2 then (if bt194.2 = 1 then (if bt200.1.toList = ([0, 0, 0, 4, 0, 0, 0, 0, 0] : List UInt8) then (if bt200.2 = 0 then ((frame_Content.f k 0 8 1 (⟨#[1, 97, 98]⟩ : ByteArray)).bind fun t202 => (some (t202.toList == ([97] : List UInt8)))) else (some false)) else (some false)) else (some false)) else (some false)) else (some false)) else (some false)) else (some false)) else (some false)) else (some false))))) = some r := H
 have A4 := Aside0.mk A40
 clear A40
 replace H := Option.bind_eq_some_iff.mp H
 obtain ⟨⟨t194, t195⟩, A50, H⟩ := H
 replace H : ((frame_Settings.f k ([] : List (S50))).bind fun bt196 => ((frame_Print.f k bt196.1 bt196.2.1 bt196.2.2.1 bt196.2.2.2).bind fun bt200 => (if t181.toList = ([0, 0, 4, 3, 0, 0, 0, 0, 1, 0, 0, 0, 8] : List UInt8) then (if t182 = 0 then (if t187 = 13 then (if t188 = 0 then (if t185 = 1 then (if t194 = 2 then (if t195 = 1 then (if bt200.1.toList = ([0, 0, 0, 4, 0, 0, 0, 0, 0] : List UInt8) then (if bt200.2 = 0 then ((frame_Content.f k 0 8 1 (⟨#[1, 97, 98]⟩ : ByteArray)).bind fun t202 => (some (t202.toList == ([97] : List UInt8)))) else (some false)) else (some false)) else (some false)) else (some false)) else (some false)) else (some false)) else (some false)) else (some false)) else (some false)))) = some r := H
 have A5 := Aside0.mk A50
 clear A50
 replace H := Option.bind_eq_some_iff.mp H
 obtain ⟨⟨t196, t197, t198, t199⟩, A60, H⟩ := H
 replace H : ((frame_Print.f k t196 t197 t198 t199).bind fun bt200 => (if t181.toList = ([0, 0, 4, 3, 0, 0, 0, 0, 1, 0, 0, 0, 8] : List UInt8) then (if t182 = 0 then (if t187 = 13 then (if t188 = 0 then (if t185 = 1 then (if t194 = 2 then (if t195 = 1 then (if bt200.1.toList = ([0, 0, 0, 4, 0, 0, 0, 0, 0] : List UInt8) then (if bt200.2 = 0 then ((frame_Content.f k 0 8 1 (⟨#[1, 97, 98]⟩ : ByteArray)).bind fun t202 => (some (t202.toList == ([97] : List UInt8)))) else (some false)) else (some false)) else (some false)) else (some false)) else (some false)) else (some false)) else (some false)) else (some false)) else (some false))) = some r := H
 have A6 := Aside0.mk A60
 clear A60
 replace H := Option.bind_eq_some_iff.mp H
 obtain ⟨⟨t200, t201⟩, A70, H⟩ := H
 replace H : (if t181.toList = ([0, 0, 4, 3, 0, 0, 0, 0, 1, 0, 0, 0, 8] : List UInt8) then (if t182 = 0 then (if t187 = 13 then (if t188 = 0 then (if t185 = 1 then (if t194 = 2 then (if t195 = 1 then (if t200.toList = ([0, 0, 0, 4, 0, 0, 0, 0, 0] : List UInt8) then (if t201 = 0 then ((frame_Content.f k 0 8 1 (⟨#[1, 97, 98]⟩ : ByteArray)).bind fun t202 => (some (t202.toList == ([97] : List UInt8)))) else (some false)) else (some false)) else (some false)) else (some false)) else (some false)) else (some false)) else (some false)) else (some false)) else (some false)) = some r := H
 have A7 := Aside0.mk A70
 clear A70
 by_cases c8 : t181.toList = ([0, 0, 4, 3, 0, 0, 0, 0, 1, 0, 0, 0, 8] : List UInt8)
 ·
  rw [if_pos c8] at H
  have c8b0 : (t181.toList == ([0, 0, 4, 3, 0, 0, 0, 0, 1, 0, 0, 0, 8] : List UInt8)) = true := beq_iff_eq.mpr c8
  have c8b1 : (t181.toList != ([0, 0, 4, 3, 0, 0, 0, 0, 1, 0, 0, 0, 8] : List UInt8)) = false := bne_eq_false_iff_eq.mpr c8
  clear c8
  by_cases c9 : t182 = 0
  ·
   rw [if_pos c9] at H
   have c9b0 : (t182 == 0) = true := beq_iff_eq.mpr c9
   have c9b1 : (t182 != 0) = false := bne_eq_false_iff_eq.mpr c9
   clear c9
   by_cases c10 : t187 = 13
   ·
    rw [if_pos c10] at H
    have c10b0 : (t187 == 13) = true := beq_iff_eq.mpr c10
    have c10b1 : (t187 != 13) = false := bne_eq_false_iff_eq.mpr c10
    clear c10
    by_cases c11 : t188 = 0
    ·
     rw [if_pos c11] at H
     have c11b0 : (t188 == 0) = true := beq_iff_eq.mpr c11
     have c11b1 : (t188 != 0) = false := bne_eq_false_iff_eq.mpr c11
     clear c11
     by_cases c12 : t185 = 1
     ·
      rw [if_pos c12] at H
      have c12b0 : (t185 == 1) = true := beq_iff_eq.mpr c12
      have c12b1 : (t185 != 1) = false := bne_eq_false_iff_eq.mpr c12
      clear c12
      by_cases c13 : t194 = 2
      ·
       rw [if_pos c13] at H
       have c13b0 : (t194 == 2) = true := beq_iff_eq.mpr c13
       have c13b1 : (t194 != 2) = false := bne_eq_false_iff_eq.mpr c13
       clear c13
       by_cases c14 : t195 = 1
       ·
        rw [if_pos c14] at H
        have c14b0 : (t195 == 1) = true := beq_iff_eq.mpr c14
        have c14b1 : (t195 != 1) = false := bne_eq_false_iff_eq.mpr c14
        clear c14
        by_cases c15 : t200.toList = ([0, 0, 0, 4, 0, 0, 0, 0, 0] : List UInt8)
        ·
         rw [if_pos c15] at H
         have c15b0 : (t200.toList == ([0, 0, 0, 4, 0, 0, 0, 0, 0] : List UInt8)) = true := beq_iff_eq.mpr c15
         have c15b1 : (t200.toList != ([0, 0, 0, 4, 0, 0, 0, 0, 0] : List UInt8)) = false := bne_eq_false_iff_eq.mpr c15
         clear c15
         by_cases c16 : t201 = 0
         ·
          rw [if_pos c16] at H
          have c16b0 : (t201 == 0) = true := beq_iff_eq.mpr c16
          have c16b1 : (t201 != 0) = false := bne_eq_false_iff_eq.mpr c16
          clear c16
          replace H := Option.bind_eq_some_iff.mp H
          obtain ⟨t202, A170, H⟩ := H
          replace H : (some (t202.toList == ([97] : List UInt8))) = some r := H
          have A17 := Aside0.mk A170
          clear A170
          obtain rfl := Option.some.inj H
          go_enter Try.func8, Try.ntmps8
          go_wp2_with (first | ((with_reducible refine gate_callee (f := 19) rfl ?_); refine goesL_ (some 11) rfl rfl Try.func19 (by kernel_rfl) rfl #[.int .u32 1, .int .u32 8] rfl (by (try simp only [List.map_toArray, List.map_cons, List.map_nil]); first | done | rfl | (simp only [List.length_drop, List.length_take]; rfl)) ?_; (with_reducible refine (frame_Reset.calls k 1 8 t177 t178 t179 t180 _ A1.out).mono ?_); rintro e w18 ⟨rfl, hb⟩; refine ⟨_, rfl, ?_⟩; have n0_ := Aside0.mk (below_step (by repeat (first | (with_reducible first | exact HB.out | apply below_alloc | apply pw_below_drewN | apply below_drew1) | exact HB.out)) hb); clear HB; have HB := n0_; clear n0_; (try clear hb); (try clear hb2); (try clear hk); (try clear hi)) | ((with_reducible refine gate_callee (f := 11) rfl ?_); refine goesL_ (some 12) rfl rfl Try.func11 (by kernel_rfl) rfl #[.agg #[.int .u8 t177, .int .u8 t178, .int .u32 t179, .string t180]] rfl (by (try simp only [List.map_toArray, List.map_cons, List.map_nil]); first | done | rfl | (simp only [List.length_drop, List.length_take]; rfl)) ?_; (with_reducible refine (frame_Print.calls k t177 t178 t179 t180 t181 t182 _ A2.out).mono ?_); rintro e w19 ⟨rfl, hb⟩; refine ⟨_, rfl, ?_⟩; have n0_ := Aside0.mk (below_step (by repeat (first | (with_reducible first | exact HB.out | apply below_alloc | apply pw_below_drewN | apply below_drew1) | exact HB.out)) hb); clear HB; have HB := n0_; clear n0_; (try clear hb); (try clear hb2); (try clear hk); (try clear hi)) | ((with_reducible refine gate_callee (f := 9) rfl ?_); refine goesL_ (some 17) rfl rfl Try.func9 (by kernel_rfl) rfl #[.string t181] rfl (by (try simp only [List.map_toArray, List.map_cons, List.map_nil]); first | done | rfl | (simp only [List.length_drop, List.length_take]; rfl)) ?_; (with_reducible refine (frame_Parse.calls k t181 t183 t184 t185 t186 t187 t188 _ A3.out).mono ?_); rintro e w20 ⟨rfl, hb⟩; refine ⟨_, rfl, ?_⟩; have n0_ := Aside0.mk (below_step (by repeat (first | (with_reducible first | exact HB.out | apply below_alloc | apply pw_below_drewN | apply below_drew1) | exact HB.out)) hb); clear HB; have HB := n0_; clear n0_; (try clear hb); (try clear hb2); (try clear hk); (try clear hi)) | ((with_reducible refine gate_dst (N := 3) rfl ?_); refine box_event ?hg (N := 3) ?hd (cs := #[.int .u8 0, .int .u8 0, .int .u32 0, .string (⟨#[]⟩ : ByteArray)]) (t := 24) ?hr ?_; (case hd => rfl); (case hg => rfl); (case hr => first | (go_simp; done) | (go_simp; rfl)); intro gb189 hg w21 hbox hb; have n0_ := Aside0.mk (below_step (by repeat (first | (with_reducible first | exact HB.out | apply below_alloc | apply pw_below_drewN | apply below_drew1) | exact HB.out)) hb); have n1_ := Aside0.mk (hbox); have n2_ := Aside0.mk ((by rw [hg]; exact (below_size (by repeat (first | (with_reducible first | exact HB.out | apply below_alloc | apply pw_below_drewN | apply below_drew1) | exact HB.out))) : w.heap.size ≤ gb189)); have n3_ := Aside0.mk ((by rw [hg]; exact (below_size (by repeat (first | (with_reducible first | exact HB.out | apply below_alloc | apply pw_below_drewN | apply below_drew1) | exact HB.out))) : w.heap.size ≤ gb189)); clear HB; have HB := n0_; have BK189 := n1_; have GW189 := n2_; have GE189 := n3_; clear n0_ n1_ n2_ n3_; clear hb hbox hg; have hcz22_0 : w21.cell? ⟨gb189, 0, none⟩ = some (.int .u8 0) := (blk_cell BK189.out 0).trans rfl; have hcz22_1 : w21.cell? ⟨gb189, 1, none⟩ = some (.int .u8 0) := (blk_cell BK189.out 1).trans rfl; have hcz22_2 : w21.cell? ⟨gb189, 2, none⟩ = some (.int .u32 0) := (blk_cell BK189.out 2).trans rfl; have hcz22_3 : w21.cell? ⟨gb189, 3, none⟩ = some (.string (⟨#[]⟩ : ByteArray)) := (blk_cell BK189.out 3).trans rfl; have hfz22_0 := blk_frozen BK189.out 0; have hfz22_1 := blk_frozen BK189.out 1; have hfz22_2 := blk_frozen BK189.out 2; have hfz22_3 := blk_frozen BK189.out 3) | ((with_reducible refine gate_callee (f := 21) rfl ?_); refine goesL_ (some 22) rfl rfl Try.func21 (by kernel_rfl) rfl #[.int .u32 0, .int .u32 0] rfl (by (try simp only [List.map_toArray, List.map_cons, List.map_nil]); first | done | rfl | (simp only [List.length_drop, List.length_take]; rfl)) ?_; (with_reducible refine (frame_Window.calls k 0 0 t190 t191 t192 t193 _ A4.out).mono ?_); rintro e w23 ⟨rfl, hb⟩; refine ⟨_, rfl, ?_⟩; have n0_ := Aside0.mk (blk_below (g := gb189) (o := .cells #[.int .u8 t183, .int .u8 t184, .int .u32 t185, .string t186] 24 (0, 0)) (by (with_reducible repeat (first | refine blk_drewN ?_ _ | refine blk_drew ?_ | refine blk_alloc ?_ _)); refine blk_put (cs := #[.int .u8 t183, .int .u8 t184, .int .u32 t185, .string (⟨#[]⟩ : ByteArray)]) ?_ 3 _ rfl; (with_reducible repeat (first | refine blk_drewN ?_ _ | refine blk_drew ?_ | refine blk_alloc ?_ _)); refine blk_put (cs := #[.int .u8 t183, .int .u8 t184, .int .u32 0, .string (⟨#[]⟩ : ByteArray)]) ?_ 2 _ rfl; (with_reducible repeat (first | refine blk_drewN ?_ _ | refine blk_drew ?_ | refine blk_alloc ?_ _)); refine blk_put (cs := #[.int .u8 t183, .int .u8 0, .int .u32 0, .string (⟨#[]⟩ : ByteArray)]) ?_ 1 _ rfl; (with_reducible repeat (first | refine blk_drewN ?_ _ | refine blk_drew ?_ | refine blk_alloc ?_ _)); refine blk_put (cs := #[.int .u8 0, .int .u8 0, .int .u32 0, .string (⟨#[]⟩ : ByteArray)]) ?_ 0 _ rfl; (with_reducible repeat (first | refine blk_drewN ?_ _ | refine blk_drew ?_ | refine blk_alloc ?_ _)); exact BK189.out) hb); have n1_ := Aside0.mk (below_step (by repeat (first | (with_reducible first | exact HB.out | apply below_alloc | apply pw_below_drewN | apply below_drew1 | refine below_set ?_ GE189.out) | exact HB.out)) hb); clear BK189; clear HB; have BK189 := n0_; have HB := n1_; clear n0_ n1_; (try clear hb); (try clear hb2); (try clear hk); (try clear hi)) | ((with_reducible refine gate_callee (f := 13) rfl ?_); refine goesL_ (some 23) rfl rfl Try.func13 (by kernel_rfl) rfl #[.agg #[.int .u8 t190, .int .u8 t191, .int .u32 t192, .string t193]] rfl (by (try simp only [List.map_toArray, List.map_cons, List.map_nil]); first | done | rfl | (simp only [List.length_drop, List.length_take]; rfl)) ?_; (with_reducible refine (frame_Wrong.calls k t190 t191 t192 t193 t194 t195 _ A5.out).mono ?_); rintro e w24 ⟨rfl, hb⟩; refine ⟨_, rfl, ?_⟩; have n0_ := Aside0.mk (blk_below (g := gb189) (o := .cells #[.int .u8 t183, .int .u8 t184, .int .u32 t185, .string t186] 24 (0, 0)) (by (with_reducible repeat (first | refine blk_drewN ?_ _ | refine blk_drew ?_ | refine blk_alloc ?_ _)); exact BK189.out) hb); have n1_ := Aside0.mk (below_step (by repeat (first | (with_reducible first | exact HB.out | apply below_alloc | apply pw_below_drewN | apply below_drew1 | refine below_set ?_ GE189.out) | exact HB.out)) hb); clear BK189; clear HB; have BK189 := n0_; have HB := n1_; clear n0_ n1_; (try clear hb); (try clear hb2); (try clear hk); (try clear hi)) | ((with_reducible refine gate_callee (f := 18) rfl ?_); refine goesL_ (some 27) rfl rfl Try.func18 (by kernel_rfl) rfl #[.slice none 0 0] rfl (by (try simp only [List.map_toArray, List.map_cons, List.map_nil]); first | done | rfl | (simp only [List.length_drop, List.length_take]; rfl)) ?_; (refine (frame_Settings.calls k _ _ ([] : List (S50)) t196 t197 t198 t199 _ ?side1 ?side2 A6.out).mono ?_); (case side1 => exact Kd.C_nil _ _); (case side2 => exact Nat.le_refl _); rintro e w25 ⟨rfl, hb⟩; refine ⟨_, rfl, ?_⟩; have n0_ := Aside0.mk (blk_below (g := gb189) (o := .cells #[.int .u8 t183, .int .u8 t184, .int .u32 t185, .string t186] 24 (0, 0)) (by (with_reducible repeat (first | refine blk_drewN ?_ _ | refine blk_drew ?_ | refine blk_alloc ?_ _)); exact BK189.out) hb); have n1_ := Aside0.mk (below_step (by repeat (first | (with_reducible first | exact HB.out | apply below_alloc | apply pw_below_drewN | apply below_drew1 | refine below_set ?_ GE189.out) | exact HB.out)) hb); clear BK189; clear HB; have BK189 := n0_; have HB := n1_; clear n0_ n1_; (try clear hb); (try clear hb2); (try clear hk); (try clear hi)) | ((with_reducible refine gate_callee (f := 11) rfl ?_); refine goesL_ (some 28) rfl rfl Try.func11 (by kernel_rfl) rfl #[.agg #[.int .u8 t196, .int .u8 t197, .int .u32 t198, .string t199]] rfl (by (try simp only [List.map_toArray, List.map_cons, List.map_nil]); first | done | rfl | (simp only [List.length_drop, List.length_take]; rfl)) ?_; (with_reducible refine (frame_Print.calls k t196 t197 t198 t199 t200 t201 _ A7.out).mono ?_); rintro e w26 ⟨rfl, hb⟩; refine ⟨_, rfl, ?_⟩; have n0_ := Aside0.mk (blk_below (g := gb189) (o := .cells #[.int .u8 t183, .int .u8 t184, .int .u32 t185, .string t186] 24 (0, 0)) (by (with_reducible repeat (first | refine blk_drewN ?_ _ | refine blk_drew ?_ | refine blk_alloc ?_ _)); exact BK189.out) hb); have n1_ := Aside0.mk (below_step (by repeat (first | (with_reducible first | exact HB.out | apply below_alloc | apply pw_below_drewN | apply below_drew1 | refine below_set ?_ GE189.out) | exact HB.out)) hb); clear BK189; clear HB; have BK189 := n0_; have HB := n1_; clear n0_ n1_; (try clear hb); (try clear hb2); (try clear hk); (try clear hi); have hcz27_0 : w26.cell? ⟨gb189, 0, none⟩ = some (.int .u8 t183) := (blk_cell BK189.out 0).trans rfl; have hcz27_1 : w26.cell? ⟨gb189, 1, none⟩ = some (.int .u8 t184) := (blk_cell BK189.out 1).trans rfl; have hcz27_2 : w26.cell? ⟨gb189, 2, none⟩ = some (.int .u32 t185) := (blk_cell BK189.out 2).trans rfl; have hcz27_3 : w26.cell? ⟨gb189, 3, none⟩ = some (.string t186) := (blk_cell BK189.out 3).trans rfl; have hfz27_0 := blk_frozen BK189.out 0; have hfz27_1 := blk_frozen BK189.out 1; have hfz27_2 := blk_frozen BK189.out 2; have hfz27_3 := blk_frozen BK189.out 3) | (go_at_call 15; (with_reducible refine (frame_Content.calls k 0 8 1 (⟨#[1, 97, 98]⟩ : ByteArray) t202 _ A17.out).mono ?_); rintro e w28 ⟨rfl, hb⟩; have n0_ := Aside0.mk (blk_below (g := gb189) (o := .cells #[.int .u8 t183, .int .u8 t184, .int .u32 t185, .string t186] 24 (0, 0)) (by (with_reducible repeat (first | refine blk_drewN ?_ _ | refine blk_drew ?_ | refine blk_alloc ?_ _)); exact BK189.out) hb); have n1_ := Aside0.mk (below_step (by repeat (first | (with_reducible first | exact HB.out | apply below_alloc | apply pw_below_drewN | apply below_drew1 | refine below_set ?_ GE189.out) | exact HB.out)) hb); clear BK189; clear HB; have BK189 := n0_; have HB := n1_; clear n0_ n1_; (try clear hb); (try clear hb2); (try clear hk); (try clear hi)))
          go_ret
          exact ⟨by first | rfl | (simp [errW_none, errW_some] <;> rfl) | (simp [*, errW_none, errW_some] <;> rfl), by repeat (first | (with_reducible first | exact HB.out | apply below_alloc | apply pw_below_drewN | apply below_drew1 | refine below_set ?_ GE189.out) | exact HB.out)⟩
         ·
          rw [if_neg c16] at H
          have c16b0 : (t201 == 0) = false := beq_eq_false_iff_ne.mpr c16
          have c16b1 : (t201 != 0) = true := bne_iff_ne.mpr c16
          exact absurd ((Option.some.inj H).trans HT.out) (by decide)
        ·
         rw [if_neg c15] at H
         have c15b0 : (t200.toList == ([0, 0, 0, 4, 0, 0, 0, 0, 0] : List UInt8)) = false := beq_eq_false_iff_ne.mpr c15
         have c15b1 : (t200.toList != ([0, 0, 0, 4, 0, 0, 0, 0, 0] : List UInt8)) = true := bne_iff_ne.mpr c15
         exact absurd ((Option.some.inj H).trans HT.out) (by decide)
       ·
        rw [if_neg c14] at H
        have c14b0 : (t195 == 1) = false := beq_eq_false_iff_ne.mpr c14
        have c14b1 : (t195 != 1) = true := bne_iff_ne.mpr c14
        exact absurd ((Option.some.inj H).trans HT.out) (by decide)
      ·
       rw [if_neg c13] at H
       have c13b0 : (t194 == 2) = false := beq_eq_false_iff_ne.mpr c13
       have c13b1 : (t194 != 2) = true := bne_iff_ne.mpr c13
       exact absurd ((Option.some.inj H).trans HT.out) (by decide)
     ·
      rw [if_neg c12] at H
      have c12b0 : (t185 == 1) = false := beq_eq_false_iff_ne.mpr c12
      have c12b1 : (t185 != 1) = true := bne_iff_ne.mpr c12
      exact absurd ((Option.some.inj H).trans HT.out) (by decide)
    ·
     rw [if_neg c11] at H
     have c11b0 : (t188 == 0) = false := beq_eq_false_iff_ne.mpr c11
     have c11b1 : (t188 != 0) = true := bne_iff_ne.mpr c11
     exact absurd ((Option.some.inj H).trans HT.out) (by decide)
   ·
    rw [if_neg c10] at H
    have c10b0 : (t187 == 13) = false := beq_eq_false_iff_ne.mpr c10
    have c10b1 : (t187 != 13) = true := bne_iff_ne.mpr c10
    exact absurd ((Option.some.inj H).trans HT.out) (by decide)
  ·
   rw [if_neg c9] at H
   have c9b0 : (t182 == 0) = false := beq_eq_false_iff_ne.mpr c9
   have c9b1 : (t182 != 0) = true := bne_iff_ne.mpr c9
   exact absurd ((Option.some.inj H).trans HT.out) (by decide)
 ·
  rw [if_neg c8] at H
  have c8b0 : (t181.toList == ([0, 0, 4, 3, 0, 0, 0, 0, 1, 0, 0, 0, 8] : List UInt8)) = false := beq_eq_false_iff_ne.mpr c8
  have c8b1 : (t181.toList != ([0, 0, 4, 3, 0, 0, 0, 0, 1, 0, 0, 0, 8] : List UInt8)) = true := bne_iff_ne.mpr c8
  exact absurd ((Option.some.inj H).trans HT.out) (by decide)

/-! ### nuncioref01_Part: function 37 -/
def nuncioref01_Part.f (a0 : ByteArray) (a1 : Int) (a2 : Int) : Option (ByteArray × Bool) := if a1 < 0 then (some ((⟨#[]⟩ : ByteArray), false)) else (if a2 < 0 then (some ((⟨#[]⟩ : ByteArray), false)) else (if a1 > (a0.size : Int) then (some ((⟨#[]⟩ : ByteArray), false)) else (if a2 > (wrap64 ((a0.size : Int) - a1)) then (some ((⟨#[]⟩ : ByteArray), false)) else (if 0 ≤ a1 then (if a1 ≤ (wrap64 (a1 + a2)) then (if (wrap64 (a1 + a2)) ≤ (a0.size : Int) then (some (a0.extract (a1 : Int).toNat ((wrap64 (a1 + a2)) : Int).toNat, true)) else (none)) else (none)) else (none)))))
set_option maxHeartbeats 8000000 in
set_option maxRecDepth 100000 in
theorem nuncioref01_Part.calls (a0 : ByteArray) (a1 : Int) (a2 : Int) (r1 : ByteArray) (r2 : Bool) (w : World) (h : nuncioref01_Part.f a0 a1 a2 = some (r1, r2)) :
  Calls Try.prog 37 #[.string a0, .int .i64 a1, .int .i64 a2] w fun e w' => e = .returned (.tuple #[.string r1, .bool r2]) ∧ Drawn0 w w' := by
 have H : (if a1 < 0 then (some ((⟨#[]⟩ : ByteArray), false)) else (if a2 < 0 then (some ((⟨#[]⟩ : ByteArray), false)) else (if a1 > (a0.size : Int) then (some ((⟨#[]⟩ : ByteArray), false)) else (if a2 > (wrap64 ((a0.size : Int) - a1)) then (some ((⟨#[]⟩ : ByteArray), false)) else (if 0 ≤ a1 then (if a1 ≤ (wrap64 (a1 + a2)) then (if (wrap64 (a1 + a2)) ≤ (a0.size : Int) then (some (a0.extract (a1 : Int).toNat ((wrap64 (a1 + a2)) : Int).toNat, true)) else (none)) else (none)) else (none)))))) = some (r1, r2) := h
 clear h
 by_cases c4 : a1 < 0
 ·
  rw [if_pos c4] at H
  have c4b0 : decide (a1 < 0) = true := decide_eq_true c4
  clear c4
  simp only [Option.some.injEq, Prod.mk.injEq] at H
  obtain ⟨rfl, rfl⟩ := H
  go_enter Try.func37, Try.ntmps37
  go_wp2
  go_ret2
  exact ⟨by first | rfl | (simp; done) | (simp [*]; done), by repeat (first | exact Drawn0.refl _ | apply Drawn0.step)⟩
 ·
  rw [if_neg c4] at H
  have c4b0 : decide (a1 < 0) = false := decide_eq_false c4
  clear c4
  by_cases c5 : a2 < 0
  ·
   rw [if_pos c5] at H
   have c5b0 : decide (a2 < 0) = true := decide_eq_true c5
   clear c5
   simp only [Option.some.injEq, Prod.mk.injEq] at H
   obtain ⟨rfl, rfl⟩ := H
   go_enter Try.func37, Try.ntmps37
   go_wp2
   go_ret2
   exact ⟨by first | rfl | (simp; done) | (simp [*]; done), by repeat (first | exact Drawn0.refl _ | apply Drawn0.step)⟩
  ·
   rw [if_neg c5] at H
   have c5b0 : decide (a2 < 0) = false := decide_eq_false c5
   clear c5
   by_cases c6 : a1 > (a0.size : Int)
   ·
    rw [if_pos c6] at H
    have c6b0 : decide ((a0.size : Int) < a1) = true := decide_eq_true c6
    clear c6
    simp only [Option.some.injEq, Prod.mk.injEq] at H
    obtain ⟨rfl, rfl⟩ := H
    go_enter Try.func37, Try.ntmps37
    go_wp2
    go_ret2
    exact ⟨by first | rfl | (simp; done) | (simp [*]; done), by repeat (first | exact Drawn0.refl _ | apply Drawn0.step)⟩
   ·
    rw [if_neg c6] at H
    have c6b0 : decide ((a0.size : Int) < a1) = false := decide_eq_false c6
    clear c6
    by_cases c7 : a2 > (wrap64 ((a0.size : Int) - a1))
    ·
     rw [if_pos c7] at H
     have c7b0 : decide ((wrap64 ((a0.size : Int) - a1)) < a2) = true := decide_eq_true c7
     clear c7
     simp only [Option.some.injEq, Prod.mk.injEq] at H
     obtain ⟨rfl, rfl⟩ := H
     go_enter Try.func37, Try.ntmps37
     go_wp2
     go_ret2
     exact ⟨by first | rfl | (simp; done) | (simp [*]; done), by repeat (first | exact Drawn0.refl _ | apply Drawn0.step)⟩
    ·
     rw [if_neg c7] at H
     have c7b0 : decide ((wrap64 ((a0.size : Int) - a1)) < a2) = false := decide_eq_false c7
     clear c7
     by_cases c8 : 0 ≤ a1
     ·
      rw [if_pos c8] at H
      have c8b0 := eq_true c8
      have c8b1 : decide (0 ≤ a1) = true := decide_eq_true c8
      clear c8
      by_cases c9 : a1 ≤ (wrap64 (a1 + a2))
      ·
       rw [if_pos c9] at H
       have c9b0 := eq_true c9
       have c9b1 : decide (a1 ≤ (wrap64 (a1 + a2))) = true := decide_eq_true c9
       by_cases c10 : (wrap64 (a1 + a2)) ≤ (a0.size : Int)
       ·
        rw [if_pos c10] at H
        have c10b0 := eq_true c10
        have c10b1 : decide ((wrap64 (a1 + a2)) ≤ (a0.size : Int)) = true := decide_eq_true c10
        simp only [Option.some.injEq, Prod.mk.injEq] at H
        obtain ⟨rfl, rfl⟩ := H
        go_enter Try.func37, Try.ntmps37
        go_wp2
        go_ret2
        exact ⟨by first | rfl | (simp; done) | (simp [*]; done), by repeat (first | exact Drawn0.refl _ | apply Drawn0.step)⟩
       ·
        rw [if_neg c10] at H
        exact absurd H (by simp)
      ·
       rw [if_neg c9] at H
       exact absurd H (by simp)
     ·
      rw [if_neg c8] at H
      exact absurd H (by simp)

end Go.Proofs.Ytimhhacnpjcjnaa.Mine
