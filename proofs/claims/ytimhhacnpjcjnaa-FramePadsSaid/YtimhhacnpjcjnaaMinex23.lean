-- Written by this repo's own printer (wip/print), which builds on the kit's.
import Derived.Test.YtimhhacnpjcjnaaMinex0
import Derived.Test.YtimhhacnpjcjnaaMinex10
import Derived.Test.YtimhhacnpjcjnaaMinex11
import Derived.Test.YtimhhacnpjcjnaaMinex13
import Derived.Test.YtimhhacnpjcjnaaMinex21
import Derived.Test.YtimhhacnpjcjnaaMinex22
namespace Go.Proofs.Ytimhhacnpjcjnaa.Mine
open Go.RowKit Go.Proofs.YtimhhacnpjcjnaaW.PrintWords Go.Proofs.YtimhhacnpjcjnaaW.PrintLast Go.Proofs.YtimhhacnpjcjnaaW.PrintMore
attribute [local go_sem] max2_int min2_int max_two min_two max_three min_three max_four min_four   -- for this text's walks alone
set_option linter.unusedVariables false
set_option linter.unusedSimpArgs false

/-! ### nunciolaw14_FrameWrong: function 4 -/
def nunciolaw14_FrameWrong.f (k : Nat) (a0_0 : Int) (a0_1 : Int) (a0_2 : Int) (a0_3 : ByteArray) : Option (Bool) := (nunciolaw14_awake.f k).bind fun t267 => (if t267 = true then (if (a0_3.size : Int) > 40000 then (some true) else ((frame_Wrong.f k a0_0 a0_1 a0_2 a0_3).bind fun bt268 => ((nuncioref14_Wrong.f k a0_0 a0_1 a0_2 a0_3).bind fun bt270 => (if bt268.1 = bt270.1 then (if (wrap64 (bt268.2)) = bt270.2 then ((frame_Content.f k a0_0 a0_1 a0_2 a0_3).bind fun t272 => ((nuncioref14_Content.f k a0_0 a0_1 a0_2 a0_3).bind fun t273 => (some (t272.toList == t273.toList)))) else (some false)) else (some false))))) else (some false))
theorem nunciolaw14_FrameWrong.mono : ∀ a0 a1 a2 a3 k, LeO (nunciolaw14_FrameWrong.f k a0 a1 a2 a3) (nunciolaw14_FrameWrong.f (k + 1) a0 a1 a2 a3) := by
 intro a0 a1 a2 a3 k
 unfold nunciolaw14_FrameWrong.f
 repeat' first
   | (with_reducible exact frame_Content.mono _ _ _ _ _)
   | (with_reducible exact frame_Wrong.mono _ _ _ _ _)
   | (with_reducible exact nunciolaw14_awake.mono _)
   | (with_reducible exact nuncioref14_Content.mono _ _ _ _ _)
   | (with_reducible exact nuncioref14_Wrong.mono _ _ _ _ _)
   | (with_reducible exact LeO.refl _)
   | (with_reducible exact LeO.none _)
   | (with_reducible refine LeO.ite ?_ ?_)
   | (with_reducible refine LeO.bind ?_ (fun _ => ?_))
   | exact frame_Content.mono _ _ _ _ _
   | exact frame_Wrong.mono _ _ _ _ _
   | exact nunciolaw14_awake.mono _
   | exact nuncioref14_Content.mono _ _ _ _ _
   | exact nuncioref14_Wrong.mono _ _ _ _ _
   | exact LeO.none _
   | refine LeO.ite ?_ ?_
   | refine LeO.bind ?_ (fun _ => ?_)
def nunciolaw14_FrameWrong.T7 : Bool × List (List Nat × List Nat) := (true, [([], []), ([], []), ([0, 1], [0, 1]), ([2], [2]), ([3], [3]), ([4, 3], [3, 4]), ([3], [3]), ([5, 6, 3], [3, 5, 6]), ([3, 7], [3, 7]), ([8, 3], [8]), ([9], [9]), ([10, 9, 9], [9, 10]), ([9], [9]), ([12, 11, 9], [9, 12]), ([11, 13, 9], [9, 11, 13]), ([9, 14], [9, 14]), ([15, 13, 0, 1, 2, 3, 4, 5, 6, 7, 8, 9, 10, 11, 12, 13, 14, 15], [15])])
def nunciolaw14_FrameWrong.B7 : List Nat := [0, 0, 3, 7, 15, 31, 15, 127, 255, 511, 1023, 2047, 1023, 8191, 16383, 32767, 65535]
theorem nunciolaw14_FrameWrong.tab7 : rtab .any (opsOf Try.f4 7) = nunciolaw14_FrameWrong.T7 := by kernel_rfl
theorem nunciolaw14_FrameWrong.bits7 : waitsOk nunciolaw14_FrameWrong.T7.2 nunciolaw14_FrameWrong.B7 = true := by kernel_rfl
set_option maxHeartbeats 8000000 in
set_option maxRecDepth 100000 in
theorem nunciolaw14_FrameWrong.calls (k : Nat) (a0_0 : Int) (a0_1 : Int) (a0_2 : Int) (a0_3 : ByteArray) (r : Bool) (w : World) (h : nunciolaw14_FrameWrong.f k a0_0 a0_1 a0_2 a0_3 = some r) (hT : r = true) :
  Calls Try.prog 4 #[.agg #[.int .u8 a0_0, .int .u8 a0_1, .int .u32 a0_2, .string a0_3]] w fun e w' => e = .returned (.bool r) ∧ Below w.heap.size w w' := by
 have hu24 := Try.underlying24
 have HB := Aside0.mk (Below.refl w.heap.size w)
 have HT := Aside0.mk hT
 clear hT
 have H : ((nunciolaw14_awake.f k).bind fun t267 => (if t267 = true then (if (a0_3.size : Int) > 40000 then (some true) else ((frame_Wrong.f k a0_0 a0_1 a0_2 a0_3).bind fun bt268 => ((nuncioref14_Wrong.f k a0_0 a0_1 a0_2 a0_3).bind fun bt270 => (if bt268.1 = bt270.1 then (if (wrap64 (bt268.2)) = bt270.2 then ((frame_Content.f k a0_0 a0_1 a0_2 a0_3).bind fun t272 => ((nuncioref14_Content.f k a0_0 a0_1 a0_2 a0_3).bind fun t273 => (some (t272.toList == t273.toList)))) else (some false)) else (some false))))) else (some false))) = some r := h
 clear h
 replace H := Option.bind_eq_some_iff.mp H
 obtain ⟨t267, A20, H⟩ := H
 replace H : (if t267 = true then (if (a0_3.size : Int) > 40000 then (some true) else ((frame_Wrong.f k a0_0 a0_1 a0_2 a0_3).bind fun bt268 => ((nuncioref14_Wrong.f k a0_0 a0_1 a0_2 a0_3).bind fun bt270 => (if bt268.1 = bt270.1 then (if (wrap64 (bt268.2)) = bt270.2 then ((frame_Content.f k a0_0 a0_1 a0_2 a0_3).bind fun t272 => ((nuncioref14_Content.f k a0_0 a0_1 a0_2 a0_3).bind fun t273 => (some (t272.toList == t273.toList)))) else (some false)) else (some false))))) else (some false)) = some r := H
 have A2 := Aside0.mk A20
 clear A20
 by_cases c3 : t267 = true
 ·
  subst c3
  have H1 : (if (a0_3.size : Int) > 40000 then (some true) else ((frame_Wrong.f k a0_0 a0_1 a0_2 a0_3).bind fun bt268 => ((nuncioref14_Wrong.f k a0_0 a0_1 a0_2 a0_3).bind fun bt270 => (if bt268.1 = bt270.1 then (if (wrap64 (bt268.2)) = bt270.2 then ((frame_Content.f k a0_0 a0_1 a0_2 a0_3).bind fun t272 => ((nuncioref14_Content.f k a0_0 a0_1 a0_2 a0_3).bind fun t273 => (some (t272.toList == t273.toList)))) else (some false)) else (some false))))) = some r := by rw [if_pos rfl] at H; exact H
  clear H
  have H := H1
  clear H1
  by_cases c4 : (a0_3.size : Int) > 40000
  ·
   rw [if_pos c4] at H
   have c4b0 : decide (40000 < (a0_3.size : Int)) = true := decide_eq_true c4
   have c4b1 : decide (40000 < a0_3.size) = true := decide_eq_true (by omega)
   clear c4
   obtain rfl := Option.some.inj H
   go_enter Try.func4, Try.ntmps4
   go_wp2_with (first | ((with_reducible refine gate_dst (N := 1) rfl ?_); refine box_event ?hg (N := 1) ?hd (cs := #[.int .u8 a0_0, .int .u8 a0_1, .int .u32 a0_2, .string a0_3]) (t := 24) ?hr ?_; (case hd => rfl); (case hg => rfl); (case hr => first | (go_simp; done) | (go_simp; rfl)); intro gb266 hg w5 hbox hb; have n0_ := Aside0.mk (below_step (by repeat (first | (with_reducible first | exact HB.out | apply below_alloc | apply pw_below_drewN | apply below_drew1) | exact HB.out)) hb); have n1_ := Aside0.mk (hbox); have n2_ := Aside0.mk ((by rw [hg]; exact (below_size (by repeat (first | (with_reducible first | exact HB.out | apply below_alloc | apply pw_below_drewN | apply below_drew1) | exact HB.out))) : w.heap.size ≤ gb266)); have n3_ := Aside0.mk ((by rw [hg]; exact (below_size (by repeat (first | (with_reducible first | exact HB.out | apply below_alloc | apply pw_below_drewN | apply below_drew1) | exact HB.out))) : w.heap.size ≤ gb266)); clear HB; have HB := n0_; have BK266 := n1_; have GW266 := n2_; have GE266 := n3_; clear n0_ n1_ n2_ n3_; clear hb hbox hg) | ((with_reducible refine gate_callee (f := 8) rfl ?_); refine goesL_ (some 7) rfl rfl Try.func8 (by kernel_rfl) rfl #[] rfl (by (try simp only [List.map_toArray, List.map_cons, List.map_nil]); first | done | rfl | (simp only [List.length_drop, List.length_take]; rfl)) ?_; (with_reducible refine (nunciolaw14_awake.calls k  true _ A2.out).mono ?_); rintro e w6 ⟨rfl, hb⟩; refine ⟨_, rfl, ?_⟩; have n0_ := Aside0.mk (blk_below (g := gb266) (o := .cells #[.int .u8 a0_0, .int .u8 a0_1, .int .u32 a0_2, .string a0_3] 24 (0, 0)) (by (with_reducible repeat (first | refine blk_drewN ?_ _ | refine blk_drew ?_ | refine blk_alloc ?_ _)); exact BK266.out) hb); have n1_ := Aside0.mk (below_step (by repeat (first | (with_reducible first | exact HB.out | apply below_alloc | apply pw_below_drewN | apply below_drew1 | refine below_set ?_ GE266.out) | exact HB.out)) hb); clear BK266; clear HB; have BK266 := n0_; have HB := n1_; clear n0_ n1_; (try clear hb); (try clear hb2); (try clear hk); (try clear hi); have hcz7_0 : w6.cell? ⟨gb266, 0, none⟩ = some (.int .u8 a0_0) := (blk_cell BK266.out 0).trans rfl; have hcz7_1 : w6.cell? ⟨gb266, 1, none⟩ = some (.int .u8 a0_1) := (blk_cell BK266.out 1).trans rfl; have hcz7_2 : w6.cell? ⟨gb266, 2, none⟩ = some (.int .u32 a0_2) := (blk_cell BK266.out 2).trans rfl; have hcz7_3 : w6.cell? ⟨gb266, 3, none⟩ = some (.string a0_3) := (blk_cell BK266.out 3).trans rfl; have hfz7_0 := blk_frozen BK266.out 0; have hfz7_1 := blk_frozen BK266.out 1; have hfz7_2 := blk_frozen BK266.out 2; have hfz7_3 := blk_frozen BK266.out 3))
   go_ret
   exact ⟨by first | rfl | (simp [errW_none, errW_some] <;> rfl) | (simp [*, errW_none, errW_some] <;> rfl), by repeat (first | (with_reducible first | exact HB.out | apply below_alloc | apply pw_below_drewN | apply below_drew1 | refine below_set ?_ GE266.out) | exact HB.out)⟩
  ·
   rw [if_neg c4] at H
   have c4b0 : decide (40000 < (a0_3.size : Int)) = false := decide_eq_false c4
   have c4b1 : decide (40000 < a0_3.size) = false := decide_eq_false (by omega)
   clear c4
   replace H := Option.bind_eq_some_iff.mp H
   obtain ⟨⟨t268, t269⟩, A80, H⟩ := H
   replace H : ((nuncioref14_Wrong.f k a0_0 a0_1 a0_2 a0_3).bind fun bt270 => (if t268 = bt270.1 then (if (wrap64 (t269)) = bt270.2 then ((frame_Content.f k a0_0 a0_1 a0_2 a0_3).bind fun t272 => ((nuncioref14_Content.f k a0_0 a0_1 a0_2 a0_3).bind fun t273 => (some (t272.toList == t273.toList)))) else (some false)) else (some false))) = some r := H
   have A8 := Aside0.mk A80
   clear A80
   replace H := Option.bind_eq_some_iff.mp H
   obtain ⟨⟨t270, t271⟩, A90, H⟩ := H
   replace H : (if t268 = t270 then (if (wrap64 (t269)) = t271 then ((frame_Content.f k a0_0 a0_1 a0_2 a0_3).bind fun t272 => ((nuncioref14_Content.f k a0_0 a0_1 a0_2 a0_3).bind fun t273 => (some (t272.toList == t273.toList)))) else (some false)) else (some false)) = some r := H
   have A9 := Aside0.mk A90
   clear A90
   by_cases c10 : t268 = t270
   ·
    rw [if_pos c10] at H
    have c10b0 : (t268 == t270) = true := beq_iff_eq.mpr c10
    have c10b1 : (t268 != t270) = false := bne_eq_false_iff_eq.mpr c10
    clear c10
    by_cases c11 : (wrap64 (t269)) = t271
    ·
     rw [if_pos c11] at H
     have c11b0 : ((wrap64 (t269)) == t271) = true := beq_iff_eq.mpr c11
     have c11b1 : ((wrap64 (t269)) != t271) = false := bne_eq_false_iff_eq.mpr c11
     clear c11
     replace H := Option.bind_eq_some_iff.mp H
     obtain ⟨t272, A120, H⟩ := H
     replace H : ((nuncioref14_Content.f k a0_0 a0_1 a0_2 a0_3).bind fun t273 => (some (t272.toList == t273.toList))) = some r := H
     have A12 := Aside0.mk A120
     clear A120
     replace H := Option.bind_eq_some_iff.mp H
     obtain ⟨t273, A130, H⟩ := H
     replace H : (some (t272.toList == t273.toList)) = some r := H
     have A13 := Aside0.mk A130
     clear A130
     obtain rfl := Option.some.inj H
     go_enter Try.func4, Try.ntmps4
     try go_wp2_with (first | ((with_reducible refine gate_dst (N := 1) rfl ?_); refine box_event ?hg (N := 1) ?hd (cs := #[.int .u8 a0_0, .int .u8 a0_1, .int .u32 a0_2, .string a0_3]) (t := 24) ?hr ?_; (case hd => rfl); (case hg => rfl); (case hr => first | (go_simp; done) | (go_simp; rfl)); intro gb266 hg w14 hbox hb; have n0_ := Aside0.mk (below_step (by repeat (first | (with_reducible first | exact HB.out | apply below_alloc | apply pw_below_drewN | apply below_drew1) | exact HB.out)) hb); have n1_ := Aside0.mk (hbox); have n2_ := Aside0.mk ((by rw [hg]; exact (below_size (by repeat (first | (with_reducible first | exact HB.out | apply below_alloc | apply pw_below_drewN | apply below_drew1) | exact HB.out))) : w.heap.size ≤ gb266)); have n3_ := Aside0.mk ((by rw [hg]; exact (below_size (by repeat (first | (with_reducible first | exact HB.out | apply below_alloc | apply pw_below_drewN | apply below_drew1) | exact HB.out))) : w.heap.size ≤ gb266)); clear HB; have HB := n0_; have BK266 := n1_; have GW266 := n2_; have GE266 := n3_; clear n0_ n1_ n2_ n3_; clear hb hbox hg) | ((with_reducible refine gate_callee (f := 8) rfl ?_); refine goesL_ (some 7) rfl rfl Try.func8 (by kernel_rfl) rfl #[] rfl (by (try simp only [List.map_toArray, List.map_cons, List.map_nil]); first | done | rfl | (simp only [List.length_drop, List.length_take]; rfl)) ?_; (with_reducible refine (nunciolaw14_awake.calls k  true _ A2.out).mono ?_); rintro e w15 ⟨rfl, hb⟩; refine ⟨_, rfl, ?_⟩; have n0_ := Aside0.mk (blk_below (g := gb266) (o := .cells #[.int .u8 a0_0, .int .u8 a0_1, .int .u32 a0_2, .string a0_3] 24 (0, 0)) (by (with_reducible repeat (first | refine blk_drewN ?_ _ | refine blk_drew ?_ | refine blk_alloc ?_ _)); exact BK266.out) hb); have n1_ := Aside0.mk (below_step (by repeat (first | (with_reducible first | exact HB.out | apply below_alloc | apply pw_below_drewN | apply below_drew1 | refine below_set ?_ GE266.out) | exact HB.out)) hb); clear BK266; clear HB; have BK266 := n0_; have HB := n1_; clear n0_ n1_; (try clear hb); (try clear hb2); (try clear hk); (try clear hi); have hcz16_0 : w15.cell? ⟨gb266, 0, none⟩ = some (.int .u8 a0_0) := (blk_cell BK266.out 0).trans rfl; have hcz16_1 : w15.cell? ⟨gb266, 1, none⟩ = some (.int .u8 a0_1) := (blk_cell BK266.out 1).trans rfl; have hcz16_2 : w15.cell? ⟨gb266, 2, none⟩ = some (.int .u32 a0_2) := (blk_cell BK266.out 2).trans rfl; have hcz16_3 : w15.cell? ⟨gb266, 3, none⟩ = some (.string a0_3) := (blk_cell BK266.out 3).trans rfl; have hfz16_0 := blk_frozen BK266.out 0; have hfz16_1 := blk_frozen BK266.out 1; have hfz16_2 := blk_frozen BK266.out 2; have hfz16_3 := blk_frozen BK266.out 3) | ((with_reducible refine gate_callee (f := 13) rfl ?_); refine goesL_ (some 15) rfl rfl Try.func13 (by kernel_rfl) rfl #[.agg #[.int .u8 a0_0, .int .u8 a0_1, .int .u32 a0_2, .string a0_3]] rfl (by (try simp only [List.map_toArray, List.map_cons, List.map_nil]); first | done | rfl | (simp only [List.length_drop, List.length_take]; rfl)) ?_; (with_reducible refine (frame_Wrong.calls k a0_0 a0_1 a0_2 a0_3 t268 t269 _ A8.out).mono ?_); rintro e w17 ⟨rfl, hb⟩; refine ⟨_, rfl, ?_⟩; have n0_ := Aside0.mk (blk_below (g := gb266) (o := .cells #[.int .u8 a0_0, .int .u8 a0_1, .int .u32 a0_2, .string a0_3] 24 (0, 0)) (by (with_reducible repeat (first | refine blk_drewN ?_ _ | refine blk_drew ?_ | refine blk_alloc ?_ _)); exact BK266.out) hb); have n1_ := Aside0.mk (below_step (by repeat (first | (with_reducible first | exact HB.out | apply below_alloc | apply pw_below_drewN | apply below_drew1 | refine below_set ?_ GE266.out) | exact HB.out)) hb); clear BK266; clear HB; have BK266 := n0_; have HB := n1_; clear n0_ n1_; (try clear hb); (try clear hb2); (try clear hk); (try clear hi); have hcz18_0 : w17.cell? ⟨gb266, 0, none⟩ = some (.int .u8 a0_0) := (blk_cell BK266.out 0).trans rfl; have hcz18_1 : w17.cell? ⟨gb266, 1, none⟩ = some (.int .u8 a0_1) := (blk_cell BK266.out 1).trans rfl; have hcz18_2 : w17.cell? ⟨gb266, 2, none⟩ = some (.int .u32 a0_2) := (blk_cell BK266.out 2).trans rfl; have hcz18_3 : w17.cell? ⟨gb266, 3, none⟩ = some (.string a0_3) := (blk_cell BK266.out 3).trans rfl; have hfz18_0 := blk_frozen BK266.out 0; have hfz18_1 := blk_frozen BK266.out 1; have hfz18_2 := blk_frozen BK266.out 2; have hfz18_3 := blk_frozen BK266.out 3) | ((with_reducible refine gate_callee (f := 14) rfl ?_); refine goesL_ (some 20) rfl rfl Try.func14 (by kernel_rfl) rfl #[.agg #[.int .u8 a0_0, .int .u8 a0_1, .int .u32 a0_2, .string a0_3]] rfl (by (try simp only [List.map_toArray, List.map_cons, List.map_nil]); first | done | rfl | (simp only [List.length_drop, List.length_take]; rfl)) ?_; (with_reducible refine (nuncioref14_Wrong.calls k a0_0 a0_1 a0_2 a0_3 t270 t271 _ A9.out).mono ?_); rintro e w19 ⟨rfl, hb⟩; refine ⟨_, rfl, ?_⟩; have n0_ := Aside0.mk (blk_below (g := gb266) (o := .cells #[.int .u8 a0_0, .int .u8 a0_1, .int .u32 a0_2, .string a0_3] 24 (0, 0)) (by (with_reducible repeat (first | refine blk_drewN ?_ _ | refine blk_drew ?_ | refine blk_alloc ?_ _)); exact BK266.out) hb); have n1_ := Aside0.mk (below_step (by repeat (first | (with_reducible first | exact HB.out | apply below_alloc | apply pw_below_drewN | apply below_drew1 | refine below_set ?_ GE266.out) | exact HB.out)) hb); clear BK266; clear HB; have BK266 := n0_; have HB := n1_; clear n0_ n1_; (try clear hb); (try clear hb2); (try clear hk); (try clear hi)))
     have n0_ := Aside0.mk (blk_drew BK266.out)
     have n1_ := Aside0.mk (below_drew1 HB.out)
     clear BK266
     clear HB
     have BK266 := n0_
     have HB := n1_
     clear n0_ n1_
     refine start_ (n := 17) (S := fun w' => w'.cell? ⟨gb266, 0, none⟩ = some (.int .u8 a0_0) ∧ w'.cell? ⟨gb266, 1, none⟩ = some (.int .u8 a0_1) ∧ w'.cell? ⟨gb266, 2, none⟩ = some (.int .u32 a0_2) ∧ w'.cell? ⟨gb266, 3, none⟩ = some (.string a0_3)) (ds := []) #[false, false, false, false, false, false, false, false, false, false, false, false, false, false, false, false, false] (by kernel_rfl) rfl rfl ⟨(blk_cell BK266.out 0).trans rfl, (blk_cell BK266.out 1).trans rfl, (blk_cell BK266.out 2).trans rfl, (blk_cell BK266.out 3).trans rfl⟩ (fun hHeld => ?_); refine with_tabW nunciolaw14_FrameWrong.tab7 nunciolaw14_FrameWrong.bits7 (fun HT_ HW_ => ?_)
     generalize w19.drew = w20 at BK266 HB hHeld ⊢
     refine pure_ (i := 0) (N := some 23) (v := ?_) (a' := ?_) #[true, false, false, false, false, false, false, false, false, false, false, false, false, false, false, false, false] rfl rfl (any_of HT_.out (by kernel_rfl)) (fun _ _ _ h => h) (Or.inl ⟨by rfl, ?_⟩) ?_ ?_
     rotate_left
     ·
      intro w'
      go_simp
      with_reducible rfl
     rotate_left
     ·
      simp only [Act.put, List.setIfInBounds_toArray, List.set_cons_zero, List.set_cons_succ, i64_w, i32_w]
      rfl
     refine pure_ (i := 1) (N := some 24) (v := ?_) (a' := ?_) #[true, true, false, false, false, false, false, false, false, false, false, false, false, false, false, false, false] rfl rfl (any_of HT_.out (by kernel_rfl)) (fun _ _ _ h => h) (Or.inl ⟨by rfl, ?_⟩) ?_ ?_
     rotate_left
     ·
      intro w'
      go_simp
      with_reducible rfl
     rotate_left
     ·
      simp only [Act.put, List.setIfInBounds_toArray, List.set_cons_zero, List.set_cons_succ, i64_w, i32_w]
      rfl
     refine pure_ (i := 2) (N := some 25) (v := ?_) (a' := ?_) #[true, true, true, false, false, false, false, false, false, false, false, false, false, false, false, false, false] rfl rfl (any_of HT_.out (by kernel_rfl)) (fun _ _ _ h => h) (Or.inl ⟨by rfl, ?_⟩) ?_ ?_
     rotate_left
     ·
      intro w'
      go_simp
      with_reducible rfl
     rotate_left
     ·
      simp only [Act.put, List.setIfInBounds_toArray, List.set_cons_zero, List.set_cons_succ, i64_w, i32_w]
      rfl
     refine pure_ (i := 3) (N := some 26) (v := ?_) (a' := ?_) #[true, true, true, true, false, false, false, false, false, false, false, false, false, false, false, false, false] rfl rfl (any_of HT_.out (by kernel_rfl)) (fun _ _ _ h => h) (Or.inl ⟨by rfl, ?_⟩) ?_ ?_
     rotate_left
     ·
      intro w'
      go_simp
      with_reducible rfl
     rotate_left
     ·
      simp only [Act.put, List.setIfInBounds_toArray, List.set_cons_zero, List.set_cons_succ, i64_w, i32_w]
      rfl
     refine pure_ (i := 4) (N := some 27) (v := ?_) (a' := ?_) #[true, true, true, true, true, false, false, false, false, false, false, false, false, false, false, false, false] rfl rfl (any_of HT_.out (by kernel_rfl)) (fun _ _ _ h => h) (Or.inl ⟨by rfl, ?_⟩) ?_ ?_
     rotate_left
     ·
      intro w'
      go_simp
      with_reducible rfl
     rotate_left
     ·
      simp only [Act.put, List.setIfInBounds_toArray, List.set_cons_zero, List.set_cons_succ, i64_w, i32_w]
      rfl
     refine pure_ (i := 5) (N := some 28) (v := ?_) (a' := ?_) #[true, true, true, true, true, true, false, false, false, false, false, false, false, false, false, false, false] rfl rfl (any_of HT_.out (by kernel_rfl)) (fun _ _ _ h => h) (Or.inl ⟨by rfl, ?_⟩) ?_ ?_
     rotate_left
     ·
      intro w'
      go_simp
      with_reducible rfl
     rotate_left
     ·
      simp only [Act.put, List.setIfInBounds_toArray, List.set_cons_zero, List.set_cons_succ, i64_w, i32_w]
      rfl
     refine pure_ (i := 6) (N := some 29) (v := ?_) (a' := ?_) #[true, true, true, true, true, true, true, false, false, false, false, false, false, false, false, false, false] rfl rfl (any_of HT_.out (by kernel_rfl)) (fun _ _ _ h => h) (Or.inl ⟨by rfl, ?_⟩) ?_ ?_
     rotate_left
     ·
      intro w'
      go_simp
      with_reducible rfl
     rotate_left
     ·
      simp only [Act.put, List.setIfInBounds_toArray, List.set_cons_zero, List.set_cons_succ, i64_w, i32_w]
      rfl
     refine pure_ (i := 7) (N := some 30) (v := ?_) (a' := ?_) #[true, true, true, true, true, true, true, true, false, false, false, false, false, false, false, false, false] rfl rfl (any_of HT_.out (by kernel_rfl)) (fun _ _ _ h => h) (Or.inl ⟨by rfl, ?_⟩) ?_ ?_
     rotate_left
     ·
      intro w'
      go_simp
      with_reducible rfl
     rotate_left
     ·
      simp only [Act.put, List.setIfInBounds_toArray, List.set_cons_zero, List.set_cons_succ, i64_w, i32_w]
      rfl
     refine pure_ (i := 8) (N := some 31) (v := ?_) (a' := ?_) #[true, true, true, true, true, true, true, true, true, false, false, false, false, false, false, false, false] rfl rfl (any_of HT_.out (by kernel_rfl)) (fun _ _ _ h => h) (Or.inl ⟨by rfl, ?_⟩) ?_ ?_
     rotate_left
     ·
      intro w'
      go_simp
      with_reducible rfl
     rotate_left
     ·
      simp only [Act.put, List.setIfInBounds_toArray, List.set_cons_zero, List.set_cons_succ, i64_w, i32_w]
      rfl
     refine pure_ (i := 9) (N := some 32) (v := ?_) (a' := ?_) #[true, true, true, true, true, true, true, true, true, true, false, false, false, false, false, false, false] rfl rfl (any_of HT_.out (by kernel_rfl)) (fun _ _ _ h => h) (Or.inl ⟨by rfl, ?_⟩) ?_ ?_
     rotate_left
     ·
      intro w'
      go_simp
      with_reducible rfl
     rotate_left
     ·
      simp only [Act.put, List.setIfInBounds_toArray, List.set_cons_zero, List.set_cons_succ, i64_w, i32_w]
      rfl
     refine take_ (i := 10) (N := some 33) (v := ?_) (a' := ?_) #[true, true, true, true, true, true, true, true, true, true, true, false, false, false, false, false, false] rfl rfl (take_ofW HT_.out HW_.out (by kernel_rfl)) (fun _ _ _ h => h) (Or.inl ⟨by rfl, ?_⟩) hHeld ?_ ?_
     rotate_left
     ·
      rintro w' ⟨s0, s1, s2, s3⟩
      go_simp
      with_reducible rfl
     rotate_left
     ·
      simp only [Act.put, List.setIfInBounds_toArray, List.set_cons_zero, List.set_cons_succ, i64_w, i32_w]
      rfl
     refine take_ (i := 12) (N := some 35) (v := ?_) (a' := ?_) #[true, true, true, true, true, true, true, true, true, true, true, false, true, false, false, false, false] rfl rfl (take_ofW HT_.out HW_.out (by kernel_rfl)) (fun _ _ _ h => h) (Or.inl ⟨by rfl, ?_⟩) hHeld ?_ ?_
     rotate_left
     ·
      rintro w' ⟨s0, s1, s2, s3⟩
      go_simp
      with_reducible rfl
     rotate_left
     ·
      simp only [Act.put, List.setIfInBounds_toArray, List.set_cons_zero, List.set_cons_succ, i64_w, i32_w]
      rfl
     refine one_ (i := 11) (N := some 34) #[true, true, true, true, true, true, true, true, true, true, true, true, true, false, false, false, false] rfl rfl (one_of HT_.out (by kernel_rfl)) (by decide) (fun K hK => ?_)
     refine goes_ Try.func15 (by kernel_rfl) rfl #[.agg #[.int .u8 a0_0, .int .u8 a0_1, .int .u32 a0_2, .string a0_3]] (by rfl) rfl rfl (by (try simp only [List.map_toArray, List.map_cons, List.map_nil]); first | done | rfl | (simp only [List.length_drop, List.length_take]; rfl)) ?_
     with_reducible refine (frame_Content.calls k a0_0 a0_1 a0_2 a0_3 t272 _ A12.out).mono ?_
     rintro e w21 ⟨rfl, hb⟩
     refine ⟨_, rfl, ?_⟩
     have n0_ := Aside0.mk (blk_below (g := gb266) (o := .cells #[.int .u8 a0_0, .int .u8 a0_1, .int .u32 a0_2, .string a0_3] 24 (0, 0)) (by (with_reducible repeat (first | refine blk_drewN ?_ _ | refine blk_drew ?_ | refine blk_alloc ?_ _)); exact BK266.out) hb)
     have n1_ := Aside0.mk (below_step (by repeat (first | (with_reducible first | exact HB.out | apply below_alloc | apply pw_below_drewN | apply below_drew1 | refine below_set ?_ GE266.out) | exact HB.out)) hb)
     clear BK266
     clear HB
     have BK266 := n0_
     have HB := n1_
     clear n0_ n1_
     (try clear hb)
     (try clear hb2)
     (try clear hk)
     (try clear hi)
     refine hK.out _ _ ⟨(blk_cell BK266.out 0).trans rfl, (blk_cell BK266.out 1).trans rfl, (blk_cell BK266.out 2).trans rfl, (blk_cell BK266.out 3).trans rfl⟩ (fun hHeld => ?_)
     clear hK K
     refine norm_ (a' := ?_) ?_ ?_
     rotate_left
     ·
      show Act.put _ (some 34) _ = _
      simp only [Act.put, List.setIfInBounds_toArray, List.set_cons_zero, List.set_cons_succ, i64_w, i32_w]
      rfl
     refine one_ (i := 13) (N := some 36) #[true, true, true, true, true, true, true, true, true, true, true, true, true, true, false, false, false] rfl rfl (one_of HT_.out (by kernel_rfl)) (by decide) (fun K hK => ?_)
     refine goes_ Try.func16 (by kernel_rfl) rfl #[.agg #[.int .u8 a0_0, .int .u8 a0_1, .int .u32 a0_2, .string a0_3]] (by rfl) rfl rfl (by (try simp only [List.map_toArray, List.map_cons, List.map_nil]); first | done | rfl | (simp only [List.length_drop, List.length_take]; rfl)) ?_
     with_reducible refine (nuncioref14_Content.calls k a0_0 a0_1 a0_2 a0_3 t273 _ A13.out).mono ?_
     rintro e w22 ⟨rfl, hb⟩
     refine ⟨_, rfl, ?_⟩
     have n0_ := Aside0.mk (blk_below (g := gb266) (o := .cells #[.int .u8 a0_0, .int .u8 a0_1, .int .u32 a0_2, .string a0_3] 24 (0, 0)) (by (with_reducible repeat (first | refine blk_drewN ?_ _ | refine blk_drew ?_ | refine blk_alloc ?_ _)); exact BK266.out) hb)
     have n1_ := Aside0.mk (below_step (by repeat (first | (with_reducible first | exact HB.out | apply below_alloc | apply pw_below_drewN | apply below_drew1 | refine below_set ?_ GE266.out) | exact HB.out)) hb)
     clear BK266
     clear HB
     have BK266 := n0_
     have HB := n1_
     clear n0_ n1_
     (try clear hb)
     (try clear hb2)
     (try clear hk)
     (try clear hi)
     refine hK.out _ _ ⟨(blk_cell BK266.out 0).trans rfl, (blk_cell BK266.out 1).trans rfl, (blk_cell BK266.out 2).trans rfl, (blk_cell BK266.out 3).trans rfl⟩ (fun hHeld => ?_)
     clear hK K
     refine norm_ (a' := ?_) ?_ ?_
     rotate_left
     ·
      show Act.put _ (some 36) _ = _
      simp only [Act.put, List.setIfInBounds_toArray, List.set_cons_zero, List.set_cons_succ, i64_w, i32_w]
      rfl
     refine pure_ (i := 14) (N := some 37) (v := ?_) (a' := ?_) #[true, true, true, true, true, true, true, true, true, true, true, true, true, true, true, false, false] rfl rfl (any_of HT_.out (by kernel_rfl)) (fun _ _ _ h => h) (Or.inl ⟨by rfl, ?_⟩) ?_ ?_
     rotate_left
     ·
      intro w'
      go_simp
      with_reducible rfl
     rotate_left
     ·
      simp only [Act.put, List.setIfInBounds_toArray, List.set_cons_zero, List.set_cons_succ, i64_w, i32_w]
      rfl
     refine pure_ (i := 15) (N := some 38) (v := ?_) (a' := ?_) #[true, true, true, true, true, true, true, true, true, true, true, true, true, true, true, true, false] rfl rfl (any_of HT_.out (by kernel_rfl)) (fun _ _ _ h => h) (Or.inl ⟨by rfl, ?_⟩) ?_ ?_
     rotate_left
     ·
      intro w'
      go_simp
      with_reducible rfl
     rotate_left
     ·
      simp only [Act.put, List.setIfInBounds_toArray, List.set_cons_zero, List.set_cons_succ, i64_w, i32_w]
      rfl
     refine pure_ (i := 16) (N := some 2) (v := ?_) (a' := ?_) #[true, true, true, true, true, true, true, true, true, true, true, true, true, true, true, true, true] rfl rfl (any_of HT_.out (by kernel_rfl)) (fun _ _ _ h => h) (Or.inl ⟨by rfl, ?_⟩) ?_ ?_
     rotate_left
     ·
      intro w'
      go_simp
      with_reducible rfl
     rotate_left
     ·
      simp only [Act.put, List.setIfInBounds_toArray, List.set_cons_zero, List.set_cons_succ, i64_w, i32_w]
      rfl
     refine done_ (done_of HT_.out (by kernel_rfl)) ?_
     try go_wp2
     go_ret
     exact ⟨by first | rfl | (simp [errW_none, errW_some] <;> rfl) | (simp [*, errW_none, errW_some] <;> rfl), by repeat (first | (with_reducible first | exact HB.out | apply below_alloc | apply pw_below_drewN | apply below_drew1 | refine below_set ?_ GE266.out) | exact HB.out)⟩
    ·
     rw [if_neg c11] at H
     have c11b0 : ((wrap64 (t269)) == t271) = false := beq_eq_false_iff_ne.mpr c11
     have c11b1 : ((wrap64 (t269)) != t271) = true := bne_iff_ne.mpr c11
     exact absurd ((Option.some.inj H).trans HT.out) (by decide)
   ·
    rw [if_neg c10] at H
    have c10b0 : (t268 == t270) = false := beq_eq_false_iff_ne.mpr c10
    have c10b1 : (t268 != t270) = true := bne_iff_ne.mpr c10
    exact absurd ((Option.some.inj H).trans HT.out) (by decide)
 ·
  replace c3 := Bool.eq_false_iff.mpr c3
  subst c3
  have H1 : (some false) = some r := by rw [if_neg (show ¬ (false = true) by decide)] at H; exact H
  clear H
  have H := H1
  clear H1
  exact absurd ((Option.some.inj H).trans HT.out) (by decide)

/-- THE ONE PURE STATEMENT of nunciolaw14_FrameWrong: yours. -/
def nunciolaw14_FrameWrong.Pure : Prop := ∀ (a0_0 : Int) (a0_1 : Int) (a0_2 : Int) (a0_3 : ByteArray), ((Lit.int .u8 a0_0).wf = true) → ((Lit.int .u8 a0_1).wf = true) → ((Lit.int .u32 a0_2).wf = true) → (a0_3.size ≤ 140737488351232) → ∃ k, nunciolaw14_FrameWrong.f k a0_0 a0_1 a0_2 a0_3 = some true
theorem nunciolaw14_FrameWrong.walk (P : nunciolaw14_FrameWrong.Pure) (a0_0 : Int) (a0_1 : Int) (a0_2 : Int) (a0_3 : ByteArray) (w : World) (w0_0 : (Lit.int .u8 a0_0).wf = true) (w0_1 : (Lit.int .u8 a0_1).wf = true) (w0_2 : (Lit.int .u32 a0_2).wf = true) (w0_3 : a0_3.size ≤ 140737488351232) :
  Calls Try.prog 4 #[.agg #[.int .u8 a0_0, .int .u8 a0_1, .int .u32 a0_2, .string a0_3]] w fun e w' => e = .returned (.bool true) ∧ Below w.heap.size w w' := by
 obtain ⟨k, h⟩ := P a0_0 a0_1 a0_2 a0_3 w0_0 w0_1 w0_2 w0_3
 refine (nunciolaw14_FrameWrong.calls k a0_0 a0_1 a0_2 a0_3 true w h rfl).mono ?_
 rintro e w' ⟨rfl, hd⟩
 exact ⟨rfl, hd⟩

end Go.Proofs.Ytimhhacnpjcjnaa.Mine
