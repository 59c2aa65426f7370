-- Written by this repo's own printer (wip/print), which builds on the kit's.
import Derived.Test.YtebnbjnkameicaaMinex0
import Derived.Test.YtebnbjnkameicaaMinex9
import Derived.Test.YtebnbjnkameicaaMinex10
import Derived.Test.YtebnbjnkameicaaMinex13
import Derived.Test.YtebnbjnkameicaaMinex14
namespace Go.Proofs.Ytebnbjnkameicaa.Mine
open Go.RowKit Go.Proofs.YtebnbjnkameicaaW.PrintWords Go.Proofs.YtebnbjnkameicaaW.PrintLast Go.Proofs.YtebnbjnkameicaaW.PrintMore
attribute [local go_sem] max2_int min2_int max_two min_two max_three min_three max_four min_four   -- for this text's walks alone
set_option linter.unusedVariables false
set_option linter.unusedSimpArgs false

/-! ### nunciolaw05_DataOne: function 5 -/
mutual
def nunciolaw05_DataOne.j0 : Nat → Bool → ByteArray → Int → Int → Int → List ByteArray → List Int → List ByteArray → ByteArray → Int → Int → Int → List ByteArray → List Int → List ByteArray → Option (Bool)
 | 0, _, _, _, _, _, _, _, _, _, _, _, _, _, _, _ => none
 | k + 1, x14, x354000, x354001, x354002, x354003, x354004, x354005, x354006, x355000, x355001, x355002, x355003, x355004, x355005, x355006 => if x14 = true then (some true) else ((rdata_Check.f k x354000 x354001 x354002 x354003 x354004 x354005 x354006).bind fun t358 => (if t358 = 0 then ((rdata_Check.f k x354000 x354001 x354002 x354003 x355004 x355005 x355006).bind fun t359 => (nunciolaw05_DataOne.j1 k (t359 != 0) x354000 x354001 x354002 x354003 x354004 x354005 x354006 x354000 x354001 x354002 x354003 x355004 x355005 x355006)) else (nunciolaw05_DataOne.j1 k true x354000 x354001 x354002 x354003 x354004 x354005 x354006 x354000 x354001 x354002 x354003 x355004 x355005 x355006)))
def nunciolaw05_DataOne.j1 : Nat → Bool → ByteArray → Int → Int → Int → List ByteArray → List Int → List ByteArray → ByteArray → Int → Int → Int → List ByteArray → List Int → List ByteArray → Option (Bool)
 | 0, _, _, _, _, _, _, _, _, _, _, _, _, _, _, _ => none
 | k + 1, x34, x354000, x354001, x354002, x354003, x354004, x354005, x354006, x355000, x355001, x355002, x355003, x355004, x355005, x355006 => if x34 = true then ((rdata_Check.f k x354000 x354001 x354002 x354003 x354004 x354005 x354006).bind fun t360 => (if t360 = 0 then (some true) else ((rdata_Plain.f k x354000 x354001 x354002 x354003 x354004 x354005 x354006).bind fun t361 => (some (t361.toList == ([] : List UInt8)))))) else ((rdata_Plain.f k x354000 x354001 x354002 x354003 x354004 x354005 x354006).bind fun t362 => ((rdata_Plain.f k x355000 x355001 x355002 x355003 x355004 x355005 x355006).bind fun t363 => ((rdata_Same.f k x354000 x354001 x354002 x354003 x354004 x354005 x354006 x355000 x355001 x355002 x355003 x355004 x355005 x355006).bind fun t364 => (some ((t362.toList == t363.toList) == t364)))))
end
def nunciolaw05_DataOne.f (k : Nat) (a0_0 : ByteArray) (a0_1 : Int) (a0_2 : Int) (a0_3 : Int) (l0_4 : List ByteArray) (l0_5 : List Int) (l0_6 : List ByteArray) (a1_0 : ByteArray) (a1_1 : Int) (a1_2 : Int) (a1_3 : Int) (l1_4 : List ByteArray) (l1_5 : List Int) (l1_6 : List ByteArray) : Option (Bool) := (nunciolaw05_awake.f k).bind fun t355 => (if t355 = true then ((nunciolaw05_Few.f k a0_0 a0_1 a0_2 a0_3 l0_4 l0_5 l0_6).bind fun t356 => (if t356 = true then ((nunciolaw05_Few.f k a1_0 a1_1 a1_2 a1_3 l1_4 l1_5 l1_6).bind fun t357 => (nunciolaw05_DataOne.j0 k (!t357) a0_0 a0_1 a0_2 a0_3 l0_4 l0_5 l0_6 a1_0 a1_1 a1_2 a1_3 l1_4 l1_5 l1_6)) else (nunciolaw05_DataOne.j0 k true a0_0 a0_1 a0_2 a0_3 l0_4 l0_5 l0_6 a1_0 a1_1 a1_2 a1_3 l1_4 l1_5 l1_6))) else (some false))
theorem nunciolaw05_DataOne.mono_l : ∀ k, (∀ y0 y1 y2 y3 y4 y5 y6 y7 y8 y9 y10 y11 y12 y13 y14, LeO (nunciolaw05_DataOne.j0 k y0 y1 y2 y3 y4 y5 y6 y7 y8 y9 y10 y11 y12 y13 y14) (nunciolaw05_DataOne.j0 (k + 1) y0 y1 y2 y3 y4 y5 y6 y7 y8 y9 y10 y11 y12 y13 y14)) ∧ (∀ y0 y1 y2 y3 y4 y5 y6 y7 y8 y9 y10 y11 y12 y13 y14, LeO (nunciolaw05_DataOne.j1 k y0 y1 y2 y3 y4 y5 y6 y7 y8 y9 y10 y11 y12 y13 y14) (nunciolaw05_DataOne.j1 (k + 1) y0 y1 y2 y3 y4 y5 y6 y7 y8 y9 y10 y11 y12 y13 y14))
 | 0 => ⟨fun _ _ _ _ _ _ _ _ _ _ _ _ _ _ _ r h => by simp [nunciolaw05_DataOne.j0] at h, fun _ _ _ _ _ _ _ _ _ _ _ _ _ _ _ r h => by simp [nunciolaw05_DataOne.j1] at h⟩
 | k + 1 => by
  obtain ⟨ih0, ih1⟩ := nunciolaw05_DataOne.mono_l k
  refine ⟨?_, ?_⟩
  ·
   intro y0 y1 y2 y3 y4 y5 y6 y7 y8 y9 y10 y11 y12 y13 y14
   unfold nunciolaw05_DataOne.j0
   repeat' first
   | (with_reducible exact ih0 _ _ _ _ _ _ _ _ _ _ _ _ _ _ _)
   | (with_reducible exact ih1 _ _ _ _ _ _ _ _ _ _ _ _ _ _ _)
   | (with_reducible exact nunciolaw05_Few.mono _ _ _ _ _ _ _ _)
   | (with_reducible exact nunciolaw05_awake.mono _)
   | (with_reducible exact rdata_Check.mono _ _ _ _ _ _ _ _)
   | (with_reducible exact rdata_Plain.mono _ _ _ _ _ _ _ _)
   | (with_reducible exact rdata_Same.mono _ _ _ _ _ _ _ _ _ _ _ _ _ _ _)
   | (with_reducible exact LeO.refl _)
   | (with_reducible exact LeO.none _)
   | (with_reducible refine LeO.ite ?_ ?_)
   | (with_reducible refine LeO.bind ?_ (fun _ => ?_))
   | exact ih0 _ _ _ _ _ _ _ _ _ _ _ _ _ _ _
   | exact ih1 _ _ _ _ _ _ _ _ _ _ _ _ _ _ _
   | exact nunciolaw05_Few.mono _ _ _ _ _ _ _ _
   | exact nunciolaw05_awake.mono _
   | exact rdata_Check.mono _ _ _ _ _ _ _ _
   | exact rdata_Plain.mono _ _ _ _ _ _ _ _
   | exact rdata_Same.mono _ _ _ _ _ _ _ _ _ _ _ _ _ _ _
   | exact LeO.none _
   | refine LeO.ite ?_ ?_
   | refine LeO.bind ?_ (fun _ => ?_)
  ·
   intro y0 y1 y2 y3 y4 y5 y6 y7 y8 y9 y10 y11 y12 y13 y14
   unfold nunciolaw05_DataOne.j1
   repeat' first
   | (with_reducible exact ih0 _ _ _ _ _ _ _ _ _ _ _ _ _ _ _)
   | (with_reducible exact ih1 _ _ _ _ _ _ _ _ _ _ _ _ _ _ _)
   | (with_reducible exact nunciolaw05_Few.mono _ _ _ _ _ _ _ _)
   | (with_reducible exact nunciolaw05_awake.mono _)
   | (with_reducible exact rdata_Check.mono _ _ _ _ _ _ _ _)
   | (with_reducible exact rdata_Plain.mono _ _ _ _ _ _ _ _)
   | (with_reducible exact rdata_Same.mono _ _ _ _ _ _ _ _ _ _ _ _ _ _ _)
   | (with_reducible exact LeO.refl _)
   | (with_reducible exact LeO.none _)
   | (with_reducible refine LeO.ite ?_ ?_)
   | (with_reducible refine LeO.bind ?_ (fun _ => ?_))
   | exact ih0 _ _ _ _ _ _ _ _ _ _ _ _ _ _ _
   | exact ih1 _ _ _ _ _ _ _ _ _ _ _ _ _ _ _
   | exact nunciolaw05_Few.mono _ _ _ _ _ _ _ _
   | exact nunciolaw05_awake.mono _
   | exact rdata_Check.mono _ _ _ _ _ _ _ _
   | exact rdata_Plain.mono _ _ _ _ _ _ _ _
   | exact rdata_Same.mono _ _ _ _ _ _ _ _ _ _ _ _ _ _ _
   | exact LeO.none _
   | refine LeO.ite ?_ ?_
   | refine LeO.bind ?_ (fun _ => ?_)
theorem nunciolaw05_DataOne.mono : ∀ a0 a1 a2 a3 a4 a5 a6 a7 a8 a9 a10 a11 a12 a13 k, LeO (nunciolaw05_DataOne.f k a0 a1 a2 a3 a4 a5 a6 a7 a8 a9 a10 a11 a12 a13) (nunciolaw05_DataOne.f (k + 1) a0 a1 a2 a3 a4 a5 a6 a7 a8 a9 a10 a11 a12 a13) := by
 intro a0 a1 a2 a3 a4 a5 a6 a7 a8 a9 a10 a11 a12 a13 k
 obtain ⟨ih0, ih1⟩ := nunciolaw05_DataOne.mono_l k
 unfold nunciolaw05_DataOne.f
 repeat' first
   | (with_reducible exact ih0 _ _ _ _ _ _ _ _ _ _ _ _ _ _ _)
   | (with_reducible exact ih1 _ _ _ _ _ _ _ _ _ _ _ _ _ _ _)
   | (with_reducible exact nunciolaw05_Few.mono _ _ _ _ _ _ _ _)
   | (with_reducible exact nunciolaw05_awake.mono _)
   | (with_reducible exact rdata_Check.mono _ _ _ _ _ _ _ _)
   | (with_reducible exact rdata_Plain.mono _ _ _ _ _ _ _ _)
   | (with_reducible exact rdata_Same.mono _ _ _ _ _ _ _ _ _ _ _ _ _ _ _)
   | (with_reducible exact LeO.refl _)
   | (with_reducible exact LeO.none _)
   | (with_reducible refine LeO.ite ?_ ?_)
   | (with_reducible refine LeO.bind ?_ (fun _ => ?_))
   | exact ih0 _ _ _ _ _ _ _ _ _ _ _ _ _ _ _
   | exact ih1 _ _ _ _ _ _ _ _ _ _ _ _ _ _ _
   | exact nunciolaw05_Few.mono _ _ _ _ _ _ _ _
   | exact nunciolaw05_awake.mono _
   | exact rdata_Check.mono _ _ _ _ _ _ _ _
   | exact rdata_Plain.mono _ _ _ _ _ _ _ _
   | exact rdata_Same.mono _ _ _ _ _ _ _ _ _ _ _ _ _ _ _
   | exact LeO.none _
   | refine LeO.ite ?_ ?_
   | refine LeO.bind ?_ (fun _ => ?_)
def nunciolaw05_DataOne.T5 : Bool × List (List Nat × List Nat) := (true, [([], []), ([0], [0]), ([], []), ([2], [2]), ([], []), ([4], [4]), ([], []), ([6], [6]), ([0, 1], []), ([8, 1, 0, 1], [1, 8]), ([0, 1, 2, 3, 8, 9], []), ([10, 3, 9, 0, 1, 2, 3, 8, 9], [3, 10]), ([0, 1, 2, 3, 4, 5, 8, 9, 10, 11], []), ([12, 5, 11, 0, 1, 2, 3, 4, 5, 8, 9, 10, 11], [5, 12]), ([0, 1, 2, 3, 4, 5, 6, 7, 8, 9, 10, 11, 12, 13], []), ([14, 7, 13, 0, 1, 2, 3, 4, 5, 6, 7, 8, 9, 10, 11, 12, 13], [7, 14])])
def nunciolaw05_DataOne.B5 : List Nat := [0, 1, 0, 4, 0, 16, 0, 64, 3, 259, 783, 1807, 3903, 7999, 16383, 32767]
theorem nunciolaw05_DataOne.tab5 : rtab .any (opsOf Try.f5 5) = nunciolaw05_DataOne.T5 := by kernel_rfl
theorem nunciolaw05_DataOne.bits5 : waitsOk nunciolaw05_DataOne.T5.2 nunciolaw05_DataOne.B5 = true := by kernel_rfl
def nunciolaw05_DataOne.T8 : Bool × List (List Nat × List Nat) := (true, [([], []), ([0], [0]), ([], []), ([2, 1], [2]), ([1, 3], [1, 3]), ([], []), ([], []), ([5, 6, 3], [5, 6]), ([4, 7], [4, 7]), ([8, 7, 0, 1, 2, 3, 4, 5, 6, 7, 8], [8])])
def nunciolaw05_DataOne.B8 : List Nat := [0, 1, 0, 7, 15, 0, 0, 111, 255, 511]
theorem nunciolaw05_DataOne.tab8 : rtab .any (opsOf Try.f5 8) = nunciolaw05_DataOne.T8 := by kernel_rfl
theorem nunciolaw05_DataOne.bits8 : waitsOk nunciolaw05_DataOne.T8.2 nunciolaw05_DataOne.B8 = true := by kernel_rfl
set_option maxHeartbeats 8000000 in
set_option maxRecDepth 100000 in
theorem nunciolaw05_DataOne.calls (k : Nat) (a0_0 : ByteArray) (a0_1 : Int) (a0_2 : Int) (a0_3 : Int) (A0_4 : Option Addr) (c0_4 : Nat) (l0_4 : List ByteArray) (A0_5 : Option Addr) (c0_5 : Nat) (l0_5 : List Int) (A0_6 : Option Addr) (c0_6 : Nat) (l0_6 : List ByteArray) (a1_0 : ByteArray) (a1_1 : Int) (a1_2 : Int) (a1_3 : Int) (A1_4 : Option Addr) (c1_4 : Nat) (l1_4 : List ByteArray) (A1_5 : Option Addr) (c1_5 : Nat) (l1_5 : List Int) (A1_6 : Option Addr) (c1_6 : Nat) (l1_6 : List ByteArray) (r : Bool) (w : World) (hr0_4 : Kd.C Kd.string w A0_4 l0_4.length l0_4) (hc0_4 : l0_4.length ≤ c0_4) (hr0_5 : Kd.C (Kd.int .u32) w A0_5 l0_5.length l0_5) (hc0_5 : l0_5.length ≤ c0_5) (hr0_6 : Kd.C Kd.string w A0_6 l0_6.length l0_6) (hc0_6 : l0_6.length ≤ c0_6) (hr1_4 : Kd.C Kd.string w A1_4 l1_4.length l1_4) (hc1_4 : l1_4.length ≤ c1_4) (hr1_5 : Kd.C (Kd.int .u32) w A1_5 l1_5.length l1_5) (hc1_5 : l1_5.length ≤ c1_5) (hr1_6 : Kd.C Kd.string w A1_6 l1_6.length l1_6) (hc1_6 : l1_6.length ≤ c1_6) (h : nunciolaw05_DataOne.f k a0_0 a0_1 a0_2 a0_3 l0_4 l0_5 l0_6 a1_0 a1_1 a1_2 a1_3 l1_4 l1_5 l1_6 = some r) (hT : r = true) :
  Calls Try.prog 5 #[.agg #[.string a0_0, .int .u16 a0_1, .int .u16 a0_2, .int .u32 a0_3, .slice A0_4 l0_4.length c0_4, .slice A0_5 l0_5.length c0_5, .slice A0_6 l0_6.length c0_6], .agg #[.string a1_0, .int .u16 a1_1, .int .u16 a1_2, .int .u32 a1_3, .slice A1_4 l1_4.length c1_4, .slice A1_5 l1_5.length c1_5, .slice A1_6 l1_6.length c1_6]] w fun e w' => e = .returned (.bool r) ∧ Below w.heap.size w w' := by
 have hu27 := Try.underlying27
 have HR0_4 := Aside0.mk hr0_4
 have HC0_4 := Aside0.mk hc0_4
 clear hr0_4 hc0_4
 have HR0_5 := Aside0.mk hr0_5
 have HC0_5 := Aside0.mk hc0_5
 clear hr0_5 hc0_5
 have HR0_6 := Aside0.mk hr0_6
 have HC0_6 := Aside0.mk hc0_6
 clear hr0_6 hc0_6
 have HR1_4 := Aside0.mk hr1_4
 have HC1_4 := Aside0.mk hc1_4
 clear hr1_4 hc1_4
 have HR1_5 := Aside0.mk hr1_5
 have HC1_5 := Aside0.mk hc1_5
 clear hr1_5 hc1_5
 have HR1_6 := Aside0.mk hr1_6
 have HC1_6 := Aside0.mk hc1_6
 clear hr1_6 hc1_6
 have HB := Aside0.mk (Below.refl w.heap.size w)
 have HT := Aside0.mk hT
 clear hT
 have H : ((nunciolaw05_awake.f k).bind fun t355 => (if t355 = true then ((nunciolaw05_Few.f k a0_0 a0_1 a0_2 a0_3 l0_4 l0_5 l0_6).bind fun t356 => (if t356 = true then ((nunciolaw05_Few.f k a1_0 a1_1 a1_2 a1_3 l1_4 l1_5 l1_6).bind fun t357 => (nunciolaw05_DataOne.j0 k (!t357) a0_0 a0_1 a0_2 a0_3 l0_4 l0_5 l0_6 a1_0 a1_1 a1_2 a1_3 l1_4 l1_5 l1_6)) else (nunciolaw05_DataOne.j0 k true a0_0 a0_1 a0_2 a0_3 l0_4 l0_5 l0_6 a1_0 a1_1 a1_2 a1_3 l1_4 l1_5 l1_6))) else (some false))) = some r := h
 clear h
 replace H := Option.bind_eq_some_iff.mp H
 obtain ⟨t355, A30, H⟩ := H
 replace H : (if t355 = true then ((nunciolaw05_Few.f k a0_0 a0_1 a0_2 a0_3 l0_4 l0_5 l0_6).bind fun t356 => (if t356 = true then ((nunciolaw05_Few.f k a1_0 a1_1 a1_2 a1_3 l1_4 l1_5 l1_6).bind fun t357 => (nunciolaw05_DataOne.j0 k (!t357) a0_0 a0_1 a0_2 a0_3 l0_4 l0_5 l0_6 a1_0 a1_1 a1_2 a1_3 l1_4 l1_5 l1_6)) else (nunciolaw05_DataOne.j0 k true a0_0 a0_1 a0_2 a0_3 l0_4 l0_5 l0_6 a1_0 a1_1 a1_2 a1_3 l1_4 l1_5 l1_6))) else (some false)) = some r := H
 have A3 := Aside0.mk A30
 clear A30
 by_cases c4 : t355 = true
 ·
  subst c4
  have H1 : ((nunciolaw05_Few.f k a0_0 a0_1 a0_2 a0_3 l0_4 l0_5 l0_6).bind fun t356 => (if t356 = true then ((nunciolaw05_Few.f k a1_0 a1_1 a1_2 a1_3 l1_4 l1_5 l1_6).bind fun t357 => (nunciolaw05_DataOne.j0 k (!t357) a0_0 a0_1 a0_2 a0_3 l0_4 l0_5 l0_6 a1_0 a1_1 a1_2 a1_3 l1_4 l1_5 l1_6)) else (nunciolaw05_DataOne.j0 k true a0_0 a0_1 a0_2 a0_3 l0_4 l0_5 l0_6 a1_0 a1_1 a1_2 a1_3 l1_4 l1_5 l1_6))) = some r := by rw [if_pos rfl] at H; exact H
  clear H
  have H := H1
  clear H1
  have HC5 := Aside0.mk H
  clear H
  go_enter Try.func5, Try.ntmps5
  go_upto_region 3 with (first | ((with_reducible refine gate_dst (N := 2) rfl ?_); refine box_event ?hg (N := 2) ?hd (cs := #[.string a0_0, .int .u16 a0_1, .int .u16 a0_2, .int .u32 a0_3, .slice A0_4 l0_4.length c0_4, .slice A0_5 l0_5.length c0_5, .slice A0_6 l0_6.length c0_6]) (t := 27) ?hr ?_; (case hd => rfl); (case hg => rfl); (case hr => first | (go_simp; done) | (go_simp; rfl)); intro gb353 hg w6 hbox hb; have n0_ := Aside0.mk (below_step (by repeat (first | (with_reducible first | exact HB.out | apply below_alloc | apply pw_below_drewN | apply below_drew1) | exact HB.out)) hb); have n1_ := Aside0.mk (hbox); have n2_ := Aside0.mk ((by rw [hg]; exact (below_size (by repeat (first | (with_reducible first | exact HB.out | apply below_alloc | apply pw_below_drewN | apply below_drew1) | exact HB.out))) : w.heap.size ≤ gb353)); have n3_ := Aside0.mk ((by rw [hg]; exact (below_size (by repeat (first | (with_reducible first | exact HB.out | apply below_alloc | apply pw_below_drewN | apply below_drew1) | exact HB.out))) : w.heap.size ≤ gb353)); clear HB; have HB := n0_; have BK353 := n1_; have GW353 := n2_; have GE353 := n3_; clear n0_ n1_ n2_ n3_; clear hb hbox hg) | ((with_reducible refine gate_dst (N := 3) rfl ?_); refine box_event ?hg (N := 3) ?hd (cs := #[.string a1_0, .int .u16 a1_1, .int .u16 a1_2, .int .u32 a1_3, .slice A1_4 l1_4.length c1_4, .slice A1_5 l1_5.length c1_5, .slice A1_6 l1_6.length c1_6]) (t := 27) ?hr ?_; (case hd => rfl); (case hg => rfl); (case hr => first | (go_simp; done) | (go_simp; rfl)); intro gb354 hg w7 hbox hb; have n0_ := Aside0.mk (blk_below (g := gb353) (o := .cells #[.string a0_0, .int .u16 a0_1, .int .u16 a0_2, .int .u32 a0_3, .slice A0_4 l0_4.length c0_4, .slice A0_5 l0_5.length c0_5, .slice A0_6 l0_6.length c0_6] 27 (0, 0)) (by (with_reducible repeat (first | refine blk_drewN ?_ _ | refine blk_drew ?_ | refine blk_alloc ?_ _)); exact BK353.out) hb); have n1_ := Aside0.mk (below_step (by repeat (first | (with_reducible first | exact HB.out | apply below_alloc | apply pw_below_drewN | apply below_drew1 | refine below_set ?_ GE353.out) | exact HB.out)) hb); have n2_ := Aside0.mk (hbox); have n3_ := Aside0.mk ((by rw [hg]; exact (below_size (by repeat (first | (with_reducible first | exact HB.out | apply below_alloc | apply pw_below_drewN | apply below_drew1 | refine below_set ?_ GE353.out) | exact HB.out))) : w.heap.size ≤ gb354)); have n4_ := Aside0.mk ((by rw [hg]; exact (below_size (by repeat (first | (with_reducible first | exact HB.out | apply below_alloc | apply pw_below_drewN | apply below_drew1 | refine below_set ?_ GE353.out) | exact HB.out))) : w.heap.size ≤ gb354)); have n5_ := Aside0.mk ((by rw [hg]; exact Nat.ne_of_lt (blk_lt (g := gb353) (o := .cells #[.string a0_0, .int .u16 a0_1, .int .u16 a0_2, .int .u32 a0_3, .slice A0_4 l0_4.length c0_4, .slice A0_5 l0_5.length c0_5, .slice A0_6 l0_6.length c0_6] 27 (0, 0)) (by (with_reducible repeat (first | refine blk_drewN ?_ _ | refine blk_drew ?_ | refine blk_alloc ?_ _)); exact BK353.out)) : gb353 ≠ gb354)); have n6_ := Aside0.mk ((by rw [hg]; exact Nat.ne_of_gt (blk_lt (g := gb353) (o := .cells #[.string a0_0, .int .u16 a0_1, .int .u16 a0_2, .int .u32 a0_3, .slice A0_4 l0_4.length c0_4, .slice A0_5 l0_5.length c0_5, .slice A0_6 l0_6.length c0_6] 27 (0, 0)) (by (with_reducible repeat (first | refine blk_drewN ?_ _ | refine blk_drew ?_ | refine blk_alloc ?_ _)); exact BK353.out)) : gb354 ≠ gb353)); clear BK353; clear HB; have BK353 := n0_; have HB := n1_; have BK354 := n2_; have GW354 := n3_; have GE354 := n4_; have NB353_354 := n5_; have NB354_353 := n6_; clear n0_ n1_ n2_ n3_ n4_ n5_ n6_; clear hb hbox hg) | ((with_reducible refine gate_callee (f := 7) rfl ?_); refine goesL_ (some 5) rfl rfl Try.func7 (by kernel_rfl) rfl #[] rfl (by (try simp only [List.map_toArray, List.map_cons, List.map_nil]); first | done | rfl | (simp only [List.length_drop, List.length_take]; rfl)) ?_; (with_reducible refine (nunciolaw05_awake.calls k  true _ A3.out).mono ?_); rintro e w8 ⟨rfl, hb⟩; refine ⟨_, rfl, ?_⟩; have n0_ := Aside0.mk (blk_below (g := gb353) (o := .cells #[.string a0_0, .int .u16 a0_1, .int .u16 a0_2, .int .u32 a0_3, .slice A0_4 l0_4.length c0_4, .slice A0_5 l0_5.length c0_5, .slice A0_6 l0_6.length c0_6] 27 (0, 0)) (by (with_reducible repeat (first | refine blk_drewN ?_ _ | refine blk_drew ?_ | refine blk_alloc ?_ _)); exact BK353.out) hb); have n1_ := Aside0.mk (blk_below (g := gb354) (o := .cells #[.string a1_0, .int .u16 a1_1, .int .u16 a1_2, .int .u32 a1_3, .slice A1_4 l1_4.length c1_4, .slice A1_5 l1_5.length c1_5, .slice A1_6 l1_6.length c1_6] 27 (0, 0)) (by (with_reducible repeat (first | refine blk_drewN ?_ _ | refine blk_drew ?_ | refine blk_alloc ?_ _)); exact BK354.out) hb); have n2_ := Aside0.mk (below_step (by repeat (first | (with_reducible first | exact HB.out | apply below_alloc | apply pw_below_drewN | apply below_drew1 | refine below_set ?_ GE353.out | refine below_set ?_ GE354.out) | exact HB.out)) hb); clear BK353; clear BK354; clear HB; have BK353 := n0_; have BK354 := n1_; have HB := n2_; clear n0_ n1_ n2_; (try clear hb); (try clear hb2); (try clear hk); (try clear hi)))
  (try simp only [Act.put, List.setIfInBounds_toArray, List.set_cons_zero, List.set_cons_succ])
  go_cut [14] (fun v14 wc => ∃ (kq : Nat) (x14_4 : Bool), v14 = .bool x14_4 ∧ Aside0 (nunciolaw05_DataOne.j0 kq x14_4 a0_0 a0_1 a0_2 a0_3 l0_4 l0_5 l0_6 a1_0 a1_1 a1_2 a1_3 l1_4 l1_5 l1_6 = some r) ∧ Aside0 (kq ≤ k) ∧ Aside0 (wc.heap[gb353]? = some (.cells #[.string a0_0, .int .u16 a0_1, .int .u16 a0_2, .int .u32 a0_3, (.slice A0_4 l0_4.length c0_4), (.slice A0_5 l0_5.length c0_5), (.slice A0_6 l0_6.length c0_6)] 27 (0, 0))) ∧ Aside0 (wc.heap[gb354]? = some (.cells #[.string a1_0, .int .u16 a1_1, .int .u16 a1_2, .int .u32 a1_3, (.slice A1_4 l1_4.length c1_4), (.slice A1_5 l1_5.length c1_5), (.slice A1_6 l1_6.length c1_6)] 27 (0, 0))) ∧ Aside0 (Below w.heap.size w wc))
  case first =>
   have H := HC5.out
   clear HC5
   replace H := Option.bind_eq_some_iff.mp H
   obtain ⟨t356, A90, H⟩ := H
   replace H : (if t356 = true then ((nunciolaw05_Few.f k a1_0 a1_1 a1_2 a1_3 l1_4 l1_5 l1_6).bind fun t357 => (nunciolaw05_DataOne.j0 k (!t357) a0_0 a0_1 a0_2 a0_3 l0_4 l0_5 l0_6 a1_0 a1_1 a1_2 a1_3 l1_4 l1_5 l1_6)) else (nunciolaw05_DataOne.j0 k true a0_0 a0_1 a0_2 a0_3 l0_4 l0_5 l0_6 a1_0 a1_1 a1_2 a1_3 l1_4 l1_5 l1_6)) = some r := H
   have A9 := Aside0.mk A90
   clear A90
   by_cases c10 : t356 = true
   ·
    subst c10
    have H1 : ((nunciolaw05_Few.f k a1_0 a1_1 a1_2 a1_3 l1_4 l1_5 l1_6).bind fun t357 => (nunciolaw05_DataOne.j0 k (!t357) a0_0 a0_1 a0_2 a0_3 l0_4 l0_5 l0_6 a1_0 a1_1 a1_2 a1_3 l1_4 l1_5 l1_6)) = some r := by rw [if_pos rfl] at H; exact H
    clear H
    have H := H1
    clear H1
    replace H := Option.bind_eq_some_iff.mp H
    obtain ⟨t357, A110, H⟩ := H
    replace H : (nunciolaw05_DataOne.j0 k (!t357) a0_0 a0_1 a0_2 a0_3 l0_4 l0_5 l0_6 a1_0 a1_1 a1_2 a1_3 l1_4 l1_5 l1_6) = some r := H
    have A11 := Aside0.mk A110
    clear A110
    have H' := Aside0.mk H
    clear H
    have hnb12 := NB353_354.out
    have hnc12 := NB354_353.out
    have hcz13_0 : w8.cell? ⟨gb353, 0, none⟩ = some (.string a0_0) := (blk_cell BK353.out 0).trans rfl
    have hcz13_1 : w8.cell? ⟨gb353, 1, none⟩ = some (.int .u16 a0_1) := (blk_cell BK353.out 1).trans rfl
    have hcz13_2 : w8.cell? ⟨gb353, 2, none⟩ = some (.int .u16 a0_2) := (blk_cell BK353.out 2).trans rfl
    have hcz13_3 : w8.cell? ⟨gb353, 3, none⟩ = some (.int .u32 a0_3) := (blk_cell BK353.out 3).trans rfl
    have hcz13_4 : w8.cell? ⟨gb353, 4, none⟩ = some (.slice A0_4 l0_4.length c0_4) := (blk_cell BK353.out 4).trans rfl
    have hcz13_5 : w8.cell? ⟨gb353, 5, none⟩ = some (.slice A0_5 l0_5.length c0_5) := (blk_cell BK353.out 5).trans rfl
    have hcz13_6 : w8.cell? ⟨gb353, 6, none⟩ = some (.slice A0_6 l0_6.length c0_6) := (blk_cell BK353.out 6).trans rfl
    have hfz13_0 := blk_frozen BK353.out 0
    have hfz13_1 := blk_frozen BK353.out 1
    have hfz13_2 := blk_frozen BK353.out 2
    have hfz13_3 := blk_frozen BK353.out 3
    have hfz13_4 := blk_frozen BK353.out 4
    have hfz13_5 := blk_frozen BK353.out 5
    have hfz13_6 := blk_frozen BK353.out 6
    go_wp2_with (first | ((with_reducible refine gate_callee (f := 8) rfl ?_); refine goesL_ (some 8) rfl rfl Try.func8 (by kernel_rfl) rfl #[.agg #[.string a0_0, .int .u16 a0_1, .int .u16 a0_2, .int .u32 a0_3, .slice A0_4 l0_4.length c0_4, .slice A0_5 l0_5.length c0_5, .slice A0_6 l0_6.length c0_6]] rfl (by (try simp only [List.map_toArray, List.map_cons, List.map_nil]); first | done | rfl | (simp only [List.length_drop, List.length_take]; rfl)) ?_; (with_reducible refine (nunciolaw05_Few.calls k a0_0 a0_1 a0_2 a0_3 _ _ l0_4 _ _ l0_5 _ _ l0_6 true _ ?side1 ?side2 ?side3 ?side4 ?side5 ?side6 A9.out).mono ?_); (case side1 => repeat (first | exact (Kd.C_below HR0_4.out HB.out) | (with_reducible refine Kd.C_alloc ?_ _) | (with_reducible refine Kd.C_drewN ?_ _) | (with_reducible refine Kd.C_drew ?_))); (case side2 => exact HC0_4.out); (case side3 => repeat (first | exact (Kd.C_below HR0_5.out HB.out) | (with_reducible refine Kd.C_alloc ?_ _) | (with_reducible refine Kd.C_drewN ?_ _) | (with_reducible refine Kd.C_drew ?_))); (case side4 => exact HC0_5.out); (case side5 => repeat (first | exact (Kd.C_below HR0_6.out HB.out) | (with_reducible refine Kd.C_alloc ?_ _) | (with_reducible refine Kd.C_drewN ?_ _) | (with_reducible refine Kd.C_drew ?_))); (case side6 => exact HC0_6.out); rintro e w14 ⟨rfl, hb⟩; refine ⟨_, rfl, ?_⟩; have n0_ := Aside0.mk (blk_below (g := gb353) (o := .cells #[.string a0_0, .int .u16 a0_1, .int .u16 a0_2, .int .u32 a0_3, .slice A0_4 l0_4.length c0_4, .slice A0_5 l0_5.length c0_5, .slice A0_6 l0_6.length c0_6] 27 (0, 0)) (by (with_reducible repeat (first | refine blk_drewN ?_ _ | refine blk_drew ?_ | refine blk_alloc ?_ _)); exact BK353.out) hb); have n1_ := Aside0.mk (blk_below (g := gb354) (o := .cells #[.string a1_0, .int .u16 a1_1, .int .u16 a1_2, .int .u32 a1_3, .slice A1_4 l1_4.length c1_4, .slice A1_5 l1_5.length c1_5, .slice A1_6 l1_6.length c1_6] 27 (0, 0)) (by (with_reducible repeat (first | refine blk_drewN ?_ _ | refine blk_drew ?_ | refine blk_alloc ?_ _)); exact BK354.out) hb); have n2_ := Aside0.mk (below_step (by repeat (first | (with_reducible first | exact HB.out | apply below_alloc | apply pw_below_drewN | apply below_drew1 | refine below_set ?_ GE353.out | refine below_set ?_ GE354.out) | exact HB.out)) hb); clear BK353; clear BK354; clear HB; have BK353 := n0_; have BK354 := n1_; have HB := n2_; clear n0_ n1_ n2_; (try clear hb); (try clear hb2); (try clear hk); (try clear hi); have hcz15_0 : w14.cell? ⟨gb354, 0, none⟩ = some (.string a1_0) := (blk_cell BK354.out 0).trans rfl; have hcz15_1 : w14.cell? ⟨gb354, 1, none⟩ = some (.int .u16 a1_1) := (blk_cell BK354.out 1).trans rfl; have hcz15_2 : w14.cell? ⟨gb354, 2, none⟩ = some (.int .u16 a1_2) := (blk_cell BK354.out 2).trans rfl; have hcz15_3 : w14.cell? ⟨gb354, 3, none⟩ = some (.int .u32 a1_3) := (blk_cell BK354.out 3).trans rfl; have hcz15_4 : w14.cell? ⟨gb354, 4, none⟩ = some (.slice A1_4 l1_4.length c1_4) := (blk_cell BK354.out 4).trans rfl; have hcz15_5 : w14.cell? ⟨gb354, 5, none⟩ = some (.slice A1_5 l1_5.length c1_5) := (blk_cell BK354.out 5).trans rfl; have hcz15_6 : w14.cell? ⟨gb354, 6, none⟩ = some (.slice A1_6 l1_6.length c1_6) := (blk_cell BK354.out 6).trans rfl; have hfz15_0 := blk_frozen BK354.out 0; have hfz15_1 := blk_frozen BK354.out 1; have hfz15_2 := blk_frozen BK354.out 2; have hfz15_3 := blk_frozen BK354.out 3; have hfz15_4 := blk_frozen BK354.out 4; have hfz15_5 := blk_frozen BK354.out 5; have hfz15_6 := blk_frozen BK354.out 6) | (go_at_call 8; (with_reducible refine (nunciolaw05_Few.calls k a1_0 a1_1 a1_2 a1_3 _ _ l1_4 _ _ l1_5 _ _ l1_6 t357 _ ?side1 ?side2 ?side3 ?side4 ?side5 ?side6 A11.out).mono ?_); (case side1 => repeat (first | exact (Kd.C_below HR1_4.out HB.out) | (with_reducible refine Kd.C_alloc ?_ _) | (with_reducible refine Kd.C_drewN ?_ _) | (with_reducible refine Kd.C_drew ?_))); (case side2 => exact HC1_4.out); (case side3 => repeat (first | exact (Kd.C_below HR1_5.out HB.out) | (with_reducible refine Kd.C_alloc ?_ _) | (with_reducible refine Kd.C_drewN ?_ _) | (with_reducible refine Kd.C_drew ?_))); (case side4 => exact HC1_5.out); (case side5 => repeat (first | exact (Kd.C_below HR1_6.out HB.out) | (with_reducible refine Kd.C_alloc ?_ _) | (with_reducible refine Kd.C_drewN ?_ _) | (with_reducible refine Kd.C_drew ?_))); (case side6 => exact HC1_6.out); rintro e w16 ⟨rfl, hb⟩; have n0_ := Aside0.mk (blk_below (g := gb353) (o := .cells #[.string a0_0, .int .u16 a0_1, .int .u16 a0_2, .int .u32 a0_3, .slice A0_4 l0_4.length c0_4, .slice A0_5 l0_5.length c0_5, .slice A0_6 l0_6.length c0_6] 27 (0, 0)) (by (with_reducible repeat (first | refine blk_drewN ?_ _ | refine blk_drew ?_ | refine blk_alloc ?_ _)); exact BK353.out) hb); have n1_ := Aside0.mk (blk_below (g := gb354) (o := .cells #[.string a1_0, .int .u16 a1_1, .int .u16 a1_2, .int .u32 a1_3, .slice A1_4 l1_4.length c1_4, .slice A1_5 l1_5.length c1_5, .slice A1_6 l1_6.length c1_6] 27 (0, 0)) (by (with_reducible repeat (first | refine blk_drewN ?_ _ | refine blk_drew ?_ | refine blk_alloc ?_ _)); exact BK354.out) hb); have n2_ := Aside0.mk (below_step (by repeat (first | (with_reducible first | exact HB.out | apply below_alloc | apply pw_below_drewN | apply below_drew1 | refine below_set ?_ GE353.out | refine below_set ?_ GE354.out) | exact HB.out)) hb); clear BK353; clear BK354; clear HB; have BK353 := n0_; have BK354 := n1_; have HB := n2_; clear n0_ n1_ n2_; (try clear hb); (try clear hb2); (try clear hk); (try clear hi)))
    go_meet
    case rel => exact ⟨_, (!t357), (by first | rfl | (simp; done) | (simp [*]; done)), H', ⟨by first | omega | exact Nat.le_refl _⟩, ⟨by (with_reducible repeat (first | refine blk_drewN ?_ _ | refine blk_drew ?_ | refine blk_alloc ?_ _)); exact BK353.out⟩, ⟨by (with_reducible repeat (first | refine blk_drewN ?_ _ | refine blk_drew ?_ | refine blk_alloc ?_ _)); exact BK354.out⟩, ⟨by repeat (first | (with_reducible first | exact HB.out | apply below_alloc | apply pw_below_drewN | apply below_drew1 | refine below_set ?_ GE353.out | refine below_set ?_ GE354.out) | exact HB.out)⟩⟩
   ·
    replace c10 := Bool.eq_false_iff.mpr c10
    subst c10
    have H1 : (nunciolaw05_DataOne.j0 k true a0_0 a0_1 a0_2 a0_3 l0_4 l0_5 l0_6 a1_0 a1_1 a1_2 a1_3 l1_4 l1_5 l1_6) = some r := by rw [if_neg (show ¬ (false = true) by decide)] at H; exact H
    clear H
    have H := H1
    clear H1
    have H' := Aside0.mk H
    clear H
    have hnb17 := NB353_354.out
    have hnc17 := NB354_353.out
    have hcz18_0 : w8.cell? ⟨gb353, 0, none⟩ = some (.string a0_0) := (blk_cell BK353.out 0).trans rfl
    have hcz18_1 : w8.cell? ⟨gb353, 1, none⟩ = some (.int .u16 a0_1) := (blk_cell BK353.out 1).trans rfl
    have hcz18_2 : w8.cell? ⟨gb353, 2, none⟩ = some (.int .u16 a0_2) := (blk_cell BK353.out 2).trans rfl
    have hcz18_3 : w8.cell? ⟨gb353, 3, none⟩ = some (.int .u32 a0_3) := (blk_cell BK353.out 3).trans rfl
    have hcz18_4 : w8.cell? ⟨gb353, 4, none⟩ = some (.slice A0_4 l0_4.length c0_4) := (blk_cell BK353.out 4).trans rfl
    have hcz18_5 : w8.cell? ⟨gb353, 5, none⟩ = some (.slice A0_5 l0_5.length c0_5) := (blk_cell BK353.out 5).trans rfl
    have hcz18_6 : w8.cell? ⟨gb353, 6, none⟩ = some (.slice A0_6 l0_6.length c0_6) := (blk_cell BK353.out 6).trans rfl
    have hfz18_0 := blk_frozen BK353.out 0
    have hfz18_1 := blk_frozen BK353.out 1
    have hfz18_2 := blk_frozen BK353.out 2
    have hfz18_3 := blk_frozen BK353.out 3
    have hfz18_4 := blk_frozen BK353.out 4
    have hfz18_5 := blk_frozen BK353.out 5
    have hfz18_6 := blk_frozen BK353.out 6
    go_wp2_with (first | ((with_reducible refine gate_callee (f := 8) rfl ?_); refine goesL_ (some 8) rfl rfl Try.func8 (by kernel_rfl) rfl #[.agg #[.string a0_0, .int .u16 a0_1, .int .u16 a0_2, .int .u32 a0_3, .slice A0_4 l0_4.length c0_4, .slice A0_5 l0_5.length c0_5, .slice A0_6 l0_6.length c0_6]] rfl (by (try simp only [List.map_toArray, List.map_cons, List.map_nil]); first | done | rfl | (simp only [List.length_drop, List.length_take]; rfl)) ?_; (with_reducible refine (nunciolaw05_Few.calls k a0_0 a0_1 a0_2 a0_3 _ _ l0_4 _ _ l0_5 _ _ l0_6 false _ ?side1 ?side2 ?side3 ?side4 ?side5 ?side6 A9.out).mono ?_); (case side1 => repeat (first | exact (Kd.C_below HR0_4.out HB.out) | (with_reducible refine Kd.C_alloc ?_ _) | (with_reducible refine Kd.C_drewN ?_ _) | (with_reducible refine Kd.C_drew ?_))); (case side2 => exact HC0_4.out); (case side3 => repeat (first | exact (Kd.C_below HR0_5.out HB.out) | (with_reducible refine Kd.C_alloc ?_ _) | (with_reducible refine Kd.C_drewN ?_ _) | (with_reducible refine Kd.C_drew ?_))); (case side4 => exact HC0_5.out); (case side5 => repeat (first | exact (Kd.C_below HR0_6.out HB.out) | (with_reducible refine Kd.C_alloc ?_ _) | (with_reducible refine Kd.C_drewN ?_ _) | (with_reducible refine Kd.C_drew ?_))); (case side6 => exact HC0_6.out); rintro e w19 ⟨rfl, hb⟩; refine ⟨_, rfl, ?_⟩; have n0_ := Aside0.mk (blk_below (g := gb353) (o := .cells #[.string a0_0, .int .u16 a0_1, .int .u16 a0_2, .int .u32 a0_3, .slice A0_4 l0_4.length c0_4, .slice A0_5 l0_5.length c0_5, .slice A0_6 l0_6.length c0_6] 27 (0, 0)) (by (with_reducible repeat (first | refine blk_drewN ?_ _ | refine blk_drew ?_ | refine blk_alloc ?_ _)); exact BK353.out) hb); have n1_ := Aside0.mk (blk_below (g := gb354) (o := .cells #[.string a1_0, .int .u16 a1_1, .int .u16 a1_2, .int .u32 a1_3, .slice A1_4 l1_4.length c1_4, .slice A1_5 l1_5.length c1_5, .slice A1_6 l1_6.length c1_6] 27 (0, 0)) (by (with_reducible repeat (first | refine blk_drewN ?_ _ | refine blk_drew ?_ | refine blk_alloc ?_ _)); exact BK354.out) hb); have n2_ := Aside0.mk (below_step (by repeat (first | (with_reducible first | exact HB.out | apply below_alloc | apply pw_below_drewN | apply below_drew1 | refine below_set ?_ GE353.out | refine below_set ?_ GE354.out) | exact HB.out)) hb); clear BK353; clear BK354; clear HB; have BK353 := n0_; have BK354 := n1_; have HB := n2_; clear n0_ n1_ n2_; (try clear hb); (try clear hb2); (try clear hk); (try clear hi)))
    go_meet
    case rel => exact ⟨_, (true), (by first | rfl | (simp; done) | (simp [*]; done)), H', ⟨by first | omega | exact Nat.le_refl _⟩, ⟨by (with_reducible repeat (first | refine blk_drewN ?_ _ | refine blk_drew ?_ | refine blk_alloc ?_ _)); exact BK353.out⟩, ⟨by (with_reducible repeat (first | refine blk_drewN ?_ _ | refine blk_drew ?_ | refine blk_alloc ?_ _)); exact BK354.out⟩, ⟨by repeat (first | (with_reducible first | exact HB.out | apply below_alloc | apply pw_below_drewN | apply below_drew1 | refine below_set ?_ GE353.out | refine below_set ?_ GE354.out) | exact HB.out)⟩⟩
  case rest =>
   clear HC5
   try clear c1
   try clear p2
   try clear c4
   try clear c5
   try clear c7
   try clear c8
   try clear c10
   try clear c12
   try clear c17
   try clear hcz13_0
   try clear hcz13_1
   try clear hcz13_2
   try clear hcz13_3
   try clear hcz13_4
   try clear hcz13_5
   try clear hcz13_6
   try clear hcz15_0
   try clear hcz15_1
   try clear hcz15_2
   try clear hcz15_3
   try clear hcz15_4
   try clear hcz15_5
   try clear hcz15_6
   try clear hcz18_0
   try clear hcz18_1
   try clear hcz18_2
   try clear hcz18_3
   try clear hcz18_4
   try clear hcz18_5
   try clear hcz18_6
   try clear hfz13_0
   try clear hfz13_1
   try clear hfz13_2
   try clear hfz13_3
   try clear hfz13_4
   try clear hfz13_5
   try clear hfz13_6
   try clear hfz15_0
   try clear hfz15_1
   try clear hfz15_2
   try clear hfz15_3
   try clear hfz15_4
   try clear hfz15_5
   try clear hfz15_6
   try clear hfz18_0
   try clear hfz18_1
   try clear hfz18_2
   try clear hfz18_3
   try clear hfz18_4
   try clear hfz18_5
   try clear hfz18_6
   obtain ⟨kq, x14_4, rfl, HA, HJ4, BK353, BK354, HB⟩ := hcut
   cases kq with
   | zero => exact absurd HA.out (by simp [nunciolaw05_DataOne.j0])
   | succ kj4 =>
    have H := HA.out
    clear HA
    simp only [nunciolaw05_DataOne.j0] at H
    by_cases c20 : x14_4 = true
    ·
     subst c20
     have H1 : (some true) = some r := by rw [if_pos rfl] at H; exact H
     clear H
     have H := H1
     clear H1
     obtain rfl := Option.some.inj H
     go_wp2
     go_ret
     exact ⟨by first | rfl | (simp [errW_none, errW_some] <;> rfl) | (simp [*, errW_none, errW_some] <;> rfl), by repeat (first | (with_reducible first | exact HB.out | apply below_alloc | apply pw_below_drewN | apply below_drew1 | refine below_set ?_ GE353.out | refine below_set ?_ GE354.out) | exact HB.out)⟩
    ·
     replace c20 := Bool.eq_false_iff.mpr c20
     subst c20
     have H1 : ((rdata_Check.f kj4 a0_0 a0_1 a0_2 a0_3 l0_4 l0_5 l0_6).bind fun t358 => (if t358 = 0 then ((rdata_Check.f kj4 a0_0 a0_1 a0_2 a0_3 l1_4 l1_5 l1_6).bind fun t359 => (nunciolaw05_DataOne.j1 kj4 (t359 != 0) a0_0 a0_1 a0_2 a0_3 l0_4 l0_5 l0_6 a0_0 a0_1 a0_2 a0_3 l1_4 l1_5 l1_6)) else (nunciolaw05_DataOne.j1 kj4 true a0_0 a0_1 a0_2 a0_3 l0_4 l0_5 l0_6 a0_0 a0_1 a0_2 a0_3 l1_4 l1_5 l1_6))) = some r := by rw [if_neg (show ¬ (false = true) by decide)] at H; exact H
     clear H
     have H := H1
     clear H1
     have HC21 := Aside0.mk H
     clear H
     try go_wp2
     have n0_ := Aside0.mk (blk_drew BK353.out)
     have n1_ := Aside0.mk (blk_drew BK354.out)
     have n2_ := Aside0.mk (below_drew1 HB.out)
     clear BK353
     clear BK354
     clear HB
     have BK353 := n0_
     have BK354 := n1_
     have HB := n2_
     clear n0_ n1_ n2_
     refine start_ (n := 16) (S := fun w' => w'.cell? ⟨gb353, 0, none⟩ = some (.string a0_0) ∧ w'.cell? ⟨gb353, 1, none⟩ = some (.int .u16 a0_1) ∧ w'.cell? ⟨gb353, 2, none⟩ = some (.int .u16 a0_2) ∧ w'.cell? ⟨gb353, 3, none⟩ = some (.int .u32 a0_3) ∧ w'.cell? ⟨gb353, 4, none⟩ = some (.slice A0_4 l0_4.length c0_4) ∧ w'.cell? ⟨gb353, 5, none⟩ = some (.slice A0_5 l0_5.length c0_5) ∧ w'.cell? ⟨gb353, 6, none⟩ = some (.slice A0_6 l0_6.length c0_6)) (ds := []) #[false, false, false, false, false, false, false, false, false, false, false, false, false, false, false, false] (by kernel_rfl) rfl rfl ⟨(blk_cell BK353.out 0).trans rfl, (blk_cell BK353.out 1).trans rfl, (blk_cell BK353.out 2).trans rfl, (blk_cell BK353.out 3).trans rfl, (blk_cell BK353.out 4).trans rfl, (blk_cell BK353.out 5).trans rfl, (blk_cell BK353.out 6).trans rfl⟩ (fun hHeld => ?_); refine with_tabW nunciolaw05_DataOne.tab5 nunciolaw05_DataOne.bits5 (fun HT_ HW_ => ?_)
     generalize wc.drew = w22 at BK353 BK354 HB hHeld ⊢
     refine pure_ (i := 0) (N := some 15) (v := ?_) (a' := ?_) #[true, false, false, false, false, false, false, false, false, false, false, false, false, false, false, false] rfl rfl (any_of HT_.out (by kernel_rfl)) (fun _ _ _ h => h) (Or.inl ⟨by rfl, ?_⟩) ?_ ?_
     rotate_left
     ·
      intro w'
      go_simp
      with_reducible rfl
     rotate_left
     ·
      simp only [Act.put, List.setIfInBounds_toArray, List.set_cons_zero, List.set_cons_succ, i64_w, i32_w]
      rfl
     refine pure_ (i := 2) (N := some 17) (v := ?_) (a' := ?_) #[true, false, true, false, false, false, false, false, false, false, false, false, false, false, false, false] rfl rfl (any_of HT_.out (by kernel_rfl)) (fun _ _ _ h => h) (Or.inl ⟨by rfl, ?_⟩) ?_ ?_
     rotate_left
     ·
      intro w'
      go_simp
      with_reducible rfl
     rotate_left
     ·
      simp only [Act.put, List.setIfInBounds_toArray, List.set_cons_zero, List.set_cons_succ, i64_w, i32_w]
      rfl
     refine pure_ (i := 4) (N := some 19) (v := ?_) (a' := ?_) #[true, false, true, false, true, false, false, false, false, false, false, false, false, false, false, false] rfl rfl (any_of HT_.out (by kernel_rfl)) (fun _ _ _ h => h) (Or.inl ⟨by rfl, ?_⟩) ?_ ?_
     rotate_left
     ·
      intro w'
      go_simp
      with_reducible rfl
     rotate_left
     ·
      simp only [Act.put, List.setIfInBounds_toArray, List.set_cons_zero, List.set_cons_succ, i64_w, i32_w]
      rfl
     refine pure_ (i := 6) (N := some 21) (v := ?_) (a' := ?_) #[true, false, true, false, true, false, true, false, false, false, false, false, false, false, false, false] rfl rfl (any_of HT_.out (by kernel_rfl)) (fun _ _ _ h => h) (Or.inl ⟨by rfl, ?_⟩) ?_ ?_
     rotate_left
     ·
      intro w'
      go_simp
      with_reducible rfl
     rotate_left
     ·
      simp only [Act.put, List.setIfInBounds_toArray, List.set_cons_zero, List.set_cons_succ, i64_w, i32_w]
      rfl
     refine take_ (i := 1) (N := some 16) (v := ?_) (a' := ?_) #[true, true, true, false, true, false, true, false, false, false, false, false, false, false, false, false] rfl rfl (take_ofW HT_.out HW_.out (by kernel_rfl)) (fun _ _ _ h => h) (Or.inl ⟨by rfl, ?_⟩) hHeld ?_ ?_
     rotate_left
     ·
      rintro w' ⟨s0, s1, s2, s3, s4, s5, s6⟩
      go_simp
      with_reducible rfl
     rotate_left
     ·
      simp only [Act.put, List.setIfInBounds_toArray, List.set_cons_zero, List.set_cons_succ, i64_w, i32_w]
      rfl
     refine pure_ (i := 8) (N := some 23) (v := ?_) (a' := ?_) #[true, true, true, false, true, false, true, false, true, false, false, false, false, false, false, false] rfl rfl (any_of HT_.out (by kernel_rfl)) (fun _ _ _ h => h) (Or.inl ⟨by rfl, ?_⟩) ?_ ?_
     rotate_left
     ·
      intro w'
      go_simp
      with_reducible rfl
     rotate_left
     ·
      simp only [Act.put, List.setIfInBounds_toArray, List.set_cons_zero, List.set_cons_succ, i64_w, i32_w]
      rfl
     refine take_ (i := 3) (N := some 18) (v := ?_) (a' := ?_) #[true, true, true, true, true, false, true, false, true, false, false, false, false, false, false, false] rfl rfl (take_ofW HT_.out HW_.out (by kernel_rfl)) (fun _ _ _ h => h) (Or.inl ⟨by rfl, ?_⟩) hHeld ?_ ?_
     rotate_left
     ·
      rintro w' ⟨s0, s1, s2, s3, s4, s5, s6⟩
      go_simp
      with_reducible rfl
     rotate_left
     ·
      simp only [Act.put, List.setIfInBounds_toArray, List.set_cons_zero, List.set_cons_succ, i64_w, i32_w]
      rfl
     refine take_ (i := 5) (N := some 20) (v := ?_) (a' := ?_) #[true, true, true, true, true, true, true, false, true, false, false, false, false, false, false, false] rfl rfl (take_ofW HT_.out HW_.out (by kernel_rfl)) (fun _ _ _ h => h) (Or.inl ⟨by rfl, ?_⟩) hHeld ?_ ?_
     rotate_left
     ·
      rintro w' ⟨s0, s1, s2, s3, s4, s5, s6⟩
      go_simp
      with_reducible rfl
     rotate_left
     ·
      simp only [Act.put, List.setIfInBounds_toArray, List.set_cons_zero, List.set_cons_succ, i64_w, i32_w]
      rfl
     refine take_ (i := 7) (N := some 22) (v := ?_) (a' := ?_) #[true, true, true, true, true, true, true, true, true, false, false, false, false, false, false, false] rfl rfl (take_ofW HT_.out HW_.out (by kernel_rfl)) (fun _ _ _ h => h) (Or.inl ⟨by rfl, ?_⟩) hHeld ?_ ?_
     rotate_left
     ·
      rintro w' ⟨s0, s1, s2, s3, s4, s5, s6⟩
      go_simp
      with_reducible rfl
     rotate_left
     ·
      simp only [Act.put, List.setIfInBounds_toArray, List.set_cons_zero, List.set_cons_succ, i64_w, i32_w]
      rfl
     refine one_ (i := 9) (N := none) #[true, true, true, true, true, true, true, true, true, true, false, false, false, false, false, false] rfl rfl (one_of HT_.out (by kernel_rfl)) (by decide) (fun K hK => ?_)
     have hs23 : w22.cell? ⟨gb354, 1, none⟩ = some (.int .u16 a1_1) := (blk_cell BK354.out 1).trans rfl
     have hfs23 := blk_frozen BK354.out 1
     have hns23_0 := NB353_354.out
     have hms23_0 := NB354_353.out
     refine skip_ (w1 := ?_) (by rfl) rfl ?_ ?_
     rotate_left
     ·
      go_simp
      rfl
     refine hK.out _ _ ⟨((cell_far (p := ⟨gb354, _, none⟩) NB353_354.out _).trans (hHeld.1)), ((cell_far (p := ⟨gb354, _, none⟩) NB353_354.out _).trans (hHeld.2.1)), ((cell_far (p := ⟨gb354, _, none⟩) NB353_354.out _).trans (hHeld.2.2.1)), ((cell_far (p := ⟨gb354, _, none⟩) NB353_354.out _).trans (hHeld.2.2.2.1)), ((cell_far (p := ⟨gb354, _, none⟩) NB353_354.out _).trans (hHeld.2.2.2.2.1)), ((cell_far (p := ⟨gb354, _, none⟩) NB353_354.out _).trans (hHeld.2.2.2.2.2.1)), ((cell_far (p := ⟨gb354, _, none⟩) NB353_354.out _).trans (hHeld.2.2.2.2.2.2))⟩ (fun hHeld => ?_)
     clear hK K
     refine pure_ (i := 10) (N := some 24) (v := ?_) (a' := ?_) #[true, true, true, true, true, true, true, true, true, true, true, false, false, false, false, false] rfl rfl (any_of HT_.out (by kernel_rfl)) (fun _ _ _ h => h) (Or.inl ⟨by rfl, ?_⟩) ?_ ?_
     rotate_left
     ·
      intro w'
      go_simp
      with_reducible rfl
     rotate_left
     ·
      simp only [Act.put, List.setIfInBounds_toArray, List.set_cons_zero, List.set_cons_succ, i64_w, i32_w]
      rfl
     refine one_ (i := 11) (N := none) #[true, true, true, true, true, true, true, true, true, true, true, true, false, false, false, false] rfl rfl (one_of HT_.out (by kernel_rfl)) (by decide) (fun K hK => ?_)
     have hs24 : w22.cell? ⟨gb354, 0, none⟩ = some (.string a1_0) := (blk_cell BK354.out 0).trans rfl
     have hfs24 := blk_frozen BK354.out 0
     have hns24_0 := NB353_354.out
     have hms24_0 := NB354_353.out
     refine skip_ (w1 := ?_) (by rfl) rfl ?_ ?_
     rotate_left
     ·
      go_simp
      rfl
     refine hK.out _ _ ⟨((cell_far (p := ⟨gb354, _, none⟩) NB353_354.out _).trans (hHeld.1)), ((cell_far (p := ⟨gb354, _, none⟩) NB353_354.out _).trans (hHeld.2.1)), ((cell_far (p := ⟨gb354, _, none⟩) NB353_354.out _).trans (hHeld.2.2.1)), ((cell_far (p := ⟨gb354, _, none⟩) NB353_354.out _).trans (hHeld.2.2.2.1)), ((cell_far (p := ⟨gb354, _, none⟩) NB353_354.out _).trans (hHeld.2.2.2.2.1)), ((cell_far (p := ⟨gb354, _, none⟩) NB353_354.out _).trans (hHeld.2.2.2.2.2.1)), ((cell_far (p := ⟨gb354, _, none⟩) NB353_354.out _).trans (hHeld.2.2.2.2.2.2))⟩ (fun hHeld => ?_)
     clear hK K
     refine pure_ (i := 12) (N := some 25) (v := ?_) (a' := ?_) #[true, true, true, true, true, true, true, true, true, true, true, true, true, false, false, false] rfl rfl (any_of HT_.out (by kernel_rfl)) (fun _ _ _ h => h) (Or.inl ⟨by rfl, ?_⟩) ?_ ?_
     rotate_left
     ·
      intro w'
      go_simp
      with_reducible rfl
     rotate_left
     ·
      simp only [Act.put, List.setIfInBounds_toArray, List.set_cons_zero, List.set_cons_succ, i64_w, i32_w]
      rfl
     refine one_ (i := 13) (N := none) #[true, true, true, true, true, true, true, true, true, true, true, true, true, true, false, false] rfl rfl (one_of HT_.out (by kernel_rfl)) (by decide) (fun K hK => ?_)
     have hs25 : w22.cell? ⟨gb354, 2, none⟩ = some (.int .u16 a1_2) := (blk_cell BK354.out 2).trans rfl
     have hfs25 := blk_frozen BK354.out 2
     have hns25_0 := NB353_354.out
     have hms25_0 := NB354_353.out
     refine skip_ (w1 := ?_) (by rfl) rfl ?_ ?_
     rotate_left
     ·
      go_simp
      rfl
     refine hK.out _ _ ⟨((cell_far (p := ⟨gb354, _, none⟩) NB353_354.out _).trans (hHeld.1)), ((cell_far (p := ⟨gb354, _, none⟩) NB353_354.out _).trans (hHeld.2.1)), ((cell_far (p := ⟨gb354, _, none⟩) NB353_354.out _).trans (hHeld.2.2.1)), ((cell_far (p := ⟨gb354, _, none⟩) NB353_354.out _).trans (hHeld.2.2.2.1)), ((cell_far (p := ⟨gb354, _, none⟩) NB353_354.out _).trans (hHeld.2.2.2.2.1)), ((cell_far (p := ⟨gb354, _, none⟩) NB353_354.out _).trans (hHeld.2.2.2.2.2.1)), ((cell_far (p := ⟨gb354, _, none⟩) NB353_354.out _).trans (hHeld.2.2.2.2.2.2))⟩ (fun hHeld => ?_)
     clear hK K
     refine pure_ (i := 14) (N := some 26) (v := ?_) (a' := ?_) #[true, true, true, true, true, true, true, true, true, true, true, true, true, true, true, false] rfl rfl (any_of HT_.out (by kernel_rfl)) (fun _ _ _ h => h) (Or.inl ⟨by rfl, ?_⟩) ?_ ?_
     rotate_left
     ·
      intro w'
      go_simp
      with_reducible rfl
     rotate_left
     ·
      simp only [Act.put, List.setIfInBounds_toArray, List.set_cons_zero, List.set_cons_succ, i64_w, i32_w]
      rfl
     refine one_ (i := 15) (N := none) #[true, true, true, true, true, true, true, true, true, true, true, true, true, true, true, true] rfl rfl (one_of HT_.out (by kernel_rfl)) (by decide) (fun K hK => ?_)
     have hs26 : w22.cell? ⟨gb354, 3, none⟩ = some (.int .u32 a1_3) := (blk_cell BK354.out 3).trans rfl
     have hfs26 := blk_frozen BK354.out 3
     have hns26_0 := NB353_354.out
     have hms26_0 := NB354_353.out
     refine skip_ (w1 := ?_) (by rfl) rfl ?_ ?_
     rotate_left
     ·
      go_simp
      rfl
     refine hK.out _ _ ⟨((cell_far (p := ⟨gb354, _, none⟩) NB353_354.out _).trans (hHeld.1)), ((cell_far (p := ⟨gb354, _, none⟩) NB353_354.out _).trans (hHeld.2.1)), ((cell_far (p := ⟨gb354, _, none⟩) NB353_354.out _).trans (hHeld.2.2.1)), ((cell_far (p := ⟨gb354, _, none⟩) NB353_354.out _).trans (hHeld.2.2.2.1)), ((cell_far (p := ⟨gb354, _, none⟩) NB353_354.out _).trans (hHeld.2.2.2.2.1)), ((cell_far (p := ⟨gb354, _, none⟩) NB353_354.out _).trans (hHeld.2.2.2.2.2.1)), ((cell_far (p := ⟨gb354, _, none⟩) NB353_354.out _).trans (hHeld.2.2.2.2.2.2))⟩ (fun hHeld => ?_)
     clear hK K
     refine done_ (done_of HT_.out (by kernel_rfl)) ?_
     go_upto_region 6 with (fail)
     go_cut [34] (fun v34 wc => ∃ (kq : Nat) (x34_20 : Bool), v34 = .bool x34_20 ∧ Aside0 (nunciolaw05_DataOne.j1 kq x34_20 a0_0 a0_1 a0_2 a0_3 l0_4 l0_5 l0_6 a0_0 a0_1 a0_2 a0_3 l1_4 l1_5 l1_6 = some r) ∧ Aside0 (kq ≤ kj4) ∧ Aside0 (wc.heap[gb353]? = some (.cells #[.string a0_0, .int .u16 a0_1, .int .u16 a0_2, .int .u32 a0_3, (.slice A0_4 l0_4.length c0_4), (.slice A0_5 l0_5.length c0_5), (.slice A0_6 l0_6.length c0_6)] 27 (0, 0))) ∧ Aside0 (wc.heap[gb354]? = some (.cells #[.string a0_0, .int .u16 a0_1, .int .u16 a0_2, .int .u32 a0_3, (.slice A1_4 l1_4.length c1_4), (.slice A1_5 l1_5.length c1_5), (.slice A1_6 l1_6.length c1_6)] 27 (0, 0))) ∧ Aside0 (Below w.heap.size w wc))
     case first =>
      have H := HC21.out
      clear HC21
      replace H := Option.bind_eq_some_iff.mp H
      obtain ⟨t358, A270, H⟩ := H
      replace H : (if t358 = 0 then ((rdata_Check.f kj4 a0_0 a0_1 a0_2 a0_3 l1_4 l1_5 l1_6).bind fun t359 => (nunciolaw05_DataOne.j1 kj4 (t359 != 0) a0_0 a0_1 a0_2 a0_3 l0_4 l0_5 l0_6 a0_0 a0_1 a0_2 a0_3 l1_4 l1_5 l1_6)) else (nunciolaw05_DataOne.j1 kj4 true a0_0 a0_1 a0_2 a0_3 l0_4 l0_5 l0_6 a0_0 a0_1 a0_2 a0_3 l1_4 l1_5 l1_6)) = some r := H
      have A27 := Aside0.mk A270
      clear A270
      by_cases c28 : t358 = 0
      ·
       rw [if_pos c28] at H
       have c28b0 : (t358 == 0) = true := beq_iff_eq.mpr c28
       have c28b1 : (t358 != 0) = false := bne_eq_false_iff_eq.mpr c28
       clear c28
       (first | rw [c28b0] | rw [c28b1] | (simp only [i64_w, i32_w]; rw [c28b0]) | skip)
       replace H := Option.bind_eq_some_iff.mp H
       obtain ⟨t359, A290, H⟩ := H
       replace H : (nunciolaw05_DataOne.j1 kj4 (t359 != 0) a0_0 a0_1 a0_2 a0_3 l0_4 l0_5 l0_6 a0_0 a0_1 a0_2 a0_3 l1_4 l1_5 l1_6) = some r := H
       have A29 := Aside0.mk A290
       clear A290
       have H' := Aside0.mk H
       clear H
       have hnb30 := NB353_354.out
       have hnc30 := NB354_353.out
       have hcz31_0 : w22.cell? ⟨gb353, 0, none⟩ = some (.string a0_0) := (blk_cell BK353.out 0).trans rfl
       have hcz31_1 : w22.cell? ⟨gb353, 1, none⟩ = some (.int .u16 a0_1) := (blk_cell BK353.out 1).trans rfl
       have hcz31_2 : w22.cell? ⟨gb353, 2, none⟩ = some (.int .u16 a0_2) := (blk_cell BK353.out 2).trans rfl
       have hcz31_3 : w22.cell? ⟨gb353, 3, none⟩ = some (.int .u32 a0_3) := (blk_cell BK353.out 3).trans rfl
       have hcz31_4 : w22.cell? ⟨gb353, 4, none⟩ = some (.slice A0_4 l0_4.length c0_4) := (blk_cell BK353.out 4).trans rfl
       have hcz31_5 : w22.cell? ⟨gb353, 5, none⟩ = some (.slice A0_5 l0_5.length c0_5) := (blk_cell BK353.out 5).trans rfl
       have hcz31_6 : w22.cell? ⟨gb353, 6, none⟩ = some (.slice A0_6 l0_6.length c0_6) := (blk_cell BK353.out 6).trans rfl
       have hfz31_0 := blk_frozen BK353.out 0
       have hfz31_1 := blk_frozen BK353.out 1
       have hfz31_2 := blk_frozen BK353.out 2
       have hfz31_3 := blk_frozen BK353.out 3
       have hfz31_4 := blk_frozen BK353.out 4
       have hfz31_5 := blk_frozen BK353.out 5
       have hfz31_6 := blk_frozen BK353.out 6
       go_wp2_with (first | ((with_reducible refine gate_callee (f := 11) rfl ?_); refine goesL_ (some 28) rfl rfl Try.func11 (by kernel_rfl) rfl #[.agg #[.string a0_0, .int .u16 a0_1, .int .u16 a0_2, .int .u32 a0_3, .slice A0_4 l0_4.length c0_4, .slice A0_5 l0_5.length c0_5, .slice A0_6 l0_6.length c0_6]] rfl (by (try simp only [List.map_toArray, List.map_cons, List.map_nil]); first | done | rfl | (simp only [List.length_drop, List.length_take]; rfl)) ?_; (with_reducible refine (rdata_Check.calls kj4 a0_0 a0_1 a0_2 a0_3 _ _ l0_4 _ _ l0_5 _ _ l0_6 t358 _ ?side1 ?side2 ?side3 ?side4 ?side5 ?side6 A27.out).mono ?_); (case side1 => exact Kd.C_below HR0_4.out (by repeat (first | (with_reducible first | exact HB.out | apply below_alloc | apply pw_below_drewN | apply below_drew1 | refine below_set ?_ GE353.out | refine below_set ?_ GE354.out) | exact HB.out))); (case side2 => exact HC0_4.out); (case side3 => exact Kd.C_below HR0_5.out (by repeat (first | (with_reducible first | exact HB.out | apply below_alloc | apply pw_below_drewN | apply below_drew1 | refine below_set ?_ GE353.out | refine below_set ?_ GE354.out) | exact HB.out))); (case side4 => exact HC0_5.out); (case side5 => exact Kd.C_below HR0_6.out (by repeat (first | (with_reducible first | exact HB.out | apply below_alloc | apply pw_below_drewN | apply below_drew1 | refine below_set ?_ GE353.out | refine below_set ?_ GE354.out) | exact HB.out))); (case side6 => exact HC0_6.out); rintro e w32 ⟨rfl, hb⟩; refine ⟨_, rfl, ?_⟩; have n0_ := Aside0.mk (blk_below (g := gb353) (o := .cells #[.string a0_0, .int .u16 a0_1, .int .u16 a0_2, .int .u32 a0_3, .slice A0_4 l0_4.length c0_4, .slice A0_5 l0_5.length c0_5, .slice A0_6 l0_6.length c0_6] 27 (0, 0)) (by (with_reducible repeat (first | refine blk_drewN ?_ _ | refine blk_drew ?_ | refine blk_alloc ?_ _)); refine blk_far ?_ NB353_354.out _; (with_reducible repeat (first | refine blk_drewN ?_ _ | refine blk_drew ?_ | refine blk_alloc ?_ _)); refine blk_far ?_ NB353_354.out _; (with_reducible repeat (first | refine blk_drewN ?_ _ | refine blk_drew ?_ | refine blk_alloc ?_ _)); refine blk_far ?_ NB353_354.out _; (with_reducible repeat (first | refine blk_drewN ?_ _ | refine blk_drew ?_ | refine blk_alloc ?_ _)); refine blk_far ?_ NB353_354.out _; (with_reducible repeat (first | refine blk_drewN ?_ _ | refine blk_drew ?_ | refine blk_alloc ?_ _)); exact BK353.out) hb); have n1_ := Aside0.mk (blk_below (g := gb354) (o := .cells #[.string a0_0, .int .u16 a0_1, .int .u16 a0_2, .int .u32 a0_3, .slice A1_4 l1_4.length c1_4, .slice A1_5 l1_5.length c1_5, .slice A1_6 l1_6.length c1_6] 27 (0, 0)) (by (with_reducible repeat (first | refine blk_drewN ?_ _ | refine blk_drew ?_ | refine blk_alloc ?_ _)); refine blk_put (cs := #[.string a0_0, .int .u16 a0_1, .int .u16 a0_2, .int .u32 a1_3, .slice A1_4 l1_4.length c1_4, .slice A1_5 l1_5.length c1_5, .slice A1_6 l1_6.length c1_6]) ?_ 3 _ rfl; (with_reducible repeat (first | refine blk_drewN ?_ _ | refine blk_drew ?_ | refine blk_alloc ?_ _)); refine blk_put (cs := #[.string a0_0, .int .u16 a0_1, .int .u16 a1_2, .int .u32 a1_3, .slice A1_4 l1_4.length c1_4, .slice A1_5 l1_5.length c1_5, .slice A1_6 l1_6.length c1_6]) ?_ 2 _ rfl; (with_reducible repeat (first | refine blk_drewN ?_ _ | refine blk_drew ?_ | refine blk_alloc ?_ _)); refine blk_put (cs := #[.string a1_0, .int .u16 a0_1, .int .u16 a1_2, .int .u32 a1_3, .slice A1_4 l1_4.length c1_4, .slice A1_5 l1_5.length c1_5, .slice A1_6 l1_6.length c1_6]) ?_ 0 _ rfl; (with_reducible repeat (first | refine blk_drewN ?_ _ | refine blk_drew ?_ | refine blk_alloc ?_ _)); refine blk_put (cs := #[.string a1_0, .int .u16 a1_1, .int .u16 a1_2, .int .u32 a1_3, .slice A1_4 l1_4.length c1_4, .slice A1_5 l1_5.length c1_5, .slice A1_6 l1_6.length c1_6]) ?_ 1 _ rfl; (with_reducible repeat (first | refine blk_drewN ?_ _ | refine blk_drew ?_ | refine blk_alloc ?_ _)); exact BK354.out) hb); have n2_ := Aside0.mk (below_step (by repeat (first | (with_reducible first | exact HB.out | apply below_alloc | apply pw_below_drewN | apply below_drew1 | refine below_set ?_ GE353.out | refine below_set ?_ GE354.out) | exact HB.out)) hb); clear BK353; clear BK354; clear HB; have BK353 := n0_; have BK354 := n1_; have HB := n2_; clear n0_ n1_ n2_; (try clear hb); (try clear hb2); (try clear hk); (try clear hi); have hcz33_0 : w32.cell? ⟨gb354, 0, none⟩ = some (.string a0_0) := (blk_cell BK354.out 0).trans rfl; have hcz33_1 : w32.cell? ⟨gb354, 1, none⟩ = some (.int .u16 a0_1) := (blk_cell BK354.out 1).trans rfl; have hcz33_2 : w32.cell? ⟨gb354, 2, none⟩ = some (.int .u16 a0_2) := (blk_cell BK354.out 2).trans rfl; have hcz33_3 : w32.cell? ⟨gb354, 3, none⟩ = some (.int .u32 a0_3) := (blk_cell BK354.out 3).trans rfl; have hcz33_4 : w32.cell? ⟨gb354, 4, none⟩ = some (.slice A1_4 l1_4.length c1_4) := (blk_cell BK354.out 4).trans rfl; have hcz33_5 : w32.cell? ⟨gb354, 5, none⟩ = some (.slice A1_5 l1_5.length c1_5) := (blk_cell BK354.out 5).trans rfl; have hcz33_6 : w32.cell? ⟨gb354, 6, none⟩ = some (.slice A1_6 l1_6.length c1_6) := (blk_cell BK354.out 6).trans rfl; have hfz33_0 := blk_frozen BK354.out 0; have hfz33_1 := blk_frozen BK354.out 1; have hfz33_2 := blk_frozen BK354.out 2; have hfz33_3 := blk_frozen BK354.out 3; have hfz33_4 := blk_frozen BK354.out 4; have hfz33_5 := blk_frozen BK354.out 5; have hfz33_6 := blk_frozen BK354.out 6) | (go_at_call 11; (with_reducible refine (rdata_Check.calls kj4 a0_0 a0_1 a0_2 a0_3 _ _ l1_4 _ _ l1_5 _ _ l1_6 t359 _ ?side1 ?side2 ?side3 ?side4 ?side5 ?side6 A29.out).mono ?_); (case side1 => repeat (first | exact (Kd.C_below HR1_4.out HB.out) | (with_reducible refine Kd.C_alloc ?_ _) | (with_reducible refine Kd.C_drewN ?_ _) | (with_reducible refine Kd.C_drew ?_))); (case side2 => exact HC1_4.out); (case side3 => repeat (first | exact (Kd.C_below HR1_5.out HB.out) | (with_reducible refine Kd.C_alloc ?_ _) | (with_reducible refine Kd.C_drewN ?_ _) | (with_reducible refine Kd.C_drew ?_))); (case side4 => exact HC1_5.out); (case side5 => repeat (first | exact (Kd.C_below HR1_6.out HB.out) | (with_reducible refine Kd.C_alloc ?_ _) | (with_reducible refine Kd.C_drewN ?_ _) | (with_reducible refine Kd.C_drew ?_))); (case side6 => exact HC1_6.out); rintro e w34 ⟨rfl, hb⟩; have n0_ := Aside0.mk (blk_below (g := gb353) (o := .cells #[.string a0_0, .int .u16 a0_1, .int .u16 a0_2, .int .u32 a0_3, .slice A0_4 l0_4.length c0_4, .slice A0_5 l0_5.length c0_5, .slice A0_6 l0_6.length c0_6] 27 (0, 0)) (by (with_reducible repeat (first | refine blk_drewN ?_ _ | refine blk_drew ?_ | refine blk_alloc ?_ _)); exact BK353.out) hb); have n1_ := Aside0.mk (blk_below (g := gb354) (o := .cells #[.string a0_0, .int .u16 a0_1, .int .u16 a0_2, .int .u32 a0_3, .slice A1_4 l1_4.length c1_4, .slice A1_5 l1_5.length c1_5, .slice A1_6 l1_6.length c1_6] 27 (0, 0)) (by (with_reducible repeat (first | refine blk_drewN ?_ _ | refine blk_drew ?_ | refine blk_alloc ?_ _)); exact BK354.out) hb); have n2_ := Aside0.mk (below_step (by repeat (first | (with_reducible first | exact HB.out | apply below_alloc | apply pw_below_drewN | apply below_drew1 | refine below_set ?_ GE353.out | refine below_set ?_ GE354.out) | exact HB.out)) hb); clear BK353; clear BK354; clear HB; have BK353 := n0_; have BK354 := n1_; have HB := n2_; clear n0_ n1_ n2_; (try clear hb); (try clear hb2); (try clear hk); (try clear hi)))
       go_meet
       case rel => exact ⟨_, ((t359 != 0)), (by first | rfl | (simp; done) | (simp [*]; done)), H', ⟨by have := HJ4.out; first | omega | exact Nat.le_refl _⟩, ⟨by (with_reducible repeat (first | refine blk_drewN ?_ _ | refine blk_drew ?_ | refine blk_alloc ?_ _)); exact BK353.out⟩, ⟨by (with_reducible repeat (first | refine blk_drewN ?_ _ | refine blk_drew ?_ | refine blk_alloc ?_ _)); exact BK354.out⟩, ⟨by repeat (first | (with_reducible first | exact HB.out | apply below_alloc | apply pw_below_drewN | apply below_drew1 | refine below_set ?_ GE353.out | refine below_set ?_ GE354.out) | exact HB.out)⟩⟩
      ·
       rw [if_neg c28] at H
       have c28b0 : (t358 == 0) = false := beq_eq_false_iff_ne.mpr c28
       have c28b1 : (t358 != 0) = true := bne_iff_ne.mpr c28
       (first | rw [c28b0] | rw [c28b1] | (simp only [i64_w, i32_w]; rw [c28b0]) | skip)
       have H' := Aside0.mk H
       clear H
       have hnb35 := NB353_354.out
       have hnc35 := NB354_353.out
       have hcz36_0 : w22.cell? ⟨gb353, 0, none⟩ = some (.string a0_0) := (blk_cell BK353.out 0).trans rfl
       have hcz36_1 : w22.cell? ⟨gb353, 1, none⟩ = some (.int .u16 a0_1) := (blk_cell BK353.out 1).trans rfl
       have hcz36_2 : w22.cell? ⟨gb353, 2, none⟩ = some (.int .u16 a0_2) := (blk_cell BK353.out 2).trans rfl
       have hcz36_3 : w22.cell? ⟨gb353, 3, none⟩ = some (.int .u32 a0_3) := (blk_cell BK353.out 3).trans rfl
       have hcz36_4 : w22.cell? ⟨gb353, 4, none⟩ = some (.slice A0_4 l0_4.length c0_4) := (blk_cell BK353.out 4).trans rfl
       have hcz36_5 : w22.cell? ⟨gb353, 5, none⟩ = some (.slice A0_5 l0_5.length c0_5) := (blk_cell BK353.out 5).trans rfl
       have hcz36_6 : w22.cell? ⟨gb353, 6, none⟩ = some (.slice A0_6 l0_6.length c0_6) := (blk_cell BK353.out 6).trans rfl
       have hfz36_0 := blk_frozen BK353.out 0
       have hfz36_1 := blk_frozen BK353.out 1
       have hfz36_2 := blk_frozen BK353.out 2
       have hfz36_3 := blk_frozen BK353.out 3
       have hfz36_4 := blk_frozen BK353.out 4
       have hfz36_5 := blk_frozen BK353.out 5
       have hfz36_6 := blk_frozen BK353.out 6
       go_wp2_with (first | ((with_reducible refine gate_callee (f := 11) rfl ?_); refine goesL_ (some 28) rfl rfl Try.func11 (by kernel_rfl) rfl #[.agg #[.string a0_0, .int .u16 a0_1, .int .u16 a0_2, .int .u32 a0_3, .slice A0_4 l0_4.length c0_4, .slice A0_5 l0_5.length c0_5, .slice A0_6 l0_6.length c0_6]] rfl (by (try simp only [List.map_toArray, List.map_cons, List.map_nil]); first | done | rfl | (simp only [List.length_drop, List.length_take]; rfl)) ?_; (with_reducible refine (rdata_Check.calls kj4 a0_0 a0_1 a0_2 a0_3 _ _ l0_4 _ _ l0_5 _ _ l0_6 t358 _ ?side1 ?side2 ?side3 ?side4 ?side5 ?side6 A27.out).mono ?_); (case side1 => exact Kd.C_below HR0_4.out (by repeat (first | (with_reducible first | exact HB.out | apply below_alloc | apply pw_below_drewN | apply below_drew1 | refine below_set ?_ GE353.out | refine below_set ?_ GE354.out) | exact HB.out))); (case side2 => exact HC0_4.out); (case side3 => exact Kd.C_below HR0_5.out (by repeat (first | (with_reducible first | exact HB.out | apply below_alloc | apply pw_below_drewN | apply below_drew1 | refine below_set ?_ GE353.out | refine below_set ?_ GE354.out) | exact HB.out))); (case side4 => exact HC0_5.out); (case side5 => exact Kd.C_below HR0_6.out (by repeat (first | (with_reducible first | exact HB.out | apply below_alloc | apply pw_below_drewN | apply below_drew1 | refine below_set ?_ GE353.out | refine below_set ?_ GE354.out) | exact HB.out))); (case side6 => exact HC0_6.out); rintro e w37 ⟨rfl, hb⟩; refine ⟨_, rfl, ?_⟩; have n0_ := Aside0.mk (blk_below (g := gb353) (o := .cells #[.string a0_0, .int .u16 a0_1, .int .u16 a0_2, .int .u32 a0_3, .slice A0_4 l0_4.length c0_4, .slice A0_5 l0_5.length c0_5, .slice A0_6 l0_6.length c0_6] 27 (0, 0)) (by (with_reducible repeat (first | refine blk_drewN ?_ _ | refine blk_drew ?_ | refine blk_alloc ?_ _)); refine blk_far ?_ NB353_354.out _; (with_reducible repeat (first | refine blk_drewN ?_ _ | refine blk_drew ?_ | refine blk_alloc ?_ _)); refine blk_far ?_ NB353_354.out _; (with_reducible repeat (first | refine blk_drewN ?_ _ | refine blk_drew ?_ | refine blk_alloc ?_ _)); refine blk_far ?_ NB353_354.out _; (with_reducible repeat (first | refine blk_drewN ?_ _ | refine blk_drew ?_ | refine blk_alloc ?_ _)); refine blk_far ?_ NB353_354.out _; (with_reducible repeat (first | refine blk_drewN ?_ _ | refine blk_drew ?_ | refine blk_alloc ?_ _)); exact BK353.out) hb); have n1_ := Aside0.mk (blk_below (g := gb354) (o := .cells #[.string a0_0, .int .u16 a0_1, .int .u16 a0_2, .int .u32 a0_3, .slice A1_4 l1_4.length c1_4, .slice A1_5 l1_5.length c1_5, .slice A1_6 l1_6.length c1_6] 27 (0, 0)) (by (with_reducible repeat (first | refine blk_drewN ?_ _ | refine blk_drew ?_ | refine blk_alloc ?_ _)); refine blk_put (cs := #[.string a0_0, .int .u16 a0_1, .int .u16 a0_2, .int .u32 a1_3, .slice A1_4 l1_4.length c1_4, .slice A1_5 l1_5.length c1_5, .slice A1_6 l1_6.length c1_6]) ?_ 3 _ rfl; (with_reducible repeat (first | refine blk_drewN ?_ _ | refine blk_drew ?_ | refine blk_alloc ?_ _)); refine blk_put (cs := #[.string a0_0, .int .u16 a0_1, .int .u16 a1_2, .int .u32 a1_3, .slice A1_4 l1_4.length c1_4, .slice A1_5 l1_5.length c1_5, .slice A1_6 l1_6.length c1_6]) ?_ 2 _ rfl; (with_reducible repeat (first | refine blk_drewN ?_ _ | refine blk_drew ?_ | refine blk_alloc ?_ _)); refine blk_put (cs := #[.string a1_0, .int .u16 a0_1, .int .u16 a1_2, .int .u32 a1_3, .slice A1_4 l1_4.length c1_4, .slice A1_5 l1_5.length c1_5, .slice A1_6 l1_6.length c1_6]) ?_ 0 _ rfl; (with_reducible repeat (first | refine blk_drewN ?_ _ | refine blk_drew ?_ | refine blk_alloc ?_ _)); refine blk_put (cs := #[.string a1_0, .int .u16 a1_1, .int .u16 a1_2, .int .u32 a1_3, .slice A1_4 l1_4.length c1_4, .slice A1_5 l1_5.length c1_5, .slice A1_6 l1_6.length c1_6]) ?_ 1 _ rfl; (with_reducible repeat (first | refine blk_drewN ?_ _ | refine blk_drew ?_ | refine blk_alloc ?_ _)); exact BK354.out) hb); have n2_ := Aside0.mk (below_step (by repeat (first | (with_reducible first | exact HB.out | apply below_alloc | apply pw_below_drewN | apply below_drew1 | refine below_set ?_ GE353.out | refine below_set ?_ GE354.out) | exact HB.out)) hb); clear BK353; clear BK354; clear HB; have BK353 := n0_; have BK354 := n1_; have HB := n2_; clear n0_ n1_ n2_; (try clear hb); (try clear hb2); (try clear hk); (try clear hi)))
       go_meet
       case rel => exact ⟨_, (true), (by first | rfl | (simp; done) | (simp [*]; done)), H', ⟨by have := HJ4.out; first | omega | exact Nat.le_refl _⟩, ⟨by (with_reducible repeat (first | refine blk_drewN ?_ _ | refine blk_drew ?_ | refine blk_alloc ?_ _)); exact BK353.out⟩, ⟨by (with_reducible repeat (first | refine blk_drewN ?_ _ | refine blk_drew ?_ | refine blk_alloc ?_ _)); exact BK354.out⟩, ⟨by repeat (first | (with_reducible first | exact HB.out | apply below_alloc | apply pw_below_drewN | apply below_drew1 | refine below_set ?_ GE353.out | refine below_set ?_ GE354.out) | exact HB.out)⟩⟩
     case rest =>
      clear HC21
      try clear c1
      try clear c2
      try clear p2
      try clear c3
      try clear c4
      try clear c5
      try clear c7
      try clear c8
      try clear c10
      try clear c11
      try clear c12
      try clear c17
      try clear c20
      try clear c28
      try clear c28b0
      try clear c28b1
      try clear c30
      try clear c35
      try clear hcz13_0
      try clear hcz13_1
      try clear hcz13_2
      try clear hcz13_3
      try clear hcz13_4
      try clear hcz13_5
      try clear hcz13_6
      try clear hcz15_0
      try clear hcz15_1
      try clear hcz15_2
      try clear hcz15_3
      try clear hcz15_4
      try clear hcz15_5
      try clear hcz15_6
      try clear hcz18_0
      try clear hcz18_1
      try clear hcz18_2
      try clear hcz18_3
      try clear hcz18_4
      try clear hcz18_5
      try clear hcz18_6
      try clear hcz31_0
      try clear hcz31_1
      try clear hcz31_2
      try clear hcz31_3
      try clear hcz31_4
      try clear hcz31_5
      try clear hcz31_6
      try clear hcz33_0
      try clear hcz33_1
      try clear hcz33_2
      try clear hcz33_3
      try clear hcz33_4
      try clear hcz33_5
      try clear hcz33_6
      try clear hcz36_0
      try clear hcz36_1
      try clear hcz36_2
      try clear hcz36_3
      try clear hcz36_4
      try clear hcz36_5
      try clear hcz36_6
      try clear hfz13_0
      try clear hfz13_1
      try clear hfz13_2
      try clear hfz13_3
      try clear hfz13_4
      try clear hfz13_5
      try clear hfz13_6
      try clear hfz15_0
      try clear hfz15_1
      try clear hfz15_2
      try clear hfz15_3
      try clear hfz15_4
      try clear hfz15_5
      try clear hfz15_6
      try clear hfz18_0
      try clear hfz18_1
      try clear hfz18_2
      try clear hfz18_3
      try clear hfz18_4
      try clear hfz18_5
      try clear hfz18_6
      try clear hfz31_0
      try clear hfz31_1
      try clear hfz31_2
      try clear hfz31_3
      try clear hfz31_4
      try clear hfz31_5
      try clear hfz31_6
      try clear hfz33_0
      try clear hfz33_1
      try clear hfz33_2
      try clear hfz33_3
      try clear hfz33_4
      try clear hfz33_5
      try clear hfz33_6
      try clear hfz36_0
      try clear hfz36_1
      try clear hfz36_2
      try clear hfz36_3
      try clear hfz36_4
      try clear hfz36_5
      try clear hfz36_6
      try clear p2
      obtain ⟨kq, x34_20, rfl, HA, HJ20, BK353, BK354, HB⟩ := hcut
      cases kq with
      | zero => exact absurd HA.out (by simp [nunciolaw05_DataOne.j1])
      | succ kj20 =>
       have H := HA.out
       clear HA
       simp only [nunciolaw05_DataOne.j1] at H
       by_cases c38 : x34_20 = true
       ·
        subst c38
        have H1 : ((rdata_Check.f kj20 a0_0 a0_1 a0_2 a0_3 l0_4 l0_5 l0_6).bind fun t360 => (if t360 = 0 then (some true) else ((rdata_Plain.f kj20 a0_0 a0_1 a0_2 a0_3 l0_4 l0_5 l0_6).bind fun t361 => (some (t361.toList == ([] : List UInt8)))))) = some r := by rw [if_pos rfl] at H; exact H
        clear H
        have H := H1
        clear H1
        replace H := Option.bind_eq_some_iff.mp H
        obtain ⟨t360, A390, H⟩ := H
        replace H : (if t360 = 0 then (some true) else ((rdata_Plain.f kj20 a0_0 a0_1 a0_2 a0_3 l0_4 l0_5 l0_6).bind fun t361 => (some (t361.toList == ([] : List UInt8))))) = some r := H
        have A39 := Aside0.mk A390
        clear A390
        by_cases c40 : t360 = 0
        ·
         rw [if_pos c40] at H
         have c40b0 : (t360 == 0) = true := beq_iff_eq.mpr c40
         have c40b1 : (t360 != 0) = false := bne_eq_false_iff_eq.mpr c40
         clear c40
         obtain rfl := Option.some.inj H
         have hnb41 := NB353_354.out
         have hnc41 := NB354_353.out
         have hcz42_0 : wc.cell? ⟨gb353, 0, none⟩ = some (.string a0_0) := (blk_cell BK353.out 0).trans rfl
         have hcz42_1 : wc.cell? ⟨gb353, 1, none⟩ = some (.int .u16 a0_1) := (blk_cell BK353.out 1).trans rfl
         have hcz42_2 : wc.cell? ⟨gb353, 2, none⟩ = some (.int .u16 a0_2) := (blk_cell BK353.out 2).trans rfl
         have hcz42_3 : wc.cell? ⟨gb353, 3, none⟩ = some (.int .u32 a0_3) := (blk_cell BK353.out 3).trans rfl
         have hcz42_4 : wc.cell? ⟨gb353, 4, none⟩ = some (.slice A0_4 l0_4.length c0_4) := (blk_cell BK353.out 4).trans rfl
         have hcz42_5 : wc.cell? ⟨gb353, 5, none⟩ = some (.slice A0_5 l0_5.length c0_5) := (blk_cell BK353.out 5).trans rfl
         have hcz42_6 : wc.cell? ⟨gb353, 6, none⟩ = some (.slice A0_6 l0_6.length c0_6) := (blk_cell BK353.out 6).trans rfl
         have hfz42_0 := blk_frozen BK353.out 0
         have hfz42_1 := blk_frozen BK353.out 1
         have hfz42_2 := blk_frozen BK353.out 2
         have hfz42_3 := blk_frozen BK353.out 3
         have hfz42_4 := blk_frozen BK353.out 4
         have hfz42_5 := blk_frozen BK353.out 5
         have hfz42_6 := blk_frozen BK353.out 6
         go_wp2_with (first | ((with_reducible refine gate_callee (f := 11) rfl ?_); refine goesL_ (some 36) rfl rfl Try.func11 (by kernel_rfl) rfl #[.agg #[.string a0_0, .int .u16 a0_1, .int .u16 a0_2, .int .u32 a0_3, .slice A0_4 l0_4.length c0_4, .slice A0_5 l0_5.length c0_5, .slice A0_6 l0_6.length c0_6]] rfl (by (try simp only [List.map_toArray, List.map_cons, List.map_nil]); first | done | rfl | (simp only [List.length_drop, List.length_take]; rfl)) ?_; (with_reducible refine (rdata_Check.calls kj20 a0_0 a0_1 a0_2 a0_3 _ _ l0_4 _ _ l0_5 _ _ l0_6 t360 _ ?side1 ?side2 ?side3 ?side4 ?side5 ?side6 A39.out).mono ?_); (case side1 => repeat (first | exact (Kd.C_below HR0_4.out HB.out) | (with_reducible refine Kd.C_alloc ?_ _) | (with_reducible refine Kd.C_drewN ?_ _) | (with_reducible refine Kd.C_drew ?_))); (case side2 => exact HC0_4.out); (case side3 => repeat (first | exact (Kd.C_below HR0_5.out HB.out) | (with_reducible refine Kd.C_alloc ?_ _) | (with_reducible refine Kd.C_drewN ?_ _) | (with_reducible refine Kd.C_drew ?_))); (case side4 => exact HC0_5.out); (case side5 => repeat (first | exact (Kd.C_below HR0_6.out HB.out) | (with_reducible refine Kd.C_alloc ?_ _) | (with_reducible refine Kd.C_drewN ?_ _) | (with_reducible refine Kd.C_drew ?_))); (case side6 => exact HC0_6.out); rintro e w43 ⟨rfl, hb⟩; refine ⟨_, rfl, ?_⟩; have n0_ := Aside0.mk (blk_below (g := gb353) (o := .cells #[.string a0_0, .int .u16 a0_1, .int .u16 a0_2, .int .u32 a0_3, .slice A0_4 l0_4.length c0_4, .slice A0_5 l0_5.length c0_5, .slice A0_6 l0_6.length c0_6] 27 (0, 0)) (by (with_reducible repeat (first | refine blk_drewN ?_ _ | refine blk_drew ?_ | refine blk_alloc ?_ _)); exact BK353.out) hb); have n1_ := Aside0.mk (blk_below (g := gb354) (o := .cells #[.string a0_0, .int .u16 a0_1, .int .u16 a0_2, .int .u32 a0_3, .slice A1_4 l1_4.length c1_4, .slice A1_5 l1_5.length c1_5, .slice A1_6 l1_6.length c1_6] 27 (0, 0)) (by (with_reducible repeat (first | refine blk_drewN ?_ _ | refine blk_drew ?_ | refine blk_alloc ?_ _)); exact BK354.out) hb); have n2_ := Aside0.mk (below_step (by repeat (first | (with_reducible first | exact HB.out | apply below_alloc | apply pw_below_drewN | apply below_drew1 | refine below_set ?_ GE353.out | refine below_set ?_ GE354.out) | exact HB.out)) hb); clear BK353; clear BK354; clear HB; have BK353 := n0_; have BK354 := n1_; have HB := n2_; clear n0_ n1_ n2_; (try clear hb); (try clear hb2); (try clear hk); (try clear hi)))
         go_ret
         exact ⟨by first | rfl | (simp [errW_none, errW_some] <;> rfl) | (simp [*, errW_none, errW_some] <;> rfl), by repeat (first | (with_reducible first | exact HB.out | apply below_alloc | apply pw_below_drewN | apply below_drew1 | refine below_set ?_ GE353.out | refine below_set ?_ GE354.out) | exact HB.out)⟩
        ·
         rw [if_neg c40] at H
         have c40b0 : (t360 == 0) = false := beq_eq_false_iff_ne.mpr c40
         have c40b1 : (t360 != 0) = true := bne_iff_ne.mpr c40
         replace H := Option.bind_eq_some_iff.mp H
         obtain ⟨t361, A440, H⟩ := H
         replace H : (some (t361.toList == ([] : List UInt8))) = some r := H
         have A44 := Aside0.mk A440
         clear A440
         obtain rfl := Option.some.inj H
         have hnb45 := NB353_354.out
         have hnc45 := NB354_353.out
         have hcz46_0 : wc.cell? ⟨gb353, 0, none⟩ = some (.string a0_0) := (blk_cell BK353.out 0).trans rfl
         have hcz46_1 : wc.cell? ⟨gb353, 1, none⟩ = some (.int .u16 a0_1) := (blk_cell BK353.out 1).trans rfl
         have hcz46_2 : wc.cell? ⟨gb353, 2, none⟩ = some (.int .u16 a0_2) := (blk_cell BK353.out 2).trans rfl
         have hcz46_3 : wc.cell? ⟨gb353, 3, none⟩ = some (.int .u32 a0_3) := (blk_cell BK353.out 3).trans rfl
         have hcz46_4 : wc.cell? ⟨gb353, 4, none⟩ = some (.slice A0_4 l0_4.length c0_4) := (blk_cell BK353.out 4).trans rfl
         have hcz46_5 : wc.cell? ⟨gb353, 5, none⟩ = some (.slice A0_5 l0_5.length c0_5) := (blk_cell BK353.out 5).trans rfl
         have hcz46_6 : wc.cell? ⟨gb353, 6, none⟩ = some (.slice A0_6 l0_6.length c0_6) := (blk_cell BK353.out 6).trans rfl
         have hfz46_0 := blk_frozen BK353.out 0
         have hfz46_1 := blk_frozen BK353.out 1
         have hfz46_2 := blk_frozen BK353.out 2
         have hfz46_3 := blk_frozen BK353.out 3
         have hfz46_4 := blk_frozen BK353.out 4
         have hfz46_5 := blk_frozen BK353.out 5
         have hfz46_6 := blk_frozen BK353.out 6
         go_wp2_with (first | ((with_reducible refine gate_callee (f := 11) rfl ?_); refine goesL_ (some 36) rfl rfl Try.func11 (by kernel_rfl) rfl #[.agg #[.string a0_0, .int .u16 a0_1, .int .u16 a0_2, .int .u32 a0_3, .slice A0_4 l0_4.length c0_4, .slice A0_5 l0_5.length c0_5, .slice A0_6 l0_6.length c0_6]] rfl (by (try simp only [List.map_toArray, List.map_cons, List.map_nil]); first | done | rfl | (simp only [List.length_drop, List.length_take]; rfl)) ?_; (with_reducible refine (rdata_Check.calls kj20 a0_0 a0_1 a0_2 a0_3 _ _ l0_4 _ _ l0_5 _ _ l0_6 t360 _ ?side1 ?side2 ?side3 ?side4 ?side5 ?side6 A39.out).mono ?_); (case side1 => repeat (first | exact (Kd.C_below HR0_4.out HB.out) | (with_reducible refine Kd.C_alloc ?_ _) | (with_reducible refine Kd.C_drewN ?_ _) | (with_reducible refine Kd.C_drew ?_))); (case side2 => exact HC0_4.out); (case side3 => repeat (first | exact (Kd.C_below HR0_5.out HB.out) | (with_reducible refine Kd.C_alloc ?_ _) | (with_reducible refine Kd.C_drewN ?_ _) | (with_reducible refine Kd.C_drew ?_))); (case side4 => exact HC0_5.out); (case side5 => repeat (first | exact (Kd.C_below HR0_6.out HB.out) | (with_reducible refine Kd.C_alloc ?_ _) | (with_reducible refine Kd.C_drewN ?_ _) | (with_reducible refine Kd.C_drew ?_))); (case side6 => exact HC0_6.out); rintro e w47 ⟨rfl, hb⟩; refine ⟨_, rfl, ?_⟩; have n0_ := Aside0.mk (blk_below (g := gb353) (o := .cells #[.string a0_0, .int .u16 a0_1, .int .u16 a0_2, .int .u32 a0_3, .slice A0_4 l0_4.length c0_4, .slice A0_5 l0_5.length c0_5, .slice A0_6 l0_6.length c0_6] 27 (0, 0)) (by (with_reducible repeat (first | refine blk_drewN ?_ _ | refine blk_drew ?_ | refine blk_alloc ?_ _)); exact BK353.out) hb); have n1_ := Aside0.mk (blk_below (g := gb354) (o := .cells #[.string a0_0, .int .u16 a0_1, .int .u16 a0_2, .int .u32 a0_3, .slice A1_4 l1_4.length c1_4, .slice A1_5 l1_5.length c1_5, .slice A1_6 l1_6.length c1_6] 27 (0, 0)) (by (with_reducible repeat (first | refine blk_drewN ?_ _ | refine blk_drew ?_ | refine blk_alloc ?_ _)); exact BK354.out) hb); have n2_ := Aside0.mk (below_step (by repeat (first | (with_reducible first | exact HB.out | apply below_alloc | apply pw_below_drewN | apply below_drew1 | refine below_set ?_ GE353.out | refine below_set ?_ GE354.out) | exact HB.out)) hb); clear BK353; clear BK354; clear HB; have BK353 := n0_; have BK354 := n1_; have HB := n2_; clear n0_ n1_ n2_; (try clear hb); (try clear hb2); (try clear hk); (try clear hi); have hcz48_0 : w47.cell? ⟨gb353, 0, none⟩ = some (.string a0_0) := (blk_cell BK353.out 0).trans rfl; have hcz48_1 : w47.cell? ⟨gb353, 1, none⟩ = some (.int .u16 a0_1) := (blk_cell BK353.out 1).trans rfl; have hcz48_2 : w47.cell? ⟨gb353, 2, none⟩ = some (.int .u16 a0_2) := (blk_cell BK353.out 2).trans rfl; have hcz48_3 : w47.cell? ⟨gb353, 3, none⟩ = some (.int .u32 a0_3) := (blk_cell BK353.out 3).trans rfl; have hcz48_4 : w47.cell? ⟨gb353, 4, none⟩ = some (.slice A0_4 l0_4.length c0_4) := (blk_cell BK353.out 4).trans rfl; have hcz48_5 : w47.cell? ⟨gb353, 5, none⟩ = some (.slice A0_5 l0_5.length c0_5) := (blk_cell BK353.out 5).trans rfl; have hcz48_6 : w47.cell? ⟨gb353, 6, none⟩ = some (.slice A0_6 l0_6.length c0_6) := (blk_cell BK353.out 6).trans rfl; have hfz48_0 := blk_frozen BK353.out 0; have hfz48_1 := blk_frozen BK353.out 1; have hfz48_2 := blk_frozen BK353.out 2; have hfz48_3 := blk_frozen BK353.out 3; have hfz48_4 := blk_frozen BK353.out 4; have hfz48_5 := blk_frozen BK353.out 5; have hfz48_6 := blk_frozen BK353.out 6) | (go_at_call 13; (with_reducible refine (rdata_Plain.calls kj20 a0_0 a0_1 a0_2 a0_3 _ _ l0_4 _ _ l0_5 _ _ l0_6 t361 _ ?side1 ?side2 ?side3 ?side4 ?side5 ?side6 A44.out).mono ?_); (case side1 => repeat (first | exact (Kd.C_below HR0_4.out HB.out) | (with_reducible refine Kd.C_alloc ?_ _) | (with_reducible refine Kd.C_drewN ?_ _) | (with_reducible refine Kd.C_drew ?_))); (case side2 => exact HC0_4.out); (case side3 => repeat (first | exact (Kd.C_below HR0_5.out HB.out) | (with_reducible refine Kd.C_alloc ?_ _) | (with_reducible refine Kd.C_drewN ?_ _) | (with_reducible refine Kd.C_drew ?_))); (case side4 => exact HC0_5.out); (case side5 => repeat (first | exact (Kd.C_below HR0_6.out HB.out) | (with_reducible refine Kd.C_alloc ?_ _) | (with_reducible refine Kd.C_drewN ?_ _) | (with_reducible refine Kd.C_drew ?_))); (case side6 => exact HC0_6.out); rintro e w49 ⟨rfl, hb⟩; have n0_ := Aside0.mk (blk_below (g := gb353) (o := .cells #[.string a0_0, .int .u16 a0_1, .int .u16 a0_2, .int .u32 a0_3, .slice A0_4 l0_4.length c0_4, .slice A0_5 l0_5.length c0_5, .slice A0_6 l0_6.length c0_6] 27 (0, 0)) (by (with_reducible repeat (first | refine blk_drewN ?_ _ | refine blk_drew ?_ | refine blk_alloc ?_ _)); exact BK353.out) hb); have n1_ := Aside0.mk (blk_below (g := gb354) (o := .cells #[.string a0_0, .int .u16 a0_1, .int .u16 a0_2, .int .u32 a0_3, .slice A1_4 l1_4.length c1_4, .slice A1_5 l1_5.length c1_5, .slice A1_6 l1_6.length c1_6] 27 (0, 0)) (by (with_reducible repeat (first | refine blk_drewN ?_ _ | refine blk_drew ?_ | refine blk_alloc ?_ _)); exact BK354.out) hb); have n2_ := Aside0.mk (below_step (by repeat (first | (with_reducible first | exact HB.out | apply below_alloc | apply pw_below_drewN | apply below_drew1 | refine below_set ?_ GE353.out | refine below_set ?_ GE354.out) | exact HB.out)) hb); clear BK353; clear BK354; clear HB; have BK353 := n0_; have BK354 := n1_; have HB := n2_; clear n0_ n1_ n2_; (try clear hb); (try clear hb2); (try clear hk); (try clear hi)))
         go_ret
         exact ⟨by first | rfl | (simp [errW_none, errW_some] <;> rfl) | (simp [*, errW_none, errW_some] <;> rfl), by repeat (first | (with_reducible first | exact HB.out | apply below_alloc | apply pw_below_drewN | apply below_drew1 | refine below_set ?_ GE353.out | refine below_set ?_ GE354.out) | exact HB.out)⟩
       ·
        replace c38 := Bool.eq_false_iff.mpr c38
        subst c38
        have H1 : ((rdata_Plain.f kj20 a0_0 a0_1 a0_2 a0_3 l0_4 l0_5 l0_6).bind fun t362 => ((rdata_Plain.f kj20 a0_0 a0_1 a0_2 a0_3 l1_4 l1_5 l1_6).bind fun t363 => ((rdata_Same.f kj20 a0_0 a0_1 a0_2 a0_3 l0_4 l0_5 l0_6 a0_0 a0_1 a0_2 a0_3 l1_4 l1_5 l1_6).bind fun t364 => (some ((t362.toList == t363.toList) == t364))))) = some r := by rw [if_neg (show ¬ (false = true) by decide)] at H; exact H
        clear H
        have H := H1
        clear H1
        replace H := Option.bind_eq_some_iff.mp H
        obtain ⟨t362, A500, H⟩ := H
        replace H : ((rdata_Plain.f kj20 a0_0 a0_1 a0_2 a0_3 l1_4 l1_5 l1_6).bind fun t363 => ((rdata_Same.f kj20 a0_0 a0_1 a0_2 a0_3 l0_4 l0_5 l0_6 a0_0 a0_1 a0_2 a0_3 l1_4 l1_5 l1_6).bind fun t364 => (some ((t362.toList == t363.toList) == t364)))) = some r := H
        have A50 := Aside0.mk A500
        clear A500
        replace H := Option.bind_eq_some_iff.mp H
        obtain ⟨t363, A510, H⟩ := H
        replace H : ((rdata_Same.f kj20 a0_0 a0_1 a0_2 a0_3 l0_4 l0_5 l0_6 a0_0 a0_1 a0_2 a0_3 l1_4 l1_5 l1_6).bind fun t364 => (some ((t362.toList == t363.toList) == t364))) = some r := H
        have A51 := Aside0.mk A510
        clear A510
        replace H := Option.bind_eq_some_iff.mp H
        obtain ⟨t364, A520, H⟩ := H
        replace H : (some ((t362.toList == t363.toList) == t364)) = some r := H
        have A52 := Aside0.mk A520
        clear A520
        obtain rfl := Option.some.inj H
        try go_wp2
        have n0_ := Aside0.mk (blk_drew BK353.out)
        have n1_ := Aside0.mk (blk_drew BK354.out)
        have n2_ := Aside0.mk (below_drew1 HB.out)
        clear BK353
        clear BK354
        clear HB
        have BK353 := n0_
        have BK354 := n1_
        have HB := n2_
        clear n0_ n1_ n2_
        refine start_ (n := 10) (S := fun w' => w'.cell? ⟨gb353, 0, none⟩ = some (.string a0_0) ∧ w'.cell? ⟨gb353, 1, none⟩ = some (.int .u16 a0_1) ∧ w'.cell? ⟨gb353, 2, none⟩ = some (.int .u16 a0_2) ∧ w'.cell? ⟨gb353, 3, none⟩ = some (.int .u32 a0_3) ∧ w'.cell? ⟨gb353, 4, none⟩ = some (.slice A0_4 l0_4.length c0_4) ∧ w'.cell? ⟨gb353, 5, none⟩ = some (.slice A0_5 l0_5.length c0_5) ∧ w'.cell? ⟨gb353, 6, none⟩ = some (.slice A0_6 l0_6.length c0_6) ∧ w'.cell? ⟨gb354, 0, none⟩ = some (.string a0_0) ∧ w'.cell? ⟨gb354, 1, none⟩ = some (.int .u16 a0_1) ∧ w'.cell? ⟨gb354, 2, none⟩ = some (.int .u16 a0_2) ∧ w'.cell? ⟨gb354, 3, none⟩ = some (.int .u32 a0_3) ∧ w'.cell? ⟨gb354, 4, none⟩ = some (.slice A1_4 l1_4.length c1_4) ∧ w'.cell? ⟨gb354, 5, none⟩ = some (.slice A1_5 l1_5.length c1_5) ∧ w'.cell? ⟨gb354, 6, none⟩ = some (.slice A1_6 l1_6.length c1_6)) (ds := []) #[false, false, false, false, false, false, false, false, false, false] (by kernel_rfl) rfl rfl ⟨(blk_cell BK353.out 0).trans rfl, (blk_cell BK353.out 1).trans rfl, (blk_cell BK353.out 2).trans rfl, (blk_cell BK353.out 3).trans rfl, (blk_cell BK353.out 4).trans rfl, (blk_cell BK353.out 5).trans rfl, (blk_cell BK353.out 6).trans rfl, (blk_cell BK354.out 0).trans rfl, (blk_cell BK354.out 1).trans rfl, (blk_cell BK354.out 2).trans rfl, (blk_cell BK354.out 3).trans rfl, (blk_cell BK354.out 4).trans rfl, (blk_cell BK354.out 5).trans rfl, (blk_cell BK354.out 6).trans rfl⟩ (fun hHeld => ?_); refine with_tabW nunciolaw05_DataOne.tab8 nunciolaw05_DataOne.bits8 (fun HT_ HW_ => ?_)
        generalize wc.drew = w53 at BK353 BK354 HB hHeld ⊢
        refine take_ (i := 0) (N := some 43) (v := ?_) (a' := ?_) #[true, false, false, false, false, false, false, false, false, false] rfl rfl (take_ofW HT_.out HW_.out (by kernel_rfl)) (fun _ _ _ h => h) (Or.inl ⟨by rfl, ?_⟩) hHeld ?_ ?_
        rotate_left
        ·
         rintro w' ⟨s0, s1, s2, s3, s4, s5, s6, s7, s8, s9, s10, s11, s12, s13⟩
         go_simp
         with_reducible rfl
        rotate_left
        ·
         simp only [Act.put, List.setIfInBounds_toArray, List.set_cons_zero, List.set_cons_succ, i64_w, i32_w]
         rfl
        refine take_ (i := 2) (N := some 45) (v := ?_) (a' := ?_) #[true, false, true, false, false, false, false, false, false, false] rfl rfl (take_ofW HT_.out HW_.out (by kernel_rfl)) (fun _ _ _ h => h) (Or.inl ⟨by rfl, ?_⟩) hHeld ?_ ?_
        rotate_left
        ·
         rintro w' ⟨s0, s1, s2, s3, s4, s5, s6, s7, s8, s9, s10, s11, s12, s13⟩
         go_simp
         with_reducible rfl
        rotate_left
        ·
         simp only [Act.put, List.setIfInBounds_toArray, List.set_cons_zero, List.set_cons_succ, i64_w, i32_w]
         rfl
        refine take_ (i := 5) (N := some 48) (v := ?_) (a' := ?_) #[true, false, true, false, false, true, false, false, false, false] rfl rfl (take_ofW HT_.out HW_.out (by kernel_rfl)) (fun _ _ _ h => h) (Or.inl ⟨by rfl, ?_⟩) hHeld ?_ ?_
        rotate_left
        ·
         rintro w' ⟨s0, s1, s2, s3, s4, s5, s6, s7, s8, s9, s10, s11, s12, s13⟩
         go_simp
         with_reducible rfl
        rotate_left
        ·
         simp only [Act.put, List.setIfInBounds_toArray, List.set_cons_zero, List.set_cons_succ, i64_w, i32_w]
         rfl
        refine take_ (i := 6) (N := some 49) (v := ?_) (a' := ?_) #[true, false, true, false, false, true, true, false, false, false] rfl rfl (take_ofW HT_.out HW_.out (by kernel_rfl)) (fun _ _ _ h => h) (Or.inl ⟨by rfl, ?_⟩) hHeld ?_ ?_
        rotate_left
        ·
         rintro w' ⟨s0, s1, s2, s3, s4, s5, s6, s7, s8, s9, s10, s11, s12, s13⟩
         go_simp
         with_reducible rfl
        rotate_left
        ·
         simp only [Act.put, List.setIfInBounds_toArray, List.set_cons_zero, List.set_cons_succ, i64_w, i32_w]
         rfl
        refine one_ (i := 1) (N := some 44) #[true, true, true, false, false, true, true, false, false, false] rfl rfl (one_of HT_.out (by kernel_rfl)) (by decide) (fun K hK => ?_)
        refine goes_ Try.func13 (by kernel_rfl) rfl #[.agg #[.string a0_0, .int .u16 a0_1, .int .u16 a0_2, .int .u32 a0_3, .slice A0_4 l0_4.length c0_4, .slice A0_5 l0_5.length c0_5, .slice A0_6 l0_6.length c0_6]] (by rfl) rfl rfl (by (try simp only [List.map_toArray, List.map_cons, List.map_nil]); first | done | rfl | (simp only [List.length_drop, List.length_take]; rfl)) ?_
        with_reducible refine (rdata_Plain.calls kj20 a0_0 a0_1 a0_2 a0_3 _ _ l0_4 _ _ l0_5 _ _ l0_6 t362 _ ?side1 ?side2 ?side3 ?side4 ?side5 ?side6 A50.out).mono ?_
        (case side1 => repeat (first | exact (Kd.C_below HR0_4.out HB.out) | (with_reducible refine Kd.C_alloc ?_ _) | (with_reducible refine Kd.C_drewN ?_ _) | (with_reducible refine Kd.C_drew ?_)))
        (case side2 => exact HC0_4.out)
        (case side3 => repeat (first | exact (Kd.C_below HR0_5.out HB.out) | (with_reducible refine Kd.C_alloc ?_ _) | (with_reducible refine Kd.C_drewN ?_ _) | (with_reducible refine Kd.C_drew ?_)))
        (case side4 => exact HC0_5.out)
        (case side5 => repeat (first | exact (Kd.C_below HR0_6.out HB.out) | (with_reducible refine Kd.C_alloc ?_ _) | (with_reducible refine Kd.C_drewN ?_ _) | (with_reducible refine Kd.C_drew ?_)))
        (case side6 => exact HC0_6.out)
        rintro e w54 ⟨rfl, hb⟩
        refine ⟨_, rfl, ?_⟩
        have n0_ := Aside0.mk (blk_below (g := gb353) (o := .cells #[.string a0_0, .int .u16 a0_1, .int .u16 a0_2, .int .u32 a0_3, .slice A0_4 l0_4.length c0_4, .slice A0_5 l0_5.length c0_5, .slice A0_6 l0_6.length c0_6] 27 (0, 0)) (by (with_reducible repeat (first | refine blk_drewN ?_ _ | refine blk_drew ?_ | refine blk_alloc ?_ _)); exact BK353.out) hb)
        have n1_ := Aside0.mk (blk_below (g := gb354) (o := .cells #[.string a0_0, .int .u16 a0_1, .int .u16 a0_2, .int .u32 a0_3, .slice A1_4 l1_4.length c1_4, .slice A1_5 l1_5.length c1_5, .slice A1_6 l1_6.length c1_6] 27 (0, 0)) (by (with_reducible repeat (first | refine blk_drewN ?_ _ | refine blk_drew ?_ | refine blk_alloc ?_ _)); exact BK354.out) hb)
        have n2_ := Aside0.mk (below_step (by repeat (first | (with_reducible first | exact HB.out | apply below_alloc | apply pw_below_drewN | apply below_drew1 | refine below_set ?_ GE353.out | refine below_set ?_ GE354.out) | exact HB.out)) hb)
        clear BK353
        clear BK354
        clear HB
        have BK353 := n0_
        have BK354 := n1_
        have HB := n2_
        clear n0_ n1_ n2_
        (try clear hb)
        (try clear hb2)
        (try clear hk)
        (try clear hi)
        refine hK.out _ _ ⟨(blk_cell BK353.out 0).trans rfl, (blk_cell BK353.out 1).trans rfl, (blk_cell BK353.out 2).trans rfl, (blk_cell BK353.out 3).trans rfl, (blk_cell BK353.out 4).trans rfl, (blk_cell BK353.out 5).trans rfl, (blk_cell BK353.out 6).trans rfl, (blk_cell BK354.out 0).trans rfl, (blk_cell BK354.out 1).trans rfl, (blk_cell BK354.out 2).trans rfl, (blk_cell BK354.out 3).trans rfl, (blk_cell BK354.out 4).trans rfl, (blk_cell BK354.out 5).trans rfl, (blk_cell BK354.out 6).trans rfl⟩ (fun hHeld => ?_)
        clear hK K
        refine norm_ (a' := ?_) ?_ ?_
        rotate_left
        ·
         show Act.put _ (some 44) _ = _
         simp only [Act.put, List.setIfInBounds_toArray, List.set_cons_zero, List.set_cons_succ, i64_w, i32_w]
         rfl
        refine one_ (i := 3) (N := some 46) #[true, true, true, true, false, true, true, false, false, false] rfl rfl (one_of HT_.out (by kernel_rfl)) (by decide) (fun K hK => ?_)
        refine goes_ Try.func13 (by kernel_rfl) rfl #[.agg #[.string a0_0, .int .u16 a0_1, .int .u16 a0_2, .int .u32 a0_3, .slice A1_4 l1_4.length c1_4, .slice A1_5 l1_5.length c1_5, .slice A1_6 l1_6.length c1_6]] (by rfl) rfl rfl (by (try simp only [List.map_toArray, List.map_cons, List.map_nil]); first | done | rfl | (simp only [List.length_drop, List.length_take]; rfl)) ?_
        with_reducible refine (rdata_Plain.calls kj20 a0_0 a0_1 a0_2 a0_3 _ _ l1_4 _ _ l1_5 _ _ l1_6 t363 _ ?side1 ?side2 ?side3 ?side4 ?side5 ?side6 A51.out).mono ?_
        (case side1 => repeat (first | exact (Kd.C_below HR1_4.out HB.out) | (with_reducible refine Kd.C_alloc ?_ _) | (with_reducible refine Kd.C_drewN ?_ _) | (with_reducible refine Kd.C_drew ?_)))
        (case side2 => exact HC1_4.out)
        (case side3 => repeat (first | exact (Kd.C_below HR1_5.out HB.out) | (with_reducible refine Kd.C_alloc ?_ _) | (with_reducible refine Kd.C_drewN ?_ _) | (with_reducible refine Kd.C_drew ?_)))
        (case side4 => exact HC1_5.out)
        (case side5 => repeat (first | exact (Kd.C_below HR1_6.out HB.out) | (with_reducible refine Kd.C_alloc ?_ _) | (with_reducible refine Kd.C_drewN ?_ _) | (with_reducible refine Kd.C_drew ?_)))
        (case side6 => exact HC1_6.out)
        rintro e w55 ⟨rfl, hb⟩
        refine ⟨_, rfl, ?_⟩
        have n0_ := Aside0.mk (blk_below (g := gb353) (o := .cells #[.string a0_0, .int .u16 a0_1, .int .u16 a0_2, .int .u32 a0_3, .slice A0_4 l0_4.length c0_4, .slice A0_5 l0_5.length c0_5, .slice A0_6 l0_6.length c0_6] 27 (0, 0)) (by (with_reducible repeat (first | refine blk_drewN ?_ _ | refine blk_drew ?_ | refine blk_alloc ?_ _)); exact BK353.out) hb)
        have n1_ := Aside0.mk (blk_below (g := gb354) (o := .cells #[.string a0_0, .int .u16 a0_1, .int .u16 a0_2, .int .u32 a0_3, .slice A1_4 l1_4.length c1_4, .slice A1_5 l1_5.length c1_5, .slice A1_6 l1_6.length c1_6] 27 (0, 0)) (by (with_reducible repeat (first | refine blk_drewN ?_ _ | refine blk_drew ?_ | refine blk_alloc ?_ _)); exact BK354.out) hb)
        have n2_ := Aside0.mk (below_step (by repeat (first | (with_reducible first | exact HB.out | apply below_alloc | apply pw_below_drewN | apply below_drew1 | refine below_set ?_ GE353.out | refine below_set ?_ GE354.out) | exact HB.out)) hb)
        clear BK353
        clear BK354
        clear HB
        have BK353 := n0_
        have BK354 := n1_
        have HB := n2_
        clear n0_ n1_ n2_
        (try clear hb)
        (try clear hb2)
        (try clear hk)
        (try clear hi)
        refine hK.out _ _ ⟨(blk_cell BK353.out 0).trans rfl, (blk_cell BK353.out 1).trans rfl, (blk_cell BK353.out 2).trans rfl, (blk_cell BK353.out 3).trans rfl, (blk_cell BK353.out 4).trans rfl, (blk_cell BK353.out 5).trans rfl, (blk_cell BK353.out 6).trans rfl, (blk_cell BK354.out 0).trans rfl, (blk_cell BK354.out 1).trans rfl, (blk_cell BK354.out 2).trans rfl, (blk_cell BK354.out 3).trans rfl, (blk_cell BK354.out 4).trans rfl, (blk_cell BK354.out 5).trans rfl, (blk_cell BK354.out 6).trans rfl⟩ (fun hHeld => ?_)
        clear hK K
        refine norm_ (a' := ?_) ?_ ?_
        rotate_left
        ·
         show Act.put _ (some 46) _ = _
         simp only [Act.put, List.setIfInBounds_toArray, List.set_cons_zero, List.set_cons_succ, i64_w, i32_w]
         rfl
        refine pure_ (i := 4) (N := some 47) (v := ?_) (a' := ?_) #[true, true, true, true, true, true, true, false, false, false] rfl rfl (any_of HT_.out (by kernel_rfl)) (fun _ _ _ h => h) (Or.inl ⟨by rfl, ?_⟩) ?_ ?_
        rotate_left
        ·
         intro w'
         go_simp
         with_reducible rfl
        rotate_left
        ·
         simp only [Act.put, List.setIfInBounds_toArray, List.set_cons_zero, List.set_cons_succ, i64_w, i32_w]
         rfl
        refine one_ (i := 7) (N := some 50) #[true, true, true, true, true, true, true, true, false, false] rfl rfl (one_of HT_.out (by kernel_rfl)) (by decide) (fun K hK => ?_)
        refine goes_ Try.func17 (by kernel_rfl) rfl #[.agg #[.string a0_0, .int .u16 a0_1, .int .u16 a0_2, .int .u32 a0_3, .slice A0_4 l0_4.length c0_4, .slice A0_5 l0_5.length c0_5, .slice A0_6 l0_6.length c0_6], .agg #[.string a0_0, .int .u16 a0_1, .int .u16 a0_2, .int .u32 a0_3, .slice A1_4 l1_4.length c1_4, .slice A1_5 l1_5.length c1_5, .slice A1_6 l1_6.length c1_6]] (by rfl) rfl rfl (by (try simp only [List.map_toArray, List.map_cons, List.map_nil]); first | done | rfl | (simp only [List.length_drop, List.length_take]; rfl)) ?_
        with_reducible refine (rdata_Same.calls kj20 a0_0 a0_1 a0_2 a0_3 _ _ l0_4 _ _ l0_5 _ _ l0_6 a0_0 a0_1 a0_2 a0_3 _ _ l1_4 _ _ l1_5 _ _ l1_6 t364 _ ?side1 ?side2 ?side3 ?side4 ?side5 ?side6 ?side7 ?side8 ?side9 ?side10 ?side11 ?side12 A52.out).mono ?_
        (case side1 => repeat (first | exact (Kd.C_below HR0_4.out HB.out) | (with_reducible refine Kd.C_alloc ?_ _) | (with_reducible refine Kd.C_drewN ?_ _) | (with_reducible refine Kd.C_drew ?_)))
        (case side2 => exact HC0_4.out)
        (case side3 => repeat (first | exact (Kd.C_below HR0_5.out HB.out) | (with_reducible refine Kd.C_alloc ?_ _) | (with_reducible refine Kd.C_drewN ?_ _) | (with_reducible refine Kd.C_drew ?_)))
        (case side4 => exact HC0_5.out)
        (case side5 => repeat (first | exact (Kd.C_below HR0_6.out HB.out) | (with_reducible refine Kd.C_alloc ?_ _) | (with_reducible refine Kd.C_drewN ?_ _) | (with_reducible refine Kd.C_drew ?_)))
        (case side6 => exact HC0_6.out)
        (case side7 => repeat (first | exact (Kd.C_below HR1_4.out HB.out) | (with_reducible refine Kd.C_alloc ?_ _) | (with_reducible refine Kd.C_drewN ?_ _) | (with_reducible refine Kd.C_drew ?_)))
        (case side8 => exact HC1_4.out)
        (case side9 => repeat (first | exact (Kd.C_below HR1_5.out HB.out) | (with_reducible refine Kd.C_alloc ?_ _) | (with_reducible refine Kd.C_drewN ?_ _) | (with_reducible refine Kd.C_drew ?_)))
        (case side10 => exact HC1_5.out)
        (case side11 => repeat (first | exact (Kd.C_below HR1_6.out HB.out) | (with_reducible refine Kd.C_alloc ?_ _) | (with_reducible refine Kd.C_drewN ?_ _) | (with_reducible refine Kd.C_drew ?_)))
        (case side12 => exact HC1_6.out)
        rintro e w56 ⟨rfl, hb⟩
        refine ⟨_, rfl, ?_⟩
        have n0_ := Aside0.mk (blk_below (g := gb353) (o := .cells #[.string a0_0, .int .u16 a0_1, .int .u16 a0_2, .int .u32 a0_3, .slice A0_4 l0_4.length c0_4, .slice A0_5 l0_5.length c0_5, .slice A0_6 l0_6.length c0_6] 27 (0, 0)) (by (with_reducible repeat (first | refine blk_drewN ?_ _ | refine blk_drew ?_ | refine blk_alloc ?_ _)); exact BK353.out) hb)
        have n1_ := Aside0.mk (blk_below (g := gb354) (o := .cells #[.string a0_0, .int .u16 a0_1, .int .u16 a0_2, .int .u32 a0_3, .slice A1_4 l1_4.length c1_4, .slice A1_5 l1_5.length c1_5, .slice A1_6 l1_6.length c1_6] 27 (0, 0)) (by (with_reducible repeat (first | refine blk_drewN ?_ _ | refine blk_drew ?_ | refine blk_alloc ?_ _)); exact BK354.out) hb)
        have n2_ := Aside0.mk (below_step (by repeat (first | (with_reducible first | exact HB.out | apply below_alloc | apply pw_below_drewN | apply below_drew1 | refine below_set ?_ GE353.out | refine below_set ?_ GE354.out) | exact HB.out)) hb)
        clear BK353
        clear BK354
        clear HB
        have BK353 := n0_
        have BK354 := n1_
        have HB := n2_
        clear n0_ n1_ n2_
        (try clear hb)
        (try clear hb2)
        (try clear hk)
        (try clear hi)
        refine hK.out _ _ ⟨(blk_cell BK353.out 0).trans rfl, (blk_cell BK353.out 1).trans rfl, (blk_cell BK353.out 2).trans rfl, (blk_cell BK353.out 3).trans rfl, (blk_cell BK353.out 4).trans rfl, (blk_cell BK353.out 5).trans rfl, (blk_cell BK353.out 6).trans rfl, (blk_cell BK354.out 0).trans rfl, (blk_cell BK354.out 1).trans rfl, (blk_cell BK354.out 2).trans rfl, (blk_cell BK354.out 3).trans rfl, (blk_cell BK354.out 4).trans rfl, (blk_cell BK354.out 5).trans rfl, (blk_cell BK354.out 6).trans rfl⟩ (fun hHeld => ?_)
        clear hK K
        refine norm_ (a' := ?_) ?_ ?_
        rotate_left
        ·
         show Act.put _ (some 50) _ = _
         simp only [Act.put, List.setIfInBounds_toArray, List.set_cons_zero, List.set_cons_succ, i64_w, i32_w]
         rfl
        refine pure_ (i := 8) (N := some 51) (v := ?_) (a' := ?_) #[true, true, true, true, true, true, true, true, true, false] rfl rfl (any_of HT_.out (by kernel_rfl)) (fun _ _ _ h => h) (Or.inl ⟨by rfl, ?_⟩) ?_ ?_
        rotate_left
        ·
         intro w'
         go_simp
         with_reducible rfl
        rotate_left
        ·
         simp only [Act.put, List.setIfInBounds_toArray, List.set_cons_zero, List.set_cons_succ, i64_w, i32_w]
         rfl
        refine pure_ (i := 9) (N := some 4) (v := ?_) (a' := ?_) #[true, true, true, true, true, true, true, true, true, true] rfl rfl (any_of HT_.out (by kernel_rfl)) (fun _ _ _ h => h) (Or.inl ⟨by rfl, ?_⟩) ?_ ?_
        rotate_left
        ·
         intro w'
         go_simp
         with_reducible rfl
        rotate_left
        ·
         simp only [Act.put, List.setIfInBounds_toArray, List.set_cons_zero, List.set_cons_succ, i64_w, i32_w]
         rfl
        refine done_ (done_of HT_.out (by kernel_rfl)) ?_
        try go_wp2
        go_ret
        exact ⟨by first | rfl | (simp [errW_none, errW_some] <;> rfl) | (simp [*, errW_none, errW_some] <;> rfl), by repeat (first | (with_reducible first | exact HB.out | apply below_alloc | apply pw_below_drewN | apply below_drew1 | refine below_set ?_ GE353.out | refine below_set ?_ GE354.out) | exact HB.out)⟩
 ·
  replace c4 := Bool.eq_false_iff.mpr c4
  subst c4
  have H1 : (some false) = some r := by rw [if_neg (show ¬ (false = true) by decide)] at H; exact H
  clear H
  have H := H1
  clear H1
  exact absurd ((Option.some.inj H).trans HT.out) (by decide)

/-- THE ONE PURE STATEMENT of nunciolaw05_DataOne: yours. -/
def nunciolaw05_DataOne.Pure : Prop := ∀ (a0_0 : ByteArray) (a0_1 : Int) (a0_2 : Int) (a0_3 : Int) (l0_4 : List ByteArray) (l0_5 : List Int) (l0_6 : List ByteArray) (a1_0 : ByteArray) (a1_1 : Int) (a1_2 : Int) (a1_3 : Int) (l1_4 : List ByteArray) (l1_5 : List Int) (l1_6 : List ByteArray), (a0_0.size ≤ 140737488351232) → ((Lit.int .u16 a0_1).wf = true) → ((Lit.int .u16 a0_2).wf = true) → ((Lit.int .u32 a0_3).wf = true) → (l0_4.length ≤ 9223372036854775807 ∧ l0_4.length * 16 ≤ 140737488351232 ∧ ∀ x_ ∈ l0_4, x_.size ≤ 140737488351232) → (l0_5.length ≤ 9223372036854775807 ∧ l0_5.length * 4 ≤ 140737488351232 ∧ ∀ x_ ∈ l0_5, (Lit.int .u32 x_).wf = true) → (l0_6.length ≤ 9223372036854775807 ∧ l0_6.length * 16 ≤ 140737488351232 ∧ ∀ x_ ∈ l0_6, x_.size ≤ 140737488351232) → (a1_0.size ≤ 140737488351232) → ((Lit.int .u16 a1_1).wf = true) → ((Lit.int .u16 a1_2).wf = true) → ((Lit.int .u32 a1_3).wf = true) → (l1_4.length ≤ 9223372036854775807 ∧ l1_4.length * 16 ≤ 140737488351232 ∧ ∀ x_ ∈ l1_4, x_.size ≤ 140737488351232) → (l1_5.length ≤ 9223372036854775807 ∧ l1_5.length * 4 ≤ 140737488351232 ∧ ∀ x_ ∈ l1_5, (Lit.int .u32 x_).wf = true) → (l1_6.length ≤ 9223372036854775807 ∧ l1_6.length * 16 ≤ 140737488351232 ∧ ∀ x_ ∈ l1_6, x_.size ≤ 140737488351232) → ∃ k, nunciolaw05_DataOne.f k a0_0 a0_1 a0_2 a0_3 l0_4 l0_5 l0_6 a1_0 a1_1 a1_2 a1_3 l1_4 l1_5 l1_6 = some true
theorem nunciolaw05_DataOne.walk (P : nunciolaw05_DataOne.Pure) (a0_0 : ByteArray) (a0_1 : Int) (a0_2 : Int) (a0_3 : Int) (A0_4 : Option Addr) (c0_4 : Nat) (l0_4 : List ByteArray) (A0_5 : Option Addr) (c0_5 : Nat) (l0_5 : List Int) (A0_6 : Option Addr) (c0_6 : Nat) (l0_6 : List ByteArray) (a1_0 : ByteArray) (a1_1 : Int) (a1_2 : Int) (a1_3 : Int) (A1_4 : Option Addr) (c1_4 : Nat) (l1_4 : List ByteArray) (A1_5 : Option Addr) (c1_5 : Nat) (l1_5 : List Int) (A1_6 : Option Addr) (c1_6 : Nat) (l1_6 : List ByteArray) (w : World) (hr0_4 : Kd.C Kd.string w A0_4 l0_4.length l0_4) (hc0_4 : l0_4.length ≤ c0_4) (hr0_5 : Kd.C (Kd.int .u32) w A0_5 l0_5.length l0_5) (hc0_5 : l0_5.length ≤ c0_5) (hr0_6 : Kd.C Kd.string w A0_6 l0_6.length l0_6) (hc0_6 : l0_6.length ≤ c0_6) (hr1_4 : Kd.C Kd.string w A1_4 l1_4.length l1_4) (hc1_4 : l1_4.length ≤ c1_4) (hr1_5 : Kd.C (Kd.int .u32) w A1_5 l1_5.length l1_5) (hc1_5 : l1_5.length ≤ c1_5) (hr1_6 : Kd.C Kd.string w A1_6 l1_6.length l1_6) (hc1_6 : l1_6.length ≤ c1_6) (w0_0 : a0_0.size ≤ 140737488351232) (w0_1 : (Lit.int .u16 a0_1).wf = true) (w0_2 : (Lit.int .u16 a0_2).wf = true) (w0_3 : (Lit.int .u32 a0_3).wf = true) (w0_4 : l0_4.length ≤ 9223372036854775807 ∧ l0_4.length * 16 ≤ 140737488351232 ∧ ∀ x_ ∈ l0_4, x_.size ≤ 140737488351232) (w0_5 : l0_5.length ≤ 9223372036854775807 ∧ l0_5.length * 4 ≤ 140737488351232 ∧ ∀ x_ ∈ l0_5, (Lit.int .u32 x_).wf = true) (w0_6 : l0_6.length ≤ 9223372036854775807 ∧ l0_6.length * 16 ≤ 140737488351232 ∧ ∀ x_ ∈ l0_6, x_.size ≤ 140737488351232) (w1_0 : a1_0.size ≤ 140737488351232) (w1_1 : (Lit.int .u16 a1_1).wf = true) (w1_2 : (Lit.int .u16 a1_2).wf = true) (w1_3 : (Lit.int .u32 a1_3).wf = true) (w1_4 : l1_4.length ≤ 9223372036854775807 ∧ l1_4.length * 16 ≤ 140737488351232 ∧ ∀ x_ ∈ l1_4, x_.size ≤ 140737488351232) (w1_5 : l1_5.length ≤ 9223372036854775807 ∧ l1_5.length * 4 ≤ 140737488351232 ∧ ∀ x_ ∈ l1_5, (Lit.int .u32 x_).wf = true) (w1_6 : l1_6.length ≤ 9223372036854775807 ∧ l1_6.length * 16 ≤ 140737488351232 ∧ ∀ x_ ∈ l1_6, x_.size ≤ 140737488351232) :
  Calls Try.prog 5 #[.agg #[.string a0_0, .int .u16 a0_1, .int .u16 a0_2, .int .u32 a0_3, .slice A0_4 l0_4.length c0_4, .slice A0_5 l0_5.length c0_5, .slice A0_6 l0_6.length c0_6], .agg #[.string a1_0, .int .u16 a1_1, .int .u16 a1_2, .int .u32 a1_3, .slice A1_4 l1_4.length c1_4, .slice A1_5 l1_5.length c1_5, .slice A1_6 l1_6.length c1_6]] w fun e w' => e = .returned (.bool true) ∧ Below w.heap.size w w' := by
 obtain ⟨k, h⟩ := P a0_0 a0_1 a0_2 a0_3 l0_4 l0_5 l0_6 a1_0 a1_1 a1_2 a1_3 l1_4 l1_5 l1_6 w0_0 w0_1 w0_2 w0_3 w0_4 w0_5 w0_6 w1_0 w1_1 w1_2 w1_3 w1_4 w1_5 w1_6
 refine (nunciolaw05_DataOne.calls k a0_0 a0_1 a0_2 a0_3 _ _ l0_4 _ _ l0_5 _ _ l0_6 a1_0 a1_1 a1_2 a1_3 _ _ l1_4 _ _ l1_5 _ _ l1_6 true w hr0_4 hc0_4 hr0_5 hc0_5 hr0_6 hc0_6 hr1_4 hc1_4 hr1_5 hc1_5 hr1_6 hc1_6 h rfl).mono ?_
 rintro e w' ⟨rfl, hd⟩
 exact ⟨rfl, hd⟩

end Go.Proofs.Ytebnbjnkameicaa.Mine
