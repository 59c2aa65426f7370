-- Written by this repo's own printer (wip/print), which builds on the kit's.
import Derived.Test.YtebnbjnkameicaaMinex0
import Derived.Test.YtebnbjnkameicaaMinex11
import Derived.Test.YtebnbjnkameicaaMinex13
import Derived.Test.YtebnbjnkameicaaMinex14
import Derived.Test.YtebnbjnkameicaaMinex23
import Derived.Test.YtebnbjnkameicaaMinex25
import Derived.Test.YtebnbjnkameicaaMinex26
namespace Go.Proofs.Ytebnbjnkameicaa.Mine
open Go.RowKit Go.Proofs.YtebnbjnkameicaaW.PrintWords Go.Proofs.YtebnbjnkameicaaW.PrintLast Go.Proofs.YtebnbjnkameicaaW.PrintMore
attribute [local go_sem] max2_int min2_int max_two min_two max_three min_three max_four min_four   -- for this text's walks alone
set_option linter.unusedVariables false
set_option linter.unusedSimpArgs false

/-! ### nunciolaw05_DataSame: function 4 -/
mutual
def nunciolaw05_DataSame.j0 : Nat → Bool → ByteArray → Int → Int → Int → List ByteArray → List Int → List ByteArray → ByteArray → Int → Int → Int → List ByteArray → List Int → List ByteArray → Option (Bool)
 | 0, _, _, _, _, _, _, _, _, _, _, _, _, _, _, _ => none
 | k + 1, x16, x314000, x314001, x314002, x314003, x314004, x314005, x314006, x315000, x315001, x315002, x315003, x315004, x315005, x315006 => if x16 = true then (some true) else ((nunciolaw05_Copied.f x314000 x314001 x314002 x314003 x314004 x314005 x314006).bind fun bt318 => ((rdata_Copy.f bt318.1 bt318.2.1 bt318.2.2.1 bt318.2.2.2.1 bt318.2.2.2.2.1 bt318.2.2.2.2.2.1 bt318.2.2.2.2.2.2).bind fun bt332 => ((rdata_Same.f k x314000 x314001 x314002 x314003 x314004 x314005 x314006 x315000 x315001 x315002 x315003 x315004 x315005 x315006).bind fun t346 => ((nuncioref05_Same.f k x314000 x314001 x314002 x314003 x314004 x314005 x314006 x315000 x315001 x315002 x315003 x315004 x315005 x315006).bind fun t347 => (if (t346 != t347) = true then (nunciolaw05_DataSame.j1 k true x314000 x314001 x314002 x314003 x314004 x314005 x314006 bt318.1 bt318.2.1 bt318.2.2.1 bt318.2.2.2.1 bt318.2.2.2.2.1 bt318.2.2.2.2.2.1 bt318.2.2.2.2.2.2 bt332.1 bt332.2.1 bt332.2.2.1 bt332.2.2.2.1 bt332.2.2.2.2.1 bt332.2.2.2.2.2.1 bt332.2.2.2.2.2.2) else ((rdata_Same.f k bt332.1 bt332.2.1 bt332.2.2.1 bt332.2.2.2.1 bt332.2.2.2.2.1 bt332.2.2.2.2.2.1 bt332.2.2.2.2.2.2 x314000 x314001 x314002 x314003 x314004 x314005 x314006).bind fun t348 => (nunciolaw05_DataSame.j1 k (!t348) x314000 x314001 x314002 x314003 x314004 x314005 x314006 bt318.1 bt318.2.1 bt318.2.2.1 bt318.2.2.2.1 bt318.2.2.2.2.1 bt318.2.2.2.2.2.1 bt318.2.2.2.2.2.2 bt332.1 bt332.2.1 bt332.2.2.1 bt332.2.2.2.1 bt332.2.2.2.2.1 bt332.2.2.2.2.2.1 bt332.2.2.2.2.2.2)))))))
def nunciolaw05_DataSame.j1 : Nat → Bool → ByteArray → Int → Int → Int → List ByteArray → List Int → List ByteArray → ByteArray → Int → Int → Int → List ByteArray → List Int → List ByteArray → ByteArray → Int → Int → Int → List ByteArray → List Int → List ByteArray → Option (Bool)
 | 0, _, _, _, _, _, _, _, _, _, _, _, _, _, _, _, _, _, _, _, _, _, _ => none
 | k + 1, x33, x314000, x314001, x314002, x314003, x314004, x314005, x314006, x332000, x332001, x332002, x332003, x332004, x332005, x332006, x346000, x346001, x346002, x346003, x346004, x346005, x346006 => if x33 = true then (some false) else ((nunciolaw05_Spoil.f k x346000 x346001 x346002 x346003 x346004 x346005 x346006).bind fun bt349 => ((nuncioref05_Same.f k x332000 x332001 x332002 x332003 x332004 x332005 x332006 x314000 x314001 x314002 x314003 x314004 x314005 x314006).bind fun t352 => (some t352)))
end
def nunciolaw05_DataSame.f (k : Nat) (a0_0 : ByteArray) (a0_1 : Int) (a0_2 : Int) (a0_3 : Int) (l0_4 : List ByteArray) (l0_5 : List Int) (l0_6 : List ByteArray) (a1_0 : ByteArray) (a1_1 : Int) (a1_2 : Int) (a1_3 : Int) (l1_4 : List ByteArray) (l1_5 : List Int) (l1_6 : List ByteArray) : Option (Bool) := (nunciolaw05_awake.f k).bind fun t315 => (if t315 = true then ((nunciolaw05_Few.f k a0_0 a0_1 a0_2 a0_3 l0_4 l0_5 l0_6).bind fun t316 => (if t316 = true then ((nunciolaw05_Few.f k a1_0 a1_1 a1_2 a1_3 l1_4 l1_5 l1_6).bind fun t317 => (nunciolaw05_DataSame.j0 k (!t317) a0_0 a0_1 a0_2 a0_3 l0_4 l0_5 l0_6 a1_0 a1_1 a1_2 a1_3 l1_4 l1_5 l1_6)) else (nunciolaw05_DataSame.j0 k true a0_0 a0_1 a0_2 a0_3 l0_4 l0_5 l0_6 a1_0 a1_1 a1_2 a1_3 l1_4 l1_5 l1_6))) else (some false))
theorem nunciolaw05_DataSame.mono_l : ∀ k, (∀ y0 y1 y2 y3 y4 y5 y6 y7 y8 y9 y10 y11 y12 y13 y14, LeO (nunciolaw05_DataSame.j0 k y0 y1 y2 y3 y4 y5 y6 y7 y8 y9 y10 y11 y12 y13 y14) (nunciolaw05_DataSame.j0 (k + 1) y0 y1 y2 y3 y4 y5 y6 y7 y8 y9 y10 y11 y12 y13 y14)) ∧ (∀ y0 y1 y2 y3 y4 y5 y6 y7 y8 y9 y10 y11 y12 y13 y14 y15 y16 y17 y18 y19 y20 y21, LeO (nunciolaw05_DataSame.j1 k y0 y1 y2 y3 y4 y5 y6 y7 y8 y9 y10 y11 y12 y13 y14 y15 y16 y17 y18 y19 y20 y21) (nunciolaw05_DataSame.j1 (k + 1) y0 y1 y2 y3 y4 y5 y6 y7 y8 y9 y10 y11 y12 y13 y14 y15 y16 y17 y18 y19 y20 y21))
 | 0 => ⟨fun _ _ _ _ _ _ _ _ _ _ _ _ _ _ _ r h => by simp [nunciolaw05_DataSame.j0] at h, fun _ _ _ _ _ _ _ _ _ _ _ _ _ _ _ _ _ _ _ _ _ _ r h => by simp [nunciolaw05_DataSame.j1] at h⟩
 | k + 1 => by
  obtain ⟨ih0, ih1⟩ := nunciolaw05_DataSame.mono_l k
  refine ⟨?_, ?_⟩
  ·
   intro y0 y1 y2 y3 y4 y5 y6 y7 y8 y9 y10 y11 y12 y13 y14
   unfold nunciolaw05_DataSame.j0
   repeat' first
   | (with_reducible exact ih0 _ _ _ _ _ _ _ _ _ _ _ _ _ _ _)
   | (with_reducible exact ih1 _ _ _ _ _ _ _ _ _ _ _ _ _ _ _ _ _ _ _ _ _ _)
   | (with_reducible exact nunciolaw05_Few.mono _ _ _ _ _ _ _ _)
   | (with_reducible exact nunciolaw05_Spoil.mono _ _ _ _ _ _ _ _)
   | (with_reducible exact nunciolaw05_awake.mono _)
   | (with_reducible exact nuncioref05_Same.mono _ _ _ _ _ _ _ _ _ _ _ _ _ _ _)
   | (with_reducible exact rdata_Same.mono _ _ _ _ _ _ _ _ _ _ _ _ _ _ _)
   | (with_reducible exact LeO.refl _)
   | (with_reducible exact LeO.none _)
   | (with_reducible refine LeO.ite ?_ ?_)
   | (with_reducible refine LeO.bind ?_ (fun _ => ?_))
   | exact ih0 _ _ _ _ _ _ _ _ _ _ _ _ _ _ _
   | exact ih1 _ _ _ _ _ _ _ _ _ _ _ _ _ _ _ _ _ _ _ _ _ _
   | exact nunciolaw05_Few.mono _ _ _ _ _ _ _ _
   | exact nunciolaw05_Spoil.mono _ _ _ _ _ _ _ _
   | exact nunciolaw05_awake.mono _
   | exact nuncioref05_Same.mono _ _ _ _ _ _ _ _ _ _ _ _ _ _ _
   | exact rdata_Same.mono _ _ _ _ _ _ _ _ _ _ _ _ _ _ _
   | exact LeO.none _
   | refine LeO.ite ?_ ?_
   | refine LeO.bind ?_ (fun _ => ?_)
  ·
   intro y0 y1 y2 y3 y4 y5 y6 y7 y8 y9 y10 y11 y12 y13 y14 y15 y16 y17 y18 y19 y20 y21
   unfold nunciolaw05_DataSame.j1
   repeat' first
   | (with_reducible exact ih0 _ _ _ _ _ _ _ _ _ _ _ _ _ _ _)
   | (with_reducible exact ih1 _ _ _ _ _ _ _ _ _ _ _ _ _ _ _ _ _ _ _ _ _ _)
   | (with_reducible exact nunciolaw05_Few.mono _ _ _ _ _ _ _ _)
   | (with_reducible exact nunciolaw05_Spoil.mono _ _ _ _ _ _ _ _)
   | (with_reducible exact nunciolaw05_awake.mono _)
   | (with_reducible exact nuncioref05_Same.mono _ _ _ _ _ _ _ _ _ _ _ _ _ _ _)
   | (with_reducible exact rdata_Same.mono _ _ _ _ _ _ _ _ _ _ _ _ _ _ _)
   | (with_reducible exact LeO.refl _)
   | (with_reducible exact LeO.none _)
   | (with_reducible refine LeO.ite ?_ ?_)
   | (with_reducible refine LeO.bind ?_ (fun _ => ?_))
   | exact ih0 _ _ _ _ _ _ _ _ _ _ _ _ _ _ _
   | exact ih1 _ _ _ _ _ _ _ _ _ _ _ _ _ _ _ _ _ _ _ _ _ _
   | exact nunciolaw05_Few.mono _ _ _ _ _ _ _ _
   | exact nunciolaw05_Spoil.mono _ _ _ _ _ _ _ _
   | exact nunciolaw05_awake.mono _
   | exact nuncioref05_Same.mono _ _ _ _ _ _ _ _ _ _ _ _ _ _ _
   | exact rdata_Same.mono _ _ _ _ _ _ _ _ _ _ _ _ _ _ _
   | exact LeO.none _
   | refine LeO.ite ?_ ?_
   | refine LeO.bind ?_ (fun _ => ?_)
theorem nunciolaw05_DataSame.mono : ∀ a0 a1 a2 a3 a4 a5 a6 a7 a8 a9 a10 a11 a12 a13 k, LeO (nunciolaw05_DataSame.f k a0 a1 a2 a3 a4 a5 a6 a7 a8 a9 a10 a11 a12 a13) (nunciolaw05_DataSame.f (k + 1) a0 a1 a2 a3 a4 a5 a6 a7 a8 a9 a10 a11 a12 a13) := by
 intro a0 a1 a2 a3 a4 a5 a6 a7 a8 a9 a10 a11 a12 a13 k
 obtain ⟨ih0, ih1⟩ := nunciolaw05_DataSame.mono_l k
 unfold nunciolaw05_DataSame.f
 repeat' first
   | (with_reducible exact ih0 _ _ _ _ _ _ _ _ _ _ _ _ _ _ _)
   | (with_reducible exact ih1 _ _ _ _ _ _ _ _ _ _ _ _ _ _ _ _ _ _ _ _ _ _)
   | (with_reducible exact nunciolaw05_Few.mono _ _ _ _ _ _ _ _)
   | (with_reducible exact nunciolaw05_Spoil.mono _ _ _ _ _ _ _ _)
   | (with_reducible exact nunciolaw05_awake.mono _)
   | (with_reducible exact nuncioref05_Same.mono _ _ _ _ _ _ _ _ _ _ _ _ _ _ _)
   | (with_reducible exact rdata_Same.mono _ _ _ _ _ _ _ _ _ _ _ _ _ _ _)
   | (with_reducible exact LeO.refl _)
   | (with_reducible exact LeO.none _)
   | (with_reducible refine LeO.ite ?_ ?_)
   | (with_reducible refine LeO.bind ?_ (fun _ => ?_))
   | exact ih0 _ _ _ _ _ _ _ _ _ _ _ _ _ _ _
   | exact ih1 _ _ _ _ _ _ _ _ _ _ _ _ _ _ _ _ _ _ _ _ _ _
   | exact nunciolaw05_Few.mono _ _ _ _ _ _ _ _
   | exact nunciolaw05_Spoil.mono _ _ _ _ _ _ _ _
   | exact nunciolaw05_awake.mono _
   | exact nuncioref05_Same.mono _ _ _ _ _ _ _ _ _ _ _ _ _ _ _
   | exact rdata_Same.mono _ _ _ _ _ _ _ _ _ _ _ _ _ _ _
   | exact LeO.none _
   | refine LeO.ite ?_ ?_
   | refine LeO.bind ?_ (fun _ => ?_)
def nunciolaw05_DataSame.T7 : Bool × List (List Nat × List Nat) := (true, [([], []), ([], []), ([0, 1], [0, 1]), ([], []), ([], []), ([3, 4, 2], [3, 4]), ([2, 5], [2, 5]), ([6, 5], [6]), ([7], [7]), ([7], [7]), ([8, 9, 7, 7], [7, 8, 9]), ([10, 7], [7, 10]), ([7, 11], [7, 11])])
def nunciolaw05_DataSame.B7 : List Nat := [0, 0, 3, 0, 0, 31, 63, 127, 255, 255, 1023, 2047, 4095]
theorem nunciolaw05_DataSame.tab7 : rtab .any (opsOf Try.f4 7) = nunciolaw05_DataSame.T7 := by kernel_rfl
theorem nunciolaw05_DataSame.bits7 : waitsOk nunciolaw05_DataSame.T7.2 nunciolaw05_DataSame.B7 = true := by kernel_rfl
set_option maxHeartbeats 8000000 in
set_option maxRecDepth 100000 in
theorem nunciolaw05_DataSame.calls (k : Nat) (a0_0 : ByteArray) (a0_1 : Int) (a0_2 : Int) (a0_3 : Int) (A0_4 : Option Addr) (c0_4 : Nat) (l0_4 : List ByteArray) (A0_5 : Option Addr) (c0_5 : Nat) (l0_5 : List Int) (A0_6 : Option Addr) (c0_6 : Nat) (l0_6 : List ByteArray) (a1_0 : ByteArray) (a1_1 : Int) (a1_2 : Int) (a1_3 : Int) (A1_4 : Option Addr) (c1_4 : Nat) (l1_4 : List ByteArray) (A1_5 : Option Addr) (c1_5 : Nat) (l1_5 : List Int) (A1_6 : Option Addr) (c1_6 : Nat) (l1_6 : List ByteArray) (r : Bool) (w : World) (hr0_4 : Kd.C Kd.string w A0_4 l0_4.length l0_4) (hc0_4 : l0_4.length ≤ c0_4) (hr0_5 : Kd.C (Kd.int .u32) w A0_5 l0_5.length l0_5) (hc0_5 : l0_5.length ≤ c0_5) (hr0_6 : Kd.C Kd.string w A0_6 l0_6.length l0_6) (hc0_6 : l0_6.length ≤ c0_6) (hr1_4 : Kd.C Kd.string w A1_4 l1_4.length l1_4) (hc1_4 : l1_4.length ≤ c1_4) (hr1_5 : Kd.C (Kd.int .u32) w A1_5 l1_5.length l1_5) (hc1_5 : l1_5.length ≤ c1_5) (hr1_6 : Kd.C Kd.string w A1_6 l1_6.length l1_6) (hc1_6 : l1_6.length ≤ c1_6) (h : nunciolaw05_DataSame.f k a0_0 a0_1 a0_2 a0_3 l0_4 l0_5 l0_6 a1_0 a1_1 a1_2 a1_3 l1_4 l1_5 l1_6 = some r) (hT : r = true) :
  Calls Try.prog 4 #[.agg #[.string a0_0, .int .u16 a0_1, .int .u16 a0_2, .int .u32 a0_3, .slice A0_4 l0_4.length c0_4, .slice A0_5 l0_5.length c0_5, .slice A0_6 l0_6.length c0_6], .agg #[.string a1_0, .int .u16 a1_1, .int .u16 a1_2, .int .u32 a1_3, .slice A1_4 l1_4.length c1_4, .slice A1_5 l1_5.length c1_5, .slice A1_6 l1_6.length c1_6]] w fun e w' => e = .returned (.bool r) ∧ Below w.heap.size w w' := by
 have hu27 := Try.underlying27
 have HR0_4 := Aside0.mk hr0_4
 have HC0_4 := Aside0.mk hc0_4
 clear hr0_4 hc0_4
 have HR0_5 := Aside0.mk hr0_5
 have HC0_5 := Aside0.mk hc0_5
 clear hr0_5 hc0_5
 have HR0_6 := Aside0.mk hr0_6
 have HC0_6 := Aside0.mk hc0_6
 clear hr0_6 hc0_6
 have HR1_4 := Aside0.mk hr1_4
 have HC1_4 := Aside0.mk hc1_4
 clear hr1_4 hc1_4
 have HR1_5 := Aside0.mk hr1_5
 have HC1_5 := Aside0.mk hc1_5
 clear hr1_5 hc1_5
 have HR1_6 := Aside0.mk hr1_6
 have HC1_6 := Aside0.mk hc1_6
 clear hr1_6 hc1_6
 have HB := Aside0.mk (Below.refl w.heap.size w)
 have HT := Aside0.mk hT
 clear hT
 have H : ((nunciolaw05_awake.f k).bind fun t315 => (if t315 = true then ((nunciolaw05_Few.f k a0_0 a0_1 a0_2 a0_3 l0_4 l0_5 l0_6).bind fun t316 => (if t316 = true then ((nunciolaw05_Few.f k a1_0 a1_1 a1_2 a1_3 l1_4 l1_5 l1_6).bind fun t317 => (nunciolaw05_DataSame.j0 k (!t317) a0_0 a0_1 a0_2 a0_3 l0_4 l0_5 l0_6 a1_0 a1_1 a1_2 a1_3 l1_4 l1_5 l1_6)) else (nunciolaw05_DataSame.j0 k true a0_0 a0_1 a0_2 a0_3 l0_4 l0_5 l0_6 a1_0 a1_1 a1_2 a1_3 l1_4 l1_5 l1_6))) else (some false))) = some r := h
 clear h
 replace H := Option.bind_eq_some_iff.mp H
 obtain ⟨t315, A30, H⟩ := H
 replace H : (if t315 = true then ((nunciolaw05_Few.f k a0_0 a0_1 a0_2 a0_3 l0_4 l0_5 l0_6).bind fun t316 => (if t316 = true then ((nunciolaw05_Few.f k a1_0 a1_1 a1_2 a1_3 l1_4 l1_5 l1_6).bind fun t317 => (nunciolaw05_DataSame.j0 k (!t317) a0_0 a0_1 a0_2 a0_3 l0_4 l0_5 l0_6 a1_0 a1_1 a1_2 a1_3 l1_4 l1_5 l1_6)) else (nunciolaw05_DataSame.j0 k true a0_0 a0_1 a0_2 a0_3 l0_4 l0_5 l0_6 a1_0 a1_1 a1_2 a1_3 l1_4 l1_5 l1_6))) else (some false)) = some r := H
 have A3 := Aside0.mk A30
 clear A30
 by_cases c4 : t315 = true
 ·
  subst c4
  have H1 : ((nunciolaw05_Few.f k a0_0 a0_1 a0_2 a0_3 l0_4 l0_5 l0_6).bind fun t316 => (if t316 = true then ((nunciolaw05_Few.f k a1_0 a1_1 a1_2 a1_3 l1_4 l1_5 l1_6).bind fun t317 => (nunciolaw05_DataSame.j0 k (!t317) a0_0 a0_1 a0_2 a0_3 l0_4 l0_5 l0_6 a1_0 a1_1 a1_2 a1_3 l1_4 l1_5 l1_6)) else (nunciolaw05_DataSame.j0 k true a0_0 a0_1 a0_2 a0_3 l0_4 l0_5 l0_6 a1_0 a1_1 a1_2 a1_3 l1_4 l1_5 l1_6))) = some r := by rw [if_pos rfl] at H; exact H
  clear H
  have H := H1
  clear H1
  have HC5 := Aside0.mk H
  clear H
  go_enter Try.func4, Try.ntmps4
  go_upto_region 3 with (first | ((with_reducible refine gate_dst (N := 2) rfl ?_); refine box_event ?hg (N := 2) ?hd (cs := #[.string a0_0, .int .u16 a0_1, .int .u16 a0_2, .int .u32 a0_3, .slice A0_4 l0_4.length c0_4, .slice A0_5 l0_5.length c0_5, .slice A0_6 l0_6.length c0_6]) (t := 27) ?hr ?_; (case hd => rfl); (case hg => rfl); (case hr => first | (go_simp; done) | (go_simp; rfl)); intro gb313 hg w6 hbox hb; have n0_ := Aside0.mk (below_step (by repeat (first | (with_reducible first | exact HB.out | apply below_alloc | apply pw_below_drewN | apply below_drew1) | exact HB.out)) hb); have n1_ := Aside0.mk (hbox); have n2_ := Aside0.mk ((by rw [hg]; exact (below_size (by repeat (first | (with_reducible first | exact HB.out | apply below_alloc | apply pw_below_drewN | apply below_drew1) | exact HB.out))) : w.heap.size ≤ gb313)); have n3_ := Aside0.mk ((by rw [hg]; exact (below_size (by repeat (first | (with_reducible first | exact HB.out | apply below_alloc | apply pw_below_drewN | apply below_drew1) | exact HB.out))) : w.heap.size ≤ gb313)); clear HB; have HB := n0_; have BK313 := n1_; have GW313 := n2_; have GE313 := n3_; clear n0_ n1_ n2_ n3_; clear hb hbox hg) | ((with_reducible refine gate_dst (N := 3) rfl ?_); refine box_event ?hg (N := 3) ?hd (cs := #[.string a1_0, .int .u16 a1_1, .int .u16 a1_2, .int .u32 a1_3, .slice A1_4 l1_4.length c1_4, .slice A1_5 l1_5.length c1_5, .slice A1_6 l1_6.length c1_6]) (t := 27) ?hr ?_; (case hd => rfl); (case hg => rfl); (case hr => first | (go_simp; done) | (go_simp; rfl)); intro gb314 hg w7 hbox hb; have n0_ := Aside0.mk (blk_below (g := gb313) (o := .cells #[.string a0_0, .int .u16 a0_1, .int .u16 a0_2, .int .u32 a0_3, .slice A0_4 l0_4.length c0_4, .slice A0_5 l0_5.length c0_5, .slice A0_6 l0_6.length c0_6] 27 (0, 0)) (by (with_reducible repeat (first | refine blk_drewN ?_ _ | refine blk_drew ?_ | refine blk_alloc ?_ _)); exact BK313.out) hb); have n1_ := Aside0.mk (below_step (by repeat (first | (with_reducible first | exact HB.out | apply below_alloc | apply pw_below_drewN | apply below_drew1 | refine below_set ?_ GE313.out) | exact HB.out)) hb); have n2_ := Aside0.mk (hbox); have n3_ := Aside0.mk ((by rw [hg]; exact (below_size (by repeat (first | (with_reducible first | exact HB.out | apply below_alloc | apply pw_below_drewN | apply below_drew1 | refine below_set ?_ GE313.out) | exact HB.out))) : w.heap.size ≤ gb314)); have n4_ := Aside0.mk ((by rw [hg]; exact (below_size (by repeat (first | (with_reducible first | exact HB.out | apply below_alloc | apply pw_below_drewN | apply below_drew1 | refine below_set ?_ GE313.out) | exact HB.out))) : w.heap.size ≤ gb314)); have n5_ := Aside0.mk ((by rw [hg]; exact Nat.ne_of_lt (blk_lt (g := gb313) (o := .cells #[.string a0_0, .int .u16 a0_1, .int .u16 a0_2, .int .u32 a0_3, .slice A0_4 l0_4.length c0_4, .slice A0_5 l0_5.length c0_5, .slice A0_6 l0_6.length c0_6] 27 (0, 0)) (by (with_reducible repeat (first | refine blk_drewN ?_ _ | refine blk_drew ?_ | refine blk_alloc ?_ _)); exact BK313.out)) : gb313 ≠ gb314)); have n6_ := Aside0.mk ((by rw [hg]; exact Nat.ne_of_gt (blk_lt (g := gb313) (o := .cells #[.string a0_0, .int .u16 a0_1, .int .u16 a0_2, .int .u32 a0_3, .slice A0_4 l0_4.length c0_4, .slice A0_5 l0_5.length c0_5, .slice A0_6 l0_6.length c0_6] 27 (0, 0)) (by (with_reducible repeat (first | refine blk_drewN ?_ _ | refine blk_drew ?_ | refine blk_alloc ?_ _)); exact BK313.out)) : gb314 ≠ gb313)); clear BK313; clear HB; have BK313 := n0_; have HB := n1_; have BK314 := n2_; have GW314 := n3_; have GE314 := n4_; have NB313_314 := n5_; have NB314_313 := n6_; clear n0_ n1_ n2_ n3_ n4_ n5_ n6_; clear hb hbox hg) | ((with_reducible refine gate_callee (f := 7) rfl ?_); refine goesL_ (some 7) rfl rfl Try.func7 (by kernel_rfl) rfl #[] rfl (by (try simp only [List.map_toArray, List.map_cons, List.map_nil]); first | done | rfl | (simp only [List.length_drop, List.length_take]; rfl)) ?_; (with_reducible refine (nunciolaw05_awake.calls k  true _ A3.out).mono ?_); rintro e w8 ⟨rfl, hb⟩; refine ⟨_, rfl, ?_⟩; have n0_ := Aside0.mk (blk_below (g := gb313) (o := .cells #[.string a0_0, .int .u16 a0_1, .int .u16 a0_2, .int .u32 a0_3, .slice A0_4 l0_4.length c0_4, .slice A0_5 l0_5.length c0_5, .slice A0_6 l0_6.length c0_6] 27 (0, 0)) (by (with_reducible repeat (first | refine blk_drewN ?_ _ | refine blk_drew ?_ | refine blk_alloc ?_ _)); exact BK313.out) hb); have n1_ := Aside0.mk (blk_below (g := gb314) (o := .cells #[.string a1_0, .int .u16 a1_1, .int .u16 a1_2, .int .u32 a1_3, .slice A1_4 l1_4.length c1_4, .slice A1_5 l1_5.length c1_5, .slice A1_6 l1_6.length c1_6] 27 (0, 0)) (by (with_reducible repeat (first | refine blk_drewN ?_ _ | refine blk_drew ?_ | refine blk_alloc ?_ _)); exact BK314.out) hb); have n2_ := Aside0.mk (below_step (by repeat (first | (with_reducible first | exact HB.out | apply below_alloc | apply pw_below_drewN | apply below_drew1 | refine below_set ?_ GE313.out | refine below_set ?_ GE314.out) | exact HB.out)) hb); clear BK313; clear BK314; clear HB; have BK313 := n0_; have BK314 := n1_; have HB := n2_; clear n0_ n1_ n2_; (try clear hb); (try clear hb2); (try clear hk); (try clear hi)))
  (try simp only [Act.put, List.setIfInBounds_toArray, List.set_cons_zero, List.set_cons_succ])
  go_cut [16] (fun v16 wc => ∃ (kq : Nat) (x16_4 : Bool), v16 = .bool x16_4 ∧ Aside0 (nunciolaw05_DataSame.j0 kq x16_4 a0_0 a0_1 a0_2 a0_3 l0_4 l0_5 l0_6 a1_0 a1_1 a1_2 a1_3 l1_4 l1_5 l1_6 = some r) ∧ Aside0 (kq ≤ k) ∧ Aside0 (wc.heap[gb313]? = some (.cells #[.string a0_0, .int .u16 a0_1, .int .u16 a0_2, .int .u32 a0_3, (.slice A0_4 l0_4.length c0_4), (.slice A0_5 l0_5.length c0_5), (.slice A0_6 l0_6.length c0_6)] 27 (0, 0))) ∧ Aside0 (wc.heap[gb314]? = some (.cells #[.string a1_0, .int .u16 a1_1, .int .u16 a1_2, .int .u32 a1_3, (.slice A1_4 l1_4.length c1_4), (.slice A1_5 l1_5.length c1_5), (.slice A1_6 l1_6.length c1_6)] 27 (0, 0))) ∧ Aside0 (Below w.heap.size w wc))
  case first =>
   have H := HC5.out
   clear HC5
   replace H := Option.bind_eq_some_iff.mp H
   obtain ⟨t316, A90, H⟩ := H
   replace H : (if t316 = true then ((nunciolaw05_Few.f k a1_0 a1_1 a1_2 a1_3 l1_4 l1_5 l1_6).bind fun t317 => (nunciolaw05_DataSame.j0 k (!t317) a0_0 a0_1 a0_2 a0_3 l0_4 l0_5 l0_6 a1_0 a1_1 a1_2 a1_3 l1_4 l1_5 l1_6)) else (nunciolaw05_DataSame.j0 k true a0_0 a0_1 a0_2 a0_3 l0_4 l0_5 l0_6 a1_0 a1_1 a1_2 a1_3 l1_4 l1_5 l1_6)) = some r := H
   have A9 := Aside0.mk A90
   clear A90
   by_cases c10 : t316 = true
   ·
    subst c10
    have H1 : ((nunciolaw05_Few.f k a1_0 a1_1 a1_2 a1_3 l1_4 l1_5 l1_6).bind fun t317 => (nunciolaw05_DataSame.j0 k (!t317) a0_0 a0_1 a0_2 a0_3 l0_4 l0_5 l0_6 a1_0 a1_1 a1_2 a1_3 l1_4 l1_5 l1_6)) = some r := by rw [if_pos rfl] at H; exact H
    clear H
    have H := H1
    clear H1
    replace H := Option.bind_eq_some_iff.mp H
    obtain ⟨t317, A110, H⟩ := H
    replace H : (nunciolaw05_DataSame.j0 k (!t317) a0_0 a0_1 a0_2 a0_3 l0_4 l0_5 l0_6 a1_0 a1_1 a1_2 a1_3 l1_4 l1_5 l1_6) = some r := H
    have A11 := Aside0.mk A110
    clear A110
    have H' := Aside0.mk H
    clear H
    have hnb12 := NB313_314.out
    have hnc12 := NB314_313.out
    have hcz13_0 : w8.cell? ⟨gb313, 0, none⟩ = some (.string a0_0) := (blk_cell BK313.out 0).trans rfl
    have hcz13_1 : w8.cell? ⟨gb313, 1, none⟩ = some (.int .u16 a0_1) := (blk_cell BK313.out 1).trans rfl
    have hcz13_2 : w8.cell? ⟨gb313, 2, none⟩ = some (.int .u16 a0_2) := (blk_cell BK313.out 2).trans rfl
    have hcz13_3 : w8.cell? ⟨gb313, 3, none⟩ = some (.int .u32 a0_3) := (blk_cell BK313.out 3).trans rfl
    have hcz13_4 : w8.cell? ⟨gb313, 4, none⟩ = some (.slice A0_4 l0_4.length c0_4) := (blk_cell BK313.out 4).trans rfl
    have hcz13_5 : w8.cell? ⟨gb313, 5, none⟩ = some (.slice A0_5 l0_5.length c0_5) := (blk_cell BK313.out 5).trans rfl
    have hcz13_6 : w8.cell? ⟨gb313, 6, none⟩ = some (.slice A0_6 l0_6.length c0_6) := (blk_cell BK313.out 6).trans rfl
    have hfz13_0 := blk_frozen BK313.out 0
    have hfz13_1 := blk_frozen BK313.out 1
    have hfz13_2 := blk_frozen BK313.out 2
    have hfz13_3 := blk_frozen BK313.out 3
    have hfz13_4 := blk_frozen BK313.out 4
    have hfz13_5 := blk_frozen BK313.out 5
    have hfz13_6 := blk_frozen BK313.out 6
    go_wp2_with (first | ((with_reducible refine gate_callee (f := 8) rfl ?_); refine goesL_ (some 10) rfl rfl Try.func8 (by kernel_rfl) rfl #[.agg #[.string a0_0, .int .u16 a0_1, .int .u16 a0_2, .int .u32 a0_3, .slice A0_4 l0_4.length c0_4, .slice A0_5 l0_5.length c0_5, .slice A0_6 l0_6.length c0_6]] rfl (by (try simp only [List.map_toArray, List.map_cons, List.map_nil]); first | done | rfl | (simp only [List.length_drop, List.length_take]; rfl)) ?_; (with_reducible refine (nunciolaw05_Few.calls k a0_0 a0_1 a0_2 a0_3 _ _ l0_4 _ _ l0_5 _ _ l0_6 true _ ?side1 ?side2 ?side3 ?side4 ?side5 ?side6 A9.out).mono ?_); (case side1 => repeat (first | exact (Kd.C_below HR0_4.out HB.out) | (with_reducible refine Kd.C_alloc ?_ _) | (with_reducible refine Kd.C_drewN ?_ _) | (with_reducible refine Kd.C_drew ?_))); (case side2 => exact HC0_4.out); (case side3 => repeat (first | exact (Kd.C_below HR0_5.out HB.out) | (with_reducible refine Kd.C_alloc ?_ _) | (with_reducible refine Kd.C_drewN ?_ _) | (with_reducible refine Kd.C_drew ?_))); (case side4 => exact HC0_5.out); (case side5 => repeat (first | exact (Kd.C_below HR0_6.out HB.out) | (with_reducible refine Kd.C_alloc ?_ _) | (with_reducible refine Kd.C_drewN ?_ _) | (with_reducible refine Kd.C_drew ?_))); (case side6 => exact HC0_6.out); rintro e w14 ⟨rfl, hb⟩; refine ⟨_, rfl, ?_⟩; have n0_ := Aside0.mk (blk_below (g := gb313) (o := .cells #[.string a0_0, .int .u16 a0_1, .int .u16 a0_2, .int .u32 a0_3, .slice A0_4 l0_4.length c0_4, .slice A0_5 l0_5.length c0_5, .slice A0_6 l0_6.length c0_6] 27 (0, 0)) (by (with_reducible repeat (first | refine blk_drewN ?_ _ | refine blk_drew ?_ | refine blk_alloc ?_ _)); exact BK313.out) hb); have n1_ := Aside0.mk (blk_below (g := gb314) (o := .cells #[.string a1_0, .int .u16 a1_1, .int .u16 a1_2, .int .u32 a1_3, .slice A1_4 l1_4.length c1_4, .slice A1_5 l1_5.length c1_5, .slice A1_6 l1_6.length c1_6] 27 (0, 0)) (by (with_reducible repeat (first | refine blk_drewN ?_ _ | refine blk_drew ?_ | refine blk_alloc ?_ _)); exact BK314.out) hb); have n2_ := Aside0.mk (below_step (by repeat (first | (with_reducible first | exact HB.out | apply below_alloc | apply pw_below_drewN | apply below_drew1 | refine below_set ?_ GE313.out | refine below_set ?_ GE314.out) | exact HB.out)) hb); clear BK313; clear BK314; clear HB; have BK313 := n0_; have BK314 := n1_; have HB := n2_; clear n0_ n1_ n2_; (try clear hb); (try clear hb2); (try clear hk); (try clear hi); have hcz15_0 : w14.cell? ⟨gb314, 0, none⟩ = some (.string a1_0) := (blk_cell BK314.out 0).trans rfl; have hcz15_1 : w14.cell? ⟨gb314, 1, none⟩ = some (.int .u16 a1_1) := (blk_cell BK314.out 1).trans rfl; have hcz15_2 : w14.cell? ⟨gb314, 2, none⟩ = some (.int .u16 a1_2) := (blk_cell BK314.out 2).trans rfl; have hcz15_3 : w14.cell? ⟨gb314, 3, none⟩ = some (.int .u32 a1_3) := (blk_cell BK314.out 3).trans rfl; have hcz15_4 : w14.cell? ⟨gb314, 4, none⟩ = some (.slice A1_4 l1_4.length c1_4) := (blk_cell BK314.out 4).trans rfl; have hcz15_5 : w14.cell? ⟨gb314, 5, none⟩ = some (.slice A1_5 l1_5.length c1_5) := (blk_cell BK314.out 5).trans rfl; have hcz15_6 : w14.cell? ⟨gb314, 6, none⟩ = some (.slice A1_6 l1_6.length c1_6) := (blk_cell BK314.out 6).trans rfl; have hfz15_0 := blk_frozen BK314.out 0; have hfz15_1 := blk_frozen BK314.out 1; have hfz15_2 := blk_frozen BK314.out 2; have hfz15_3 := blk_frozen BK314.out 3; have hfz15_4 := blk_frozen BK314.out 4; have hfz15_5 := blk_frozen BK314.out 5; have hfz15_6 := blk_frozen BK314.out 6) | (go_at_call 8; (with_reducible refine (nunciolaw05_Few.calls k a1_0 a1_1 a1_2 a1_3 _ _ l1_4 _ _ l1_5 _ _ l1_6 t317 _ ?side1 ?side2 ?side3 ?side4 ?side5 ?side6 A11.out).mono ?_); (case side1 => repeat (first | exact (Kd.C_below HR1_4.out HB.out) | (with_reducible refine Kd.C_alloc ?_ _) | (with_reducible refine Kd.C_drewN ?_ _) | (with_reducible refine Kd.C_drew ?_))); (case side2 => exact HC1_4.out); (case side3 => repeat (first | exact (Kd.C_below HR1_5.out HB.out) | (with_reducible refine Kd.C_alloc ?_ _) | (with_reducible refine Kd.C_drewN ?_ _) | (with_reducible refine Kd.C_drew ?_))); (case side4 => exact HC1_5.out); (case side5 => repeat (first | exact (Kd.C_below HR1_6.out HB.out) | (with_reducible refine Kd.C_alloc ?_ _) | (with_reducible refine Kd.C_drewN ?_ _) | (with_reducible refine Kd.C_drew ?_))); (case side6 => exact HC1_6.out); rintro e w16 ⟨rfl, hb⟩; have n0_ := Aside0.mk (blk_below (g := gb313) (o := .cells #[.string a0_0, .int .u16 a0_1, .int .u16 a0_2, .int .u32 a0_3, .slice A0_4 l0_4.length c0_4, .slice A0_5 l0_5.length c0_5, .slice A0_6 l0_6.length c0_6] 27 (0, 0)) (by (with_reducible repeat (first | refine blk_drewN ?_ _ | refine blk_drew ?_ | refine blk_alloc ?_ _)); exact BK313.out) hb); have n1_ := Aside0.mk (blk_below (g := gb314) (o := .cells #[.string a1_0, .int .u16 a1_1, .int .u16 a1_2, .int .u32 a1_3, .slice A1_4 l1_4.length c1_4, .slice A1_5 l1_5.length c1_5, .slice A1_6 l1_6.length c1_6] 27 (0, 0)) (by (with_reducible repeat (first | refine blk_drewN ?_ _ | refine blk_drew ?_ | refine blk_alloc ?_ _)); exact BK314.out) hb); have n2_ := Aside0.mk (below_step (by repeat (first | (with_reducible first | exact HB.out | apply below_alloc | apply pw_below_drewN | apply below_drew1 | refine below_set ?_ GE313.out | refine below_set ?_ GE314.out) | exact HB.out)) hb); clear BK313; clear BK314; clear HB; have BK313 := n0_; have BK314 := n1_; have HB := n2_; clear n0_ n1_ n2_; (try clear hb); (try clear hb2); (try clear hk); (try clear hi)))
    go_meet
    case rel => exact ⟨_, (!t317), (by first | rfl | (simp; done) | (simp [*]; done)), H', ⟨by first | omega | exact Nat.le_refl _⟩, ⟨by (with_reducible repeat (first | refine blk_drewN ?_ _ | refine blk_drew ?_ | refine blk_alloc ?_ _)); exact BK313.out⟩, ⟨by (with_reducible repeat (first | refine blk_drewN ?_ _ | refine blk_drew ?_ | refine blk_alloc ?_ _)); exact BK314.out⟩, ⟨by repeat (first | (with_reducible first | exact HB.out | apply below_alloc | apply pw_below_drewN | apply below_drew1 | refine below_set ?_ GE313.out | refine below_set ?_ GE314.out) | exact HB.out)⟩⟩
   ·
    replace c10 := Bool.eq_false_iff.mpr c10
    subst c10
    have H1 : (nunciolaw05_DataSame.j0 k true a0_0 a0_1 a0_2 a0_3 l0_4 l0_5 l0_6 a1_0 a1_1 a1_2 a1_3 l1_4 l1_5 l1_6) = some r := by rw [if_neg (show ¬ (false = true) by decide)] at H; exact H
    clear H
    have H := H1
    clear H1
    have H' := Aside0.mk H
    clear H
    have hnb17 := NB313_314.out
    have hnc17 := NB314_313.out
    have hcz18_0 : w8.cell? ⟨gb313, 0, none⟩ = some (.string a0_0) := (blk_cell BK313.out 0).trans rfl
    have hcz18_1 : w8.cell? ⟨gb313, 1, none⟩ = some (.int .u16 a0_1) := (blk_cell BK313.out 1).trans rfl
    have hcz18_2 : w8.cell? ⟨gb313, 2, none⟩ = some (.int .u16 a0_2) := (blk_cell BK313.out 2).trans rfl
    have hcz18_3 : w8.cell? ⟨gb313, 3, none⟩ = some (.int .u32 a0_3) := (blk_cell BK313.out 3).trans rfl
    have hcz18_4 : w8.cell? ⟨gb313, 4, none⟩ = some (.slice A0_4 l0_4.length c0_4) := (blk_cell BK313.out 4).trans rfl
    have hcz18_5 : w8.cell? ⟨gb313, 5, none⟩ = some (.slice A0_5 l0_5.length c0_5) := (blk_cell BK313.out 5).trans rfl
    have hcz18_6 : w8.cell? ⟨gb313, 6, none⟩ = some (.slice A0_6 l0_6.length c0_6) := (blk_cell BK313.out 6).trans rfl
    have hfz18_0 := blk_frozen BK313.out 0
    have hfz18_1 := blk_frozen BK313.out 1
    have hfz18_2 := blk_frozen BK313.out 2
    have hfz18_3 := blk_frozen BK313.out 3
    have hfz18_4 := blk_frozen BK313.out 4
    have hfz18_5 := blk_frozen BK313.out 5
    have hfz18_6 := blk_frozen BK313.out 6
    go_wp2_with (first | ((with_reducible refine gate_callee (f := 8) rfl ?_); refine goesL_ (some 10) rfl rfl Try.func8 (by kernel_rfl) rfl #[.agg #[.string a0_0, .int .u16 a0_1, .int .u16 a0_2, .int .u32 a0_3, .slice A0_4 l0_4.length c0_4, .slice A0_5 l0_5.length c0_5, .slice A0_6 l0_6.length c0_6]] rfl (by (try simp only [List.map_toArray, List.map_cons, List.map_nil]); first | done | rfl | (simp only [List.length_drop, List.length_take]; rfl)) ?_; (with_reducible refine (nunciolaw05_Few.calls k a0_0 a0_1 a0_2 a0_3 _ _ l0_4 _ _ l0_5 _ _ l0_6 false _ ?side1 ?side2 ?side3 ?side4 ?side5 ?side6 A9.out).mono ?_); (case side1 => repeat (first | exact (Kd.C_below HR0_4.out HB.out) | (with_reducible refine Kd.C_alloc ?_ _) | (with_reducible refine Kd.C_drewN ?_ _) | (with_reducible refine Kd.C_drew ?_))); (case side2 => exact HC0_4.out); (case side3 => repeat (first | exact (Kd.C_below HR0_5.out HB.out) | (with_reducible refine Kd.C_alloc ?_ _) | (with_reducible refine Kd.C_drewN ?_ _) | (with_reducible refine Kd.C_drew ?_))); (case side4 => exact HC0_5.out); (case side5 => repeat (first | exact (Kd.C_below HR0_6.out HB.out) | (with_reducible refine Kd.C_alloc ?_ _) | (with_reducible refine Kd.C_drewN ?_ _) | (with_reducible refine Kd.C_drew ?_))); (case side6 => exact HC0_6.out); rintro e w19 ⟨rfl, hb⟩; refine ⟨_, rfl, ?_⟩; have n0_ := Aside0.mk (blk_below (g := gb313) (o := .cells #[.string a0_0, .int .u16 a0_1, .int .u16 a0_2, .int .u32 a0_3, .slice A0_4 l0_4.length c0_4, .slice A0_5 l0_5.length c0_5, .slice A0_6 l0_6.length c0_6] 27 (0, 0)) (by (with_reducible repeat (first | refine blk_drewN ?_ _ | refine blk_drew ?_ | refine blk_alloc ?_ _)); exact BK313.out) hb); have n1_ := Aside0.mk (blk_below (g := gb314) (o := .cells #[.string a1_0, .int .u16 a1_1, .int .u16 a1_2, .int .u32 a1_3, .slice A1_4 l1_4.length c1_4, .slice A1_5 l1_5.length c1_5, .slice A1_6 l1_6.length c1_6] 27 (0, 0)) (by (with_reducible repeat (first | refine blk_drewN ?_ _ | refine blk_drew ?_ | refine blk_alloc ?_ _)); exact BK314.out) hb); have n2_ := Aside0.mk (below_step (by repeat (first | (with_reducible first | exact HB.out | apply below_alloc | apply pw_below_drewN | apply below_drew1 | refine below_set ?_ GE313.out | refine below_set ?_ GE314.out) | exact HB.out)) hb); clear BK313; clear BK314; clear HB; have BK313 := n0_; have BK314 := n1_; have HB := n2_; clear n0_ n1_ n2_; (try clear hb); (try clear hb2); (try clear hk); (try clear hi)))
    go_meet
    case rel => exact ⟨_, (true), (by first | rfl | (simp; done) | (simp [*]; done)), H', ⟨by first | omega | exact Nat.le_refl _⟩, ⟨by (with_reducible repeat (first | refine blk_drewN ?_ _ | refine blk_drew ?_ | refine blk_alloc ?_ _)); exact BK313.out⟩, ⟨by (with_reducible repeat (first | refine blk_drewN ?_ _ | refine blk_drew ?_ | refine blk_alloc ?_ _)); exact BK314.out⟩, ⟨by repeat (first | (with_reducible first | exact HB.out | apply below_alloc | apply pw_below_drewN | apply below_drew1 | refine below_set ?_ GE313.out | refine below_set ?_ GE314.out) | exact HB.out)⟩⟩
  case rest =>
   clear HC5
   try clear c1
   try clear p2
   try clear c4
   try clear c7
   try clear c8
   try clear c10
   try clear c12
   try clear c17
   try clear hcz13_0
   try clear hcz13_1
   try clear hcz13_2
   try clear hcz13_3
   try clear hcz13_4
   try clear hcz13_5
   try clear hcz13_6
   try clear hcz15_0
   try clear hcz15_1
   try clear hcz15_2
   try clear hcz15_3
   try clear hcz15_4
   try clear hcz15_5
   try clear hcz15_6
   try clear hcz18_0
   try clear hcz18_1
   try clear hcz18_2
   try clear hcz18_3
   try clear hcz18_4
   try clear hcz18_5
   try clear hcz18_6
   try clear hfz13_0
   try clear hfz13_1
   try clear hfz13_2
   try clear hfz13_3
   try clear hfz13_4
   try clear hfz13_5
   try clear hfz13_6
   try clear hfz15_0
   try clear hfz15_1
   try clear hfz15_2
   try clear hfz15_3
   try clear hfz15_4
   try clear hfz15_5
   try clear hfz15_6
   try clear hfz18_0
   try clear hfz18_1
   try clear hfz18_2
   try clear hfz18_3
   try clear hfz18_4
   try clear hfz18_5
   try clear hfz18_6
   obtain ⟨kq, x16_4, rfl, HA, HJ4, BK313, BK314, HB⟩ := hcut
   cases kq with
   | zero => exact absurd HA.out (by simp [nunciolaw05_DataSame.j0])
   | succ kj4 =>
    have H := HA.out
    clear HA
    simp only [nunciolaw05_DataSame.j0] at H
    by_cases c20 : x16_4 = true
    ·
     subst c20
     have H1 : (some true) = some r := by rw [if_pos rfl] at H; exact H
     clear H
     have H := H1
     clear H1
     obtain rfl := Option.some.inj H
     go_wp2
     go_ret
     exact ⟨by first | rfl | (simp [errW_none, errW_some] <;> rfl) | (simp [*, errW_none, errW_some] <;> rfl), by repeat (first | (with_reducible first | exact HB.out | apply below_alloc | apply pw_below_drewN | apply below_drew1 | refine below_set ?_ GE313.out | refine below_set ?_ GE314.out) | exact HB.out)⟩
    ·
     replace c20 := Bool.eq_false_iff.mpr c20
     subst c20
     have H1 : ((nunciolaw05_Copied.f a0_0 a0_1 a0_2 a0_3 l0_4 l0_5 l0_6).bind fun bt318 => ((rdata_Copy.f bt318.1 bt318.2.1 bt318.2.2.1 bt318.2.2.2.1 bt318.2.2.2.2.1 bt318.2.2.2.2.2.1 bt318.2.2.2.2.2.2).bind fun bt332 => ((rdata_Same.f kj4 a0_0 a0_1 a0_2 a0_3 l0_4 l0_5 l0_6 a1_0 a1_1 a1_2 a1_3 l1_4 l1_5 l1_6).bind fun t346 => ((nuncioref05_Same.f kj4 a0_0 a0_1 a0_2 a0_3 l0_4 l0_5 l0_6 a1_0 a1_1 a1_2 a1_3 l1_4 l1_5 l1_6).bind fun t347 => (if (t346 != t347) = true then (nunciolaw05_DataSame.j1 kj4 true a0_0 a0_1 a0_2 a0_3 l0_4 l0_5 l0_6 bt318.1 bt318.2.1 bt318.2.2.1 bt318.2.2.2.1 bt318.2.2.2.2.1 bt318.2.2.2.2.2.1 bt318.2.2.2.2.2.2 bt332.1 bt332.2.1 bt332.2.2.1 bt332.2.2.2.1 bt332.2.2.2.2.1 bt332.2.2.2.2.2.1 bt332.2.2.2.2.2.2) else ((rdata_Same.f kj4 bt332.1 bt332.2.1 bt332.2.2.1 bt332.2.2.2.1 bt332.2.2.2.2.1 bt332.2.2.2.2.2.1 bt332.2.2.2.2.2.2 a0_0 a0_1 a0_2 a0_3 l0_4 l0_5 l0_6).bind fun t348 => (nunciolaw05_DataSame.j1 kj4 (!t348) a0_0 a0_1 a0_2 a0_3 l0_4 l0_5 l0_6 bt318.1 bt318.2.1 bt318.2.2.1 bt318.2.2.2.1 bt318.2.2.2.2.1 bt318.2.2.2.2.2.1 bt318.2.2.2.2.2.2 bt332.1 bt332.2.1 bt332.2.2.1 bt332.2.2.2.1 bt332.2.2.2.2.1 bt332.2.2.2.2.2.1 bt332.2.2.2.2.2.2))))))) = some r := by rw [if_neg (show ¬ (false = true) by decide)] at H; exact H
     clear H
     have H := H1
     clear H1
     replace H := Option.bind_eq_some_iff.mp H
     obtain ⟨⟨t318, t319, t320, t321, t322, t325, t328⟩, A210, H⟩ := H
     replace H : ((rdata_Copy.f t318 t319 t320 t321 t322 t325 t328).bind fun bt332 => ((rdata_Same.f kj4 a0_0 a0_1 a0_2 a0_3 l0_4 l0_5 l0_6 a1_0 a1_1 a1_2 a1_3 l1_4 l1_5 l1_6).bind fun t346 => ((nuncioref05_Same.f kj4 a0_0 a0_1 a0_2 a0_3 l0_4 l0_5 l0_6 a1_0 a1_1 a1_2 a1_3 l1_4 l1_5 l1_6).bind fun t347 => (if (t346 != t347) = true then (nunciolaw05_DataSame.j1 kj4 true a0_0 a0_1 a0_2 a0_3 l0_4 l0_5 l0_6 t318 t319 t320 t321 t322 t325 t328 bt332.1 bt332.2.1 bt332.2.2.1 bt332.2.2.2.1 bt332.2.2.2.2.1 bt332.2.2.2.2.2.1 bt332.2.2.2.2.2.2) else ((rdata_Same.f kj4 bt332.1 bt332.2.1 bt332.2.2.1 bt332.2.2.2.1 bt332.2.2.2.2.1 bt332.2.2.2.2.2.1 bt332.2.2.2.2.2.2 a0_0 a0_1 a0_2 a0_3 l0_4 l0_5 l0_6).bind fun t348 => (nunciolaw05_DataSame.j1 kj4 (!t348) a0_0 a0_1 a0_2 a0_3 l0_4 l0_5 l0_6 t318 t319 t320 t321 t322 t325 t328 bt332.1 bt332.2.1 bt332.2.2.1 bt332.2.2.2.1 bt332.2.2.2.2.1 bt332.2.2.2.2.2.1 bt332.2.2.2.2.2.2)))))) = some r := H
     have A21 := Aside0.mk A210
     clear A210
     replace H := Option.bind_eq_some_iff.mp H
     obtain ⟨⟨t332, t333, t334, t335, t336, t339, t342⟩, A220, H⟩ := H
     replace H : ((rdata_Same.f kj4 a0_0 a0_1 a0_2 a0_3 l0_4 l0_5 l0_6 a1_0 a1_1 a1_2 a1_3 l1_4 l1_5 l1_6).bind fun t346 => ((nuncioref05_Same.f kj4 a0_0 a0_1 a0_2 a0_3 l0_4 l0_5 l0_6 a1_0 a1_1 a1_2 a1_3 l1_4 l1_5 l1_6).bind fun t347 => (if (t346 != t347) = true then (nunciolaw05_DataSame.j1 kj4 true a0_0 a0_1 a0_2 a0_3 l0_4 l0_5 l0_6 t318 t319 t320 t321 t322 t325 t328 t332 t333 t334 t335 t336 t339 t342) else ((rdata_Same.f kj4 t332 t333 t334 t335 t336 t339 t342 a0_0 a0_1 a0_2 a0_3 l0_4 l0_5 l0_6).bind fun t348 => (nunciolaw05_DataSame.j1 kj4 (!t348) a0_0 a0_1 a0_2 a0_3 l0_4 l0_5 l0_6 t318 t319 t320 t321 t322 t325 t328 t332 t333 t334 t335 t336 t339 t342))))) = some r := H
     have A22 := Aside0.mk A220
     clear A220
     have HC23 := Aside0.mk H
     clear H
     have hnb24 := NB313_314.out
     have hnc24 := NB314_313.out
     have hcz25_0 : wc.cell? ⟨gb313, 0, none⟩ = some (.string a0_0) := (blk_cell BK313.out 0).trans rfl
     have hcz25_1 : wc.cell? ⟨gb313, 1, none⟩ = some (.int .u16 a0_1) := (blk_cell BK313.out 1).trans rfl
     have hcz25_2 : wc.cell? ⟨gb313, 2, none⟩ = some (.int .u16 a0_2) := (blk_cell BK313.out 2).trans rfl
     have hcz25_3 : wc.cell? ⟨gb313, 3, none⟩ = some (.int .u32 a0_3) := (blk_cell BK313.out 3).trans rfl
     have hcz25_4 : wc.cell? ⟨gb313, 4, none⟩ = some (.slice A0_4 l0_4.length c0_4) := (blk_cell BK313.out 4).trans rfl
     have hcz25_5 : wc.cell? ⟨gb313, 5, none⟩ = some (.slice A0_5 l0_5.length c0_5) := (blk_cell BK313.out 5).trans rfl
     have hcz25_6 : wc.cell? ⟨gb313, 6, none⟩ = some (.slice A0_6 l0_6.length c0_6) := (blk_cell BK313.out 6).trans rfl
     have hfz25_0 := blk_frozen BK313.out 0
     have hfz25_1 := blk_frozen BK313.out 1
     have hfz25_2 := blk_frozen BK313.out 2
     have hfz25_3 := blk_frozen BK313.out 3
     have hfz25_4 := blk_frozen BK313.out 4
     have hfz25_5 := blk_frozen BK313.out 5
     have hfz25_6 := blk_frozen BK313.out 6
     go_upto_region 7 with (first | ((with_reducible refine gate_callee (f := 15) rfl ?_); refine goesL_ (some 18) rfl rfl Try.func15 (by kernel_rfl) rfl #[.agg #[.string a0_0, .int .u16 a0_1, .int .u16 a0_2, .int .u32 a0_3, .slice A0_4 l0_4.length c0_4, .slice A0_5 l0_5.length c0_5, .slice A0_6 l0_6.length c0_6]] rfl (by (try simp only [List.map_toArray, List.map_cons, List.map_nil]); first | done | rfl | (simp only [List.length_drop, List.length_take]; rfl)) ?_; (with_reducible refine (nunciolaw05_Copied.calls a0_0 a0_1 a0_2 a0_3 _ _ l0_4 _ _ l0_5 _ _ l0_6 t318 t319 t320 t321 t322 t325 t328 _ ?side1 ?side2 ?side3 ?side4 ?side5 ?side6 A21.out).mono ?_); (case side1 => repeat (first | exact (Kd.C_below HR0_4.out HB.out) | (with_reducible refine Kd.C_alloc ?_ _) | (with_reducible refine Kd.C_drewN ?_ _) | (with_reducible refine Kd.C_drew ?_))); (case side2 => exact HC0_4.out); (case side3 => repeat (first | exact (Kd.C_below HR0_5.out HB.out) | (with_reducible refine Kd.C_alloc ?_ _) | (with_reducible refine Kd.C_drewN ?_ _) | (with_reducible refine Kd.C_drew ?_))); (case side4 => exact HC0_5.out); (case side5 => repeat (first | exact (Kd.C_below HR0_6.out HB.out) | (with_reducible refine Kd.C_alloc ?_ _) | (with_reducible refine Kd.C_drewN ?_ _) | (with_reducible refine Kd.C_drew ?_))); (case side6 => exact HC0_6.out); rintro e w26 ⟨v323, v326, v329, rfl, ho0, ho1, ho2, hb⟩; refine ⟨_, rfl, ?_⟩; have n0_ := Aside0.mk (Kd.R_lower ho0 (below_size (by repeat (first | (with_reducible first | exact HB.out | apply below_alloc | apply pw_below_drewN | apply below_drew1 | refine below_set ?_ GE313.out | refine below_set ?_ GE314.out) | exact HB.out)))); have n1_ := Aside0.mk (Kd.R_lower ho1 (below_size (by repeat (first | (with_reducible first | exact HB.out | apply below_alloc | apply pw_below_drewN | apply below_drew1 | refine below_set ?_ GE313.out | refine below_set ?_ GE314.out) | exact HB.out)))); have n2_ := Aside0.mk (Kd.R_lower ho2 (below_size (by repeat (first | (with_reducible first | exact HB.out | apply below_alloc | apply pw_below_drewN | apply below_drew1 | refine below_set ?_ GE313.out | refine below_set ?_ GE314.out) | exact HB.out)))); have n3_ := Aside0.mk (blk_below (g := gb313) (o := .cells #[.string a0_0, .int .u16 a0_1, .int .u16 a0_2, .int .u32 a0_3, .slice A0_4 l0_4.length c0_4, .slice A0_5 l0_5.length c0_5, .slice A0_6 l0_6.length c0_6] 27 (0, 0)) (by (with_reducible repeat (first | refine blk_drewN ?_ _ | refine blk_drew ?_ | refine blk_alloc ?_ _)); exact BK313.out) hb); have n4_ := Aside0.mk (blk_below (g := gb314) (o := .cells #[.string a1_0, .int .u16 a1_1, .int .u16 a1_2, .int .u32 a1_3, .slice A1_4 l1_4.length c1_4, .slice A1_5 l1_5.length c1_5, .slice A1_6 l1_6.length c1_6] 27 (0, 0)) (by (with_reducible repeat (first | refine blk_drewN ?_ _ | refine blk_drew ?_ | refine blk_alloc ?_ _)); exact BK314.out) hb); have n5_ := Aside0.mk (below_step (by repeat (first | (with_reducible first | exact HB.out | apply below_alloc | apply pw_below_drewN | apply below_drew1 | refine below_set ?_ GE313.out | refine below_set ?_ GE314.out) | exact HB.out)) hb); clear BK313; clear BK314; clear HB; have HO324 := n0_; have HO327 := n1_; have HO330 := n2_; have BK313 := n3_; have BK314 := n4_; have HB := n5_; clear n0_ n1_ n2_ n3_ n4_ n5_; (try clear hb); (try clear hb2); (try clear hk); (try clear hi); (try clear ho0); (try clear ho1); (try clear ho2)) | ((with_reducible refine gate_dst (N := 5) rfl ?_); refine box_event ?hg (N := 5) ?hd (cs := #[.string (⟨#[]⟩ : ByteArray), .int .u16 0, .int .u16 0, .int .u32 0, .slice none 0 0, .slice none 0 0, .slice none 0 0]) (t := 27) ?hr ?_; (case hd => rfl); (case hg => rfl); (case hr => first | (go_simp; done) | (go_simp; rfl)); intro gb331 hg w27 hbox hb; have n0_ := Aside0.mk (Kd.R_below (by (with_reducible repeat (first | apply Kd.R_alloc | apply Kd.R_drewN | apply Kd.R_drew)); exact HO324.out) hb); have n1_ := Aside0.mk (Kd.R_below (by (with_reducible repeat (first | apply Kd.R_alloc | apply Kd.R_drewN | apply Kd.R_drew)); exact HO327.out) hb); have n2_ := Aside0.mk (Kd.R_below (by (with_reducible repeat (first | apply Kd.R_alloc | apply Kd.R_drewN | apply Kd.R_drew)); exact HO330.out) hb); have n3_ := Aside0.mk (blk_below (g := gb313) (o := .cells #[.string a0_0, .int .u16 a0_1, .int .u16 a0_2, .int .u32 a0_3, .slice A0_4 l0_4.length c0_4, .slice A0_5 l0_5.length c0_5, .slice A0_6 l0_6.length c0_6] 27 (0, 0)) (by (with_reducible repeat (first | refine blk_drewN ?_ _ | refine blk_drew ?_ | refine blk_alloc ?_ _)); exact BK313.out) hb); have n4_ := Aside0.mk (blk_below (g := gb314) (o := .cells #[.string a1_0, .int .u16 a1_1, .int .u16 a1_2, .int .u32 a1_3, .slice A1_4 l1_4.length c1_4, .slice A1_5 l1_5.length c1_5, .slice A1_6 l1_6.length c1_6] 27 (0, 0)) (by (with_reducible repeat (first | refine blk_drewN ?_ _ | refine blk_drew ?_ | refine blk_alloc ?_ _)); exact BK314.out) hb); have n5_ := Aside0.mk (below_step (by repeat (first | (with_reducible first | exact HB.out | apply below_alloc | apply pw_below_drewN | apply below_drew1 | refine below_set ?_ GE313.out | refine below_set ?_ GE314.out) | exact HB.out)) hb); have n6_ := Aside0.mk (hbox); have n7_ := Aside0.mk ((by rw [hg]; exact (below_size (by repeat (first | (with_reducible first | exact HB.out | apply below_alloc | apply pw_below_drewN | apply below_drew1 | refine below_set ?_ GE313.out | refine below_set ?_ GE314.out) | exact HB.out))) : w.heap.size ≤ gb331)); have n8_ := Aside0.mk ((by rw [hg]; exact (below_size (by repeat (first | (with_reducible first | exact HB.out | apply below_alloc | apply pw_below_drewN | apply below_drew1 | refine below_set ?_ GE313.out | refine below_set ?_ GE314.out) | exact HB.out))) : w.heap.size ≤ gb331)); have n9_ := Aside0.mk ((by rw [hg]; exact Nat.ne_of_lt (blk_lt (g := gb313) (o := .cells #[.string a0_0, .int .u16 a0_1, .int .u16 a0_2, .int .u32 a0_3, .slice A0_4 l0_4.length c0_4, .slice A0_5 l0_5.length c0_5, .slice A0_6 l0_6.length c0_6] 27 (0, 0)) (by (with_reducible repeat (first | refine blk_drewN ?_ _ | refine blk_drew ?_ | refine blk_alloc ?_ _)); exact BK313.out)) : gb313 ≠ gb331)); have n10_ := Aside0.mk ((by rw [hg]; exact Nat.ne_of_gt (blk_lt (g := gb313) (o := .cells #[.string a0_0, .int .u16 a0_1, .int .u16 a0_2, .int .u32 a0_3, .slice A0_4 l0_4.length c0_4, .slice A0_5 l0_5.length c0_5, .slice A0_6 l0_6.length c0_6] 27 (0, 0)) (by (with_reducible repeat (first | refine blk_drewN ?_ _ | refine blk_drew ?_ | refine blk_alloc ?_ _)); exact BK313.out)) : gb331 ≠ gb313)); have n11_ := Aside0.mk ((by rw [hg]; exact Nat.ne_of_lt (blk_lt (g := gb314) (o := .cells #[.string a1_0, .int .u16 a1_1, .int .u16 a1_2, .int .u32 a1_3, .slice A1_4 l1_4.length c1_4, .slice A1_5 l1_5.length c1_5, .slice A1_6 l1_6.length c1_6] 27 (0, 0)) (by (with_reducible repeat (first | refine blk_drewN ?_ _ | refine blk_drew ?_ | refine blk_alloc ?_ _)); exact BK314.out)) : gb314 ≠ gb331)); have n12_ := Aside0.mk ((by rw [hg]; exact Nat.ne_of_gt (blk_lt (g := gb314) (o := .cells #[.string a1_0, .int .u16 a1_1, .int .u16 a1_2, .int .u32 a1_3, .slice A1_4 l1_4.length c1_4, .slice A1_5 l1_5.length c1_5, .slice A1_6 l1_6.length c1_6] 27 (0, 0)) (by (with_reducible repeat (first | refine blk_drewN ?_ _ | refine blk_drew ?_ | refine blk_alloc ?_ _)); exact BK314.out)) : gb331 ≠ gb314)); clear HO324; clear HO327; clear HO330; clear BK313; clear BK314; clear HB; have HO324 := n0_; have HO327 := n1_; have HO330 := n2_; have BK313 := n3_; have BK314 := n4_; have HB := n5_; have BK331 := n6_; have GW331 := n7_; have GE331 := n8_; have NB313_331 := n9_; have NB331_313 := n10_; have NB314_331 := n11_; have NB331_314 := n12_; clear n0_ n1_ n2_ n3_ n4_ n5_ n6_ n7_ n8_ n9_ n10_ n11_ n12_; clear hb hbox hg; have hnb28 := NB331_313.out; have hnc28 := NB313_331.out; have hnb29 := NB331_314.out; have hnc29 := NB314_331.out; have hcz30_0 : w27.cell? ⟨gb331, 0, none⟩ = some (.string (⟨#[]⟩ : ByteArray)) := (blk_cell BK331.out 0).trans rfl; have hcz30_1 : w27.cell? ⟨gb331, 1, none⟩ = some (.int .u16 0) := (blk_cell BK331.out 1).trans rfl; have hcz30_2 : w27.cell? ⟨gb331, 2, none⟩ = some (.int .u16 0) := (blk_cell BK331.out 2).trans rfl; have hcz30_3 : w27.cell? ⟨gb331, 3, none⟩ = some (.int .u32 0) := (blk_cell BK331.out 3).trans rfl; have hcz30_4 : w27.cell? ⟨gb331, 4, none⟩ = some (.slice none 0 0) := (blk_cell BK331.out 4).trans rfl; have hcz30_5 : w27.cell? ⟨gb331, 5, none⟩ = some (.slice none 0 0) := (blk_cell BK331.out 5).trans rfl; have hcz30_6 : w27.cell? ⟨gb331, 6, none⟩ = some (.slice none 0 0) := (blk_cell BK331.out 6).trans rfl; have hfz30_0 := blk_frozen BK331.out 0; have hfz30_1 := blk_frozen BK331.out 1; have hfz30_2 := blk_frozen BK331.out 2; have hfz30_3 := blk_frozen BK331.out 3; have hfz30_4 := blk_frozen BK331.out 4; have hfz30_5 := blk_frozen BK331.out 5; have hfz30_6 := blk_frozen BK331.out 6; obtain ⟨Ao31, co31, eo31⟩ := Kd.R_slice HO324.out; subst eo31; obtain ⟨Ao32, co32, eo32⟩ := Kd.R_slice HO327.out; subst eo32; obtain ⟨Ao33, co33, eo33⟩ := Kd.R_slice HO330.out; subst eo33) | ((with_reducible refine gate_callee (f := 16) rfl ?_); refine goesL_ (some 20) rfl rfl Try.func16 (by kernel_rfl) rfl #[.agg #[.string t318, .int .u16 t319, .int .u16 t320, .int .u32 t321, .slice Ao31 t322.length co31, .slice Ao32 t325.length co32, .slice Ao33 t328.length co33]] rfl (by (try simp only [List.map_toArray, List.map_cons, List.map_nil]); first | done | rfl | (simp only [List.length_drop, List.length_take]; rfl)) ?_; (with_reducible refine (rdata_Copy.calls t318 t319 t320 t321 _ _ t322 _ _ t325 _ _ t328 t332 t333 t334 t335 t336 t339 t342 _ ?side1 ?side2 ?side3 ?side4 ?side5 ?side6 A22.out).mono ?_); (case side1 => refine (Kd.R_reads' (e := 9) (base := w.heap.size) (ok := fun k_ => some k_ ≠ (.slice Ao33 t328.length co33 : Value).ownBlock) (n := t322.length) (c := co31) ?_).2.2; exact (by (with_reducible repeat (first | apply Kd.R_alloc | apply Kd.R_drewN | apply Kd.R_drew)); exact (Kd.R_mono (Kd.R_far (p := ⟨gb331, 6, none⟩) (Kd.R_far (p := ⟨gb331, 5, none⟩) (Kd.R_far (p := ⟨gb331, 4, none⟩) (Kd.R_far (p := ⟨gb331, 3, none⟩) (Kd.R_far (p := ⟨gb331, 2, none⟩) (Kd.R_far (p := ⟨gb331, 1, none⟩) (Kd.R_far (p := ⟨gb331, 0, none⟩) (Kd.R_types HO324.out BK331.out (by decide)) (fun _ hk => hk.2) (.string t318)) (fun _ hk => hk.2) (.int .u16 t319)) (fun _ hk => hk.2) (.int .u16 t320)) (fun _ hk => hk.2) (.int .u32 t321)) (fun _ hk => hk.2) (.slice Ao31 t322.length co31)) (fun _ hk => hk.2) (.slice Ao32 t325.length co32)) (fun _ hk => hk.2) (.slice Ao33 t328.length co33)) (fun _ h_ => h_.1)))); (case side2 => exact (Kd.R_reads' HO324.out).2.1); (case side3 => refine (Kd.R_reads' (e := 23) (base := w.heap.size) (ok := fun k_ => True) (n := t325.length) (c := co32) ?_).2.2; exact (by (with_reducible repeat (first | apply Kd.R_alloc | apply Kd.R_drewN | apply Kd.R_drew)); exact (Kd.R_mono (Kd.R_far (p := ⟨gb331, 6, none⟩) (Kd.R_far (p := ⟨gb331, 5, none⟩) (Kd.R_far (p := ⟨gb331, 4, none⟩) (Kd.R_far (p := ⟨gb331, 3, none⟩) (Kd.R_far (p := ⟨gb331, 2, none⟩) (Kd.R_far (p := ⟨gb331, 1, none⟩) (Kd.R_far (p := ⟨gb331, 0, none⟩) (Kd.R_types HO327.out BK331.out (by decide)) (fun _ hk => hk.2) (.string t318)) (fun _ hk => hk.2) (.int .u16 t319)) (fun _ hk => hk.2) (.int .u16 t320)) (fun _ hk => hk.2) (.int .u32 t321)) (fun _ hk => hk.2) (.slice Ao31 t322.length co31)) (fun _ hk => hk.2) (.slice Ao32 t325.length co32)) (fun _ hk => hk.2) (.slice Ao33 t328.length co33)) (fun _ h_ => h_.1)))); (case side4 => exact (Kd.R_reads' HO327.out).2.1); (case side5 => refine (Kd.R_reads' (e := 9) (base := w.heap.size) (ok := fun k_ => some k_ ≠ (.slice Ao31 t322.length co31 : Value).ownBlock) (n := t328.length) (c := co33) ?_).2.2; exact (by (with_reducible repeat (first | apply Kd.R_alloc | apply Kd.R_drewN | apply Kd.R_drew)); exact (Kd.R_mono (Kd.R_far (p := ⟨gb331, 6, none⟩) (Kd.R_far (p := ⟨gb331, 5, none⟩) (Kd.R_far (p := ⟨gb331, 4, none⟩) (Kd.R_far (p := ⟨gb331, 3, none⟩) (Kd.R_far (p := ⟨gb331, 2, none⟩) (Kd.R_far (p := ⟨gb331, 1, none⟩) (Kd.R_far (p := ⟨gb331, 0, none⟩) (Kd.R_types HO330.out BK331.out (by decide)) (fun _ hk => hk.2) (.string t318)) (fun _ hk => hk.2) (.int .u16 t319)) (fun _ hk => hk.2) (.int .u16 t320)) (fun _ hk => hk.2) (.int .u32 t321)) (fun _ hk => hk.2) (.slice Ao31 t322.length co31)) (fun _ hk => hk.2) (.slice Ao32 t325.length co32)) (fun _ hk => hk.2) (.slice Ao33 t328.length co33)) (fun _ h_ => h_.1)))); (case side6 => exact (Kd.R_reads' HO330.out).2.1); rintro e w34 ⟨v337, v340, v343, rfl, ho0, ho1, ho2, hb⟩; refine ⟨_, rfl, ?_⟩; have n0_ := Aside0.mk (Kd.R_mono (Kd.R_told (Kd.R_told (Kd.R_old (by (with_reducible repeat (first | apply Kd.R_alloc | apply Kd.R_drewN | apply Kd.R_drew)); exact (Kd.R_mono (Kd.R_far (p := ⟨gb331, 6, none⟩) (Kd.R_far (p := ⟨gb331, 5, none⟩) (Kd.R_far (p := ⟨gb331, 4, none⟩) (Kd.R_far (p := ⟨gb331, 3, none⟩) (Kd.R_far (p := ⟨gb331, 2, none⟩) (Kd.R_far (p := ⟨gb331, 1, none⟩) (Kd.R_far (p := ⟨gb331, 0, none⟩) (Kd.R_types HO324.out BK331.out (by decide)) (fun _ hk => hk.2) (.string t318)) (fun _ hk => hk.2) (.int .u16 t319)) (fun _ hk => hk.2) (.int .u16 t320)) (fun _ hk => hk.2) (.int .u32 t321)) (fun _ hk => hk.2) (.slice Ao31 t322.length co31)) (fun _ hk => hk.2) (.slice Ao32 t325.length co32)) (fun _ hk => hk.2) (.slice Ao33 t328.length co33)) (fun _ h_ => h_.1))) hb) (Kd.R_base ho0)) (Kd.R_base ho2)) (fun _ h_ => h_.1)); have n1_ := Aside0.mk (Kd.R_elder' (by (with_reducible repeat (first | apply Kd.R_alloc | apply Kd.R_drewN | apply Kd.R_drew)); exact (Kd.R_mono (Kd.R_far (p := ⟨gb331, 6, none⟩) (Kd.R_far (p := ⟨gb331, 5, none⟩) (Kd.R_far (p := ⟨gb331, 4, none⟩) (Kd.R_far (p := ⟨gb331, 3, none⟩) (Kd.R_far (p := ⟨gb331, 2, none⟩) (Kd.R_far (p := ⟨gb331, 1, none⟩) (Kd.R_far (p := ⟨gb331, 0, none⟩) (Kd.R_types HO327.out BK331.out (by decide)) (fun _ hk => hk.2) (.string t318)) (fun _ hk => hk.2) (.int .u16 t319)) (fun _ hk => hk.2) (.int .u16 t320)) (fun _ hk => hk.2) (.int .u32 t321)) (fun _ hk => hk.2) (.slice Ao31 t322.length co31)) (fun _ hk => hk.2) (.slice Ao32 t325.length co32)) (fun _ hk => hk.2) (.slice Ao33 t328.length co33)) (fun _ h_ => h_.1))) (Kd.R_base ho1) hb); have n2_ := Aside0.mk (Kd.R_mono (Kd.R_told (Kd.R_told (Kd.R_old (by (with_reducible repeat (first | apply Kd.R_alloc | apply Kd.R_drewN | apply Kd.R_drew)); exact (Kd.R_mono (Kd.R_far (p := ⟨gb331, 6, none⟩) (Kd.R_far (p := ⟨gb331, 5, none⟩) (Kd.R_far (p := ⟨gb331, 4, none⟩) (Kd.R_far (p := ⟨gb331, 3, none⟩) (Kd.R_far (p := ⟨gb331, 2, none⟩) (Kd.R_far (p := ⟨gb331, 1, none⟩) (Kd.R_far (p := ⟨gb331, 0, none⟩) (Kd.R_types HO330.out BK331.out (by decide)) (fun _ hk => hk.2) (.string t318)) (fun _ hk => hk.2) (.int .u16 t319)) (fun _ hk => hk.2) (.int .u16 t320)) (fun _ hk => hk.2) (.int .u32 t321)) (fun _ hk => hk.2) (.slice Ao31 t322.length co31)) (fun _ hk => hk.2) (.slice Ao32 t325.length co32)) (fun _ hk => hk.2) (.slice Ao33 t328.length co33)) (fun _ h_ => h_.1))) hb) (Kd.R_base ho0)) (Kd.R_base ho2)) (fun _ h_ => h_.1)); have n3_ := Aside0.mk (Kd.R_lower (Kd.R_new' (Kd.R_new' ho0 (Kd.R_lt (by (with_reducible repeat (first | apply Kd.R_alloc | apply Kd.R_drewN | apply Kd.R_drew)); exact (Kd.R_mono (Kd.R_far (p := ⟨gb331, 6, none⟩) (Kd.R_far (p := ⟨gb331, 5, none⟩) (Kd.R_far (p := ⟨gb331, 4, none⟩) (Kd.R_far (p := ⟨gb331, 3, none⟩) (Kd.R_far (p := ⟨gb331, 2, none⟩) (Kd.R_far (p := ⟨gb331, 1, none⟩) (Kd.R_far (p := ⟨gb331, 0, none⟩) (Kd.R_types HO324.out BK331.out (by decide)) (fun _ hk => hk.2) (.string t318)) (fun _ hk => hk.2) (.int .u16 t319)) (fun _ hk => hk.2) (.int .u16 t320)) (fun _ hk => hk.2) (.int .u32 t321)) (fun _ hk => hk.2) (.slice Ao31 t322.length co31)) (fun _ hk => hk.2) (.slice Ao32 t325.length co32)) (fun _ hk => hk.2) (.slice Ao33 t328.length co33)) (fun _ h_ => h_.1))))) (Kd.R_lt (by (with_reducible repeat (first | apply Kd.R_alloc | apply Kd.R_drewN | apply Kd.R_drew)); exact (Kd.R_mono (Kd.R_far (p := ⟨gb331, 6, none⟩) (Kd.R_far (p := ⟨gb331, 5, none⟩) (Kd.R_far (p := ⟨gb331, 4, none⟩) (Kd.R_far (p := ⟨gb331, 3, none⟩) (Kd.R_far (p := ⟨gb331, 2, none⟩) (Kd.R_far (p := ⟨gb331, 1, none⟩) (Kd.R_far (p := ⟨gb331, 0, none⟩) (Kd.R_types HO330.out BK331.out (by decide)) (fun _ hk => hk.2) (.string t318)) (fun _ hk => hk.2) (.int .u16 t319)) (fun _ hk => hk.2) (.int .u16 t320)) (fun _ hk => hk.2) (.int .u32 t321)) (fun _ hk => hk.2) (.slice Ao31 t322.length co31)) (fun _ hk => hk.2) (.slice Ao32 t325.length co32)) (fun _ hk => hk.2) (.slice Ao33 t328.length co33)) (fun _ h_ => h_.1))))) (below_size (by repeat (first | (with_reducible first | exact HB.out | apply below_alloc | apply pw_below_drewN | apply below_drew1 | refine below_set ?_ GE313.out | refine below_set ?_ GE314.out | refine below_set ?_ GE331.out) | exact HB.out)))); have n4_ := Aside0.mk (Kd.R_lower (Kd.R_new' ho1 (Kd.R_lt (by (with_reducible repeat (first | apply Kd.R_alloc | apply Kd.R_drewN | apply Kd.R_drew)); exact (Kd.R_mono (Kd.R_far (p := ⟨gb331, 6, none⟩) (Kd.R_far (p := ⟨gb331, 5, none⟩) (Kd.R_far (p := ⟨gb331, 4, none⟩) (Kd.R_far (p := ⟨gb331, 3, none⟩) (Kd.R_far (p := ⟨gb331, 2, none⟩) (Kd.R_far (p := ⟨gb331, 1, none⟩) (Kd.R_far (p := ⟨gb331, 0, none⟩) (Kd.R_types HO327.out BK331.out (by decide)) (fun _ hk => hk.2) (.string t318)) (fun _ hk => hk.2) (.int .u16 t319)) (fun _ hk => hk.2) (.int .u16 t320)) (fun _ hk => hk.2) (.int .u32 t321)) (fun _ hk => hk.2) (.slice Ao31 t322.length co31)) (fun _ hk => hk.2) (.slice Ao32 t325.length co32)) (fun _ hk => hk.2) (.slice Ao33 t328.length co33)) (fun _ h_ => h_.1))))) (below_size (by repeat (first | (with_reducible first | exact HB.out | apply below_alloc | apply pw_below_drewN | apply below_drew1 | refine below_set ?_ GE313.out | refine below_set ?_ GE314.out | refine below_set ?_ GE331.out) | exact HB.out)))); have n5_ := Aside0.mk (Kd.R_lower (Kd.R_new' (Kd.R_new' ho2 (Kd.R_lt (by (with_reducible repeat (first | apply Kd.R_alloc | apply Kd.R_drewN | apply Kd.R_drew)); exact (Kd.R_mono (Kd.R_far (p := ⟨gb331, 6, none⟩) (Kd.R_far (p := ⟨gb331, 5, none⟩) (Kd.R_far (p := ⟨gb331, 4, none⟩) (Kd.R_far (p := ⟨gb331, 3, none⟩) (Kd.R_far (p := ⟨gb331, 2, none⟩) (Kd.R_far (p := ⟨gb331, 1, none⟩) (Kd.R_far (p := ⟨gb331, 0, none⟩) (Kd.R_types HO324.out BK331.out (by decide)) (fun _ hk => hk.2) (.string t318)) (fun _ hk => hk.2) (.int .u16 t319)) (fun _ hk => hk.2) (.int .u16 t320)) (fun _ hk => hk.2) (.int .u32 t321)) (fun _ hk => hk.2) (.slice Ao31 t322.length co31)) (fun _ hk => hk.2) (.slice Ao32 t325.length co32)) (fun _ hk => hk.2) (.slice Ao33 t328.length co33)) (fun _ h_ => h_.1))))) (Kd.R_lt (by (with_reducible repeat (first | apply Kd.R_alloc | apply Kd.R_drewN | apply Kd.R_drew)); exact (Kd.R_mono (Kd.R_far (p := ⟨gb331, 6, none⟩) (Kd.R_far (p := ⟨gb331, 5, none⟩) (Kd.R_far (p := ⟨gb331, 4, none⟩) (Kd.R_far (p := ⟨gb331, 3, none⟩) (Kd.R_far (p := ⟨gb331, 2, none⟩) (Kd.R_far (p := ⟨gb331, 1, none⟩) (Kd.R_far (p := ⟨gb331, 0, none⟩) (Kd.R_types HO330.out BK331.out (by decide)) (fun _ hk => hk.2) (.string t318)) (fun _ hk => hk.2) (.int .u16 t319)) (fun _ hk => hk.2) (.int .u16 t320)) (fun _ hk => hk.2) (.int .u32 t321)) (fun _ hk => hk.2) (.slice Ao31 t322.length co31)) (fun _ hk => hk.2) (.slice Ao32 t325.length co32)) (fun _ hk => hk.2) (.slice Ao33 t328.length co33)) (fun _ h_ => h_.1))))) (below_size (by repeat (first | (with_reducible first | exact HB.out | apply below_alloc | apply pw_below_drewN | apply below_drew1 | refine below_set ?_ GE313.out | refine below_set ?_ GE314.out | refine below_set ?_ GE331.out) | exact HB.out)))); have n6_ := Aside0.mk (blk_below (g := gb313) (o := .cells #[.string a0_0, .int .u16 a0_1, .int .u16 a0_2, .int .u32 a0_3, .slice A0_4 l0_4.length c0_4, .slice A0_5 l0_5.length c0_5, .slice A0_6 l0_6.length c0_6] 27 (0, 0)) (by (with_reducible repeat (first | refine blk_drewN ?_ _ | refine blk_drew ?_ | refine blk_alloc ?_ _)); refine blk_far ?_ NB313_331.out _; (with_reducible repeat (first | refine blk_drewN ?_ _ | refine blk_drew ?_ | refine blk_alloc ?_ _)); refine blk_far ?_ NB313_331.out _; (with_reducible repeat (first | refine blk_drewN ?_ _ | refine blk_drew ?_ | refine blk_alloc ?_ _)); refine blk_far ?_ NB313_331.out _; (with_reducible repeat (first | refine blk_drewN ?_ _ | refine blk_drew ?_ | refine blk_alloc ?_ _)); refine blk_far ?_ NB313_331.out _; (with_reducible repeat (first | refine blk_drewN ?_ _ | refine blk_drew ?_ | refine blk_alloc ?_ _)); refine blk_far ?_ NB313_331.out _; (with_reducible repeat (first | refine blk_drewN ?_ _ | refine blk_drew ?_ | refine blk_alloc ?_ _)); refine blk_far ?_ NB313_331.out _; (with_reducible repeat (first | refine blk_drewN ?_ _ | refine blk_drew ?_ | refine blk_alloc ?_ _)); refine blk_far ?_ NB313_331.out _; (with_reducible repeat (first | refine blk_drewN ?_ _ | refine blk_drew ?_ | refine blk_alloc ?_ _)); exact BK313.out) hb); have n7_ := Aside0.mk (blk_below (g := gb314) (o := .cells #[.string a1_0, .int .u16 a1_1, .int .u16 a1_2, .int .u32 a1_3, .slice A1_4 l1_4.length c1_4, .slice A1_5 l1_5.length c1_5, .slice A1_6 l1_6.length c1_6] 27 (0, 0)) (by (with_reducible repeat (first | refine blk_drewN ?_ _ | refine blk_drew ?_ | refine blk_alloc ?_ _)); refine blk_far ?_ NB314_331.out _; (with_reducible repeat (first | refine blk_drewN ?_ _ | refine blk_drew ?_ | refine blk_alloc ?_ _)); refine blk_far ?_ NB314_331.out _; (with_reducible repeat (first | refine blk_drewN ?_ _ | refine blk_drew ?_ | refine blk_alloc ?_ _)); refine blk_far ?_ NB314_331.out _; (with_reducible repeat (first | refine blk_drewN ?_ _ | refine blk_drew ?_ | refine blk_alloc ?_ _)); refine blk_far ?_ NB314_331.out _; (with_reducible repeat (first | refine blk_drewN ?_ _ | refine blk_drew ?_ | refine blk_alloc ?_ _)); refine blk_far ?_ NB314_331.out _; (with_reducible repeat (first | refine blk_drewN ?_ _ | refine blk_drew ?_ | refine blk_alloc ?_ _)); refine blk_far ?_ NB314_331.out _; (with_reducible repeat (first | refine blk_drewN ?_ _ | refine blk_drew ?_ | refine blk_alloc ?_ _)); refine blk_far ?_ NB314_331.out _; (with_reducible repeat (first | refine blk_drewN ?_ _ | refine blk_drew ?_ | refine blk_alloc ?_ _)); exact BK314.out) hb); have n8_ := Aside0.mk (blk_below (g := gb331) (o := .cells #[.string t318, .int .u16 t319, .int .u16 t320, .int .u32 t321, .slice Ao31 t322.length co31, .slice Ao32 t325.length co32, .slice Ao33 t328.length co33] 27 (0, 0)) (by (with_reducible repeat (first | refine blk_drewN ?_ _ | refine blk_drew ?_ | refine blk_alloc ?_ _)); refine blk_put (cs := #[.string t318, .int .u16 t319, .int .u16 t320, .int .u32 t321, .slice Ao31 t322.length co31, .slice Ao32 t325.length co32, .slice none 0 0]) ?_ 6 _ rfl; (with_reducible repeat (first | refine blk_drewN ?_ _ | refine blk_drew ?_ | refine blk_alloc ?_ _)); refine blk_put (cs := #[.string t318, .int .u16 t319, .int .u16 t320, .int .u32 t321, .slice Ao31 t322.length co31, .slice none 0 0, .slice none 0 0]) ?_ 5 _ rfl; (with_reducible repeat (first | refine blk_drewN ?_ _ | refine blk_drew ?_ | refine blk_alloc ?_ _)); refine blk_put (cs := #[.string t318, .int .u16 t319, .int .u16 t320, .int .u32 t321, .slice none 0 0, .slice none 0 0, .slice none 0 0]) ?_ 4 _ rfl; (with_reducible repeat (first | refine blk_drewN ?_ _ | refine blk_drew ?_ | refine blk_alloc ?_ _)); refine blk_put (cs := #[.string t318, .int .u16 t319, .int .u16 t320, .int .u32 0, .slice none 0 0, .slice none 0 0, .slice none 0 0]) ?_ 3 _ rfl; (with_reducible repeat (first | refine blk_drewN ?_ _ | refine blk_drew ?_ | refine blk_alloc ?_ _)); refine blk_put (cs := #[.string t318, .int .u16 t319, .int .u16 0, .int .u32 0, .slice none 0 0, .slice none 0 0, .slice none 0 0]) ?_ 2 _ rfl; (with_reducible repeat (first | refine blk_drewN ?_ _ | refine blk_drew ?_ | refine blk_alloc ?_ _)); refine blk_put (cs := #[.string t318, .int .u16 0, .int .u16 0, .int .u32 0, .slice none 0 0, .slice none 0 0, .slice none 0 0]) ?_ 1 _ rfl; (with_reducible repeat (first | refine blk_drewN ?_ _ | refine blk_drew ?_ | refine blk_alloc ?_ _)); refine blk_put (cs := #[.string (⟨#[]⟩ : ByteArray), .int .u16 0, .int .u16 0, .int .u32 0, .slice none 0 0, .slice none 0 0, .slice none 0 0]) ?_ 0 _ rfl; (with_reducible repeat (first | refine blk_drewN ?_ _ | refine blk_drew ?_ | refine blk_alloc ?_ _)); exact BK331.out) hb); have n9_ := Aside0.mk (below_step (by repeat (first | (with_reducible first | exact HB.out | apply below_alloc | apply pw_below_drewN | apply below_drew1 | refine below_set ?_ GE313.out | refine below_set ?_ GE314.out | refine below_set ?_ GE331.out) | exact HB.out)) hb); clear HO324; clear HO327; clear HO330; clear BK313; clear BK314; clear BK331; clear HB; have HO324 := n0_; have HO327 := n1_; have HO330 := n2_; have HO338 := n3_; have HO341 := n4_; have HO344 := n5_; have BK313 := n6_; have BK314 := n7_; have BK331 := n8_; have HB := n9_; clear n0_ n1_ n2_ n3_ n4_ n5_ n6_ n7_ n8_ n9_; (try clear hb); (try clear hb2); (try clear hk); (try clear hi); (try clear ho0); (try clear ho1); (try clear ho2)) | ((with_reducible refine gate_dst (N := 6) rfl ?_); refine box_event ?hg (N := 6) ?hd (cs := #[.string (⟨#[]⟩ : ByteArray), .int .u16 0, .int .u16 0, .int .u32 0, .slice none 0 0, .slice none 0 0, .slice none 0 0]) (t := 27) ?hr ?_; (case hd => rfl); (case hg => rfl); (case hr => first | (go_simp; done) | (go_simp; rfl)); intro gb345 hg w35 hbox hb; have n0_ := Aside0.mk (Kd.R_below (by (with_reducible repeat (first | apply Kd.R_alloc | apply Kd.R_drewN | apply Kd.R_drew)); exact HO324.out) hb); have n1_ := Aside0.mk (Kd.R_below (by (with_reducible repeat (first | apply Kd.R_alloc | apply Kd.R_drewN | apply Kd.R_drew)); exact HO327.out) hb); have n2_ := Aside0.mk (Kd.R_below (by (with_reducible repeat (first | apply Kd.R_alloc | apply Kd.R_drewN | apply Kd.R_drew)); exact HO330.out) hb); have n3_ := Aside0.mk (Kd.R_below (by (with_reducible repeat (first | apply Kd.R_alloc | apply Kd.R_drewN | apply Kd.R_drew)); exact HO338.out) hb); have n4_ := Aside0.mk (Kd.R_below (by (with_reducible repeat (first | apply Kd.R_alloc | apply Kd.R_drewN | apply Kd.R_drew)); exact HO341.out) hb); have n5_ := Aside0.mk (Kd.R_below (by (with_reducible repeat (first | apply Kd.R_alloc | apply Kd.R_drewN | apply Kd.R_drew)); exact HO344.out) hb); have n6_ := Aside0.mk (blk_below (g := gb313) (o := .cells #[.string a0_0, .int .u16 a0_1, .int .u16 a0_2, .int .u32 a0_3, .slice A0_4 l0_4.length c0_4, .slice A0_5 l0_5.length c0_5, .slice A0_6 l0_6.length c0_6] 27 (0, 0)) (by (with_reducible repeat (first | refine blk_drewN ?_ _ | refine blk_drew ?_ | refine blk_alloc ?_ _)); exact BK313.out) hb); have n7_ := Aside0.mk (blk_below (g := gb314) (o := .cells #[.string a1_0, .int .u16 a1_1, .int .u16 a1_2, .int .u32 a1_3, .slice A1_4 l1_4.length c1_4, .slice A1_5 l1_5.length c1_5, .slice A1_6 l1_6.length c1_6] 27 (0, 0)) (by (with_reducible repeat (first | refine blk_drewN ?_ _ | refine blk_drew ?_ | refine blk_alloc ?_ _)); exact BK314.out) hb); have n8_ := Aside0.mk (blk_below (g := gb331) (o := .cells #[.string t318, .int .u16 t319, .int .u16 t320, .int .u32 t321, .slice Ao31 t322.length co31, .slice Ao32 t325.length co32, .slice Ao33 t328.length co33] 27 (0, 0)) (by (with_reducible repeat (first | refine blk_drewN ?_ _ | refine blk_drew ?_ | refine blk_alloc ?_ _)); exact BK331.out) hb); have n9_ := Aside0.mk (below_step (by repeat (first | (with_reducible first | exact HB.out | apply below_alloc | apply pw_below_drewN | apply below_drew1 | refine below_set ?_ GE313.out | refine below_set ?_ GE314.out | refine below_set ?_ GE331.out) | exact HB.out)) hb); have n10_ := Aside0.mk (hbox); have n11_ := Aside0.mk ((by rw [hg]; exact (below_size (by repeat (first | (with_reducible first | exact HB.out | apply below_alloc | apply pw_below_drewN | apply below_drew1 | refine below_set ?_ GE313.out | refine below_set ?_ GE314.out | refine below_set ?_ GE331.out) | exact HB.out))) : w.heap.size ≤ gb345)); have n12_ := Aside0.mk ((by rw [hg]; exact (below_size (by repeat (first | (with_reducible first | exact HB.out | apply below_alloc | apply pw_below_drewN | apply below_drew1 | refine below_set ?_ GE313.out | refine below_set ?_ GE314.out | refine below_set ?_ GE331.out) | exact HB.out))) : w.heap.size ≤ gb345)); have n13_ := Aside0.mk ((by rw [hg]; exact Nat.ne_of_lt (blk_lt (g := gb313) (o := .cells #[.string a0_0, .int .u16 a0_1, .int .u16 a0_2, .int .u32 a0_3, .slice A0_4 l0_4.length c0_4, .slice A0_5 l0_5.length c0_5, .slice A0_6 l0_6.length c0_6] 27 (0, 0)) (by (with_reducible repeat (first | refine blk_drewN ?_ _ | refine blk_drew ?_ | refine blk_alloc ?_ _)); exact BK313.out)) : gb313 ≠ gb345)); have n14_ := Aside0.mk ((by rw [hg]; exact Nat.ne_of_gt (blk_lt (g := gb313) (o := .cells #[.string a0_0, .int .u16 a0_1, .int .u16 a0_2, .int .u32 a0_3, .slice A0_4 l0_4.length c0_4, .slice A0_5 l0_5.length c0_5, .slice A0_6 l0_6.length c0_6] 27 (0, 0)) (by (with_reducible repeat (first | refine blk_drewN ?_ _ | refine blk_drew ?_ | refine blk_alloc ?_ _)); exact BK313.out)) : gb345 ≠ gb313)); have n15_ := Aside0.mk ((by rw [hg]; exact Nat.ne_of_lt (blk_lt (g := gb314) (o := .cells #[.string a1_0, .int .u16 a1_1, .int .u16 a1_2, .int .u32 a1_3, .slice A1_4 l1_4.length c1_4, .slice A1_5 l1_5.length c1_5, .slice A1_6 l1_6.length c1_6] 27 (0, 0)) (by (with_reducible repeat (first | refine blk_drewN ?_ _ | refine blk_drew ?_ | refine blk_alloc ?_ _)); exact BK314.out)) : gb314 ≠ gb345)); have n16_ := Aside0.mk ((by rw [hg]; exact Nat.ne_of_gt (blk_lt (g := gb314) (o := .cells #[.string a1_0, .int .u16 a1_1, .int .u16 a1_2, .int .u32 a1_3, .slice A1_4 l1_4.length c1_4, .slice A1_5 l1_5.length c1_5, .slice A1_6 l1_6.length c1_6] 27 (0, 0)) (by (with_reducible repeat (first | refine blk_drewN ?_ _ | refine blk_drew ?_ | refine blk_alloc ?_ _)); exact BK314.out)) : gb345 ≠ gb314)); have n17_ := Aside0.mk ((by rw [hg]; exact Nat.ne_of_lt (blk_lt (g := gb331) (o := .cells #[.string t318, .int .u16 t319, .int .u16 t320, .int .u32 t321, .slice Ao31 t322.length co31, .slice Ao32 t325.length co32, .slice Ao33 t328.length co33] 27 (0, 0)) (by (with_reducible repeat (first | refine blk_drewN ?_ _ | refine blk_drew ?_ | refine blk_alloc ?_ _)); exact BK331.out)) : gb331 ≠ gb345)); have n18_ := Aside0.mk ((by rw [hg]; exact Nat.ne_of_gt (blk_lt (g := gb331) (o := .cells #[.string t318, .int .u16 t319, .int .u16 t320, .int .u32 t321, .slice Ao31 t322.length co31, .slice Ao32 t325.length co32, .slice Ao33 t328.length co33] 27 (0, 0)) (by (with_reducible repeat (first | refine blk_drewN ?_ _ | refine blk_drew ?_ | refine blk_alloc ?_ _)); exact BK331.out)) : gb345 ≠ gb331)); clear HO324; clear HO327; clear HO330; clear HO338; clear HO341; clear HO344; clear BK313; clear BK314; clear BK331; clear HB; have HO324 := n0_; have HO327 := n1_; have HO330 := n2_; have HO338 := n3_; have HO341 := n4_; have HO344 := n5_; have BK313 := n6_; have BK314 := n7_; have BK331 := n8_; have HB := n9_; have BK345 := n10_; have GW345 := n11_; have GE345 := n12_; have NB313_345 := n13_; have NB345_313 := n14_; have NB314_345 := n15_; have NB345_314 := n16_; have NB331_345 := n17_; have NB345_331 := n18_; clear n0_ n1_ n2_ n3_ n4_ n5_ n6_ n7_ n8_ n9_ n10_ n11_ n12_ n13_ n14_ n15_ n16_ n17_ n18_; clear hb hbox hg; have hnb36 := NB345_313.out; have hnc36 := NB313_345.out; have hnb37 := NB345_314.out; have hnc37 := NB314_345.out; have hnb38 := NB345_331.out; have hnc38 := NB331_345.out; have hcz39_0 : w35.cell? ⟨gb345, 0, none⟩ = some (.string (⟨#[]⟩ : ByteArray)) := (blk_cell BK345.out 0).trans rfl; have hcz39_1 : w35.cell? ⟨gb345, 1, none⟩ = some (.int .u16 0) := (blk_cell BK345.out 1).trans rfl; have hcz39_2 : w35.cell? ⟨gb345, 2, none⟩ = some (.int .u16 0) := (blk_cell BK345.out 2).trans rfl; have hcz39_3 : w35.cell? ⟨gb345, 3, none⟩ = some (.int .u32 0) := (blk_cell BK345.out 3).trans rfl; have hcz39_4 : w35.cell? ⟨gb345, 4, none⟩ = some (.slice none 0 0) := (blk_cell BK345.out 4).trans rfl; have hcz39_5 : w35.cell? ⟨gb345, 5, none⟩ = some (.slice none 0 0) := (blk_cell BK345.out 5).trans rfl; have hcz39_6 : w35.cell? ⟨gb345, 6, none⟩ = some (.slice none 0 0) := (blk_cell BK345.out 6).trans rfl; have hfz39_0 := blk_frozen BK345.out 0; have hfz39_1 := blk_frozen BK345.out 1; have hfz39_2 := blk_frozen BK345.out 2; have hfz39_3 := blk_frozen BK345.out 3; have hfz39_4 := blk_frozen BK345.out 4; have hfz39_5 := blk_frozen BK345.out 5; have hfz39_6 := blk_frozen BK345.out 6; obtain ⟨Ao40, co40, eo40⟩ := Kd.R_slice HO338.out; subst eo40; obtain ⟨Ao41, co41, eo41⟩ := Kd.R_slice HO341.out; subst eo41; obtain ⟨Ao42, co42, eo42⟩ := Kd.R_slice HO344.out; subst eo42))
     (try simp only [Act.put, List.setIfInBounds_toArray, List.set_cons_zero, List.set_cons_succ])
     go_cut [33] (fun v33 wc => ∃ (kq : Nat) (x33_22 : Bool), v33 = .bool x33_22 ∧ Aside0 (nunciolaw05_DataSame.j1 kq x33_22 a0_0 a0_1 a0_2 a0_3 l0_4 l0_5 l0_6 t318 t319 t320 t321 t322 t325 t328 t332 t333 t334 t335 t336 t339 t342 = some r) ∧ Aside0 (kq ≤ kj4) ∧ Aside0 (Kd.R Kd.string 9 wc w.heap.size (fun k_ => some k_ ≠ ((.slice Ao33 t328.length co33) : Value).ownBlock ∧ some k_ ≠ ((.slice Ao40 t336.length co40) : Value).ownBlock ∧ some k_ ≠ ((.slice Ao42 t342.length co42) : Value).ownBlock) (.slice Ao31 t322.length co31) t322) ∧ Aside0 (Kd.R (Kd.int .u32) 23 wc w.heap.size (fun k_ => some k_ ≠ ((.slice Ao41 t339.length co41) : Value).ownBlock) (.slice Ao32 t325.length co32) t325) ∧ Aside0 (Kd.R Kd.string 9 wc w.heap.size (fun k_ => some k_ ≠ ((.slice Ao31 t322.length co31) : Value).ownBlock ∧ some k_ ≠ ((.slice Ao40 t336.length co40) : Value).ownBlock ∧ some k_ ≠ ((.slice Ao42 t342.length co42) : Value).ownBlock) (.slice Ao33 t328.length co33) t328) ∧ Aside0 (Kd.R Kd.string 9 wc w.heap.size (fun k_ => some k_ ≠ ((.slice Ao31 t322.length co31) : Value).ownBlock ∧ some k_ ≠ ((.slice Ao33 t328.length co33) : Value).ownBlock ∧ some k_ ≠ ((.slice Ao42 t342.length co42) : Value).ownBlock) (.slice Ao40 t336.length co40) t336) ∧ Aside0 (Kd.R (Kd.int .u32) 23 wc w.heap.size (fun k_ => some k_ ≠ ((.slice Ao32 t325.length co32) : Value).ownBlock) (.slice Ao41 t339.length co41) t339) ∧ Aside0 (Kd.R Kd.string 9 wc w.heap.size (fun k_ => some k_ ≠ ((.slice Ao31 t322.length co31) : Value).ownBlock ∧ some k_ ≠ ((.slice Ao33 t328.length co33) : Value).ownBlock ∧ some k_ ≠ ((.slice Ao40 t336.length co40) : Value).ownBlock) (.slice Ao42 t342.length co42) t342) ∧ Aside0 (wc.heap[gb313]? = some (.cells #[.string a0_0, .int .u16 a0_1, .int .u16 a0_2, .int .u32 a0_3, (.slice A0_4 l0_4.length c0_4), (.slice A0_5 l0_5.length c0_5), (.slice A0_6 l0_6.length c0_6)] 27 (0, 0))) ∧ Aside0 (wc.heap[gb314]? = some (.cells #[.string a1_0, .int .u16 a1_1, .int .u16 a1_2, .int .u32 a1_3, (.slice A1_4 l1_4.length c1_4), (.slice A1_5 l1_5.length c1_5), (.slice A1_6 l1_6.length c1_6)] 27 (0, 0))) ∧ Aside0 (wc.heap[gb331]? = some (.cells #[.string t318, .int .u16 t319, .int .u16 t320, .int .u32 t321, (.slice Ao31 t322.length co31), (.slice Ao32 t325.length co32), (.slice Ao33 t328.length co33)] 27 (0, 0))) ∧ Aside0 (wc.heap[gb345]? = some (.cells #[.string t332, .int .u16 t333, .int .u16 t334, .int .u32 t335, (.slice Ao40 t336.length co40), (.slice Ao41 t339.length co41), (.slice Ao42 t342.length co42)] 27 (0, 0))) ∧ Aside0 (Below w.heap.size w wc))
     case first =>
      have H := HC23.out
      clear HC23
      replace H := Option.bind_eq_some_iff.mp H
      obtain ⟨t346, A430, H⟩ := H
      replace H : ((nuncioref05_Same.f kj4 a0_0 a0_1 a0_2 a0_3 l0_4 l0_5 l0_6 a1_0 a1_1 a1_2 a1_3 l1_4 l1_5 l1_6).bind fun t347 => (if (t346 != t347) = true then (nunciolaw05_DataSame.j1 kj4 true a0_0 a0_1 a0_2 a0_3 l0_4 l0_5 l0_6 t318 t319 t320 t321 t322 t325 t328 t332 t333 t334 t335 t336 t339 t342) else ((rdata_Same.f kj4 t332 t333 t334 t335 t336 t339 t342 a0_0 a0_1 a0_2 a0_3 l0_4 l0_5 l0_6).bind fun t348 => (nunciolaw05_DataSame.j1 kj4 (!t348) a0_0 a0_1 a0_2 a0_3 l0_4 l0_5 l0_6 t318 t319 t320 t321 t322 t325 t328 t332 t333 t334 t335 t336 t339 t342)))) = some r := H
      have A43 := Aside0.mk A430
      clear A430
      replace H := Option.bind_eq_some_iff.mp H
      obtain ⟨t347, A440, H⟩ := H
      replace H : (if (t346 != t347) = true then (nunciolaw05_DataSame.j1 kj4 true a0_0 a0_1 a0_2 a0_3 l0_4 l0_5 l0_6 t318 t319 t320 t321 t322 t325 t328 t332 t333 t334 t335 t336 t339 t342) else ((rdata_Same.f kj4 t332 t333 t334 t335 t336 t339 t342 a0_0 a0_1 a0_2 a0_3 l0_4 l0_5 l0_6).bind fun t348 => (nunciolaw05_DataSame.j1 kj4 (!t348) a0_0 a0_1 a0_2 a0_3 l0_4 l0_5 l0_6 t318 t319 t320 t321 t322 t325 t328 t332 t333 t334 t335 t336 t339 t342))) = some r := H
      have A44 := Aside0.mk A440
      clear A440
      by_cases c45 : (t346 != t347) = true
      ·
       rw [if_pos c45] at H
       have c45b0 : (t346 != t347) = true := c45
       (try (have c45b1 : decide (t346 = t347) = false := by simpa using c45))
       (try (have c45b2 : (t346 == t347) = false := by simpa using c45))
       (try (have c45b3 : ¬ (t346 = t347) := by simpa using c45))
       clear c45
       (first | rw [c45b0] | rw [c45b1] | (simp only [i64_w, i32_w]; rw [c45b0]) | skip)
       have H' := Aside0.mk H
       clear H
       try go_wp2
       have n0_ : Aside0 (Kd.R Kd.string 9 (((((((w35.setCell ⟨gb345, 0, none⟩ (.string t332)).setCell ⟨gb345, 1, none⟩ (.int .u16 t333)).setCell ⟨gb345, 2, none⟩ (.int .u16 t334)).setCell ⟨gb345, 3, none⟩ (.int .u32 t335)).setCell ⟨gb345, 4, none⟩ (.slice Ao40 t336.length co40)).setCell ⟨gb345, 5, none⟩ (.slice Ao41 t339.length co41)).setCell ⟨gb345, 6, none⟩ (.slice Ao42 t342.length co42)) w.heap.size (fun k_ => some k_ ≠ (.slice Ao33 t328.length co33 : Value).ownBlock ∧ some k_ ≠ (.slice Ao40 t336.length co40 : Value).ownBlock ∧ some k_ ≠ (.slice Ao42 t342.length co42 : Value).ownBlock) (.slice Ao31 t322.length co31) t322) := ⟨by (with_reducible repeat (first | apply Kd.R_alloc | apply Kd.R_drewN | apply Kd.R_drew)); exact Kd.R_mono (Kd.R_far (p := ⟨gb345, 6, none⟩) (Kd.R_far (p := ⟨gb345, 5, none⟩) (Kd.R_far (p := ⟨gb345, 4, none⟩) (Kd.R_far (p := ⟨gb345, 3, none⟩) (Kd.R_far (p := ⟨gb345, 2, none⟩) (Kd.R_far (p := ⟨gb345, 1, none⟩) (Kd.R_far (p := ⟨gb345, 0, none⟩) (Kd.R_types HO324.out BK345.out (by decide)) (fun _ hk => hk.2) (.string t332)) (fun _ hk => hk.2) (.int .u16 t333)) (fun _ hk => hk.2) (.int .u16 t334)) (fun _ hk => hk.2) (.int .u32 t335)) (fun _ hk => hk.2) (.slice Ao40 t336.length co40)) (fun _ hk => hk.2) (.slice Ao41 t339.length co41)) (fun _ hk => hk.2) (.slice Ao42 t342.length co42)) (fun _ hk => ⟨hk.1.1.1, ⟨hk.1.1.2, hk.1.2⟩⟩)⟩
       have n1_ : Aside0 (Kd.R (Kd.int .u32) 23 (((((((w35.setCell ⟨gb345, 0, none⟩ (.string t332)).setCell ⟨gb345, 1, none⟩ (.int .u16 t333)).setCell ⟨gb345, 2, none⟩ (.int .u16 t334)).setCell ⟨gb345, 3, none⟩ (.int .u32 t335)).setCell ⟨gb345, 4, none⟩ (.slice Ao40 t336.length co40)).setCell ⟨gb345, 5, none⟩ (.slice Ao41 t339.length co41)).setCell ⟨gb345, 6, none⟩ (.slice Ao42 t342.length co42)) w.heap.size (fun k_ => some k_ ≠ (.slice Ao41 t339.length co41 : Value).ownBlock) (.slice Ao32 t325.length co32) t325) := ⟨by (with_reducible repeat (first | apply Kd.R_alloc | apply Kd.R_drewN | apply Kd.R_drew)); exact Kd.R_mono (Kd.R_far (p := ⟨gb345, 6, none⟩) (Kd.R_far (p := ⟨gb345, 5, none⟩) (Kd.R_far (p := ⟨gb345, 4, none⟩) (Kd.R_far (p := ⟨gb345, 3, none⟩) (Kd.R_far (p := ⟨gb345, 2, none⟩) (Kd.R_far (p := ⟨gb345, 1, none⟩) (Kd.R_far (p := ⟨gb345, 0, none⟩) (Kd.R_types HO327.out BK345.out (by decide)) (fun _ hk => hk.2) (.string t332)) (fun _ hk => hk.2) (.int .u16 t333)) (fun _ hk => hk.2) (.int .u16 t334)) (fun _ hk => hk.2) (.int .u32 t335)) (fun _ hk => hk.2) (.slice Ao40 t336.length co40)) (fun _ hk => hk.2) (.slice Ao41 t339.length co41)) (fun _ hk => hk.2) (.slice Ao42 t342.length co42)) (fun _ hk => hk.1.2)⟩
       have n2_ : Aside0 (Kd.R Kd.string 9 (((((((w35.setCell ⟨gb345, 0, none⟩ (.string t332)).setCell ⟨gb345, 1, none⟩ (.int .u16 t333)).setCell ⟨gb345, 2, none⟩ (.int .u16 t334)).setCell ⟨gb345, 3, none⟩ (.int .u32 t335)).setCell ⟨gb345, 4, none⟩ (.slice Ao40 t336.length co40)).setCell ⟨gb345, 5, none⟩ (.slice Ao41 t339.length co41)).setCell ⟨gb345, 6, none⟩ (.slice Ao42 t342.length co42)) w.heap.size (fun k_ => some k_ ≠ (.slice Ao31 t322.length co31 : Value).ownBlock ∧ some k_ ≠ (.slice Ao40 t336.length co40 : Value).ownBlock ∧ some k_ ≠ (.slice Ao42 t342.length co42 : Value).ownBlock) (.slice Ao33 t328.length co33) t328) := ⟨by (with_reducible repeat (first | apply Kd.R_alloc | apply Kd.R_drewN | apply Kd.R_drew)); exact Kd.R_mono (Kd.R_far (p := ⟨gb345, 6, none⟩) (Kd.R_far (p := ⟨gb345, 5, none⟩) (Kd.R_far (p := ⟨gb345, 4, none⟩) (Kd.R_far (p := ⟨gb345, 3, none⟩) (Kd.R_far (p := ⟨gb345, 2, none⟩) (Kd.R_far (p := ⟨gb345, 1, none⟩) (Kd.R_far (p := ⟨gb345, 0, none⟩) (Kd.R_types HO330.out BK345.out (by decide)) (fun _ hk => hk.2) (.string t332)) (fun _ hk => hk.2) (.int .u16 t333)) (fun _ hk => hk.2) (.int .u16 t334)) (fun _ hk => hk.2) (.int .u32 t335)) (fun _ hk => hk.2) (.slice Ao40 t336.length co40)) (fun _ hk => hk.2) (.slice Ao41 t339.length co41)) (fun _ hk => hk.2) (.slice Ao42 t342.length co42)) (fun _ hk => ⟨hk.1.1.1, ⟨hk.1.1.2, hk.1.2⟩⟩)⟩
       have n3_ : Aside0 (Kd.R Kd.string 9 (((((((w35.setCell ⟨gb345, 0, none⟩ (.string t332)).setCell ⟨gb345, 1, none⟩ (.int .u16 t333)).setCell ⟨gb345, 2, none⟩ (.int .u16 t334)).setCell ⟨gb345, 3, none⟩ (.int .u32 t335)).setCell ⟨gb345, 4, none⟩ (.slice Ao40 t336.length co40)).setCell ⟨gb345, 5, none⟩ (.slice Ao41 t339.length co41)).setCell ⟨gb345, 6, none⟩ (.slice Ao42 t342.length co42)) w.heap.size (fun k_ => some k_ ≠ (.slice Ao31 t322.length co31 : Value).ownBlock ∧ some k_ ≠ (.slice Ao33 t328.length co33 : Value).ownBlock ∧ some k_ ≠ (.slice Ao42 t342.length co42 : Value).ownBlock) (.slice Ao40 t336.length co40) t336) := ⟨by (with_reducible repeat (first | apply Kd.R_alloc | apply Kd.R_drewN | apply Kd.R_drew)); exact Kd.R_mono (Kd.R_far (p := ⟨gb345, 6, none⟩) (Kd.R_far (p := ⟨gb345, 5, none⟩) (Kd.R_far (p := ⟨gb345, 4, none⟩) (Kd.R_far (p := ⟨gb345, 3, none⟩) (Kd.R_far (p := ⟨gb345, 2, none⟩) (Kd.R_far (p := ⟨gb345, 1, none⟩) (Kd.R_far (p := ⟨gb345, 0, none⟩) (Kd.R_types HO338.out BK345.out (by decide)) (fun _ hk => hk.2) (.string t332)) (fun _ hk => hk.2) (.int .u16 t333)) (fun _ hk => hk.2) (.int .u16 t334)) (fun _ hk => hk.2) (.int .u32 t335)) (fun _ hk => hk.2) (.slice Ao40 t336.length co40)) (fun _ hk => hk.2) (.slice Ao41 t339.length co41)) (fun _ hk => hk.2) (.slice Ao42 t342.length co42)) (fun _ hk => ⟨hk.1.1.2, ⟨hk.1.2, hk.1.1.1⟩⟩)⟩
       have n4_ : Aside0 (Kd.R (Kd.int .u32) 23 (((((((w35.setCell ⟨gb345, 0, none⟩ (.string t332)).setCell ⟨gb345, 1, none⟩ (.int .u16 t333)).setCell ⟨gb345, 2, none⟩ (.int .u16 t334)).setCell ⟨gb345, 3, none⟩ (.int .u32 t335)).setCell ⟨gb345, 4, none⟩ (.slice Ao40 t336.length co40)).setCell ⟨gb345, 5, none⟩ (.slice Ao41 t339.length co41)).setCell ⟨gb345, 6, none⟩ (.slice Ao42 t342.length co42)) w.heap.size (fun k_ => some k_ ≠ (.slice Ao32 t325.length co32 : Value).ownBlock) (.slice Ao41 t339.length co41) t339) := ⟨by (with_reducible repeat (first | apply Kd.R_alloc | apply Kd.R_drewN | apply Kd.R_drew)); exact Kd.R_mono (Kd.R_far (p := ⟨gb345, 6, none⟩) (Kd.R_far (p := ⟨gb345, 5, none⟩) (Kd.R_far (p := ⟨gb345, 4, none⟩) (Kd.R_far (p := ⟨gb345, 3, none⟩) (Kd.R_far (p := ⟨gb345, 2, none⟩) (Kd.R_far (p := ⟨gb345, 1, none⟩) (Kd.R_far (p := ⟨gb345, 0, none⟩) (Kd.R_types HO341.out BK345.out (by decide)) (fun _ hk => hk.2) (.string t332)) (fun _ hk => hk.2) (.int .u16 t333)) (fun _ hk => hk.2) (.int .u16 t334)) (fun _ hk => hk.2) (.int .u32 t335)) (fun _ hk => hk.2) (.slice Ao40 t336.length co40)) (fun _ hk => hk.2) (.slice Ao41 t339.length co41)) (fun _ hk => hk.2) (.slice Ao42 t342.length co42)) (fun _ hk => hk.1.2)⟩
       have n5_ : Aside0 (Kd.R Kd.string 9 (((((((w35.setCell ⟨gb345, 0, none⟩ (.string t332)).setCell ⟨gb345, 1, none⟩ (.int .u16 t333)).setCell ⟨gb345, 2, none⟩ (.int .u16 t334)).setCell ⟨gb345, 3, none⟩ (.int .u32 t335)).setCell ⟨gb345, 4, none⟩ (.slice Ao40 t336.length co40)).setCell ⟨gb345, 5, none⟩ (.slice Ao41 t339.length co41)).setCell ⟨gb345, 6, none⟩ (.slice Ao42 t342.length co42)) w.heap.size (fun k_ => some k_ ≠ (.slice Ao31 t322.length co31 : Value).ownBlock ∧ some k_ ≠ (.slice Ao33 t328.length co33 : Value).ownBlock ∧ some k_ ≠ (.slice Ao40 t336.length co40 : Value).ownBlock) (.slice Ao42 t342.length co42) t342) := ⟨by (with_reducible repeat (first | apply Kd.R_alloc | apply Kd.R_drewN | apply Kd.R_drew)); exact Kd.R_mono (Kd.R_far (p := ⟨gb345, 6, none⟩) (Kd.R_far (p := ⟨gb345, 5, none⟩) (Kd.R_far (p := ⟨gb345, 4, none⟩) (Kd.R_far (p := ⟨gb345, 3, none⟩) (Kd.R_far (p := ⟨gb345, 2, none⟩) (Kd.R_far (p := ⟨gb345, 1, none⟩) (Kd.R_far (p := ⟨gb345, 0, none⟩) (Kd.R_types HO344.out BK345.out (by decide)) (fun _ hk => hk.2) (.string t332)) (fun _ hk => hk.2) (.int .u16 t333)) (fun _ hk => hk.2) (.int .u16 t334)) (fun _ hk => hk.2) (.int .u32 t335)) (fun _ hk => hk.2) (.slice Ao40 t336.length co40)) (fun _ hk => hk.2) (.slice Ao41 t339.length co41)) (fun _ hk => hk.2) (.slice Ao42 t342.length co42)) (fun _ hk => ⟨hk.1.1.2, ⟨hk.1.2, hk.1.1.1⟩⟩)⟩
       have n6_ : Aside0 ((((((((w35.setCell ⟨gb345, 0, none⟩ (.string t332)).setCell ⟨gb345, 1, none⟩ (.int .u16 t333)).setCell ⟨gb345, 2, none⟩ (.int .u16 t334)).setCell ⟨gb345, 3, none⟩ (.int .u32 t335)).setCell ⟨gb345, 4, none⟩ (.slice Ao40 t336.length co40)).setCell ⟨gb345, 5, none⟩ (.slice Ao41 t339.length co41)).setCell ⟨gb345, 6, none⟩ (.slice Ao42 t342.length co42)).heap[gb313]? = some (.cells #[.string a0_0, .int .u16 a0_1, .int .u16 a0_2, .int .u32 a0_3, .slice A0_4 l0_4.length c0_4, .slice A0_5 l0_5.length c0_5, .slice A0_6 l0_6.length c0_6] 27 (0, 0))) := ⟨by (with_reducible repeat (first | refine blk_drewN ?_ _ | refine blk_drew ?_ | refine blk_alloc ?_ _)); refine blk_far ?_ NB313_345.out _; (with_reducible repeat (first | refine blk_drewN ?_ _ | refine blk_drew ?_ | refine blk_alloc ?_ _)); refine blk_far ?_ NB313_345.out _; (with_reducible repeat (first | refine blk_drewN ?_ _ | refine blk_drew ?_ | refine blk_alloc ?_ _)); refine blk_far ?_ NB313_345.out _; (with_reducible repeat (first | refine blk_drewN ?_ _ | refine blk_drew ?_ | refine blk_alloc ?_ _)); refine blk_far ?_ NB313_345.out _; (with_reducible repeat (first | refine blk_drewN ?_ _ | refine blk_drew ?_ | refine blk_alloc ?_ _)); refine blk_far ?_ NB313_345.out _; (with_reducible repeat (first | refine blk_drewN ?_ _ | refine blk_drew ?_ | refine blk_alloc ?_ _)); refine blk_far ?_ NB313_345.out _; (with_reducible repeat (first | refine blk_drewN ?_ _ | refine blk_drew ?_ | refine blk_alloc ?_ _)); refine blk_far ?_ NB313_345.out _; (with_reducible repeat (first | refine blk_drewN ?_ _ | refine blk_drew ?_ | refine blk_alloc ?_ _)); exact BK313.out⟩
       have n7_ : Aside0 ((((((((w35.setCell ⟨gb345, 0, none⟩ (.string t332)).setCell ⟨gb345, 1, none⟩ (.int .u16 t333)).setCell ⟨gb345, 2, none⟩ (.int .u16 t334)).setCell ⟨gb345, 3, none⟩ (.int .u32 t335)).setCell ⟨gb345, 4, none⟩ (.slice Ao40 t336.length co40)).setCell ⟨gb345, 5, none⟩ (.slice Ao41 t339.length co41)).setCell ⟨gb345, 6, none⟩ (.slice Ao42 t342.length co42)).heap[gb314]? = some (.cells #[.string a1_0, .int .u16 a1_1, .int .u16 a1_2, .int .u32 a1_3, .slice A1_4 l1_4.length c1_4, .slice A1_5 l1_5.length c1_5, .slice A1_6 l1_6.length c1_6] 27 (0, 0))) := ⟨by (with_reducible repeat (first | refine blk_drewN ?_ _ | refine blk_drew ?_ | refine blk_alloc ?_ _)); refine blk_far ?_ NB314_345.out _; (with_reducible repeat (first | refine blk_drewN ?_ _ | refine blk_drew ?_ | refine blk_alloc ?_ _)); refine blk_far ?_ NB314_345.out _; (with_reducible repeat (first | refine blk_drewN ?_ _ | refine blk_drew ?_ | refine blk_alloc ?_ _)); refine blk_far ?_ NB314_345.out _; (with_reducible repeat (first | refine blk_drewN ?_ _ | refine blk_drew ?_ | refine blk_alloc ?_ _)); refine blk_far ?_ NB314_345.out _; (with_reducible repeat (first | refine blk_drewN ?_ _ | refine blk_drew ?_ | refine blk_alloc ?_ _)); refine blk_far ?_ NB314_345.out _; (with_reducible repeat (first | refine blk_drewN ?_ _ | refine blk_drew ?_ | refine blk_alloc ?_ _)); refine blk_far ?_ NB314_345.out _; (with_reducible repeat (first | refine blk_drewN ?_ _ | refine blk_drew ?_ | refine blk_alloc ?_ _)); refine blk_far ?_ NB314_345.out _; (with_reducible repeat (first | refine blk_drewN ?_ _ | refine blk_drew ?_ | refine blk_alloc ?_ _)); exact BK314.out⟩
       have n8_ : Aside0 ((((((((w35.setCell ⟨gb345, 0, none⟩ (.string t332)).setCell ⟨gb345, 1, none⟩ (.int .u16 t333)).setCell ⟨gb345, 2, none⟩ (.int .u16 t334)).setCell ⟨gb345, 3, none⟩ (.int .u32 t335)).setCell ⟨gb345, 4, none⟩ (.slice Ao40 t336.length co40)).setCell ⟨gb345, 5, none⟩ (.slice Ao41 t339.length co41)).setCell ⟨gb345, 6, none⟩ (.slice Ao42 t342.length co42)).heap[gb331]? = some (.cells #[.string t318, .int .u16 t319, .int .u16 t320, .int .u32 t321, .slice Ao31 t322.length co31, .slice Ao32 t325.length co32, .slice Ao33 t328.length co33] 27 (0, 0))) := ⟨by (with_reducible repeat (first | refine blk_drewN ?_ _ | refine blk_drew ?_ | refine blk_alloc ?_ _)); refine blk_far ?_ NB331_345.out _; (with_reducible repeat (first | refine blk_drewN ?_ _ | refine blk_drew ?_ | refine blk_alloc ?_ _)); refine blk_far ?_ NB331_345.out _; (with_reducible repeat (first | refine blk_drewN ?_ _ | refine blk_drew ?_ | refine blk_alloc ?_ _)); refine blk_far ?_ NB331_345.out _; (with_reducible repeat (first | refine blk_drewN ?_ _ | refine blk_drew ?_ | refine blk_alloc ?_ _)); refine blk_far ?_ NB331_345.out _; (with_reducible repeat (first | refine blk_drewN ?_ _ | refine blk_drew ?_ | refine blk_alloc ?_ _)); refine blk_far ?_ NB331_345.out _; (with_reducible repeat (first | refine blk_drewN ?_ _ | refine blk_drew ?_ | refine blk_alloc ?_ _)); refine blk_far ?_ NB331_345.out _; (with_reducible repeat (first | refine blk_drewN ?_ _ | refine blk_drew ?_ | refine blk_alloc ?_ _)); refine blk_far ?_ NB331_345.out _; (with_reducible repeat (first | refine blk_drewN ?_ _ | refine blk_drew ?_ | refine blk_alloc ?_ _)); exact BK331.out⟩
       have n9_ : Aside0 ((((((((w35.setCell ⟨gb345, 0, none⟩ (.string t332)).setCell ⟨gb345, 1, none⟩ (.int .u16 t333)).setCell ⟨gb345, 2, none⟩ (.int .u16 t334)).setCell ⟨gb345, 3, none⟩ (.int .u32 t335)).setCell ⟨gb345, 4, none⟩ (.slice Ao40 t336.length co40)).setCell ⟨gb345, 5, none⟩ (.slice Ao41 t339.length co41)).setCell ⟨gb345, 6, none⟩ (.slice Ao42 t342.length co42)).heap[gb345]? = some (.cells #[.string t332, .int .u16 t333, .int .u16 t334, .int .u32 t335, .slice Ao40 t336.length co40, .slice Ao41 t339.length co41, .slice Ao42 t342.length co42] 27 (0, 0))) := ⟨by (with_reducible repeat (first | refine blk_drewN ?_ _ | refine blk_drew ?_ | refine blk_alloc ?_ _)); refine blk_put (cs := #[.string t332, .int .u16 t333, .int .u16 t334, .int .u32 t335, .slice Ao40 t336.length co40, .slice Ao41 t339.length co41, .slice none 0 0]) ?_ 6 _ rfl; (with_reducible repeat (first | refine blk_drewN ?_ _ | refine blk_drew ?_ | refine blk_alloc ?_ _)); refine blk_put (cs := #[.string t332, .int .u16 t333, .int .u16 t334, .int .u32 t335, .slice Ao40 t336.length co40, .slice none 0 0, .slice none 0 0]) ?_ 5 _ rfl; (with_reducible repeat (first | refine blk_drewN ?_ _ | refine blk_drew ?_ | refine blk_alloc ?_ _)); refine blk_put (cs := #[.string t332, .int .u16 t333, .int .u16 t334, .int .u32 t335, .slice none 0 0, .slice none 0 0, .slice none 0 0]) ?_ 4 _ rfl; (with_reducible repeat (first | refine blk_drewN ?_ _ | refine blk_drew ?_ | refine blk_alloc ?_ _)); refine blk_put (cs := #[.string t332, .int .u16 t333, .int .u16 t334, .int .u32 0, .slice none 0 0, .slice none 0 0, .slice none 0 0]) ?_ 3 _ rfl; (with_reducible repeat (first | refine blk_drewN ?_ _ | refine blk_drew ?_ | refine blk_alloc ?_ _)); refine blk_put (cs := #[.string t332, .int .u16 t333, .int .u16 0, .int .u32 0, .slice none 0 0, .slice none 0 0, .slice none 0 0]) ?_ 2 _ rfl; (with_reducible repeat (first | refine blk_drewN ?_ _ | refine blk_drew ?_ | refine blk_alloc ?_ _)); refine blk_put (cs := #[.string t332, .int .u16 0, .int .u16 0, .int .u32 0, .slice none 0 0, .slice none 0 0, .slice none 0 0]) ?_ 1 _ rfl; (with_reducible repeat (first | refine blk_drewN ?_ _ | refine blk_drew ?_ | refine blk_alloc ?_ _)); refine blk_put (cs := #[.string (⟨#[]⟩ : ByteArray), .int .u16 0, .int .u16 0, .int .u32 0, .slice none 0 0, .slice none 0 0, .slice none 0 0]) ?_ 0 _ rfl; (with_reducible repeat (first | refine blk_drewN ?_ _ | refine blk_drew ?_ | refine blk_alloc ?_ _)); exact BK345.out⟩
       have n10_ : Aside0 (Below w.heap.size w (((((((w35.setCell ⟨gb345, 0, none⟩ (.string t332)).setCell ⟨gb345, 1, none⟩ (.int .u16 t333)).setCell ⟨gb345, 2, none⟩ (.int .u16 t334)).setCell ⟨gb345, 3, none⟩ (.int .u32 t335)).setCell ⟨gb345, 4, none⟩ (.slice Ao40 t336.length co40)).setCell ⟨gb345, 5, none⟩ (.slice Ao41 t339.length co41)).setCell ⟨gb345, 6, none⟩ (.slice Ao42 t342.length co42))) := ⟨by repeat (first | (with_reducible first | exact HB.out | apply below_alloc | apply pw_below_drewN | apply below_drew1 | refine below_set ?_ GE313.out | refine below_set ?_ GE314.out | refine below_set ?_ GE331.out | refine below_set ?_ GE345.out) | exact HB.out)⟩
       (try clear HO324)
       (try clear HO327)
       (try clear HO330)
       (try clear HO338)
       (try clear HO341)
       (try clear HO344)
       (try clear BK313)
       (try clear BK314)
       (try clear BK331)
       (try clear BK345)
       (try clear HB)
       generalize (((((((w35.setCell ⟨gb345, 0, none⟩ (.string t332)).setCell ⟨gb345, 1, none⟩ (.int .u16 t333)).setCell ⟨gb345, 2, none⟩ (.int .u16 t334)).setCell ⟨gb345, 3, none⟩ (.int .u32 t335)).setCell ⟨gb345, 4, none⟩ (.slice Ao40 t336.length co40)).setCell ⟨gb345, 5, none⟩ (.slice Ao41 t339.length co41)).setCell ⟨gb345, 6, none⟩ (.slice Ao42 t342.length co42)) = w46 at n0_ n1_ n2_ n3_ n4_ n5_ n6_ n7_ n8_ n9_ n10_ ⊢
       have HO324 := n0_
       have HO327 := n1_
       have HO330 := n2_
       have HO338 := n3_
       have HO341 := n4_
       have HO344 := n5_
       have BK313 := n6_
       have BK314 := n7_
       have BK331 := n8_
       have BK345 := n9_
       have HB := n10_
       clear n0_ n1_ n2_ n3_ n4_ n5_ n6_ n7_ n8_ n9_ n10_
       have n0_ := Aside0.mk (Kd.R_drew HO324.out)
       have n1_ := Aside0.mk (Kd.R_drew HO327.out)
       have n2_ := Aside0.mk (Kd.R_drew HO330.out)
       have n3_ := Aside0.mk (Kd.R_drew HO338.out)
       have n4_ := Aside0.mk (Kd.R_drew HO341.out)
       have n5_ := Aside0.mk (Kd.R_drew HO344.out)
       have n6_ := Aside0.mk (blk_drew BK313.out)
       have n7_ := Aside0.mk (blk_drew BK314.out)
       have n8_ := Aside0.mk (blk_drew BK331.out)
       have n9_ := Aside0.mk (blk_drew BK345.out)
       have n10_ := Aside0.mk (below_drew1 HB.out)
       clear HO324
       clear HO327
       clear HO330
       clear HO338
       clear HO341
       clear HO344
       clear BK313
       clear BK314
       clear BK331
       clear BK345
       clear HB
       have HO324 := n0_
       have HO327 := n1_
       have HO330 := n2_
       have HO338 := n3_
       have HO341 := n4_
       have HO344 := n5_
       have BK313 := n6_
       have BK314 := n7_
       have BK331 := n8_
       have BK345 := n9_
       have HB := n10_
       clear n0_ n1_ n2_ n3_ n4_ n5_ n6_ n7_ n8_ n9_ n10_
       refine start_ (n := 13) (S := fun w' => w'.cell? ⟨gb313, 0, none⟩ = some (.string a0_0) ∧ w'.cell? ⟨gb313, 1, none⟩ = some (.int .u16 a0_1) ∧ w'.cell? ⟨gb313, 2, none⟩ = some (.int .u16 a0_2) ∧ w'.cell? ⟨gb313, 3, none⟩ = some (.int .u32 a0_3) ∧ w'.cell? ⟨gb313, 4, none⟩ = some (.slice A0_4 l0_4.length c0_4) ∧ w'.cell? ⟨gb313, 5, none⟩ = some (.slice A0_5 l0_5.length c0_5) ∧ w'.cell? ⟨gb313, 6, none⟩ = some (.slice A0_6 l0_6.length c0_6) ∧ w'.cell? ⟨gb314, 0, none⟩ = some (.string a1_0) ∧ w'.cell? ⟨gb314, 1, none⟩ = some (.int .u16 a1_1) ∧ w'.cell? ⟨gb314, 2, none⟩ = some (.int .u16 a1_2) ∧ w'.cell? ⟨gb314, 3, none⟩ = some (.int .u32 a1_3) ∧ w'.cell? ⟨gb314, 4, none⟩ = some (.slice A1_4 l1_4.length c1_4) ∧ w'.cell? ⟨gb314, 5, none⟩ = some (.slice A1_5 l1_5.length c1_5) ∧ w'.cell? ⟨gb314, 6, none⟩ = some (.slice A1_6 l1_6.length c1_6)) (ds := []) #[false, false, false, false, false, false, false, false, false, false, false, false, false] (by kernel_rfl) rfl rfl ⟨(blk_cell BK313.out 0).trans rfl, (blk_cell BK313.out 1).trans rfl, (blk_cell BK313.out 2).trans rfl, (blk_cell BK313.out 3).trans rfl, (blk_cell BK313.out 4).trans rfl, (blk_cell BK313.out 5).trans rfl, (blk_cell BK313.out 6).trans rfl, (blk_cell BK314.out 0).trans rfl, (blk_cell BK314.out 1).trans rfl, (blk_cell BK314.out 2).trans rfl, (blk_cell BK314.out 3).trans rfl, (blk_cell BK314.out 4).trans rfl, (blk_cell BK314.out 5).trans rfl, (blk_cell BK314.out 6).trans rfl⟩ (fun hHeld => ?_); refine with_tabW nunciolaw05_DataSame.tab7 nunciolaw05_DataSame.bits7 (fun HT_ HW_ => ?_)
       generalize w46.drew = w47 at HO324 HO327 HO330 HO338 HO341 HO344 BK313 BK314 BK331 BK345 HB hHeld ⊢
       refine take_ (i := 0) (N := some 21) (v := ?_) (a' := ?_) #[true, false, false, false, false, false, false, false, false, false, false, false, false] rfl rfl (take_ofW HT_.out HW_.out (by kernel_rfl)) (fun _ _ _ h => h) (Or.inl ⟨by rfl, ?_⟩) hHeld ?_ ?_
       rotate_left
       ·
        rintro w' ⟨s0, s1, s2, s3, s4, s5, s6, s7, s8, s9, s10, s11, s12, s13⟩
        go_simp
        with_reducible rfl
       rotate_left
       ·
        simp only [Act.put, List.setIfInBounds_toArray, List.set_cons_zero, List.set_cons_succ, i64_w, i32_w]
        rfl
       refine take_ (i := 1) (N := some 22) (v := ?_) (a' := ?_) #[true, true, false, false, false, false, false, false, false, false, false, false, false] rfl rfl (take_ofW HT_.out HW_.out (by kernel_rfl)) (fun _ _ _ h => h) (Or.inl ⟨by rfl, ?_⟩) hHeld ?_ ?_
       rotate_left
       ·
        rintro w' ⟨s0, s1, s2, s3, s4, s5, s6, s7, s8, s9, s10, s11, s12, s13⟩
        go_simp
        with_reducible rfl
       rotate_left
       ·
        simp only [Act.put, List.setIfInBounds_toArray, List.set_cons_zero, List.set_cons_succ, i64_w, i32_w]
        rfl
       refine take_ (i := 3) (N := some 24) (v := ?_) (a' := ?_) #[true, true, false, true, false, false, false, false, false, false, false, false, false] rfl rfl (take_ofW HT_.out HW_.out (by kernel_rfl)) (fun _ _ _ h => h) (Or.inl ⟨by rfl, ?_⟩) hHeld ?_ ?_
       rotate_left
       ·
        rintro w' ⟨s0, s1, s2, s3, s4, s5, s6, s7, s8, s9, s10, s11, s12, s13⟩
        go_simp
        with_reducible rfl
       rotate_left
       ·
        simp only [Act.put, List.setIfInBounds_toArray, List.set_cons_zero, List.set_cons_succ, i64_w, i32_w]
        rfl
       refine take_ (i := 4) (N := some 25) (v := ?_) (a' := ?_) #[true, true, false, true, true, false, false, false, false, false, false, false, false] rfl rfl (take_ofW HT_.out HW_.out (by kernel_rfl)) (fun _ _ _ h => h) (Or.inl ⟨by rfl, ?_⟩) hHeld ?_ ?_
       rotate_left
       ·
        rintro w' ⟨s0, s1, s2, s3, s4, s5, s6, s7, s8, s9, s10, s11, s12, s13⟩
        go_simp
        with_reducible rfl
       rotate_left
       ·
        simp only [Act.put, List.setIfInBounds_toArray, List.set_cons_zero, List.set_cons_succ, i64_w, i32_w]
        rfl
       refine one_ (i := 2) (N := some 23) #[true, true, true, true, true, false, false, false, false, false, false, false, false] rfl rfl (one_of HT_.out (by kernel_rfl)) (by decide) (fun K hK => ?_)
       refine goes_ Try.func17 (by kernel_rfl) rfl #[.agg #[.string a0_0, .int .u16 a0_1, .int .u16 a0_2, .int .u32 a0_3, .slice A0_4 l0_4.length c0_4, .slice A0_5 l0_5.length c0_5, .slice A0_6 l0_6.length c0_6], .agg #[.string a1_0, .int .u16 a1_1, .int .u16 a1_2, .int .u32 a1_3, .slice A1_4 l1_4.length c1_4, .slice A1_5 l1_5.length c1_5, .slice A1_6 l1_6.length c1_6]] (by rfl) rfl rfl (by (try simp only [List.map_toArray, List.map_cons, List.map_nil]); first | done | rfl | (simp only [List.length_drop, List.length_take]; rfl)) ?_
       with_reducible refine (rdata_Same.calls kj4 a0_0 a0_1 a0_2 a0_3 _ _ l0_4 _ _ l0_5 _ _ l0_6 a1_0 a1_1 a1_2 a1_3 _ _ l1_4 _ _ l1_5 _ _ l1_6 t346 _ ?side1 ?side2 ?side3 ?side4 ?side5 ?side6 ?side7 ?side8 ?side9 ?side10 ?side11 ?side12 A43.out).mono ?_
       (case side1 => repeat (first | exact (Kd.C_below HR0_4.out HB.out) | (with_reducible refine Kd.C_alloc ?_ _) | (with_reducible refine Kd.C_drewN ?_ _) | (with_reducible refine Kd.C_drew ?_)))
       (case side2 => exact HC0_4.out)
       (case side3 => repeat (first | exact (Kd.C_below HR0_5.out HB.out) | (with_reducible refine Kd.C_alloc ?_ _) | (with_reducible refine Kd.C_drewN ?_ _) | (with_reducible refine Kd.C_drew ?_)))
       (case side4 => exact HC0_5.out)
       (case side5 => repeat (first | exact (Kd.C_below HR0_6.out HB.out) | (with_reducible refine Kd.C_alloc ?_ _) | (with_reducible refine Kd.C_drewN ?_ _) | (with_reducible refine Kd.C_drew ?_)))
       (case side6 => exact HC0_6.out)
       (case side7 => repeat (first | exact (Kd.C_below HR1_4.out HB.out) | (with_reducible refine Kd.C_alloc ?_ _) | (with_reducible refine Kd.C_drewN ?_ _) | (with_reducible refine Kd.C_drew ?_)))
       (case side8 => exact HC1_4.out)
       (case side9 => repeat (first | exact (Kd.C_below HR1_5.out HB.out) | (with_reducible refine Kd.C_alloc ?_ _) | (with_reducible refine Kd.C_drewN ?_ _) | (with_reducible refine Kd.C_drew ?_)))
       (case side10 => exact HC1_5.out)
       (case side11 => repeat (first | exact (Kd.C_below HR1_6.out HB.out) | (with_reducible refine Kd.C_alloc ?_ _) | (with_reducible refine Kd.C_drewN ?_ _) | (with_reducible refine Kd.C_drew ?_)))
       (case side12 => exact HC1_6.out)
       rintro e w48 ⟨rfl, hb⟩
       refine ⟨_, rfl, ?_⟩
       have n0_ := Aside0.mk (Kd.R_below (by (with_reducible repeat (first | apply Kd.R_alloc | apply Kd.R_drewN | apply Kd.R_drew)); exact HO324.out) hb)
       have n1_ := Aside0.mk (Kd.R_below (by (with_reducible repeat (first | apply Kd.R_alloc | apply Kd.R_drewN | apply Kd.R_drew)); exact HO327.out) hb)
       have n2_ := Aside0.mk (Kd.R_below (by (with_reducible repeat (first | apply Kd.R_alloc | apply Kd.R_drewN | apply Kd.R_drew)); exact HO330.out) hb)
       have n3_ := Aside0.mk (Kd.R_below (by (with_reducible repeat (first | apply Kd.R_alloc | apply Kd.R_drewN | apply Kd.R_drew)); exact HO338.out) hb)
       have n4_ := Aside0.mk (Kd.R_below (by (with_reducible repeat (first | apply Kd.R_alloc | apply Kd.R_drewN | apply Kd.R_drew)); exact HO341.out) hb)
       have n5_ := Aside0.mk (Kd.R_below (by (with_reducible repeat (first | apply Kd.R_alloc | apply Kd.R_drewN | apply Kd.R_drew)); exact HO344.out) hb)
       have n6_ := Aside0.mk (blk_below (g := gb313) (o := .cells #[.string a0_0, .int .u16 a0_1, .int .u16 a0_2, .int .u32 a0_3, .slice A0_4 l0_4.length c0_4, .slice A0_5 l0_5.length c0_5, .slice A0_6 l0_6.length c0_6] 27 (0, 0)) (by (with_reducible repeat (first | refine blk_drewN ?_ _ | refine blk_drew ?_ | refine blk_alloc ?_ _)); exact BK313.out) hb)
       have n7_ := Aside0.mk (blk_below (g := gb314) (o := .cells #[.string a1_0, .int .u16 a1_1, .int .u16 a1_2, .int .u32 a1_3, .slice A1_4 l1_4.length c1_4, .slice A1_5 l1_5.length c1_5, .slice A1_6 l1_6.length c1_6] 27 (0, 0)) (by (with_reducible repeat (first | refine blk_drewN ?_ _ | refine blk_drew ?_ | refine blk_alloc ?_ _)); exact BK314.out) hb)
       have n8_ := Aside0.mk (blk_below (g := gb331) (o := .cells #[.string t318, .int .u16 t319, .int .u16 t320, .int .u32 t321, .slice Ao31 t322.length co31, .slice Ao32 t325.length co32, .slice Ao33 t328.length co33] 27 (0, 0)) (by (with_reducible repeat (first | refine blk_drewN ?_ _ | refine blk_drew ?_ | refine blk_alloc ?_ _)); exact BK331.out) hb)
       have n9_ := Aside0.mk (blk_below (g := gb345) (o := .cells #[.string t332, .int .u16 t333, .int .u16 t334, .int .u32 t335, .slice Ao40 t336.length co40, .slice Ao41 t339.length co41, .slice Ao42 t342.length co42] 27 (0, 0)) (by (with_reducible repeat (first | refine blk_drewN ?_ _ | refine blk_drew ?_ | refine blk_alloc ?_ _)); exact BK345.out) hb)
       have n10_ := Aside0.mk (below_step (by repeat (first | (with_reducible first | exact HB.out | apply below_alloc | apply pw_below_drewN | apply below_drew1 | refine below_set ?_ GE313.out | refine below_set ?_ GE314.out | refine below_set ?_ GE331.out | refine below_set ?_ GE345.out) | exact HB.out)) hb)
       clear HO324
       clear HO327
       clear HO330
       clear HO338
       clear HO341
       clear HO344
       clear BK313
       clear BK314
       clear BK331
       clear BK345
       clear HB
       have HO324 := n0_
       have HO327 := n1_
       have HO330 := n2_
       have HO338 := n3_
       have HO341 := n4_
       have HO344 := n5_
       have BK313 := n6_
       have BK314 := n7_
       have BK331 := n8_
       have BK345 := n9_
       have HB := n10_
       clear n0_ n1_ n2_ n3_ n4_ n5_ n6_ n7_ n8_ n9_ n10_
       (try clear hb)
       (try clear hb2)
       (try clear hk)
       (try clear hi)
       refine hK.out _ _ ⟨(blk_cell BK313.out 0).trans rfl, (blk_cell BK313.out 1).trans rfl, (blk_cell BK313.out 2).trans rfl, (blk_cell BK313.out 3).trans rfl, (blk_cell BK313.out 4).trans rfl, (blk_cell BK313.out 5).trans rfl, (blk_cell BK313.out 6).trans rfl, (blk_cell BK314.out 0).trans rfl, (blk_cell BK314.out 1).trans rfl, (blk_cell BK314.out 2).trans rfl, (blk_cell BK314.out 3).trans rfl, (blk_cell BK314.out 4).trans rfl, (blk_cell BK314.out 5).trans rfl, (blk_cell BK314.out 6).trans rfl⟩ (fun hHeld => ?_)
       clear hK K
       refine norm_ (a' := ?_) ?_ ?_
       rotate_left
       ·
        show Act.put _ (some 23) _ = _
        simp only [Act.put, List.setIfInBounds_toArray, List.set_cons_zero, List.set_cons_succ, i64_w, i32_w]
        rfl
       refine one_ (i := 5) (N := some 26) #[true, true, true, true, true, true, false, false, false, false, false, false, false] rfl rfl (one_of HT_.out (by kernel_rfl)) (by decide) (fun K hK => ?_)
       refine goes_ Try.func18 (by kernel_rfl) rfl #[.agg #[.string a0_0, .int .u16 a0_1, .int .u16 a0_2, .int .u32 a0_3, .slice A0_4 l0_4.length c0_4, .slice A0_5 l0_5.length c0_5, .slice A0_6 l0_6.length c0_6], .agg #[.string a1_0, .int .u16 a1_1, .int .u16 a1_2, .int .u32 a1_3, .slice A1_4 l1_4.length c1_4, .slice A1_5 l1_5.length c1_5, .slice A1_6 l1_6.length c1_6]] (by rfl) rfl rfl (by (try simp only [List.map_toArray, List.map_cons, List.map_nil]); first | done | rfl | (simp only [List.length_drop, List.length_take]; rfl)) ?_
       with_reducible refine (nuncioref05_Same.calls kj4 a0_0 a0_1 a0_2 a0_3 _ _ l0_4 _ _ l0_5 _ _ l0_6 a1_0 a1_1 a1_2 a1_3 _ _ l1_4 _ _ l1_5 _ _ l1_6 t347 _ ?side1 ?side2 ?side3 ?side4 ?side5 ?side6 ?side7 ?side8 ?side9 ?side10 ?side11 ?side12 A44.out).mono ?_
       (case side1 => repeat (first | exact (Kd.C_below HR0_4.out HB.out) | (with_reducible refine Kd.C_alloc ?_ _) | (with_reducible refine Kd.C_drewN ?_ _) | (with_reducible refine Kd.C_drew ?_)))
       (case side2 => exact HC0_4.out)
       (case side3 => repeat (first | exact (Kd.C_below HR0_5.out HB.out) | (with_reducible refine Kd.C_alloc ?_ _) | (with_reducible refine Kd.C_drewN ?_ _) | (with_reducible refine Kd.C_drew ?_)))
       (case side4 => exact HC0_5.out)
       (case side5 => repeat (first | exact (Kd.C_below HR0_6.out HB.out) | (with_reducible refine Kd.C_alloc ?_ _) | (with_reducible refine Kd.C_drewN ?_ _) | (with_reducible refine Kd.C_drew ?_)))
       (case side6 => exact HC0_6.out)
       (case side7 => repeat (first | exact (Kd.C_below HR1_4.out HB.out) | (with_reducible refine Kd.C_alloc ?_ _) | (with_reducible refine Kd.C_drewN ?_ _) | (with_reducible refine Kd.C_drew ?_)))
       (case side8 => exact HC1_4.out)
       (case side9 => repeat (first | exact (Kd.C_below HR1_5.out HB.out) | (with_reducible refine Kd.C_alloc ?_ _) | (with_reducible refine Kd.C_drewN ?_ _) | (with_reducible refine Kd.C_drew ?_)))
       (case side10 => exact HC1_5.out)
       (case side11 => repeat (first | exact (Kd.C_below HR1_6.out HB.out) | (with_reducible refine Kd.C_alloc ?_ _) | (with_reducible refine Kd.C_drewN ?_ _) | (with_reducible refine Kd.C_drew ?_)))
       (case side12 => exact HC1_6.out)
       rintro e w49 ⟨rfl, hb⟩
       refine ⟨_, rfl, ?_⟩
       have n0_ := Aside0.mk (Kd.R_below (by (with_reducible repeat (first | apply Kd.R_alloc | apply Kd.R_drewN | apply Kd.R_drew)); exact HO324.out) hb)
       have n1_ := Aside0.mk (Kd.R_below (by (with_reducible repeat (first | apply Kd.R_alloc | apply Kd.R_drewN | apply Kd.R_drew)); exact HO327.out) hb)
       have n2_ := Aside0.mk (Kd.R_below (by (with_reducible repeat (first | apply Kd.R_alloc | apply Kd.R_drewN | apply Kd.R_drew)); exact HO330.out) hb)
       have n3_ := Aside0.mk (Kd.R_below (by (with_reducible repeat (first | apply Kd.R_alloc | apply Kd.R_drewN | apply Kd.R_drew)); exact HO338.out) hb)
       have n4_ := Aside0.mk (Kd.R_below (by (with_reducible repeat (first | apply Kd.R_alloc | apply Kd.R_drewN | apply Kd.R_drew)); exact HO341.out) hb)
       have n5_ := Aside0.mk (Kd.R_below (by (with_reducible repeat (first | apply Kd.R_alloc | apply Kd.R_drewN | apply Kd.R_drew)); exact HO344.out) hb)
       have n6_ := Aside0.mk (blk_below (g := gb313) (o := .cells #[.string a0_0, .int .u16 a0_1, .int .u16 a0_2, .int .u32 a0_3, .slice A0_4 l0_4.length c0_4, .slice A0_5 l0_5.length c0_5, .slice A0_6 l0_6.length c0_6] 27 (0, 0)) (by (with_reducible repeat (first | refine blk_drewN ?_ _ | refine blk_drew ?_ | refine blk_alloc ?_ _)); exact BK313.out) hb)
       have n7_ := Aside0.mk (blk_below (g := gb314) (o := .cells #[.string a1_0, .int .u16 a1_1, .int .u16 a1_2, .int .u32 a1_3, .slice A1_4 l1_4.length c1_4, .slice A1_5 l1_5.length c1_5, .slice A1_6 l1_6.length c1_6] 27 (0, 0)) (by (with_reducible repeat (first | refine blk_drewN ?_ _ | refine blk_drew ?_ | refine blk_alloc ?_ _)); exact BK314.out) hb)
       have n8_ := Aside0.mk (blk_below (g := gb331) (o := .cells #[.string t318, .int .u16 t319, .int .u16 t320, .int .u32 t321, .slice Ao31 t322.length co31, .slice Ao32 t325.length co32, .slice Ao33 t328.length co33] 27 (0, 0)) (by (with_reducible repeat (first | refine blk_drewN ?_ _ | refine blk_drew ?_ | refine blk_alloc ?_ _)); exact BK331.out) hb)
       have n9_ := Aside0.mk (blk_below (g := gb345) (o := .cells #[.string t332, .int .u16 t333, .int .u16 t334, .int .u32 t335, .slice Ao40 t336.length co40, .slice Ao41 t339.length co41, .slice Ao42 t342.length co42] 27 (0, 0)) (by (with_reducible repeat (first | refine blk_drewN ?_ _ | refine blk_drew ?_ | refine blk_alloc ?_ _)); exact BK345.out) hb)
       have n10_ := Aside0.mk (below_step (by repeat (first | (with_reducible first | exact HB.out | apply below_alloc | apply pw_below_drewN | apply below_drew1 | refine below_set ?_ GE313.out | refine below_set ?_ GE314.out | refine below_set ?_ GE331.out | refine below_set ?_ GE345.out) | exact HB.out)) hb)
       clear HO324
       clear HO327
       clear HO330
       clear HO338
       clear HO341
       clear HO344
       clear BK313
       clear BK314
       clear BK331
       clear BK345
       clear HB
       have HO324 := n0_
       have HO327 := n1_
       have HO330 := n2_
       have HO338 := n3_
       have HO341 := n4_
       have HO344 := n5_
       have BK313 := n6_
       have BK314 := n7_
       have BK331 := n8_
       have BK345 := n9_
       have HB := n10_
       clear n0_ n1_ n2_ n3_ n4_ n5_ n6_ n7_ n8_ n9_ n10_
       (try clear hb)
       (try clear hb2)
       (try clear hk)
       (try clear hi)
       refine hK.out _ _ ⟨(blk_cell BK313.out 0).trans rfl, (blk_cell BK313.out 1).trans rfl, (blk_cell BK313.out 2).trans rfl, (blk_cell BK313.out 3).trans rfl, (blk_cell BK313.out 4).trans rfl, (blk_cell BK313.out 5).trans rfl, (blk_cell BK313.out 6).trans rfl, (blk_cell BK314.out 0).trans rfl, (blk_cell BK314.out 1).trans rfl, (blk_cell BK314.out 2).trans rfl, (blk_cell BK314.out 3).trans rfl, (blk_cell BK314.out 4).trans rfl, (blk_cell BK314.out 5).trans rfl, (blk_cell BK314.out 6).trans rfl⟩ (fun hHeld => ?_)
       clear hK K
       refine norm_ (a' := ?_) ?_ ?_
       rotate_left
       ·
        show Act.put _ (some 26) _ = _
        simp only [Act.put, List.setIfInBounds_toArray, List.set_cons_zero, List.set_cons_succ, i64_w, i32_w]
        rfl
       refine pure_ (i := 6) (N := some 27) (v := ?_) (a' := ?_) #[true, true, true, true, true, true, true, false, false, false, false, false, false] rfl rfl (any_of HT_.out (by kernel_rfl)) (fun _ _ _ h => h) (Or.inl ⟨by rfl, ?_⟩) ?_ ?_
       rotate_left
       ·
        intro w'
        go_simp
        with_reducible rfl
       rotate_left
       ·
        simp only [Act.put, List.setIfInBounds_toArray, List.set_cons_zero, List.set_cons_succ, i64_w, i32_w]
        rfl
       refine pure_ (i := 7) (N := some 28) (v := ?_) (a' := ?_) #[true, true, true, true, true, true, true, true, false, false, false, false, false] rfl rfl (any_of HT_.out (by kernel_rfl)) (fun _ _ _ h => h) (Or.inl ⟨by rfl, ?_⟩) ?_ ?_
       rotate_left
       ·
        intro w'
        go_simp
        with_reducible rfl
       rotate_left
       ·
        simp only [Act.put, List.setIfInBounds_toArray, List.set_cons_zero, List.set_cons_succ, i64_w, i32_w]
        rfl
       refine pure_ (i := 8) (N := some 29) (v := undef) (a' := ?_) #[true, true, true, true, true, true, true, true, true, false, false, false, false] rfl rfl (any_of HT_.out (by kernel_rfl)) (fun _ _ _ h => h) (Or.inr ⟨by rfl, rfl⟩) ?_ ?_
       rotate_left
       ·
        simp only [Act.put, List.setIfInBounds_toArray, List.set_cons_zero, List.set_cons_succ, i64_w, i32_w]
        rfl
       refine pure_ (i := 9) (N := some 30) (v := undef) (a' := ?_) #[true, true, true, true, true, true, true, true, true, true, false, false, false] rfl rfl (any_of HT_.out (by kernel_rfl)) (fun _ _ _ h => h) (Or.inr ⟨by rfl, rfl⟩) ?_ ?_
       rotate_left
       ·
        simp only [Act.put, List.setIfInBounds_toArray, List.set_cons_zero, List.set_cons_succ, i64_w, i32_w]
        rfl
       refine pure_ (i := 10) (N := some 31) (v := undef) (a' := ?_) #[true, true, true, true, true, true, true, true, true, true, true, false, false] rfl rfl (any_of HT_.out (by kernel_rfl)) (fun _ _ _ h => h) (Or.inr ⟨by rfl, rfl⟩) ?_ ?_
       rotate_left
       ·
        simp only [Act.put, List.setIfInBounds_toArray, List.set_cons_zero, List.set_cons_succ, i64_w, i32_w]
        rfl
       refine pure_ (i := 11) (N := some 32) (v := undef) (a' := ?_) #[true, true, true, true, true, true, true, true, true, true, true, true, false] rfl rfl (any_of HT_.out (by kernel_rfl)) (fun _ _ _ h => h) (Or.inr ⟨by rfl, rfl⟩) ?_ ?_
       rotate_left
       ·
        simp only [Act.put, List.setIfInBounds_toArray, List.set_cons_zero, List.set_cons_succ, i64_w, i32_w]
        rfl
       refine pure_ (i := 12) (N := some 33) (v := ?_) (a' := ?_) #[true, true, true, true, true, true, true, true, true, true, true, true, true] rfl rfl (any_of HT_.out (by kernel_rfl)) (fun _ _ _ h => h) (Or.inl ⟨by rfl, ?_⟩) ?_ ?_
       rotate_left
       ·
        intro w'
        go_simp
        with_reducible rfl
       rotate_left
       ·
        simp only [Act.put, List.setIfInBounds_toArray, List.set_cons_zero, List.set_cons_succ, i64_w, i32_w]
        rfl
       refine done_ (done_of HT_.out (by kernel_rfl)) ?_
       try go_wp2
       go_meet
       case rel => exact ⟨_, (true), (by first | rfl | (simp; done) | (simp [*]; done)), H', ⟨by have := HJ4.out; first | omega | exact Nat.le_refl _⟩, ⟨by (with_reducible repeat (first | apply Kd.R_alloc | apply Kd.R_drewN | apply Kd.R_drew)); exact HO324.out⟩, ⟨by (with_reducible repeat (first | apply Kd.R_alloc | apply Kd.R_drewN | apply Kd.R_drew)); exact HO327.out⟩, ⟨by (with_reducible repeat (first | apply Kd.R_alloc | apply Kd.R_drewN | apply Kd.R_drew)); exact HO330.out⟩, ⟨by (with_reducible repeat (first | apply Kd.R_alloc | apply Kd.R_drewN | apply Kd.R_drew)); exact HO338.out⟩, ⟨by (with_reducible repeat (first | apply Kd.R_alloc | apply Kd.R_drewN | apply Kd.R_drew)); exact HO341.out⟩, ⟨by (with_reducible repeat (first | apply Kd.R_alloc | apply Kd.R_drewN | apply Kd.R_drew)); exact HO344.out⟩, ⟨by (with_reducible repeat (first | refine blk_drewN ?_ _ | refine blk_drew ?_ | refine blk_alloc ?_ _)); exact BK313.out⟩, ⟨by (with_reducible repeat (first | refine blk_drewN ?_ _ | refine blk_drew ?_ | refine blk_alloc ?_ _)); exact BK314.out⟩, ⟨by (with_reducible repeat (first | refine blk_drewN ?_ _ | refine blk_drew ?_ | refine blk_alloc ?_ _)); exact BK331.out⟩, ⟨by (with_reducible repeat (first | refine blk_drewN ?_ _ | refine blk_drew ?_ | refine blk_alloc ?_ _)); exact BK345.out⟩, ⟨by repeat (first | (with_reducible first | exact HB.out | apply below_alloc | apply pw_below_drewN | apply below_drew1 | refine below_set ?_ GE313.out | refine below_set ?_ GE314.out | refine below_set ?_ GE331.out | refine below_set ?_ GE345.out) | exact HB.out)⟩⟩
      ·
       rw [if_neg c45] at H
       have c45b0 : (t346 != t347) = false := by simpa using c45
       (try (have c45b1 : decide (t346 = t347) = true := by simpa using c45))
       (try (have c45b2 : (t346 == t347) = true := by simpa using c45))
       clear c45
       (first | rw [c45b0] | rw [c45b1] | (simp only [i64_w, i32_w]; rw [c45b0]) | skip)
       replace H := Option.bind_eq_some_iff.mp H
       obtain ⟨t348, A500, H⟩ := H
       replace H : (nunciolaw05_DataSame.j1 kj4 (!t348) a0_0 a0_1 a0_2 a0_3 l0_4 l0_5 l0_6 t318 t319 t320 t321 t322 t325 t328 t332 t333 t334 t335 t336 t339 t342) = some r := H
       have A50 := Aside0.mk A500
       clear A500
       have H' := Aside0.mk H
       clear H
       try go_wp2
       have n0_ : Aside0 (Kd.R Kd.string 9 (((((((w35.setCell ⟨gb345, 0, none⟩ (.string t332)).setCell ⟨gb345, 1, none⟩ (.int .u16 t333)).setCell ⟨gb345, 2, none⟩ (.int .u16 t334)).setCell ⟨gb345, 3, none⟩ (.int .u32 t335)).setCell ⟨gb345, 4, none⟩ (.slice Ao40 t336.length co40)).setCell ⟨gb345, 5, none⟩ (.slice Ao41 t339.length co41)).setCell ⟨gb345, 6, none⟩ (.slice Ao42 t342.length co42)) w.heap.size (fun k_ => some k_ ≠ (.slice Ao33 t328.length co33 : Value).ownBlock ∧ some k_ ≠ (.slice Ao40 t336.length co40 : Value).ownBlock ∧ some k_ ≠ (.slice Ao42 t342.length co42 : Value).ownBlock) (.slice Ao31 t322.length co31) t322) := ⟨by (with_reducible repeat (first | apply Kd.R_alloc | apply Kd.R_drewN | apply Kd.R_drew)); exact Kd.R_mono (Kd.R_far (p := ⟨gb345, 6, none⟩) (Kd.R_far (p := ⟨gb345, 5, none⟩) (Kd.R_far (p := ⟨gb345, 4, none⟩) (Kd.R_far (p := ⟨gb345, 3, none⟩) (Kd.R_far (p := ⟨gb345, 2, none⟩) (Kd.R_far (p := ⟨gb345, 1, none⟩) (Kd.R_far (p := ⟨gb345, 0, none⟩) (Kd.R_types HO324.out BK345.out (by decide)) (fun _ hk => hk.2) (.string t332)) (fun _ hk => hk.2) (.int .u16 t333)) (fun _ hk => hk.2) (.int .u16 t334)) (fun _ hk => hk.2) (.int .u32 t335)) (fun _ hk => hk.2) (.slice Ao40 t336.length co40)) (fun _ hk => hk.2) (.slice Ao41 t339.length co41)) (fun _ hk => hk.2) (.slice Ao42 t342.length co42)) (fun _ hk => ⟨hk.1.1.1, ⟨hk.1.1.2, hk.1.2⟩⟩)⟩
       have n1_ : Aside0 (Kd.R (Kd.int .u32) 23 (((((((w35.setCell ⟨gb345, 0, none⟩ (.string t332)).setCell ⟨gb345, 1, none⟩ (.int .u16 t333)).setCell ⟨gb345, 2, none⟩ (.int .u16 t334)).setCell ⟨gb345, 3, none⟩ (.int .u32 t335)).setCell ⟨gb345, 4, none⟩ (.slice Ao40 t336.length co40)).setCell ⟨gb345, 5, none⟩ (.slice Ao41 t339.length co41)).setCell ⟨gb345, 6, none⟩ (.slice Ao42 t342.length co42)) w.heap.size (fun k_ => some k_ ≠ (.slice Ao41 t339.length co41 : Value).ownBlock) (.slice Ao32 t325.length co32) t325) := ⟨by (with_reducible repeat (first | apply Kd.R_alloc | apply Kd.R_drewN | apply Kd.R_drew)); exact Kd.R_mono (Kd.R_far (p := ⟨gb345, 6, none⟩) (Kd.R_far (p := ⟨gb345, 5, none⟩) (Kd.R_far (p := ⟨gb345, 4, none⟩) (Kd.R_far (p := ⟨gb345, 3, none⟩) (Kd.R_far (p := ⟨gb345, 2, none⟩) (Kd.R_far (p := ⟨gb345, 1, none⟩) (Kd.R_far (p := ⟨gb345, 0, none⟩) (Kd.R_types HO327.out BK345.out (by decide)) (fun _ hk => hk.2) (.string t332)) (fun _ hk => hk.2) (.int .u16 t333)) (fun _ hk => hk.2) (.int .u16 t334)) (fun _ hk => hk.2) (.int .u32 t335)) (fun _ hk => hk.2) (.slice Ao40 t336.length co40)) (fun _ hk => hk.2) (.slice Ao41 t339.length co41)) (fun _ hk => hk.2) (.slice Ao42 t342.length co42)) (fun _ hk => hk.1.2)⟩
       have n2_ : Aside0 (Kd.R Kd.string 9 (((((((w35.setCell ⟨gb345, 0, none⟩ (.string t332)).setCell ⟨gb345, 1, none⟩ (.int .u16 t333)).setCell ⟨gb345, 2, none⟩ (.int .u16 t334)).setCell ⟨gb345, 3, none⟩ (.int .u32 t335)).setCell ⟨gb345, 4, none⟩ (.slice Ao40 t336.length co40)).setCell ⟨gb345, 5, none⟩ (.slice Ao41 t339.length co41)).setCell ⟨gb345, 6, none⟩ (.slice Ao42 t342.length co42)) w.heap.size (fun k_ => some k_ ≠ (.slice Ao31 t322.length co31 : Value).ownBlock ∧ some k_ ≠ (.slice Ao40 t336.length co40 : Value).ownBlock ∧ some k_ ≠ (.slice Ao42 t342.length co42 : Value).ownBlock) (.slice Ao33 t328.length co33) t328) := ⟨by (with_reducible repeat (first | apply Kd.R_alloc | apply Kd.R_drewN | apply Kd.R_drew)); exact Kd.R_mono (Kd.R_far (p := ⟨gb345, 6, none⟩) (Kd.R_far (p := ⟨gb345, 5, none⟩) (Kd.R_far (p := ⟨gb345, 4, none⟩) (Kd.R_far (p := ⟨gb345, 3, none⟩) (Kd.R_far (p := ⟨gb345, 2, none⟩) (Kd.R_far (p := ⟨gb345, 1, none⟩) (Kd.R_far (p := ⟨gb345, 0, none⟩) (Kd.R_types HO330.out BK345.out (by decide)) (fun _ hk => hk.2) (.string t332)) (fun _ hk => hk.2) (.int .u16 t333)) (fun _ hk => hk.2) (.int .u16 t334)) (fun _ hk => hk.2) (.int .u32 t335)) (fun _ hk => hk.2) (.slice Ao40 t336.length co40)) (fun _ hk => hk.2) (.slice Ao41 t339.length co41)) (fun _ hk => hk.2) (.slice Ao42 t342.length co42)) (fun _ hk => ⟨hk.1.1.1, ⟨hk.1.1.2, hk.1.2⟩⟩)⟩
       have n3_ : Aside0 (Kd.R Kd.string 9 (((((((w35.setCell ⟨gb345, 0, none⟩ (.string t332)).setCell ⟨gb345, 1, none⟩ (.int .u16 t333)).setCell ⟨gb345, 2, none⟩ (.int .u16 t334)).setCell ⟨gb345, 3, none⟩ (.int .u32 t335)).setCell ⟨gb345, 4, none⟩ (.slice Ao40 t336.length co40)).setCell ⟨gb345, 5, none⟩ (.slice Ao41 t339.length co41)).setCell ⟨gb345, 6, none⟩ (.slice Ao42 t342.length co42)) w.heap.size (fun k_ => some k_ ≠ (.slice Ao31 t322.length co31 : Value).ownBlock ∧ some k_ ≠ (.slice Ao33 t328.length co33 : Value).ownBlock ∧ some k_ ≠ (.slice Ao42 t342.length co42 : Value).ownBlock) (.slice Ao40 t336.length co40) t336) := ⟨by (with_reducible repeat (first | apply Kd.R_alloc | apply Kd.R_drewN | apply Kd.R_drew)); exact Kd.R_mono (Kd.R_far (p := ⟨gb345, 6, none⟩) (Kd.R_far (p := ⟨gb345, 5, none⟩) (Kd.R_far (p := ⟨gb345, 4, none⟩) (Kd.R_far (p := ⟨gb345, 3, none⟩) (Kd.R_far (p := ⟨gb345, 2, none⟩) (Kd.R_far (p := ⟨gb345, 1, none⟩) (Kd.R_far (p := ⟨gb345, 0, none⟩) (Kd.R_types HO338.out BK345.out (by decide)) (fun _ hk => hk.2) (.string t332)) (fun _ hk => hk.2) (.int .u16 t333)) (fun _ hk => hk.2) (.int .u16 t334)) (fun _ hk => hk.2) (.int .u32 t335)) (fun _ hk => hk.2) (.slice Ao40 t336.length co40)) (fun _ hk => hk.2) (.slice Ao41 t339.length co41)) (fun _ hk => hk.2) (.slice Ao42 t342.length co42)) (fun _ hk => ⟨hk.1.1.2, ⟨hk.1.2, hk.1.1.1⟩⟩)⟩
       have n4_ : Aside0 (Kd.R (Kd.int .u32) 23 (((((((w35.setCell ⟨gb345, 0, none⟩ (.string t332)).setCell ⟨gb345, 1, none⟩ (.int .u16 t333)).setCell ⟨gb345, 2, none⟩ (.int .u16 t334)).setCell ⟨gb345, 3, none⟩ (.int .u32 t335)).setCell ⟨gb345, 4, none⟩ (.slice Ao40 t336.length co40)).setCell ⟨gb345, 5, none⟩ (.slice Ao41 t339.length co41)).setCell ⟨gb345, 6, none⟩ (.slice Ao42 t342.length co42)) w.heap.size (fun k_ => some k_ ≠ (.slice Ao32 t325.length co32 : Value).ownBlock) (.slice Ao41 t339.length co41) t339) := ⟨by (with_reducible repeat (first | apply Kd.R_alloc | apply Kd.R_drewN | apply Kd.R_drew)); exact Kd.R_mono (Kd.R_far (p := ⟨gb345, 6, none⟩) (Kd.R_far (p := ⟨gb345, 5, none⟩) (Kd.R_far (p := ⟨gb345, 4, none⟩) (Kd.R_far (p := ⟨gb345, 3, none⟩) (Kd.R_far (p := ⟨gb345, 2, none⟩) (Kd.R_far (p := ⟨gb345, 1, none⟩) (Kd.R_far (p := ⟨gb345, 0, none⟩) (Kd.R_types HO341.out BK345.out (by decide)) (fun _ hk => hk.2) (.string t332)) (fun _ hk => hk.2) (.int .u16 t333)) (fun _ hk => hk.2) (.int .u16 t334)) (fun _ hk => hk.2) (.int .u32 t335)) (fun _ hk => hk.2) (.slice Ao40 t336.length co40)) (fun _ hk => hk.2) (.slice Ao41 t339.length co41)) (fun _ hk => hk.2) (.slice Ao42 t342.length co42)) (fun _ hk => hk.1.2)⟩
       have n5_ : Aside0 (Kd.R Kd.string 9 (((((((w35.setCell ⟨gb345, 0, none⟩ (.string t332)).setCell ⟨gb345, 1, none⟩ (.int .u16 t333)).setCell ⟨gb345, 2, none⟩ (.int .u16 t334)).setCell ⟨gb345, 3, none⟩ (.int .u32 t335)).setCell ⟨gb345, 4, none⟩ (.slice Ao40 t336.length co40)).setCell ⟨gb345, 5, none⟩ (.slice Ao41 t339.length co41)).setCell ⟨gb345, 6, none⟩ (.slice Ao42 t342.length co42)) w.heap.size (fun k_ => some k_ ≠ (.slice Ao31 t322.length co31 : Value).ownBlock ∧ some k_ ≠ (.slice Ao33 t328.length co33 : Value).ownBlock ∧ some k_ ≠ (.slice Ao40 t336.length co40 : Value).ownBlock) (.slice Ao42 t342.length co42) t342) := ⟨by (with_reducible repeat (first | apply Kd.R_alloc | apply Kd.R_drewN | apply Kd.R_drew)); exact Kd.R_mono (Kd.R_far (p := ⟨gb345, 6, none⟩) (Kd.R_far (p := ⟨gb345, 5, none⟩) (Kd.R_far (p := ⟨gb345, 4, none⟩) (Kd.R_far (p := ⟨gb345, 3, none⟩) (Kd.R_far (p := ⟨gb345, 2, none⟩) (Kd.R_far (p := ⟨gb345, 1, none⟩) (Kd.R_far (p := ⟨gb345, 0, none⟩) (Kd.R_types HO344.out BK345.out (by decide)) (fun _ hk => hk.2) (.string t332)) (fun _ hk => hk.2) (.int .u16 t333)) (fun _ hk => hk.2) (.int .u16 t334)) (fun _ hk => hk.2) (.int .u32 t335)) (fun _ hk => hk.2) (.slice Ao40 t336.length co40)) (fun _ hk => hk.2) (.slice Ao41 t339.length co41)) (fun _ hk => hk.2) (.slice Ao42 t342.length co42)) (fun _ hk => ⟨hk.1.1.2, ⟨hk.1.2, hk.1.1.1⟩⟩)⟩
       have n6_ : Aside0 ((((((((w35.setCell ⟨gb345, 0, none⟩ (.string t332)).setCell ⟨gb345, 1, none⟩ (.int .u16 t333)).setCell ⟨gb345, 2, none⟩ (.int .u16 t334)).setCell ⟨gb345, 3, none⟩ (.int .u32 t335)).setCell ⟨gb345, 4, none⟩ (.slice Ao40 t336.length co40)).setCell ⟨gb345, 5, none⟩ (.slice Ao41 t339.length co41)).setCell ⟨gb345, 6, none⟩ (.slice Ao42 t342.length co42)).heap[gb313]? = some (.cells #[.string a0_0, .int .u16 a0_1, .int .u16 a0_2, .int .u32 a0_3, .slice A0_4 l0_4.length c0_4, .slice A0_5 l0_5.length c0_5, .slice A0_6 l0_6.length c0_6] 27 (0, 0))) := ⟨by (with_reducible repeat (first | refine blk_drewN ?_ _ | refine blk_drew ?_ | refine blk_alloc ?_ _)); refine blk_far ?_ NB313_345.out _; (with_reducible repeat (first | refine blk_drewN ?_ _ | refine blk_drew ?_ | refine blk_alloc ?_ _)); refine blk_far ?_ NB313_345.out _; (with_reducible repeat (first | refine blk_drewN ?_ _ | refine blk_drew ?_ | refine blk_alloc ?_ _)); refine blk_far ?_ NB313_345.out _; (with_reducible repeat (first | refine blk_drewN ?_ _ | refine blk_drew ?_ | refine blk_alloc ?_ _)); refine blk_far ?_ NB313_345.out _; (with_reducible repeat (first | refine blk_drewN ?_ _ | refine blk_drew ?_ | refine blk_alloc ?_ _)); refine blk_far ?_ NB313_345.out _; (with_reducible repeat (first | refine blk_drewN ?_ _ | refine blk_drew ?_ | refine blk_alloc ?_ _)); refine blk_far ?_ NB313_345.out _; (with_reducible repeat (first | refine blk_drewN ?_ _ | refine blk_drew ?_ | refine blk_alloc ?_ _)); refine blk_far ?_ NB313_345.out _; (with_reducible repeat (first | refine blk_drewN ?_ _ | refine blk_drew ?_ | refine blk_alloc ?_ _)); exact BK313.out⟩
       have n7_ : Aside0 ((((((((w35.setCell ⟨gb345, 0, none⟩ (.string t332)).setCell ⟨gb345, 1, none⟩ (.int .u16 t333)).setCell ⟨gb345, 2, none⟩ (.int .u16 t334)).setCell ⟨gb345, 3, none⟩ (.int .u32 t335)).setCell ⟨gb345, 4, none⟩ (.slice Ao40 t336.length co40)).setCell ⟨gb345, 5, none⟩ (.slice Ao41 t339.length co41)).setCell ⟨gb345, 6, none⟩ (.slice Ao42 t342.length co42)).heap[gb314]? = some (.cells #[.string a1_0, .int .u16 a1_1, .int .u16 a1_2, .int .u32 a1_3, .slice A1_4 l1_4.length c1_4, .slice A1_5 l1_5.length c1_5, .slice A1_6 l1_6.length c1_6] 27 (0, 0))) := ⟨by (with_reducible repeat (first | refine blk_drewN ?_ _ | refine blk_drew ?_ | refine blk_alloc ?_ _)); refine blk_far ?_ NB314_345.out _; (with_reducible repeat (first | refine blk_drewN ?_ _ | refine blk_drew ?_ | refine blk_alloc ?_ _)); refine blk_far ?_ NB314_345.out _; (with_reducible repeat (first | refine blk_drewN ?_ _ | refine blk_drew ?_ | refine blk_alloc ?_ _)); refine blk_far ?_ NB314_345.out _; (with_reducible repeat (first | refine blk_drewN ?_ _ | refine blk_drew ?_ | refine blk_alloc ?_ _)); refine blk_far ?_ NB314_345.out _; (with_reducible repeat (first | refine blk_drewN ?_ _ | refine blk_drew ?_ | refine blk_alloc ?_ _)); refine blk_far ?_ NB314_345.out _; (with_reducible repeat (first | refine blk_drewN ?_ _ | refine blk_drew ?_ | refine blk_alloc ?_ _)); refine blk_far ?_ NB314_345.out _; (with_reducible repeat (first | refine blk_drewN ?_ _ | refine blk_drew ?_ | refine blk_alloc ?_ _)); refine blk_far ?_ NB314_345.out _; (with_reducible repeat (first | refine blk_drewN ?_ _ | refine blk_drew ?_ | refine blk_alloc ?_ _)); exact BK314.out⟩
       have n8_ : Aside0 ((((((((w35.setCell ⟨gb345, 0, none⟩ (.string t332)).setCell ⟨gb345, 1, none⟩ (.int .u16 t333)).setCell ⟨gb345, 2, none⟩ (.int .u16 t334)).setCell ⟨gb345, 3, none⟩ (.int .u32 t335)).setCell ⟨gb345, 4, none⟩ (.slice Ao40 t336.length co40)).setCell ⟨gb345, 5, none⟩ (.slice Ao41 t339.length co41)).setCell ⟨gb345, 6, none⟩ (.slice Ao42 t342.length co42)).heap[gb331]? = some (.cells #[.string t318, .int .u16 t319, .int .u16 t320, .int .u32 t321, .slice Ao31 t322.length co31, .slice Ao32 t325.length co32, .slice Ao33 t328.length co33] 27 (0, 0))) := ⟨by (with_reducible repeat (first | refine blk_drewN ?_ _ | refine blk_drew ?_ | refine blk_alloc ?_ _)); refine blk_far ?_ NB331_345.out _; (with_reducible repeat (first | refine blk_drewN ?_ _ | refine blk_drew ?_ | refine blk_alloc ?_ _)); refine blk_far ?_ NB331_345.out _; (with_reducible repeat (first | refine blk_drewN ?_ _ | refine blk_drew ?_ | refine blk_alloc ?_ _)); refine blk_far ?_ NB331_345.out _; (with_reducible repeat (first | refine blk_drewN ?_ _ | refine blk_drew ?_ | refine blk_alloc ?_ _)); refine blk_far ?_ NB331_345.out _; (with_reducible repeat (first | refine blk_drewN ?_ _ | refine blk_drew ?_ | refine blk_alloc ?_ _)); refine blk_far ?_ NB331_345.out _; (with_reducible repeat (first | refine blk_drewN ?_ _ | refine blk_drew ?_ | refine blk_alloc ?_ _)); refine blk_far ?_ NB331_345.out _; (with_reducible repeat (first | refine blk_drewN ?_ _ | refine blk_drew ?_ | refine blk_alloc ?_ _)); refine blk_far ?_ NB331_345.out _; (with_reducible repeat (first | refine blk_drewN ?_ _ | refine blk_drew ?_ | refine blk_alloc ?_ _)); exact BK331.out⟩
       have n9_ : Aside0 ((((((((w35.setCell ⟨gb345, 0, none⟩ (.string t332)).setCell ⟨gb345, 1, none⟩ (.int .u16 t333)).setCell ⟨gb345, 2, none⟩ (.int .u16 t334)).setCell ⟨gb345, 3, none⟩ (.int .u32 t335)).setCell ⟨gb345, 4, none⟩ (.slice Ao40 t336.length co40)).setCell ⟨gb345, 5, none⟩ (.slice Ao41 t339.length co41)).setCell ⟨gb345, 6, none⟩ (.slice Ao42 t342.length co42)).heap[gb345]? = some (.cells #[.string t332, .int .u16 t333, .int .u16 t334, .int .u32 t335, .slice Ao40 t336.length co40, .slice Ao41 t339.length co41, .slice Ao42 t342.length co42] 27 (0, 0))) := ⟨by (with_reducible repeat (first | refine blk_drewN ?_ _ | refine blk_drew ?_ | refine blk_alloc ?_ _)); refine blk_put (cs := #[.string t332, .int .u16 t333, .int .u16 t334, .int .u32 t335, .slice Ao40 t336.length co40, .slice Ao41 t339.length co41, .slice none 0 0]) ?_ 6 _ rfl; (with_reducible repeat (first | refine blk_drewN ?_ _ | refine blk_drew ?_ | refine blk_alloc ?_ _)); refine blk_put (cs := #[.string t332, .int .u16 t333, .int .u16 t334, .int .u32 t335, .slice Ao40 t336.length co40, .slice none 0 0, .slice none 0 0]) ?_ 5 _ rfl; (with_reducible repeat (first | refine blk_drewN ?_ _ | refine blk_drew ?_ | refine blk_alloc ?_ _)); refine blk_put (cs := #[.string t332, .int .u16 t333, .int .u16 t334, .int .u32 t335, .slice none 0 0, .slice none 0 0, .slice none 0 0]) ?_ 4 _ rfl; (with_reducible repeat (first | refine blk_drewN ?_ _ | refine blk_drew ?_ | refine blk_alloc ?_ _)); refine blk_put (cs := #[.string t332, .int .u16 t333, .int .u16 t334, .int .u32 0, .slice none 0 0, .slice none 0 0, .slice none 0 0]) ?_ 3 _ rfl; (with_reducible repeat (first | refine blk_drewN ?_ _ | refine blk_drew ?_ | refine blk_alloc ?_ _)); refine blk_put (cs := #[.string t332, .int .u16 t333, .int .u16 0, .int .u32 0, .slice none 0 0, .slice none 0 0, .slice none 0 0]) ?_ 2 _ rfl; (with_reducible repeat (first | refine blk_drewN ?_ _ | refine blk_drew ?_ | refine blk_alloc ?_ _)); refine blk_put (cs := #[.string t332, .int .u16 0, .int .u16 0, .int .u32 0, .slice none 0 0, .slice none 0 0, .slice none 0 0]) ?_ 1 _ rfl; (with_reducible repeat (first | refine blk_drewN ?_ _ | refine blk_drew ?_ | refine blk_alloc ?_ _)); refine blk_put (cs := #[.string (⟨#[]⟩ : ByteArray), .int .u16 0, .int .u16 0, .int .u32 0, .slice none 0 0, .slice none 0 0, .slice none 0 0]) ?_ 0 _ rfl; (with_reducible repeat (first | refine blk_drewN ?_ _ | refine blk_drew ?_ | refine blk_alloc ?_ _)); exact BK345.out⟩
       have n10_ : Aside0 (Below w.heap.size w (((((((w35.setCell ⟨gb345, 0, none⟩ (.string t332)).setCell ⟨gb345, 1, none⟩ (.int .u16 t333)).setCell ⟨gb345, 2, none⟩ (.int .u16 t334)).setCell ⟨gb345, 3, none⟩ (.int .u32 t335)).setCell ⟨gb345, 4, none⟩ (.slice Ao40 t336.length co40)).setCell ⟨gb345, 5, none⟩ (.slice Ao41 t339.length co41)).setCell ⟨gb345, 6, none⟩ (.slice Ao42 t342.length co42))) := ⟨by repeat (first | (with_reducible first | exact HB.out | apply below_alloc | apply pw_below_drewN | apply below_drew1 | refine below_set ?_ GE313.out | refine below_set ?_ GE314.out | refine below_set ?_ GE331.out | refine below_set ?_ GE345.out) | exact HB.out)⟩
       (try clear HO324)
       (try clear HO327)
       (try clear HO330)
       (try clear HO338)
       (try clear HO341)
       (try clear HO344)
       (try clear BK313)
       (try clear BK314)
       (try clear BK331)
       (try clear BK345)
       (try clear HB)
       generalize (((((((w35.setCell ⟨gb345, 0, none⟩ (.string t332)).setCell ⟨gb345, 1, none⟩ (.int .u16 t333)).setCell ⟨gb345, 2, none⟩ (.int .u16 t334)).setCell ⟨gb345, 3, none⟩ (.int .u32 t335)).setCell ⟨gb345, 4, none⟩ (.slice Ao40 t336.length co40)).setCell ⟨gb345, 5, none⟩ (.slice Ao41 t339.length co41)).setCell ⟨gb345, 6, none⟩ (.slice Ao42 t342.length co42)) = w51 at n0_ n1_ n2_ n3_ n4_ n5_ n6_ n7_ n8_ n9_ n10_ ⊢
       have HO324 := n0_
       have HO327 := n1_
       have HO330 := n2_
       have HO338 := n3_
       have HO341 := n4_
       have HO344 := n5_
       have BK313 := n6_
       have BK314 := n7_
       have BK331 := n8_
       have BK345 := n9_
       have HB := n10_
       clear n0_ n1_ n2_ n3_ n4_ n5_ n6_ n7_ n8_ n9_ n10_
       have n0_ := Aside0.mk (Kd.R_drew HO324.out)
       have n1_ := Aside0.mk (Kd.R_drew HO327.out)
       have n2_ := Aside0.mk (Kd.R_drew HO330.out)
       have n3_ := Aside0.mk (Kd.R_drew HO338.out)
       have n4_ := Aside0.mk (Kd.R_drew HO341.out)
       have n5_ := Aside0.mk (Kd.R_drew HO344.out)
       have n6_ := Aside0.mk (blk_drew BK313.out)
       have n7_ := Aside0.mk (blk_drew BK314.out)
       have n8_ := Aside0.mk (blk_drew BK331.out)
       have n9_ := Aside0.mk (blk_drew BK345.out)
       have n10_ := Aside0.mk (below_drew1 HB.out)
       clear HO324
       clear HO327
       clear HO330
       clear HO338
       clear HO341
       clear HO344
       clear BK313
       clear BK314
       clear BK331
       clear BK345
       clear HB
       have HO324 := n0_
       have HO327 := n1_
       have HO330 := n2_
       have HO338 := n3_
       have HO341 := n4_
       have HO344 := n5_
       have BK313 := n6_
       have BK314 := n7_
       have BK331 := n8_
       have BK345 := n9_
       have HB := n10_
       clear n0_ n1_ n2_ n3_ n4_ n5_ n6_ n7_ n8_ n9_ n10_
       refine start_ (n := 13) (S := fun w' => w'.cell? ⟨gb313, 0, none⟩ = some (.string a0_0) ∧ w'.cell? ⟨gb313, 1, none⟩ = some (.int .u16 a0_1) ∧ w'.cell? ⟨gb313, 2, none⟩ = some (.int .u16 a0_2) ∧ w'.cell? ⟨gb313, 3, none⟩ = some (.int .u32 a0_3) ∧ w'.cell? ⟨gb313, 4, none⟩ = some (.slice A0_4 l0_4.length c0_4) ∧ w'.cell? ⟨gb313, 5, none⟩ = some (.slice A0_5 l0_5.length c0_5) ∧ w'.cell? ⟨gb313, 6, none⟩ = some (.slice A0_6 l0_6.length c0_6) ∧ w'.cell? ⟨gb314, 0, none⟩ = some (.string a1_0) ∧ w'.cell? ⟨gb314, 1, none⟩ = some (.int .u16 a1_1) ∧ w'.cell? ⟨gb314, 2, none⟩ = some (.int .u16 a1_2) ∧ w'.cell? ⟨gb314, 3, none⟩ = some (.int .u32 a1_3) ∧ w'.cell? ⟨gb314, 4, none⟩ = some (.slice A1_4 l1_4.length c1_4) ∧ w'.cell? ⟨gb314, 5, none⟩ = some (.slice A1_5 l1_5.length c1_5) ∧ w'.cell? ⟨gb314, 6, none⟩ = some (.slice A1_6 l1_6.length c1_6) ∧ w'.cell? ⟨gb345, 0, none⟩ = some (.string t332) ∧ w'.cell? ⟨gb345, 1, none⟩ = some (.int .u16 t333) ∧ w'.cell? ⟨gb345, 2, none⟩ = some (.int .u16 t334) ∧ w'.cell? ⟨gb345, 3, none⟩ = some (.int .u32 t335) ∧ w'.cell? ⟨gb345, 4, none⟩ = some (.slice Ao40 t336.length co40) ∧ w'.cell? ⟨gb345, 5, none⟩ = some (.slice Ao41 t339.length co41) ∧ w'.cell? ⟨gb345, 6, none⟩ = some (.slice Ao42 t342.length co42)) (ds := []) #[false, false, false, false, false, false, false, false, false, false, false, false, false] (by kernel_rfl) rfl rfl ⟨(blk_cell BK313.out 0).trans rfl, (blk_cell BK313.out 1).trans rfl, (blk_cell BK313.out 2).trans rfl, (blk_cell BK313.out 3).trans rfl, (blk_cell BK313.out 4).trans rfl, (blk_cell BK313.out 5).trans rfl, (blk_cell BK313.out 6).trans rfl, (blk_cell BK314.out 0).trans rfl, (blk_cell BK314.out 1).trans rfl, (blk_cell BK314.out 2).trans rfl, (blk_cell BK314.out 3).trans rfl, (blk_cell BK314.out 4).trans rfl, (blk_cell BK314.out 5).trans rfl, (blk_cell BK314.out 6).trans rfl, (blk_cell BK345.out 0).trans rfl, (blk_cell BK345.out 1).trans rfl, (blk_cell BK345.out 2).trans rfl, (blk_cell BK345.out 3).trans rfl, (blk_cell BK345.out 4).trans rfl, (blk_cell BK345.out 5).trans rfl, (blk_cell BK345.out 6).trans rfl⟩ (fun hHeld => ?_); refine with_tabW nunciolaw05_DataSame.tab7 nunciolaw05_DataSame.bits7 (fun HT_ HW_ => ?_)
       generalize w51.drew = w52 at HO324 HO327 HO330 HO338 HO341 HO344 BK313 BK314 BK331 BK345 HB hHeld ⊢
       refine take_ (i := 0) (N := some 21) (v := ?_) (a' := ?_) #[true, false, false, false, false, false, false, false, false, false, false, false, false] rfl rfl (take_ofW HT_.out HW_.out (by kernel_rfl)) (fun _ _ _ h => h) (Or.inl ⟨by rfl, ?_⟩) hHeld ?_ ?_
       rotate_left
       ·
        rintro w' ⟨s0, s1, s2, s3, s4, s5, s6, s7, s8, s9, s10, s11, s12, s13, s14, s15, s16, s17, s18, s19, s20⟩
        go_simp
        with_reducible rfl
       rotate_left
       ·
        simp only [Act.put, List.setIfInBounds_toArray, List.set_cons_zero, List.set_cons_succ, i64_w, i32_w]
        rfl
       refine take_ (i := 1) (N := some 22) (v := ?_) (a' := ?_) #[true, true, false, false, false, false, false, false, false, false, false, false, false] rfl rfl (take_ofW HT_.out HW_.out (by kernel_rfl)) (fun _ _ _ h => h) (Or.inl ⟨by rfl, ?_⟩) hHeld ?_ ?_
       rotate_left
       ·
        rintro w' ⟨s0, s1, s2, s3, s4, s5, s6, s7, s8, s9, s10, s11, s12, s13, s14, s15, s16, s17, s18, s19, s20⟩
        go_simp
        with_reducible rfl
       rotate_left
       ·
        simp only [Act.put, List.setIfInBounds_toArray, List.set_cons_zero, List.set_cons_succ, i64_w, i32_w]
        rfl
       refine take_ (i := 3) (N := some 24) (v := ?_) (a' := ?_) #[true, true, false, true, false, false, false, false, false, false, false, false, false] rfl rfl (take_ofW HT_.out HW_.out (by kernel_rfl)) (fun _ _ _ h => h) (Or.inl ⟨by rfl, ?_⟩) hHeld ?_ ?_
       rotate_left
       ·
        rintro w' ⟨s0, s1, s2, s3, s4, s5, s6, s7, s8, s9, s10, s11, s12, s13, s14, s15, s16, s17, s18, s19, s20⟩
        go_simp
        with_reducible rfl
       rotate_left
       ·
        simp only [Act.put, List.setIfInBounds_toArray, List.set_cons_zero, List.set_cons_succ, i64_w, i32_w]
        rfl
       refine take_ (i := 4) (N := some 25) (v := ?_) (a' := ?_) #[true, true, false, true, true, false, false, false, false, false, false, false, false] rfl rfl (take_ofW HT_.out HW_.out (by kernel_rfl)) (fun _ _ _ h => h) (Or.inl ⟨by rfl, ?_⟩) hHeld ?_ ?_
       rotate_left
       ·
        rintro w' ⟨s0, s1, s2, s3, s4, s5, s6, s7, s8, s9, s10, s11, s12, s13, s14, s15, s16, s17, s18, s19, s20⟩
        go_simp
        with_reducible rfl
       rotate_left
       ·
        simp only [Act.put, List.setIfInBounds_toArray, List.set_cons_zero, List.set_cons_succ, i64_w, i32_w]
        rfl
       refine one_ (i := 2) (N := some 23) #[true, true, true, true, true, false, false, false, false, false, false, false, false] rfl rfl (one_of HT_.out (by kernel_rfl)) (by decide) (fun K hK => ?_)
       refine goes_ Try.func17 (by kernel_rfl) rfl #[.agg #[.string a0_0, .int .u16 a0_1, .int .u16 a0_2, .int .u32 a0_3, .slice A0_4 l0_4.length c0_4, .slice A0_5 l0_5.length c0_5, .slice A0_6 l0_6.length c0_6], .agg #[.string a1_0, .int .u16 a1_1, .int .u16 a1_2, .int .u32 a1_3, .slice A1_4 l1_4.length c1_4, .slice A1_5 l1_5.length c1_5, .slice A1_6 l1_6.length c1_6]] (by rfl) rfl rfl (by (try simp only [List.map_toArray, List.map_cons, List.map_nil]); first | done | rfl | (simp only [List.length_drop, List.length_take]; rfl)) ?_
       with_reducible refine (rdata_Same.calls kj4 a0_0 a0_1 a0_2 a0_3 _ _ l0_4 _ _ l0_5 _ _ l0_6 a1_0 a1_1 a1_2 a1_3 _ _ l1_4 _ _ l1_5 _ _ l1_6 t346 _ ?side1 ?side2 ?side3 ?side4 ?side5 ?side6 ?side7 ?side8 ?side9 ?side10 ?side11 ?side12 A43.out).mono ?_
       (case side1 => repeat (first | exact (Kd.C_below HR0_4.out HB.out) | (with_reducible refine Kd.C_alloc ?_ _) | (with_reducible refine Kd.C_drewN ?_ _) | (with_reducible refine Kd.C_drew ?_)))
       (case side2 => exact HC0_4.out)
       (case side3 => repeat (first | exact (Kd.C_below HR0_5.out HB.out) | (with_reducible refine Kd.C_alloc ?_ _) | (with_reducible refine Kd.C_drewN ?_ _) | (with_reducible refine Kd.C_drew ?_)))
       (case side4 => exact HC0_5.out)
       (case side5 => repeat (first | exact (Kd.C_below HR0_6.out HB.out) | (with_reducible refine Kd.C_alloc ?_ _) | (with_reducible refine Kd.C_drewN ?_ _) | (with_reducible refine Kd.C_drew ?_)))
       (case side6 => exact HC0_6.out)
       (case side7 => repeat (first | exact (Kd.C_below HR1_4.out HB.out) | (with_reducible refine Kd.C_alloc ?_ _) | (with_reducible refine Kd.C_drewN ?_ _) | (with_reducible refine Kd.C_drew ?_)))
       (case side8 => exact HC1_4.out)
       (case side9 => repeat (first | exact (Kd.C_below HR1_5.out HB.out) | (with_reducible refine Kd.C_alloc ?_ _) | (with_reducible refine Kd.C_drewN ?_ _) | (with_reducible refine Kd.C_drew ?_)))
       (case side10 => exact HC1_5.out)
       (case side11 => repeat (first | exact (Kd.C_below HR1_6.out HB.out) | (with_reducible refine Kd.C_alloc ?_ _) | (with_reducible refine Kd.C_drewN ?_ _) | (with_reducible refine Kd.C_drew ?_)))
       (case side12 => exact HC1_6.out)
       rintro e w53 ⟨rfl, hb⟩
       refine ⟨_, rfl, ?_⟩
       have n0_ := Aside0.mk (Kd.R_below (by (with_reducible repeat (first | apply Kd.R_alloc | apply Kd.R_drewN | apply Kd.R_drew)); exact HO324.out) hb)
       have n1_ := Aside0.mk (Kd.R_below (by (with_reducible repeat (first | apply Kd.R_alloc | apply Kd.R_drewN | apply Kd.R_drew)); exact HO327.out) hb)
       have n2_ := Aside0.mk (Kd.R_below (by (with_reducible repeat (first | apply Kd.R_alloc | apply Kd.R_drewN | apply Kd.R_drew)); exact HO330.out) hb)
       have n3_ := Aside0.mk (Kd.R_below (by (with_reducible repeat (first | apply Kd.R_alloc | apply Kd.R_drewN | apply Kd.R_drew)); exact HO338.out) hb)
       have n4_ := Aside0.mk (Kd.R_below (by (with_reducible repeat (first | apply Kd.R_alloc | apply Kd.R_drewN | apply Kd.R_drew)); exact HO341.out) hb)
       have n5_ := Aside0.mk (Kd.R_below (by (with_reducible repeat (first | apply Kd.R_alloc | apply Kd.R_drewN | apply Kd.R_drew)); exact HO344.out) hb)
       have n6_ := Aside0.mk (blk_below (g := gb313) (o := .cells #[.string a0_0, .int .u16 a0_1, .int .u16 a0_2, .int .u32 a0_3, .slice A0_4 l0_4.length c0_4, .slice A0_5 l0_5.length c0_5, .slice A0_6 l0_6.length c0_6] 27 (0, 0)) (by (with_reducible repeat (first | refine blk_drewN ?_ _ | refine blk_drew ?_ | refine blk_alloc ?_ _)); exact BK313.out) hb)
       have n7_ := Aside0.mk (blk_below (g := gb314) (o := .cells #[.string a1_0, .int .u16 a1_1, .int .u16 a1_2, .int .u32 a1_3, .slice A1_4 l1_4.length c1_4, .slice A1_5 l1_5.length c1_5, .slice A1_6 l1_6.length c1_6] 27 (0, 0)) (by (with_reducible repeat (first | refine blk_drewN ?_ _ | refine blk_drew ?_ | refine blk_alloc ?_ _)); exact BK314.out) hb)
       have n8_ := Aside0.mk (blk_below (g := gb331) (o := .cells #[.string t318, .int .u16 t319, .int .u16 t320, .int .u32 t321, .slice Ao31 t322.length co31, .slice Ao32 t325.length co32, .slice Ao33 t328.length co33] 27 (0, 0)) (by (with_reducible repeat (first | refine blk_drewN ?_ _ | refine blk_drew ?_ | refine blk_alloc ?_ _)); exact BK331.out) hb)
       have n9_ := Aside0.mk (blk_below (g := gb345) (o := .cells #[.string t332, .int .u16 t333, .int .u16 t334, .int .u32 t335, .slice Ao40 t336.length co40, .slice Ao41 t339.length co41, .slice Ao42 t342.length co42] 27 (0, 0)) (by (with_reducible repeat (first | refine blk_drewN ?_ _ | refine blk_drew ?_ | refine blk_alloc ?_ _)); exact BK345.out) hb)
       have n10_ := Aside0.mk (below_step (by repeat (first | (with_reducible first | exact HB.out | apply below_alloc | apply pw_below_drewN | apply below_drew1 | refine below_set ?_ GE313.out | refine below_set ?_ GE314.out | refine below_set ?_ GE331.out | refine below_set ?_ GE345.out) | exact HB.out)) hb)
       clear HO324
       clear HO327
       clear HO330
       clear HO338
       clear HO341
       clear HO344
       clear BK313
       clear BK314
       clear BK331
       clear BK345
       clear HB
       have HO324 := n0_
       have HO327 := n1_
       have HO330 := n2_
       have HO338 := n3_
       have HO341 := n4_
       have HO344 := n5_
       have BK313 := n6_
       have BK314 := n7_
       have BK331 := n8_
       have BK345 := n9_
       have HB := n10_
       clear n0_ n1_ n2_ n3_ n4_ n5_ n6_ n7_ n8_ n9_ n10_
       (try clear hb)
       (try clear hb2)
       (try clear hk)
       (try clear hi)
       refine hK.out _ _ ⟨(blk_cell BK313.out 0).trans rfl, (blk_cell BK313.out 1).trans rfl, (blk_cell BK313.out 2).trans rfl, (blk_cell BK313.out 3).trans rfl, (blk_cell BK313.out 4).trans rfl, (blk_cell BK313.out 5).trans rfl, (blk_cell BK313.out 6).trans rfl, (blk_cell BK314.out 0).trans rfl, (blk_cell BK314.out 1).trans rfl, (blk_cell BK314.out 2).trans rfl, (blk_cell BK314.out 3).trans rfl, (blk_cell BK314.out 4).trans rfl, (blk_cell BK314.out 5).trans rfl, (blk_cell BK314.out 6).trans rfl, (blk_cell BK345.out 0).trans rfl, (blk_cell BK345.out 1).trans rfl, (blk_cell BK345.out 2).trans rfl, (blk_cell BK345.out 3).trans rfl, (blk_cell BK345.out 4).trans rfl, (blk_cell BK345.out 5).trans rfl, (blk_cell BK345.out 6).trans rfl⟩ (fun hHeld => ?_)
       clear hK K
       refine norm_ (a' := ?_) ?_ ?_
       rotate_left
       ·
        show Act.put _ (some 23) _ = _
        simp only [Act.put, List.setIfInBounds_toArray, List.set_cons_zero, List.set_cons_succ, i64_w, i32_w]
        rfl
       refine one_ (i := 5) (N := some 26) #[true, true, true, true, true, true, false, false, false, false, false, false, false] rfl rfl (one_of HT_.out (by kernel_rfl)) (by decide) (fun K hK => ?_)
       refine goes_ Try.func18 (by kernel_rfl) rfl #[.agg #[.string a0_0, .int .u16 a0_1, .int .u16 a0_2, .int .u32 a0_3, .slice A0_4 l0_4.length c0_4, .slice A0_5 l0_5.length c0_5, .slice A0_6 l0_6.length c0_6], .agg #[.string a1_0, .int .u16 a1_1, .int .u16 a1_2, .int .u32 a1_3, .slice A1_4 l1_4.length c1_4, .slice A1_5 l1_5.length c1_5, .slice A1_6 l1_6.length c1_6]] (by rfl) rfl rfl (by (try simp only [List.map_toArray, List.map_cons, List.map_nil]); first | done | rfl | (simp only [List.length_drop, List.length_take]; rfl)) ?_
       with_reducible refine (nuncioref05_Same.calls kj4 a0_0 a0_1 a0_2 a0_3 _ _ l0_4 _ _ l0_5 _ _ l0_6 a1_0 a1_1 a1_2 a1_3 _ _ l1_4 _ _ l1_5 _ _ l1_6 t347 _ ?side1 ?side2 ?side3 ?side4 ?side5 ?side6 ?side7 ?side8 ?side9 ?side10 ?side11 ?side12 A44.out).mono ?_
       (case side1 => repeat (first | exact (Kd.C_below HR0_4.out HB.out) | (with_reducible refine Kd.C_alloc ?_ _) | (with_reducible refine Kd.C_drewN ?_ _) | (with_reducible refine Kd.C_drew ?_)))
       (case side2 => exact HC0_4.out)
       (case side3 => repeat (first | exact (Kd.C_below HR0_5.out HB.out) | (with_reducible refine Kd.C_alloc ?_ _) | (with_reducible refine Kd.C_drewN ?_ _) | (with_reducible refine Kd.C_drew ?_)))
       (case side4 => exact HC0_5.out)
       (case side5 => repeat (first | exact (Kd.C_below HR0_6.out HB.out) | (with_reducible refine Kd.C_alloc ?_ _) | (with_reducible refine Kd.C_drewN ?_ _) | (with_reducible refine Kd.C_drew ?_)))
       (case side6 => exact HC0_6.out)
       (case side7 => repeat (first | exact (Kd.C_below HR1_4.out HB.out) | (with_reducible refine Kd.C_alloc ?_ _) | (with_reducible refine Kd.C_drewN ?_ _) | (with_reducible refine Kd.C_drew ?_)))
       (case side8 => exact HC1_4.out)
       (case side9 => repeat (first | exact (Kd.C_below HR1_5.out HB.out) | (with_reducible refine Kd.C_alloc ?_ _) | (with_reducible refine Kd.C_drewN ?_ _) | (with_reducible refine Kd.C_drew ?_)))
       (case side10 => exact HC1_5.out)
       (case side11 => repeat (first | exact (Kd.C_below HR1_6.out HB.out) | (with_reducible refine Kd.C_alloc ?_ _) | (with_reducible refine Kd.C_drewN ?_ _) | (with_reducible refine Kd.C_drew ?_)))
       (case side12 => exact HC1_6.out)
       rintro e w54 ⟨rfl, hb⟩
       refine ⟨_, rfl, ?_⟩
       have n0_ := Aside0.mk (Kd.R_below (by (with_reducible repeat (first | apply Kd.R_alloc | apply Kd.R_drewN | apply Kd.R_drew)); exact HO324.out) hb)
       have n1_ := Aside0.mk (Kd.R_below (by (with_reducible repeat (first | apply Kd.R_alloc | apply Kd.R_drewN | apply Kd.R_drew)); exact HO327.out) hb)
       have n2_ := Aside0.mk (Kd.R_below (by (with_reducible repeat (first | apply Kd.R_alloc | apply Kd.R_drewN | apply Kd.R_drew)); exact HO330.out) hb)
       have n3_ := Aside0.mk (Kd.R_below (by (with_reducible repeat (first | apply Kd.R_alloc | apply Kd.R_drewN | apply Kd.R_drew)); exact HO338.out) hb)
       have n4_ := Aside0.mk (Kd.R_below (by (with_reducible repeat (first | apply Kd.R_alloc | apply Kd.R_drewN | apply Kd.R_drew)); exact HO341.out) hb)
       have n5_ := Aside0.mk (Kd.R_below (by (with_reducible repeat (first | apply Kd.R_alloc | apply Kd.R_drewN | apply Kd.R_drew)); exact HO344.out) hb)
       have n6_ := Aside0.mk (blk_below (g := gb313) (o := .cells #[.string a0_0, .int .u16 a0_1, .int .u16 a0_2, .int .u32 a0_3, .slice A0_4 l0_4.length c0_4, .slice A0_5 l0_5.length c0_5, .slice A0_6 l0_6.length c0_6] 27 (0, 0)) (by (with_reducible repeat (first | refine blk_drewN ?_ _ | refine blk_drew ?_ | refine blk_alloc ?_ _)); exact BK313.out) hb)
       have n7_ := Aside0.mk (blk_below (g := gb314) (o := .cells #[.string a1_0, .int .u16 a1_1, .int .u16 a1_2, .int .u32 a1_3, .slice A1_4 l1_4.length c1_4, .slice A1_5 l1_5.length c1_5, .slice A1_6 l1_6.length c1_6] 27 (0, 0)) (by (with_reducible repeat (first | refine blk_drewN ?_ _ | refine blk_drew ?_ | refine blk_alloc ?_ _)); exact BK314.out) hb)
       have n8_ := Aside0.mk (blk_below (g := gb331) (o := .cells #[.string t318, .int .u16 t319, .int .u16 t320, .int .u32 t321, .slice Ao31 t322.length co31, .slice Ao32 t325.length co32, .slice Ao33 t328.length co33] 27 (0, 0)) (by (with_reducible repeat (first | refine blk_drewN ?_ _ | refine blk_drew ?_ | refine blk_alloc ?_ _)); exact BK331.out) hb)
       have n9_ := Aside0.mk (blk_below (g := gb345) (o := .cells #[.string t332, .int .u16 t333, .int .u16 t334, .int .u32 t335, .slice Ao40 t336.length co40, .slice Ao41 t339.length co41, .slice Ao42 t342.length co42] 27 (0, 0)) (by (with_reducible repeat (first | refine blk_drewN ?_ _ | refine blk_drew ?_ | refine blk_alloc ?_ _)); exact BK345.out) hb)
       have n10_ := Aside0.mk (below_step (by repeat (first | (with_reducible first | exact HB.out | apply below_alloc | apply pw_below_drewN | apply below_drew1 | refine below_set ?_ GE313.out | refine below_set ?_ GE314.out | refine below_set ?_ GE331.out | refine below_set ?_ GE345.out) | exact HB.out)) hb)
       clear HO324
       clear HO327
       clear HO330
       clear HO338
       clear HO341
       clear HO344
       clear BK313
       clear BK314
       clear BK331
       clear BK345
       clear HB
       have HO324 := n0_
       have HO327 := n1_
       have HO330 := n2_
       have HO338 := n3_
       have HO341 := n4_
       have HO344 := n5_
       have BK313 := n6_
       have BK314 := n7_
       have BK331 := n8_
       have BK345 := n9_
       have HB := n10_
       clear n0_ n1_ n2_ n3_ n4_ n5_ n6_ n7_ n8_ n9_ n10_
       (try clear hb)
       (try clear hb2)
       (try clear hk)
       (try clear hi)
       refine hK.out _ _ ⟨(blk_cell BK313.out 0).trans rfl, (blk_cell BK313.out 1).trans rfl, (blk_cell BK313.out 2).trans rfl, (blk_cell BK313.out 3).trans rfl, (blk_cell BK313.out 4).trans rfl, (blk_cell BK313.out 5).trans rfl, (blk_cell BK313.out 6).trans rfl, (blk_cell BK314.out 0).trans rfl, (blk_cell BK314.out 1).trans rfl, (blk_cell BK314.out 2).trans rfl, (blk_cell BK314.out 3).trans rfl, (blk_cell BK314.out 4).trans rfl, (blk_cell BK314.out 5).trans rfl, (blk_cell BK314.out 6).trans rfl, (blk_cell BK345.out 0).trans rfl, (blk_cell BK345.out 1).trans rfl, (blk_cell BK345.out 2).trans rfl, (blk_cell BK345.out 3).trans rfl, (blk_cell BK345.out 4).trans rfl, (blk_cell BK345.out 5).trans rfl, (blk_cell BK345.out 6).trans rfl⟩ (fun hHeld => ?_)
       clear hK K
       refine norm_ (a' := ?_) ?_ ?_
       rotate_left
       ·
        show Act.put _ (some 26) _ = _
        simp only [Act.put, List.setIfInBounds_toArray, List.set_cons_zero, List.set_cons_succ, i64_w, i32_w]
        rfl
       refine pure_ (i := 6) (N := some 27) (v := ?_) (a' := ?_) #[true, true, true, true, true, true, true, false, false, false, false, false, false] rfl rfl (any_of HT_.out (by kernel_rfl)) (fun _ _ _ h => h) (Or.inl ⟨by rfl, ?_⟩) ?_ ?_
       rotate_left
       ·
        intro w'
        go_simp
        with_reducible rfl
       rotate_left
       ·
        simp only [Act.put, List.setIfInBounds_toArray, List.set_cons_zero, List.set_cons_succ, i64_w, i32_w]
        rfl
       refine pure_ (i := 7) (N := some 28) (v := ?_) (a' := ?_) #[true, true, true, true, true, true, true, true, false, false, false, false, false] rfl rfl (any_of HT_.out (by kernel_rfl)) (fun _ _ _ h => h) (Or.inl ⟨by rfl, ?_⟩) ?_ ?_
       rotate_left
       ·
        intro w'
        go_simp
        with_reducible rfl
       rotate_left
       ·
        simp only [Act.put, List.setIfInBounds_toArray, List.set_cons_zero, List.set_cons_succ, i64_w, i32_w]
        rfl
       refine take_ (i := 8) (N := some 29) (v := ?_) (a' := ?_) #[true, true, true, true, true, true, true, true, true, false, false, false, false] rfl rfl (take_ofW HT_.out HW_.out (by kernel_rfl)) (fun _ _ _ h => h) (Or.inl ⟨by rfl, ?_⟩) hHeld ?_ ?_
       rotate_left
       ·
        rintro w' ⟨s0, s1, s2, s3, s4, s5, s6, s7, s8, s9, s10, s11, s12, s13, s14, s15, s16, s17, s18, s19, s20⟩
        go_simp
        with_reducible rfl
       rotate_left
       ·
        simp only [Act.put, List.setIfInBounds_toArray, List.set_cons_zero, List.set_cons_succ, i64_w, i32_w]
        rfl
       refine take_ (i := 9) (N := some 30) (v := ?_) (a' := ?_) #[true, true, true, true, true, true, true, true, true, true, false, false, false] rfl rfl (take_ofW HT_.out HW_.out (by kernel_rfl)) (fun _ _ _ h => h) (Or.inl ⟨by rfl, ?_⟩) hHeld ?_ ?_
       rotate_left
       ·
        rintro w' ⟨s0, s1, s2, s3, s4, s5, s6, s7, s8, s9, s10, s11, s12, s13, s14, s15, s16, s17, s18, s19, s20⟩
        go_simp
        with_reducible rfl
       rotate_left
       ·
        simp only [Act.put, List.setIfInBounds_toArray, List.set_cons_zero, List.set_cons_succ, i64_w, i32_w]
        rfl
       refine one_ (i := 10) (N := some 31) #[true, true, true, true, true, true, true, true, true, true, true, false, false] rfl rfl (one_of HT_.out (by kernel_rfl)) (by decide) (fun K hK => ?_)
       refine goes_ Try.func17 (by kernel_rfl) rfl #[.agg #[.string t332, .int .u16 t333, .int .u16 t334, .int .u32 t335, .slice Ao40 t336.length co40, .slice Ao41 t339.length co41, .slice Ao42 t342.length co42], .agg #[.string a0_0, .int .u16 a0_1, .int .u16 a0_2, .int .u32 a0_3, .slice A0_4 l0_4.length c0_4, .slice A0_5 l0_5.length c0_5, .slice A0_6 l0_6.length c0_6]] (by rfl) rfl rfl (by (try simp only [List.map_toArray, List.map_cons, List.map_nil]); first | done | rfl | (simp only [List.length_drop, List.length_take]; rfl)) ?_
       with_reducible refine (rdata_Same.calls kj4 t332 t333 t334 t335 _ _ t336 _ _ t339 _ _ t342 a0_0 a0_1 a0_2 a0_3 _ _ l0_4 _ _ l0_5 _ _ l0_6 t348 _ ?side1 ?side2 ?side3 ?side4 ?side5 ?side6 ?side7 ?side8 ?side9 ?side10 ?side11 ?side12 A50.out).mono ?_
       (case side1 => repeat (first | exact (Kd.R_reads' HO338.out).2.2 | (with_reducible refine Kd.C_alloc ?_ _) | (with_reducible refine Kd.C_drewN ?_ _) | (with_reducible refine Kd.C_drew ?_)))
       (case side2 => exact (Kd.R_reads' HO338.out).2.1)
       (case side3 => repeat (first | exact (Kd.R_reads' HO341.out).2.2 | (with_reducible refine Kd.C_alloc ?_ _) | (with_reducible refine Kd.C_drewN ?_ _) | (with_reducible refine Kd.C_drew ?_)))
       (case side4 => exact (Kd.R_reads' HO341.out).2.1)
       (case side5 => repeat (first | exact (Kd.R_reads' HO344.out).2.2 | (with_reducible refine Kd.C_alloc ?_ _) | (with_reducible refine Kd.C_drewN ?_ _) | (with_reducible refine Kd.C_drew ?_)))
       (case side6 => exact (Kd.R_reads' HO344.out).2.1)
       (case side7 => repeat (first | exact (Kd.C_below HR0_4.out HB.out) | (with_reducible refine Kd.C_alloc ?_ _) | (with_reducible refine Kd.C_drewN ?_ _) | (with_reducible refine Kd.C_drew ?_)))
       (case side8 => exact HC0_4.out)
       (case side9 => repeat (first | exact (Kd.C_below HR0_5.out HB.out) | (with_reducible refine Kd.C_alloc ?_ _) | (with_reducible refine Kd.C_drewN ?_ _) | (with_reducible refine Kd.C_drew ?_)))
       (case side10 => exact HC0_5.out)
       (case side11 => repeat (first | exact (Kd.C_below HR0_6.out HB.out) | (with_reducible refine Kd.C_alloc ?_ _) | (with_reducible refine Kd.C_drewN ?_ _) | (with_reducible refine Kd.C_drew ?_)))
       (case side12 => exact HC0_6.out)
       rintro e w55 ⟨rfl, hb⟩
       refine ⟨_, rfl, ?_⟩
       have n0_ := Aside0.mk (Kd.R_below (by (with_reducible repeat (first | apply Kd.R_alloc | apply Kd.R_drewN | apply Kd.R_drew)); exact HO324.out) hb)
       have n1_ := Aside0.mk (Kd.R_below (by (with_reducible repeat (first | apply Kd.R_alloc | apply Kd.R_drewN | apply Kd.R_drew)); exact HO327.out) hb)
       have n2_ := Aside0.mk (Kd.R_below (by (with_reducible repeat (first | apply Kd.R_alloc | apply Kd.R_drewN | apply Kd.R_drew)); exact HO330.out) hb)
       have n3_ := Aside0.mk (Kd.R_below (by (with_reducible repeat (first | apply Kd.R_alloc | apply Kd.R_drewN | apply Kd.R_drew)); exact HO338.out) hb)
       have n4_ := Aside0.mk (Kd.R_below (by (with_reducible repeat (first | apply Kd.R_alloc | apply Kd.R_drewN | apply Kd.R_drew)); exact HO341.out) hb)
       have n5_ := Aside0.mk (Kd.R_below (by (with_reducible repeat (first | apply Kd.R_alloc | apply Kd.R_drewN | apply Kd.R_drew)); exact HO344.out) hb)
       have n6_ := Aside0.mk (blk_below (g := gb313) (o := .cells #[.string a0_0, .int .u16 a0_1, .int .u16 a0_2, .int .u32 a0_3, .slice A0_4 l0_4.length c0_4, .slice A0_5 l0_5.length c0_5, .slice A0_6 l0_6.length c0_6] 27 (0, 0)) (by (with_reducible repeat (first | refine blk_drewN ?_ _ | refine blk_drew ?_ | refine blk_alloc ?_ _)); exact BK313.out) hb)
       have n7_ := Aside0.mk (blk_below (g := gb314) (o := .cells #[.string a1_0, .int .u16 a1_1, .int .u16 a1_2, .int .u32 a1_3, .slice A1_4 l1_4.length c1_4, .slice A1_5 l1_5.length c1_5, .slice A1_6 l1_6.length c1_6] 27 (0, 0)) (by (with_reducible repeat (first | refine blk_drewN ?_ _ | refine blk_drew ?_ | refine blk_alloc ?_ _)); exact BK314.out) hb)
       have n8_ := Aside0.mk (blk_below (g := gb331) (o := .cells #[.string t318, .int .u16 t319, .int .u16 t320, .int .u32 t321, .slice Ao31 t322.length co31, .slice Ao32 t325.length co32, .slice Ao33 t328.length co33] 27 (0, 0)) (by (with_reducible repeat (first | refine blk_drewN ?_ _ | refine blk_drew ?_ | refine blk_alloc ?_ _)); exact BK331.out) hb)
       have n9_ := Aside0.mk (blk_below (g := gb345) (o := .cells #[.string t332, .int .u16 t333, .int .u16 t334, .int .u32 t335, .slice Ao40 t336.length co40, .slice Ao41 t339.length co41, .slice Ao42 t342.length co42] 27 (0, 0)) (by (with_reducible repeat (first | refine blk_drewN ?_ _ | refine blk_drew ?_ | refine blk_alloc ?_ _)); exact BK345.out) hb)
       have n10_ := Aside0.mk (below_step (by repeat (first | (with_reducible first | exact HB.out | apply below_alloc | apply pw_below_drewN | apply below_drew1 | refine below_set ?_ GE313.out | refine below_set ?_ GE314.out | refine below_set ?_ GE331.out | refine below_set ?_ GE345.out) | exact HB.out)) hb)
       clear HO324
       clear HO327
       clear HO330
       clear HO338
       clear HO341
       clear HO344
       clear BK313
       clear BK314
       clear BK331
       clear BK345
       clear HB
       have HO324 := n0_
       have HO327 := n1_
       have HO330 := n2_
       have HO338 := n3_
       have HO341 := n4_
       have HO344 := n5_
       have BK313 := n6_
       have BK314 := n7_
       have BK331 := n8_
       have BK345 := n9_
       have HB := n10_
       clear n0_ n1_ n2_ n3_ n4_ n5_ n6_ n7_ n8_ n9_ n10_
       (try clear hb)
       (try clear hb2)
       (try clear hk)
       (try clear hi)
       refine hK.out _ _ ⟨(blk_cell BK313.out 0).trans rfl, (blk_cell BK313.out 1).trans rfl, (blk_cell BK313.out 2).trans rfl, (blk_cell BK313.out 3).trans rfl, (blk_cell BK313.out 4).trans rfl, (blk_cell BK313.out 5).trans rfl, (blk_cell BK313.out 6).trans rfl, (blk_cell BK314.out 0).trans rfl, (blk_cell BK314.out 1).trans rfl, (blk_cell BK314.out 2).trans rfl, (blk_cell BK314.out 3).trans rfl, (blk_cell BK314.out 4).trans rfl, (blk_cell BK314.out 5).trans rfl, (blk_cell BK314.out 6).trans rfl, (blk_cell BK345.out 0).trans rfl, (blk_cell BK345.out 1).trans rfl, (blk_cell BK345.out 2).trans rfl, (blk_cell BK345.out 3).trans rfl, (blk_cell BK345.out 4).trans rfl, (blk_cell BK345.out 5).trans rfl, (blk_cell BK345.out 6).trans rfl⟩ (fun hHeld => ?_)
       clear hK K
       refine norm_ (a' := ?_) ?_ ?_
       rotate_left
       ·
        show Act.put _ (some 31) _ = _
        simp only [Act.put, List.setIfInBounds_toArray, List.set_cons_zero, List.set_cons_succ, i64_w, i32_w]
        rfl
       refine pure_ (i := 11) (N := some 32) (v := ?_) (a' := ?_) #[true, true, true, true, true, true, true, true, true, true, true, true, false] rfl rfl (any_of HT_.out (by kernel_rfl)) (fun _ _ _ h => h) (Or.inl ⟨by rfl, ?_⟩) ?_ ?_
       rotate_left
       ·
        intro w'
        go_simp
        with_reducible rfl
       rotate_left
       ·
        simp only [Act.put, List.setIfInBounds_toArray, List.set_cons_zero, List.set_cons_succ, i64_w, i32_w]
        rfl
       refine pure_ (i := 12) (N := some 33) (v := ?_) (a' := ?_) #[true, true, true, true, true, true, true, true, true, true, true, true, true] rfl rfl (any_of HT_.out (by kernel_rfl)) (fun _ _ _ h => h) (Or.inl ⟨by rfl, ?_⟩) ?_ ?_
       rotate_left
       ·
        intro w'
        go_simp
        with_reducible rfl
       rotate_left
       ·
        simp only [Act.put, List.setIfInBounds_toArray, List.set_cons_zero, List.set_cons_succ, i64_w, i32_w]
        rfl
       refine done_ (done_of HT_.out (by kernel_rfl)) ?_
       try go_wp2
       go_meet
       case rel => exact ⟨_, (!t348), (by first | rfl | (simp; done) | (simp [*]; done)), H', ⟨by have := HJ4.out; first | omega | exact Nat.le_refl _⟩, ⟨by (with_reducible repeat (first | apply Kd.R_alloc | apply Kd.R_drewN | apply Kd.R_drew)); exact HO324.out⟩, ⟨by (with_reducible repeat (first | apply Kd.R_alloc | apply Kd.R_drewN | apply Kd.R_drew)); exact HO327.out⟩, ⟨by (with_reducible repeat (first | apply Kd.R_alloc | apply Kd.R_drewN | apply Kd.R_drew)); exact HO330.out⟩, ⟨by (with_reducible repeat (first | apply Kd.R_alloc | apply Kd.R_drewN | apply Kd.R_drew)); exact HO338.out⟩, ⟨by (with_reducible repeat (first | apply Kd.R_alloc | apply Kd.R_drewN | apply Kd.R_drew)); exact HO341.out⟩, ⟨by (with_reducible repeat (first | apply Kd.R_alloc | apply Kd.R_drewN | apply Kd.R_drew)); exact HO344.out⟩, ⟨by (with_reducible repeat (first | refine blk_drewN ?_ _ | refine blk_drew ?_ | refine blk_alloc ?_ _)); exact BK313.out⟩, ⟨by (with_reducible repeat (first | refine blk_drewN ?_ _ | refine blk_drew ?_ | refine blk_alloc ?_ _)); exact BK314.out⟩, ⟨by (with_reducible repeat (first | refine blk_drewN ?_ _ | refine blk_drew ?_ | refine blk_alloc ?_ _)); exact BK331.out⟩, ⟨by (with_reducible repeat (first | refine blk_drewN ?_ _ | refine blk_drew ?_ | refine blk_alloc ?_ _)); exact BK345.out⟩, ⟨by repeat (first | (with_reducible first | exact HB.out | apply below_alloc | apply pw_below_drewN | apply below_drew1 | refine below_set ?_ GE313.out | refine below_set ?_ GE314.out | refine below_set ?_ GE331.out | refine below_set ?_ GE345.out) | exact HB.out)⟩⟩
     case rest =>
      clear HC23
      try clear c1
      try clear p2
      try clear c4
      try clear c17
      try clear c18
      try clear c45
      try clear c45b0
      try clear c45b1
      try clear c45b2
      obtain ⟨kq, x33_22, rfl, HA, HJ22, HO_332004, HO_332005, HO_332006, HO_346004, HO_346005, HO_346006, BK313, BK314, BK331, BK345, HB⟩ := hcut
      cases kq with
      | zero => exact absurd HA.out (by simp [nunciolaw05_DataSame.j1])
      | succ kj22 =>
       have H := HA.out
       clear HA
       simp only [nunciolaw05_DataSame.j1] at H
       by_cases c56 : x33_22 = true
       ·
        subst c56
        have H1 : (some false) = some r := by rw [if_pos rfl] at H; exact H
        clear H
        have H := H1
        clear H1
        exact absurd ((Option.some.inj H).trans HT.out) (by decide)
       ·
        replace c56 := Bool.eq_false_iff.mpr c56
        subst c56
        have H1 : ((nunciolaw05_Spoil.f kj22 t332 t333 t334 t335 t336 t339 t342).bind fun bt349 => ((nuncioref05_Same.f kj22 t318 t319 t320 t321 t322 t325 t328 a0_0 a0_1 a0_2 a0_3 l0_4 l0_5 l0_6).bind fun t352 => (some t352))) = some r := by rw [if_neg (show ¬ (false = true) by decide)] at H; exact H
        clear H
        have H := H1
        clear H1
        replace H := Option.bind_eq_some_iff.mp H
        obtain ⟨⟨t349, t350, t351⟩, A570, H⟩ := H
        replace H : ((nuncioref05_Same.f kj22 t318 t319 t320 t321 t322 t325 t328 a0_0 a0_1 a0_2 a0_3 l0_4 l0_5 l0_6).bind fun t352 => (some t352)) = some r := H
        have A57 := Aside0.mk A570
        clear A570
        replace H := Option.bind_eq_some_iff.mp H
        obtain ⟨t352, A580, H⟩ := H
        replace H : (some t352) = some r := H
        have A58 := Aside0.mk A580
        clear A580
        obtain rfl := Option.some.inj H
        have hnb59 := NB345_313.out
        have hnc59 := NB313_345.out
        have hnb60 := NB345_314.out
        have hnc60 := NB314_345.out
        have hnb61 := NB345_331.out
        have hnc61 := NB331_345.out
        have hcz62_0 : wc.cell? ⟨gb345, 0, none⟩ = some (.string t332) := (blk_cell BK345.out 0).trans rfl
        have hcz62_1 : wc.cell? ⟨gb345, 1, none⟩ = some (.int .u16 t333) := (blk_cell BK345.out 1).trans rfl
        have hcz62_2 : wc.cell? ⟨gb345, 2, none⟩ = some (.int .u16 t334) := (blk_cell BK345.out 2).trans rfl
        have hcz62_3 : wc.cell? ⟨gb345, 3, none⟩ = some (.int .u32 t335) := (blk_cell BK345.out 3).trans rfl
        have hcz62_4 : wc.cell? ⟨gb345, 4, none⟩ = some (.slice Ao40 t336.length co40) := (blk_cell BK345.out 4).trans rfl
        have hcz62_5 : wc.cell? ⟨gb345, 5, none⟩ = some (.slice Ao41 t339.length co41) := (blk_cell BK345.out 5).trans rfl
        have hcz62_6 : wc.cell? ⟨gb345, 6, none⟩ = some (.slice Ao42 t342.length co42) := (blk_cell BK345.out 6).trans rfl
        have hfz62_0 := blk_frozen BK345.out 0
        have hfz62_1 := blk_frozen BK345.out 1
        have hfz62_2 := blk_frozen BK345.out 2
        have hfz62_3 := blk_frozen BK345.out 3
        have hfz62_4 := blk_frozen BK345.out 4
        have hfz62_5 := blk_frozen BK345.out 5
        have hfz62_6 := blk_frozen BK345.out 6
        go_wp2_with (first | ((with_reducible refine gate_callee (f := 19) rfl ?_); refine goesL_ (some 35) rfl rfl Try.func19 (by kernel_rfl) rfl #[.agg #[.string t332, .int .u16 t333, .int .u16 t334, .int .u32 t335, .slice Ao40 t336.length co40, .slice Ao41 t339.length co41, .slice Ao42 t342.length co42]] rfl (by (try simp only [List.map_toArray, List.map_cons, List.map_nil]); first | done | rfl | (simp only [List.length_drop, List.length_take]; rfl)) ?_; (with_reducible refine (nunciolaw05_Spoil.calls kj22 t332 t333 t334 t335 (fun k_ => some k_ = (.slice Ao40 t336.length co40 : Value).ownBlock) (.slice Ao40 t336.length co40) t336 (fun k_ => some k_ = (.slice Ao41 t339.length co41 : Value).ownBlock) (.slice Ao41 t339.length co41) t339 (fun k_ => some k_ = (.slice Ao42 t342.length co42 : Value).ownBlock) (.slice Ao42 t342.length co42) t342 t349 t350 t351 w _ ?side1 ?side2 ?side3 ?side4 ?side5 ?side6 A57.out).mono ?_); (case side1 => repeat (first | (with_reducible first | exact HB.out | apply below_alloc | apply pw_below_drewN | apply below_drew1 | refine below_set ?_ GE313.out | refine below_set ?_ GE314.out | refine below_set ?_ GE331.out | refine below_set ?_ GE345.out) | exact HB.out)); (case side2 => exact Kd.R_tight rfl HO_346004.out); (case side3 => exact fun k_ e_ => (HO_346004.out.1 k_ e_.symm).2.2); (case side4 => exact Kd.R_tight rfl HO_346005.out); (case side5 => exact Kd.R_tight rfl HO_346006.out); (case side6 => exact fun k_ e_ => (HO_346006.out.1 k_ e_.symm).2.2); rintro e w63 ⟨rfl, hy0, hy1, hy2, hb, hkp⟩; refine ⟨_, rfl, ?_⟩; have n0_ := Aside0.mk (Kd.R_mono (ok' := fun k_ => some k_ ≠ (.slice Ao33 t328.length co33 : Value).ownBlock ∧ some k_ ≠ (.slice Ao40 t336.length co40 : Value).ownBlock ∧ some k_ ≠ (.slice Ao42 t342.length co42 : Value).ownBlock) (Kd.R_keptB ((Kd.R_apart' HO_332004.out (Kd.R_typed HO_346005.out) (by decide))) hkp (fun k_ hk_ hs_ => Or.elim hs_ (fun e_ => (hk_.1.2.1) e_) (fun e_ => Or.elim e_ (fun e_ => (hk_.2) e_) (fun e_ => (hk_.1.2.2) e_)))) (fun k_ hk_ => ⟨hk_.1.1.1, hk_.1.1.2.1, hk_.1.1.2.2⟩)); have n1_ := Aside0.mk (Kd.R_mono (ok' := fun k_ => some k_ ≠ (.slice Ao41 t339.length co41 : Value).ownBlock) (Kd.R_keptB ((Kd.R_apart' (Kd.R_apart' HO_332005.out (Kd.R_typed HO_346004.out) (by decide)) (Kd.R_typed HO_346006.out) (by decide))) hkp (fun k_ hk_ hs_ => Or.elim hs_ (fun e_ => (hk_.1.2) e_) (fun e_ => Or.elim e_ (fun e_ => (hk_.1.1) e_) (fun e_ => (hk_.2) e_)))) (fun k_ hk_ => hk_.1.1.1)); have n2_ := Aside0.mk (Kd.R_mono (ok' := fun k_ => some k_ ≠ (.slice Ao31 t322.length co31 : Value).ownBlock ∧ some k_ ≠ (.slice Ao40 t336.length co40 : Value).ownBlock ∧ some k_ ≠ (.slice Ao42 t342.length co42 : Value).ownBlock) (Kd.R_keptB ((Kd.R_apart' HO_332006.out (Kd.R_typed HO_346005.out) (by decide))) hkp (fun k_ hk_ hs_ => Or.elim hs_ (fun e_ => (hk_.1.2.1) e_) (fun e_ => Or.elim e_ (fun e_ => (hk_.2) e_) (fun e_ => (hk_.1.2.2) e_)))) (fun k_ hk_ => ⟨hk_.1.1.1, hk_.1.1.2.1, hk_.1.1.2.2⟩)); have n3_ := Aside0.mk (Kd.R_reok rfl hy0 (fun k_ e_ => HO_346004.out.1 k_ e_)); have n4_ := Aside0.mk (Kd.R_reok rfl hy1 (fun k_ e_ => HO_346005.out.1 k_ e_)); have n5_ := Aside0.mk (Kd.R_reok rfl hy2 (fun k_ e_ => HO_346006.out.1 k_ e_)); have n6_ := Aside0.mk (blk_kept (by (with_reducible repeat (first | refine blk_drewN ?_ _ | refine blk_drew ?_ | refine blk_alloc ?_ _)); exact BK313.out) hkp (fun hs_ => Or.elim hs_ (fun e_ => (fun e_ => (Kd.R_ne HO_346004.out BK313.out (by decide)) e_) e_) (fun e_ => Or.elim e_ (fun e_ => (fun e_ => (Kd.R_ne HO_346005.out BK313.out (by decide)) e_) e_) (fun e_ => (fun e_ => (Kd.R_ne HO_346006.out BK313.out (by decide)) e_) e_)))); have n7_ := Aside0.mk (blk_kept (by (with_reducible repeat (first | refine blk_drewN ?_ _ | refine blk_drew ?_ | refine blk_alloc ?_ _)); exact BK314.out) hkp (fun hs_ => Or.elim hs_ (fun e_ => (fun e_ => (Kd.R_ne HO_346004.out BK314.out (by decide)) e_) e_) (fun e_ => Or.elim e_ (fun e_ => (fun e_ => (Kd.R_ne HO_346005.out BK314.out (by decide)) e_) e_) (fun e_ => (fun e_ => (Kd.R_ne HO_346006.out BK314.out (by decide)) e_) e_)))); have n8_ := Aside0.mk (blk_kept (by (with_reducible repeat (first | refine blk_drewN ?_ _ | refine blk_drew ?_ | refine blk_alloc ?_ _)); exact BK331.out) hkp (fun hs_ => Or.elim hs_ (fun e_ => (fun e_ => (Kd.R_ne HO_346004.out BK331.out (by decide)) e_) e_) (fun e_ => Or.elim e_ (fun e_ => (fun e_ => (Kd.R_ne HO_346005.out BK331.out (by decide)) e_) e_) (fun e_ => (fun e_ => (Kd.R_ne HO_346006.out BK331.out (by decide)) e_) e_)))); have n9_ := Aside0.mk (blk_kept (by (with_reducible repeat (first | refine blk_drewN ?_ _ | refine blk_drew ?_ | refine blk_alloc ?_ _)); exact BK345.out) hkp (fun hs_ => Or.elim hs_ (fun e_ => (fun e_ => (Kd.R_ne HO_346004.out BK345.out (by decide)) e_) e_) (fun e_ => Or.elim e_ (fun e_ => (fun e_ => (Kd.R_ne HO_346005.out BK345.out (by decide)) e_) e_) (fun e_ => (fun e_ => (Kd.R_ne HO_346006.out BK345.out (by decide)) e_) e_)))); have n10_ := Aside0.mk (hb); clear HO_332004; clear HO_332005; clear HO_332006; clear HO_346004; clear HO_346005; clear HO_346006; clear BK313; clear BK314; clear BK331; clear BK345; clear HB; have HO_332004 := n0_; have HO_332005 := n1_; have HO_332006 := n2_; have HO_346004 := n3_; have HO_346005 := n4_; have HO_346006 := n5_; have BK313 := n6_; have BK314 := n7_; have BK331 := n8_; have BK345 := n9_; have HB := n10_; clear n0_ n1_ n2_ n3_ n4_ n5_ n6_ n7_ n8_ n9_ n10_; (try clear hb); (try clear hkp); (try clear hy0); (try clear hy1); (try clear hy2); have hnb64 := NB331_313.out; have hnc64 := NB313_331.out; have hnb65 := NB331_314.out; have hnc65 := NB314_331.out; have hcz66_0 : w63.cell? ⟨gb331, 0, none⟩ = some (.string t318) := (blk_cell BK331.out 0).trans rfl; have hcz66_1 : w63.cell? ⟨gb331, 1, none⟩ = some (.int .u16 t319) := (blk_cell BK331.out 1).trans rfl; have hcz66_2 : w63.cell? ⟨gb331, 2, none⟩ = some (.int .u16 t320) := (blk_cell BK331.out 2).trans rfl; have hcz66_3 : w63.cell? ⟨gb331, 3, none⟩ = some (.int .u32 t321) := (blk_cell BK331.out 3).trans rfl; have hcz66_4 : w63.cell? ⟨gb331, 4, none⟩ = some (.slice Ao31 t322.length co31) := (blk_cell BK331.out 4).trans rfl; have hcz66_5 : w63.cell? ⟨gb331, 5, none⟩ = some (.slice Ao32 t325.length co32) := (blk_cell BK331.out 5).trans rfl; have hcz66_6 : w63.cell? ⟨gb331, 6, none⟩ = some (.slice Ao33 t328.length co33) := (blk_cell BK331.out 6).trans rfl; have hfz66_0 := blk_frozen BK331.out 0; have hfz66_1 := blk_frozen BK331.out 1; have hfz66_2 := blk_frozen BK331.out 2; have hfz66_3 := blk_frozen BK331.out 3; have hfz66_4 := blk_frozen BK331.out 4; have hfz66_5 := blk_frozen BK331.out 5; have hfz66_6 := blk_frozen BK331.out 6; have hnb67 := NB313_314.out; have hnc67 := NB314_313.out; have hcz68_0 : w63.cell? ⟨gb313, 0, none⟩ = some (.string a0_0) := (blk_cell BK313.out 0).trans rfl; have hcz68_1 : w63.cell? ⟨gb313, 1, none⟩ = some (.int .u16 a0_1) := (blk_cell BK313.out 1).trans rfl; have hcz68_2 : w63.cell? ⟨gb313, 2, none⟩ = some (.int .u16 a0_2) := (blk_cell BK313.out 2).trans rfl; have hcz68_3 : w63.cell? ⟨gb313, 3, none⟩ = some (.int .u32 a0_3) := (blk_cell BK313.out 3).trans rfl; have hcz68_4 : w63.cell? ⟨gb313, 4, none⟩ = some (.slice A0_4 l0_4.length c0_4) := (blk_cell BK313.out 4).trans rfl; have hcz68_5 : w63.cell? ⟨gb313, 5, none⟩ = some (.slice A0_5 l0_5.length c0_5) := (blk_cell BK313.out 5).trans rfl; have hcz68_6 : w63.cell? ⟨gb313, 6, none⟩ = some (.slice A0_6 l0_6.length c0_6) := (blk_cell BK313.out 6).trans rfl; have hfz68_0 := blk_frozen BK313.out 0; have hfz68_1 := blk_frozen BK313.out 1; have hfz68_2 := blk_frozen BK313.out 2; have hfz68_3 := blk_frozen BK313.out 3; have hfz68_4 := blk_frozen BK313.out 4; have hfz68_5 := blk_frozen BK313.out 5; have hfz68_6 := blk_frozen BK313.out 6) | ((with_reducible refine gate_callee (f := 18) rfl ?_); refine goesL_ (some 38) rfl rfl Try.func18 (by kernel_rfl) rfl #[.agg #[.string t318, .int .u16 t319, .int .u16 t320, .int .u32 t321, .slice Ao31 t322.length co31, .slice Ao32 t325.length co32, .slice Ao33 t328.length co33], .agg #[.string a0_0, .int .u16 a0_1, .int .u16 a0_2, .int .u32 a0_3, .slice A0_4 l0_4.length c0_4, .slice A0_5 l0_5.length c0_5, .slice A0_6 l0_6.length c0_6]] rfl (by (try simp only [List.map_toArray, List.map_cons, List.map_nil]); first | done | rfl | (simp only [List.length_drop, List.length_take]; rfl)) ?_; (with_reducible refine (nuncioref05_Same.calls kj22 t318 t319 t320 t321 _ _ t322 _ _ t325 _ _ t328 a0_0 a0_1 a0_2 a0_3 _ _ l0_4 _ _ l0_5 _ _ l0_6 t352 _ ?side1 ?side2 ?side3 ?side4 ?side5 ?side6 ?side7 ?side8 ?side9 ?side10 ?side11 ?side12 A58.out).mono ?_); (case side1 => repeat (first | exact (Kd.R_reads' HO_332004.out).2.2 | (with_reducible refine Kd.C_alloc ?_ _) | (with_reducible refine Kd.C_drewN ?_ _) | (with_reducible refine Kd.C_drew ?_))); (case side2 => exact (Kd.R_reads' HO_332004.out).2.1); (case side3 => repeat (first | exact (Kd.R_reads' HO_332005.out).2.2 | (with_reducible refine Kd.C_alloc ?_ _) | (with_reducible refine Kd.C_drewN ?_ _) | (with_reducible refine Kd.C_drew ?_))); (case side4 => exact (Kd.R_reads' HO_332005.out).2.1); (case side5 => repeat (first | exact (Kd.R_reads' HO_332006.out).2.2 | (with_reducible refine Kd.C_alloc ?_ _) | (with_reducible refine Kd.C_drewN ?_ _) | (with_reducible refine Kd.C_drew ?_))); (case side6 => exact (Kd.R_reads' HO_332006.out).2.1); (case side7 => repeat (first | exact (Kd.C_below HR0_4.out HB.out) | (with_reducible refine Kd.C_alloc ?_ _) | (with_reducible refine Kd.C_drewN ?_ _) | (with_reducible refine Kd.C_drew ?_))); (case side8 => exact HC0_4.out); (case side9 => repeat (first | exact (Kd.C_below HR0_5.out HB.out) | (with_reducible refine Kd.C_alloc ?_ _) | (with_reducible refine Kd.C_drewN ?_ _) | (with_reducible refine Kd.C_drew ?_))); (case side10 => exact HC0_5.out); (case side11 => repeat (first | exact (Kd.C_below HR0_6.out HB.out) | (with_reducible refine Kd.C_alloc ?_ _) | (with_reducible refine Kd.C_drewN ?_ _) | (with_reducible refine Kd.C_drew ?_))); (case side12 => exact HC0_6.out); rintro e w69 ⟨rfl, hb⟩; refine ⟨_, rfl, ?_⟩; have n0_ := Aside0.mk (Kd.R_below (by (with_reducible repeat (first | apply Kd.R_alloc | apply Kd.R_drewN | apply Kd.R_drew)); exact HO_332004.out) hb); have n1_ := Aside0.mk (Kd.R_below (by (with_reducible repeat (first | apply Kd.R_alloc | apply Kd.R_drewN | apply Kd.R_drew)); exact HO_332005.out) hb); have n2_ := Aside0.mk (Kd.R_below (by (with_reducible repeat (first | apply Kd.R_alloc | apply Kd.R_drewN | apply Kd.R_drew)); exact HO_332006.out) hb); have n3_ := Aside0.mk (Kd.R_below (by (with_reducible repeat (first | apply Kd.R_alloc | apply Kd.R_drewN | apply Kd.R_drew)); exact HO_346004.out) hb); have n4_ := Aside0.mk (Kd.R_below (by (with_reducible repeat (first | apply Kd.R_alloc | apply Kd.R_drewN | apply Kd.R_drew)); exact HO_346005.out) hb); have n5_ := Aside0.mk (Kd.R_below (by (with_reducible repeat (first | apply Kd.R_alloc | apply Kd.R_drewN | apply Kd.R_drew)); exact HO_346006.out) hb); have n6_ := Aside0.mk (blk_below (g := gb313) (o := .cells #[.string a0_0, .int .u16 a0_1, .int .u16 a0_2, .int .u32 a0_3, .slice A0_4 l0_4.length c0_4, .slice A0_5 l0_5.length c0_5, .slice A0_6 l0_6.length c0_6] 27 (0, 0)) (by (with_reducible repeat (first | refine blk_drewN ?_ _ | refine blk_drew ?_ | refine blk_alloc ?_ _)); exact BK313.out) hb); have n7_ := Aside0.mk (blk_below (g := gb314) (o := .cells #[.string a1_0, .int .u16 a1_1, .int .u16 a1_2, .int .u32 a1_3, .slice A1_4 l1_4.length c1_4, .slice A1_5 l1_5.length c1_5, .slice A1_6 l1_6.length c1_6] 27 (0, 0)) (by (with_reducible repeat (first | refine blk_drewN ?_ _ | refine blk_drew ?_ | refine blk_alloc ?_ _)); exact BK314.out) hb); have n8_ := Aside0.mk (blk_below (g := gb331) (o := .cells #[.string t318, .int .u16 t319, .int .u16 t320, .int .u32 t321, .slice Ao31 t322.length co31, .slice Ao32 t325.length co32, .slice Ao33 t328.length co33] 27 (0, 0)) (by (with_reducible repeat (first | refine blk_drewN ?_ _ | refine blk_drew ?_ | refine blk_alloc ?_ _)); exact BK331.out) hb); have n9_ := Aside0.mk (blk_below (g := gb345) (o := .cells #[.string t332, .int .u16 t333, .int .u16 t334, .int .u32 t335, .slice Ao40 t336.length co40, .slice Ao41 t339.length co41, .slice Ao42 t342.length co42] 27 (0, 0)) (by (with_reducible repeat (first | refine blk_drewN ?_ _ | refine blk_drew ?_ | refine blk_alloc ?_ _)); exact BK345.out) hb); have n10_ := Aside0.mk (below_step (by repeat (first | (with_reducible first | exact HB.out | apply below_alloc | apply pw_below_drewN | apply below_drew1 | refine below_set ?_ GE313.out | refine below_set ?_ GE314.out | refine below_set ?_ GE331.out | refine below_set ?_ GE345.out) | exact HB.out)) hb); clear HO_332004; clear HO_332005; clear HO_332006; clear HO_346004; clear HO_346005; clear HO_346006; clear BK313; clear BK314; clear BK331; clear BK345; clear HB; have HO_332004 := n0_; have HO_332005 := n1_; have HO_332006 := n2_; have HO_346004 := n3_; have HO_346005 := n4_; have HO_346006 := n5_; have BK313 := n6_; have BK314 := n7_; have BK331 := n8_; have BK345 := n9_; have HB := n10_; clear n0_ n1_ n2_ n3_ n4_ n5_ n6_ n7_ n8_ n9_ n10_; (try clear hb); (try clear hb2); (try clear hk); (try clear hi)))
        go_ret
        exact ⟨by first | rfl | (simp [errW_none, errW_some] <;> rfl) | (simp [*, errW_none, errW_some] <;> rfl), by repeat (first | (with_reducible first | exact HB.out | apply below_alloc | apply pw_below_drewN | apply below_drew1 | refine below_set ?_ GE313.out | refine below_set ?_ GE314.out | refine below_set ?_ GE331.out | refine below_set ?_ GE345.out) | exact HB.out)⟩
 ·
  replace c4 := Bool.eq_false_iff.mpr c4
  subst c4
  have H1 : (some false) = some r := by rw [if_neg (show ¬ (false = true) by decide)] at H; exact H
  clear H
  have H := H1
  clear H1
  exact absurd ((Option.some.inj H).trans HT.out) (by decide)

/-- THE ONE PURE STATEMENT of nunciolaw05_DataSame: yours. -/
def nunciolaw05_DataSame.Pure : Prop := ∀ (a0_0 : ByteArray) (a0_1 : Int) (a0_2 : Int) (a0_3 : Int) (l0_4 : List ByteArray) (l0_5 : List Int) (l0_6 : List ByteArray) (a1_0 : ByteArray) (a1_1 : Int) (a1_2 : Int) (a1_3 : Int) (l1_4 : List ByteArray) (l1_5 : List Int) (l1_6 : List ByteArray), (a0_0.size ≤ 140737488351232) → ((Lit.int .u16 a0_1).wf = true) → ((Lit.int .u16 a0_2).wf = true) → ((Lit.int .u32 a0_3).wf = true) → (l0_4.length ≤ 9223372036854775807 ∧ l0_4.length * 16 ≤ 140737488351232 ∧ ∀ x_ ∈ l0_4, x_.size ≤ 140737488351232) → (l0_5.length ≤ 9223372036854775807 ∧ l0_5.length * 4 ≤ 140737488351232 ∧ ∀ x_ ∈ l0_5, (Lit.int .u32 x_).wf = true) → (l0_6.length ≤ 9223372036854775807 ∧ l0_6.length * 16 ≤ 140737488351232 ∧ ∀ x_ ∈ l0_6, x_.size ≤ 140737488351232) → (a1_0.size ≤ 140737488351232) → ((Lit.int .u16 a1_1).wf = true) → ((Lit.int .u16 a1_2).wf = true) → ((Lit.int .u32 a1_3).wf = true) → (l1_4.length ≤ 9223372036854775807 ∧ l1_4.length * 16 ≤ 140737488351232 ∧ ∀ x_ ∈ l1_4, x_.size ≤ 140737488351232) → (l1_5.length ≤ 9223372036854775807 ∧ l1_5.length * 4 ≤ 140737488351232 ∧ ∀ x_ ∈ l1_5, (Lit.int .u32 x_).wf = true) → (l1_6.length ≤ 9223372036854775807 ∧ l1_6.length * 16 ≤ 140737488351232 ∧ ∀ x_ ∈ l1_6, x_.size ≤ 140737488351232) → ∃ k, nunciolaw05_DataSame.f k a0_0 a0_1 a0_2 a0_3 l0_4 l0_5 l0_6 a1_0 a1_1 a1_2 a1_3 l1_4 l1_5 l1_6 = some true
theorem nunciolaw05_DataSame.walk (P : nunciolaw05_DataSame.Pure) (a0_0 : ByteArray) (a0_1 : Int) (a0_2 : Int) (a0_3 : Int) (A0_4 : Option Addr) (c0_4 : Nat) (l0_4 : List ByteArray) (A0_5 : Option Addr) (c0_5 : Nat) (l0_5 : List Int) (A0_6 : Option Addr) (c0_6 : Nat) (l0_6 : List ByteArray) (a1_0 : ByteArray) (a1_1 : Int) (a1_2 : Int) (a1_3 : Int) (A1_4 : Option Addr) (c1_4 : Nat) (l1_4 : List ByteArray) (A1_5 : Option Addr) (c1_5 : Nat) (l1_5 : List Int) (A1_6 : Option Addr) (c1_6 : Nat) (l1_6 : List ByteArray) (w : World) (hr0_4 : Kd.C Kd.string w A0_4 l0_4.length l0_4) (hc0_4 : l0_4.length ≤ c0_4) (hr0_5 : Kd.C (Kd.int .u32) w A0_5 l0_5.length l0_5) (hc0_5 : l0_5.length ≤ c0_5) (hr0_6 : Kd.C Kd.string w A0_6 l0_6.length l0_6) (hc0_6 : l0_6.length ≤ c0_6) (hr1_4 : Kd.C Kd.string w A1_4 l1_4.length l1_4) (hc1_4 : l1_4.length ≤ c1_4) (hr1_5 : Kd.C (Kd.int .u32) w A1_5 l1_5.length l1_5) (hc1_5 : l1_5.length ≤ c1_5) (hr1_6 : Kd.C Kd.string w A1_6 l1_6.length l1_6) (hc1_6 : l1_6.length ≤ c1_6) (w0_0 : a0_0.size ≤ 140737488351232) (w0_1 : (Lit.int .u16 a0_1).wf = true) (w0_2 : (Lit.int .u16 a0_2).wf = true) (w0_3 : (Lit.int .u32 a0_3).wf = true) (w0_4 : l0_4.length ≤ 9223372036854775807 ∧ l0_4.length * 16 ≤ 140737488351232 ∧ ∀ x_ ∈ l0_4, x_.size ≤ 140737488351232) (w0_5 : l0_5.length ≤ 9223372036854775807 ∧ l0_5.length * 4 ≤ 140737488351232 ∧ ∀ x_ ∈ l0_5, (Lit.int .u32 x_).wf = true) (w0_6 : l0_6.length ≤ 9223372036854775807 ∧ l0_6.length * 16 ≤ 140737488351232 ∧ ∀ x_ ∈ l0_6, x_.size ≤ 140737488351232) (w1_0 : a1_0.size ≤ 140737488351232) (w1_1 : (Lit.int .u16 a1_1).wf = true) (w1_2 : (Lit.int .u16 a1_2).wf = true) (w1_3 : (Lit.int .u32 a1_3).wf = true) (w1_4 : l1_4.length ≤ 9223372036854775807 ∧ l1_4.length * 16 ≤ 140737488351232 ∧ ∀ x_ ∈ l1_4, x_.size ≤ 140737488351232) (w1_5 : l1_5.length ≤ 9223372036854775807 ∧ l1_5.length * 4 ≤ 140737488351232 ∧ ∀ x_ ∈ l1_5, (Lit.int .u32 x_).wf = true) (w1_6 : l1_6.length ≤ 9223372036854775807 ∧ l1_6.length * 16 ≤ 140737488351232 ∧ ∀ x_ ∈ l1_6, x_.size ≤ 140737488351232) :
  Calls Try.prog 4 #[.agg #[.string a0_0, .int .u16 a0_1, .int .u16 a0_2, .int .u32 a0_3, .slice A0_4 l0_4.length c0_4, .slice A0_5 l0_5.length c0_5, .slice A0_6 l0_6.length c0_6], .agg #[.string a1_0, .int .u16 a1_1, .int .u16 a1_2, .int .u32 a1_3, .slice A1_4 l1_4.length c1_4, .slice A1_5 l1_5.length c1_5, .slice A1_6 l1_6.length c1_6]] w fun e w' => e = .returned (.bool true) ∧ Below w.heap.size w w' := by
 obtain ⟨k, h⟩ := P a0_0 a0_1 a0_2 a0_3 l0_4 l0_5 l0_6 a1_0 a1_1 a1_2 a1_3 l1_4 l1_5 l1_6 w0_0 w0_1 w0_2 w0_3 w0_4 w0_5 w0_6 w1_0 w1_1 w1_2 w1_3 w1_4 w1_5 w1_6
 refine (nunciolaw05_DataSame.calls k a0_0 a0_1 a0_2 a0_3 _ _ l0_4 _ _ l0_5 _ _ l0_6 a1_0 a1_1 a1_2 a1_3 _ _ l1_4 _ _ l1_5 _ _ l1_6 true w hr0_4 hc0_4 hr0_5 hc0_5 hr0_6 hc0_6 hr1_4 hc1_4 hr1_5 hc1_5 hr1_6 hc1_6 h rfl).mono ?_
 rintro e w' ⟨rfl, hd⟩
 exact ⟨rfl, hd⟩

end Go.Proofs.Ytebnbjnkameicaa.Mine
