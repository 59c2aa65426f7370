-- Written by this repo's own printer (wip/print), which builds on the kit's.
import Derived.Test.YthkdfnbhlinhiaaWf
import Derived.Test.YthkdfnbhlinhiaaMinex0
import Derived.Test.YthkdfnbhlinhiaaMinex1
import Derived.Test.YthkdfnbhlinhiaaMinex7
import Derived.Test.YthkdfnbhlinhiaaMinex8
import Derived.Test.YthkdfnbhlinhiaaMinex9
import Derived.Test.YthkdfnbhlinhiaaMinex16
import Derived.Test.YthkdfnbhlinhiaaMinex19
import Derived.Test.YthkdfnbhlinhiaaMinex24
import Derived.Test.YthkdfnbhlinhiaaMinex28
import Derived.Test.YthkdfnbhlinhiaaMinex29
import Derived.Test.YthkdfnbhlinhiaaMinex30
namespace Go.Proofs.Ythkdfnbhlinhiaa.Mine
open Go.RowKit Go.Proofs.YthkdfnbhlinhiaaW.PrintWords Go.Proofs.YthkdfnbhlinhiaaW.PrintLast Go.Proofs.YthkdfnbhlinhiaaW.PrintMore
attribute [local go_sem] max2_int min2_int max_two min_two max_three min_three max_four min_four   -- for this text's walks alone
set_option linter.unusedVariables false
set_option linter.unusedSimpArgs false

attribute [local go_sem high] eqA28
/-! ### nunciolaw08_QueryAsks: function 3 -/
def nunciolaw08_QueryAsks.j0 : Nat → Int → Bool → Int → Int → List (S53) → List (S51) → List (S51) → List (S51) → ByteArray → Int → Int → Bool → Option (Bool)
 | 0, _, _, _, _, _, _, _, _, _, _, _, _ => none
 | k + 1, x1, x21, x323000, x323001, x323002, x323003, x323004, x323005, x324000, x324001, x324002, x324003 => if x21 = true then (some true) else ((query_Ask.f k x323000 x323001 x323002 x323003 x323004 x323005).bind fun bt326 => ((nuncioref08_Ask.f k x323000 x323001 x323002 x323003 x323004 x323005).bind fun bt332 => (if (bt326.1.toList == bt332.1.toList && (bt326.2.1 == bt332.2.1 && (bt326.2.2.1 == bt332.2.2.1 && (bt326.2.2.2.1 == bt332.2.2.2.1)))) = true then (if bt326.2.2.2.2 = bt332.2.2.2.2 then ((query_Make.f x1 x324000 x324001 x324002 x324003).bind fun bt338 => ((nuncioref08_Make.f x1 x324000 x324001 x324002 x324003).bind fun bt352 => ((nuncioref06_Same.f k bt338.1 bt338.2.1 bt338.2.2.1 bt338.2.2.2.1 bt338.2.2.2.2.1 bt338.2.2.2.2.2 bt352.1 bt352.2.1 bt352.2.2.1 bt352.2.2.2.1 bt352.2.2.2.2.1 bt352.2.2.2.2.2).bind fun t366 => (if t366 = true then ((query_Fits.f k x324000 x324001 x324002 x324003 x1 x323000 x323001 x323002 x323003 x323004 x323005).bind fun t367 => ((nuncioref08_Fits.f k x324000 x324001 x324002 x324003 x1 x323000 x323001 x323002 x323003 x323004 x323005).bind fun t368 => (if (t367 == t368) = true then ((query_Fits.f k bt332.1 bt332.2.1 bt332.2.2.1 bt332.2.2.2.1 x323000 x323000 x323001 x323002 x323003 x323004 x323005).bind fun t369 => ((nuncioref08_Fits.f k bt332.1 bt332.2.1 bt332.2.2.1 bt332.2.2.2.1 x323000 x323000 x323001 x323002 x323003 x323004 x323005).bind fun t370 => (some (t369 == t370)))) else (some false)))) else (some false))))) else (some false)) else (some false))))
def nunciolaw08_QueryAsks.f (k : Nat) (a0_0 : Int) (a0_1 : Int) (l0_2 : List (S53)) (l0_3 : List (S51)) (l0_4 : List (S51)) (l0_5 : List (S51)) (a1 : Int) (a2_0 : ByteArray) (a2_1 : Int) (a2_2 : Int) (a2_3 : Bool) : Option (Bool) := (nunciolaw08_awake.f k).bind fun t324 => (if t324 = true then ((nunciolaw07_Few.f k a0_0 a0_1 l0_2 l0_3 l0_4 l0_5).bind fun t325 => (if t325 = true then (nunciolaw08_QueryAsks.j0 k a1 (decide ((a2_0.size : Int) > 5000)) a0_0 a0_1 l0_2 l0_3 l0_4 l0_5 a2_0 a2_1 a2_2 a2_3) else (nunciolaw08_QueryAsks.j0 k a1 true a0_0 a0_1 l0_2 l0_3 l0_4 l0_5 a2_0 a2_1 a2_2 a2_3))) else (some false))
theorem nunciolaw08_QueryAsks.mono_l : ∀ k, (∀ y0 y1 y2 y3 y4 y5 y6 y7 y8 y9 y10 y11, LeO (nunciolaw08_QueryAsks.j0 k y0 y1 y2 y3 y4 y5 y6 y7 y8 y9 y10 y11) (nunciolaw08_QueryAsks.j0 (k + 1) y0 y1 y2 y3 y4 y5 y6 y7 y8 y9 y10 y11))
 | 0 => fun _ _ _ _ _ _ _ _ _ _ _ _ r h => by simp [nunciolaw08_QueryAsks.j0] at h
 | k + 1 => by
  have ih0:=nunciolaw08_QueryAsks.mono_l k
  ·
   intro y0 y1 y2 y3 y4 y5 y6 y7 y8 y9 y10 y11
   unfold nunciolaw08_QueryAsks.j0
   repeat' first
   | (with_reducible exact ih0 _ _ _ _ _ _ _ _ _ _ _ _)
   | (with_reducible exact nunciolaw07_Few.mono _ _ _ _ _ _ _)
   | (with_reducible exact nunciolaw08_awake.mono _)
   | (with_reducible exact nuncioref06_Same.mono _ _ _ _ _ _ _ _ _ _ _ _ _)
   | (with_reducible exact nuncioref08_Ask.mono _ _ _ _ _ _ _)
   | (with_reducible exact nuncioref08_Fits.mono _ _ _ _ _ _ _ _ _ _ _ _)
   | (with_reducible exact query_Ask.mono _ _ _ _ _ _ _)
   | (with_reducible exact query_Fits.mono _ _ _ _ _ _ _ _ _ _ _ _)
   | (with_reducible exact LeO.refl _)
   | (with_reducible exact LeO.none _)
   | (with_reducible refine LeO.ite ?_ ?_)
   | (with_reducible refine LeO.bind ?_ (fun _ => ?_))
   | exact ih0 _ _ _ _ _ _ _ _ _ _ _ _
   | exact nunciolaw07_Few.mono _ _ _ _ _ _ _
   | exact nunciolaw08_awake.mono _
   | exact nuncioref06_Same.mono _ _ _ _ _ _ _ _ _ _ _ _ _
   | exact nuncioref08_Ask.mono _ _ _ _ _ _ _
   | exact nuncioref08_Fits.mono _ _ _ _ _ _ _ _ _ _ _ _
   | exact query_Ask.mono _ _ _ _ _ _ _
   | exact query_Fits.mono _ _ _ _ _ _ _ _ _ _ _ _
   | exact LeO.none _
   | refine LeO.ite ?_ ?_
   | refine LeO.bind ?_ (fun _ => ?_)
theorem nunciolaw08_QueryAsks.mono : ∀ a0 a1 a2 a3 a4 a5 a6 a7 a8 a9 a10 k, LeO (nunciolaw08_QueryAsks.f k a0 a1 a2 a3 a4 a5 a6 a7 a8 a9 a10) (nunciolaw08_QueryAsks.f (k + 1) a0 a1 a2 a3 a4 a5 a6 a7 a8 a9 a10) := by
 intro a0 a1 a2 a3 a4 a5 a6 a7 a8 a9 a10 k
 have ih0:=nunciolaw08_QueryAsks.mono_l k
 unfold nunciolaw08_QueryAsks.f
 repeat' first
   | (with_reducible exact ih0 _ _ _ _ _ _ _ _ _ _ _ _)
   | (with_reducible exact nunciolaw07_Few.mono _ _ _ _ _ _ _)
   | (with_reducible exact nunciolaw08_awake.mono _)
   | (with_reducible exact nuncioref06_Same.mono _ _ _ _ _ _ _ _ _ _ _ _ _)
   | (with_reducible exact nuncioref08_Ask.mono _ _ _ _ _ _ _)
   | (with_reducible exact nuncioref08_Fits.mono _ _ _ _ _ _ _ _ _ _ _ _)
   | (with_reducible exact query_Ask.mono _ _ _ _ _ _ _)
   | (with_reducible exact query_Fits.mono _ _ _ _ _ _ _ _ _ _ _ _)
   | (with_reducible exact LeO.refl _)
   | (with_reducible exact LeO.none _)
   | (with_reducible refine LeO.ite ?_ ?_)
   | (with_reducible refine LeO.bind ?_ (fun _ => ?_))
   | exact ih0 _ _ _ _ _ _ _ _ _ _ _ _
   | exact nunciolaw07_Few.mono _ _ _ _ _ _ _
   | exact nunciolaw08_awake.mono _
   | exact nuncioref06_Same.mono _ _ _ _ _ _ _ _ _ _ _ _ _
   | exact nuncioref08_Ask.mono _ _ _ _ _ _ _
   | exact nuncioref08_Fits.mono _ _ _ _ _ _ _ _ _ _ _ _
   | exact query_Ask.mono _ _ _ _ _ _ _
   | exact query_Fits.mono _ _ _ _ _ _ _ _ _ _ _ _
   | exact LeO.none _
   | refine LeO.ite ?_ ?_
   | refine LeO.bind ?_ (fun _ => ?_)
def nunciolaw08_QueryAsks.T7 : Bool × List (List Nat × List Nat) := (true, [([], []), ([], []), ([0, 1], [0, 1]), ([2], [2]), ([3], [3]), ([3], [3]), ([4, 5, 3], [3, 4, 5]), ([3, 6], [3, 6]), ([7, 3], [7]), ([8], [8]), ([8], [8]), ([9, 10, 8, 8], [8, 9, 10]), ([8], [8]), ([8], [8]), ([12, 13, 11, 8], [8, 12, 13]), ([11, 14, 14, 8], [8, 11, 14]), ([8, 15], [8, 15]), ([16, 15], [16]), ([17], [17]), ([17], [17]), ([17], [17]), ([18, 19, 20, 17, 17], [17, 18, 19, 20]), ([17], [17]), ([17], [17]), ([17], [17]), ([22, 23, 24, 21, 17], [17, 22, 23, 24]), ([21, 25, 17], [17, 21, 25]), ([17, 26], [17, 26]), ([27, 25], [27]), ([28], [28]), ([28], [28]), ([30, 28], [28, 30]), ([28], [28]), ([29, 31, 32, 28, 28], [28, 29, 31, 32]), ([28], [28]), ([28], [28]), ([35, 28], [28, 35]), ([28], [28]), ([34, 36, 37, 33, 28], [28, 34, 36, 37]), ([33, 38, 28], [28, 33, 38]), ([28, 39], [28, 39]), ([40, 38, 0, 1, 2, 3, 4, 5, 6, 7, 8, 9, 10, 11, 12, 13, 14, 15, 16, 17, 18, 19, 20, 21, 22, 23, 24, 25, 26, 27, 28, 29, 30, 31, 32, 33, 34, 35, 36, 37, 38, 39, 40], [40])])
def nunciolaw08_QueryAsks.B7 : List Nat := [0, 0, 3, 7, 15, 15, 63, 127, 255, 511, 511, 2047, 511, 511, 16383, 32767, 65535, 131071, 262143, 262143, 262143, 2097151, 262143, 262143, 262143, 33554431, 67108863, 134217727, 268435455, 536870911, 536870911, 1610612735, 536870911, 8589934591, 536870911, 536870911, 34896609279, 536870911, 274877906943, 549755813887, 1099511627775, 2199023255551]
theorem nunciolaw08_QueryAsks.tab7 : rtab .any (opsOf Try.f3 7) = nunciolaw08_QueryAsks.T7 := by kernel_rfl
theorem nunciolaw08_QueryAsks.bits7 : waitsOk nunciolaw08_QueryAsks.T7.2 nunciolaw08_QueryAsks.B7 = true := by kernel_rfl
set_option maxHeartbeats 8000000 in
set_option maxRecDepth 100000 in
theorem nunciolaw08_QueryAsks.calls (k : Nat) (a0_0 : Int) (a0_1 : Int) (A0_2 : Option Addr) (c0_2 : Nat) (l0_2 : List (S53)) (A0_3 : Option Addr) (c0_3 : Nat) (l0_3 : List (S51)) (A0_4 : Option Addr) (c0_4 : Nat) (l0_4 : List (S51)) (A0_5 : Option Addr) (c0_5 : Nat) (l0_5 : List (S51)) (a1 : Int) (a2_0 : ByteArray) (a2_1 : Int) (a2_2 : Int) (a2_3 : Bool) (r : Bool) (w : World) (hr0_2 : Kd.C k53 w A0_2 l0_2.length l0_2) (hc0_2 : l0_2.length ≤ c0_2) (hr0_3 : Kd.C k51 w A0_3 l0_3.length l0_3) (hc0_3 : l0_3.length ≤ c0_3) (hr0_4 : Kd.C k51 w A0_4 l0_4.length l0_4) (hc0_4 : l0_4.length ≤ c0_4) (hr0_5 : Kd.C k51 w A0_5 l0_5.length l0_5) (hc0_5 : l0_5.length ≤ c0_5) (h : nunciolaw08_QueryAsks.f k a0_0 a0_1 l0_2 l0_3 l0_4 l0_5 a1 a2_0 a2_1 a2_2 a2_3 = some r) (hT : r = true) :
  Calls Try.prog 3 #[.agg #[.int .u16 a0_0,.int .u16 a0_1,.slice A0_2 l0_2.length c0_2,.slice A0_3 l0_3.length c0_3,.slice A0_4 l0_4.length c0_4,.slice A0_5 l0_5.length c0_5],.int .u16 a1,.agg #[.string a2_0,.int .u16 a2_1,.int .u16 a2_2,.bool a2_3]] w fun e w'=>e = .returned (.bool r)∧Below w.heap.size w w':=by
 have hu26:=Try.underlying26
 have hu28:=Try.underlying28
 have HR0_2:=qqm hr0_2
 have HC0_2:=qqm hc0_2
 clear hr0_2 hc0_2
 have HR0_3:=qqm hr0_3
 have HC0_3:=qqm hc0_3
 clear hr0_3 hc0_3
 have HR0_4:=qqm hr0_4
 have HC0_4:=qqm hc0_4
 clear hr0_4 hc0_4
 have HR0_5:=qqm hr0_5
 have HC0_5:=qqm hc0_5
 clear hr0_5 hc0_5
 have HB:=qqm (Below.refl w.heap.size w)
 have HT:=qqm hT
 clear hT
 have H:((nunciolaw08_awake.f k).bind fun t324=>(if t324 = true then ((nunciolaw07_Few.f k a0_0 a0_1 l0_2 l0_3 l0_4 l0_5).bind fun t325=>(if t325 = true then (nunciolaw08_QueryAsks.j0 k a1 (decide ((a2_0.size:Int) > 5000)) a0_0 a0_1 l0_2 l0_3 l0_4 l0_5 a2_0 a2_1 a2_2 a2_3) else (nunciolaw08_QueryAsks.j0 k a1 true a0_0 a0_1 l0_2 l0_3 l0_4 l0_5 a2_0 a2_1 a2_2 a2_3))) else (some false))) = some r:=h
 clear h
 replace H:=Option.bind_eq_some_iff.mp H
 obtain ⟨t324,A40,H⟩:=H
 replace H:(if t324 = true then ((nunciolaw07_Few.f k a0_0 a0_1 l0_2 l0_3 l0_4 l0_5).bind fun t325=>(if t325 = true then (nunciolaw08_QueryAsks.j0 k a1 (decide ((a2_0.size:Int) > 5000)) a0_0 a0_1 l0_2 l0_3 l0_4 l0_5 a2_0 a2_1 a2_2 a2_3) else (nunciolaw08_QueryAsks.j0 k a1 true a0_0 a0_1 l0_2 l0_3 l0_4 l0_5 a2_0 a2_1 a2_2 a2_3))) else (some false)) = some r:=H
 have A4:=qqm A40
 clear A40
 by_cases c5:t324 = true
 rotate_left
 ·
  replace c5:=Bool.eq_false_iff.mpr c5
  subst c5
  have H1:(some false) = some r:=by rw [if_neg (show ¬ (false = true) by decide)] at H;exact H
  clear H
  have H:=H1
  clear H1
  exact absurd ((Option.some.inj H).trans HT.out) (by decide)
 subst c5
 have H1:((nunciolaw07_Few.f k a0_0 a0_1 l0_2 l0_3 l0_4 l0_5).bind fun t325=>(if t325 = true then (nunciolaw08_QueryAsks.j0 k a1 (decide ((a2_0.size:Int) > 5000)) a0_0 a0_1 l0_2 l0_3 l0_4 l0_5 a2_0 a2_1 a2_2 a2_3) else (nunciolaw08_QueryAsks.j0 k a1 true a0_0 a0_1 l0_2 l0_3 l0_4 l0_5 a2_0 a2_1 a2_2 a2_3))) = some r:=by rw [if_pos rfl] at H;exact H
 clear H
 have H:=H1
 clear H1
 have HC6:=qqm H
 clear H
 go_enter Try.func3,Try.ntmps3
 go_upto_region 3 with (first|((with_reducible refine gate_dst (N:=3) rfl ?_);(try (refine gate_guard (by rfl) ?_;dsimp only));refine box_event ?hg (N:=3) ?hd (cs:=#[.int .u16 a0_0,.int .u16 a0_1,.slice A0_2 l0_2.length c0_2,.slice A0_3 l0_3.length c0_3,.slice A0_4 l0_4.length c0_4,.slice A0_5 l0_5.length c0_5]) (t:=26) ?hr ?_;(case hd=>rfl);(case hg=>rfl);(case hr=>first|(go_simp;done)|(go_simp;rfl));intro gb322 hg w7 hbox hb;have n0_:=qqm (below_step (by with_reducible repeat first|exact HB.out|apply qqf|apply qqd|apply qqe) hb);have n1_:=qqm (hbox);have n2_:=qqm ((by rw [hg];exact (below_size (by with_reducible repeat first|exact HB.out|apply qqf|apply qqd|apply qqe)):w.heap.size ≤ gb322));have n3_:=n2_;clear HB;have HB:=n0_;have BK322:=n1_;have GW322:=n2_;have GE322:=n3_;clear n0_ n1_ n2_ n3_ hb hbox hg)|((with_reducible refine gate_dst (N:=5) rfl ?_);(try (refine gate_guard (by rfl) ?_;dsimp only));refine box_event ?hg (N:=5) ?hd (cs:=#[.string a2_0,.int .u16 a2_1,.int .u16 a2_2,.bool a2_3]) (t:=28) ?hr ?_;(case hd=>rfl);(case hg=>rfl);(case hr=>first|(go_simp;done)|(go_simp;rfl));intro gb323 hg w8 hbox hb;have n0_:=qqm (blk_below (g:=gb322) (o:=.cells #[.int .u16 a0_0,.int .u16 a0_1,.slice A0_2 l0_2.length c0_2,.slice A0_3 l0_3.length c0_3,.slice A0_4 l0_4.length c0_4,.slice A0_5 l0_5.length c0_5] 26 (0,0)) (by (with_reducible repeat first|apply qqa|apply qqb|apply qqc);exact BK322.out) hb);have n1_:=qqm (below_step (by with_reducible repeat first|exact HB.out|apply qqf|apply qqd|apply qqe|refine qqg ?_ GE322.out) hb);have n2_:=qqm (hbox);have n3_:=qqm ((by rw [hg];exact (below_size (by with_reducible repeat first|exact HB.out|apply qqf|apply qqd|apply qqe|refine qqg ?_ GE322.out)):w.heap.size ≤ gb323));have n4_:=n3_;have n5_:=qqm ((by rw [hg];exact Nat.ne_of_lt (blk_lt (by (with_reducible repeat first|apply qqa|apply qqb|apply qqc);exact BK322.out)):gb322 ≠ gb323));have n6_:=qqm (Ne.symm n5_.out);clear BK322 HB;have BK322:=n0_;have HB:=n1_;have BK323:=n2_;have GW323:=n3_;have GE323:=n4_;have NB322_323:=n5_;have NB323_322:=n6_;clear n0_ n1_ n2_ n3_ n4_ n5_ n6_ hb hbox hg)|((with_reducible refine gate_callee (f:=9) rfl ?_);refine goesL_ (some 11) rfl rfl Try.func9 (by kernel_rfl) rfl #[] rfl (by (try simp only [List.map_toArray,List.map_cons,List.map_nil]);first|done|rfl|(simp only [List.length_drop,List.length_take];rfl)) ?_;(with_reducible refine (nunciolaw08_awake.calls k  true _ A4.out).mono ?_);rintro e w9 ⟨rfl,hb⟩;refine ⟨_,rfl,?_⟩;have n0_:=qqm (blk_below (g:=gb322) (o:=.cells #[.int .u16 a0_0,.int .u16 a0_1,.slice A0_2 l0_2.length c0_2,.slice A0_3 l0_3.length c0_3,.slice A0_4 l0_4.length c0_4,.slice A0_5 l0_5.length c0_5] 26 (0,0)) (by (with_reducible repeat first|apply qqa|apply qqb|apply qqc);exact BK322.out) hb);have n1_:=qqm (blk_below (g:=gb323) (o:=.cells #[.string a2_0,.int .u16 a2_1,.int .u16 a2_2,.bool a2_3] 28 (0,0)) (by (with_reducible repeat first|apply qqa|apply qqb|apply qqc);exact BK323.out) hb);have n2_:=qqm (below_step (by with_reducible repeat first|exact HB.out|apply qqf|apply qqd|apply qqe|refine qqg ?_ GE322.out|refine qqg ?_ GE323.out) hb);clear BK322 BK323 HB;have BK322:=n0_;have BK323:=n1_;have HB:=n2_;clear n0_ n1_ n2_;(try clear hb);(try clear hb2);(try clear hk);(try clear hi)))
 (try simp only [Act.put,qqj,qqk,qql])
 go_cut [21] (fun v21 wc=>∃ (kq:Nat) (x21_5:Bool),v21 = .bool x21_5∧Aside0 (nunciolaw08_QueryAsks.j0 kq a1 x21_5 a0_0 a0_1 l0_2 l0_3 l0_4 l0_5 a2_0 a2_1 a2_2 a2_3 = some r)∧Aside0 (kq ≤ k)∧Aside0 (wc.heap[gb322]? = some (.cells #[.int .u16 a0_0,.int .u16 a0_1,(.slice A0_2 l0_2.length c0_2),(.slice A0_3 l0_3.length c0_3),(.slice A0_4 l0_4.length c0_4),(.slice A0_5 l0_5.length c0_5)] 26 (0,0)))∧Aside0 (wc.heap[gb323]? = some (.cells #[.string a2_0,.int .u16 a2_1,.int .u16 a2_2,.bool a2_3] 28 (0,0)))∧Aside0 (Below w.heap.size w wc))
 case first =>
  have H:=HC6.out
  clear HC6
  replace H:=Option.bind_eq_some_iff.mp H
  obtain ⟨t325,A100,H⟩:=H
  replace H:(if t325 = true then (nunciolaw08_QueryAsks.j0 k a1 (decide ((a2_0.size:Int) > 5000)) a0_0 a0_1 l0_2 l0_3 l0_4 l0_5 a2_0 a2_1 a2_2 a2_3) else (nunciolaw08_QueryAsks.j0 k a1 true a0_0 a0_1 l0_2 l0_3 l0_4 l0_5 a2_0 a2_1 a2_2 a2_3)) = some r:=H
  have A10:=qqm A100
  clear A100
  by_cases c11:t325 = true
  ·
   subst c11
   have H1:(nunciolaw08_QueryAsks.j0 k a1 (decide ((a2_0.size:Int) > 5000)) a0_0 a0_1 l0_2 l0_3 l0_4 l0_5 a2_0 a2_1 a2_2 a2_3) = some r:=by rw [if_pos rfl] at H;exact H
   clear H
   have H:=H1
   clear H1
   have H':=qqm H
   clear H
   have hnb12:=NB322_323.out
   have hnc12:=NB323_322.out
   obtain ⟨hcz13_0,hcz13_1,hcz13_2,hcz13_3,hcz13_4,hcz13_5⟩:=qc6 BK322.out
   obtain ⟨hfz13_0,hfz13_1,hfz13_2,hfz13_3,hfz13_4,hfz13_5⟩:=qf6 BK322.out
   go_wp2_with (first|((with_reducible refine gate_callee (f:=10) rfl ?_);refine goesL_ (some 14) rfl rfl Try.func10 (by kernel_rfl) rfl #[.agg #[.int .u16 a0_0,.int .u16 a0_1,.slice A0_2 l0_2.length c0_2,.slice A0_3 l0_3.length c0_3,.slice A0_4 l0_4.length c0_4,.slice A0_5 l0_5.length c0_5]] rfl (by (try simp only [List.map_toArray,List.map_cons,List.map_nil]);first|done|rfl|(simp only [List.length_drop,List.length_take];rfl)) ?_;(with_reducible refine (nunciolaw07_Few.calls k a0_0 a0_1 _ _ l0_2 _ _ l0_3 _ _ l0_4 _ _ l0_5 true _ ?side1 ?side2 ?side3 ?side4 ?side5 ?side6 ?side7 ?side8 A10.out).mono ?_);(case side1=>repeat (first|exact (Kd.C_below HR0_2.out HB.out)|(with_reducible first|apply Kd.C_alloc|apply Kd.C_drewN|apply Kd.C_drew)));(case side2=>exact HC0_2.out);(case side3=>repeat (first|exact (Kd.C_below HR0_3.out HB.out)|(with_reducible first|apply Kd.C_alloc|apply Kd.C_drewN|apply Kd.C_drew)));(case side4=>exact HC0_3.out);(case side5=>repeat (first|exact (Kd.C_below HR0_4.out HB.out)|(with_reducible first|apply Kd.C_alloc|apply Kd.C_drewN|apply Kd.C_drew)));(case side6=>exact HC0_4.out);(case side7=>repeat (first|exact (Kd.C_below HR0_5.out HB.out)|(with_reducible first|apply Kd.C_alloc|apply Kd.C_drewN|apply Kd.C_drew)));(case side8=>exact HC0_5.out);rintro e w14 ⟨rfl,hb⟩;refine ⟨_,rfl,?_⟩;have n0_:=qqm (blk_below (g:=gb322) (o:=.cells #[.int .u16 a0_0,.int .u16 a0_1,.slice A0_2 l0_2.length c0_2,.slice A0_3 l0_3.length c0_3,.slice A0_4 l0_4.length c0_4,.slice A0_5 l0_5.length c0_5] 26 (0,0)) (by (with_reducible repeat first|apply qqa|apply qqb|apply qqc);exact BK322.out) hb);have n1_:=qqm (blk_below (g:=gb323) (o:=.cells #[.string a2_0,.int .u16 a2_1,.int .u16 a2_2,.bool a2_3] 28 (0,0)) (by (with_reducible repeat first|apply qqa|apply qqb|apply qqc);exact BK323.out) hb);have n2_:=qqm (below_step (by with_reducible repeat first|exact HB.out|apply qqf|apply qqd|apply qqe|refine qqg ?_ GE322.out|refine qqg ?_ GE323.out) hb);clear BK322 BK323 HB;have BK322:=n0_;have BK323:=n1_;have HB:=n2_;clear n0_ n1_ n2_;(try clear hb);(try clear hb2);(try clear hk);(try clear hi);obtain ⟨hcz15_0,hcz15_1,hcz15_2,hcz15_3⟩:=qc4 BK323.out;obtain ⟨hfz15_0,hfz15_1,hfz15_2,hfz15_3⟩:=qf4 BK323.out))
   go_meet
   case rel=>exact ⟨_,(decide ((a2_0.size:Int) > 5000)),(by first|rfl|(simp;done)|(simp [*];done)),H',⟨by first|omega|exact Nat.le_refl _⟩,⟨by (with_reducible repeat first|apply qqa|apply qqb|apply qqc);exact BK322.out⟩,⟨by (with_reducible repeat first|apply qqa|apply qqb|apply qqc);exact BK323.out⟩,⟨by with_reducible repeat first|exact HB.out|apply qqf|apply qqd|apply qqe|refine qqg ?_ GE322.out|refine qqg ?_ GE323.out⟩⟩
  ·
   replace c11:=Bool.eq_false_iff.mpr c11
   subst c11
   have H1:(nunciolaw08_QueryAsks.j0 k a1 true a0_0 a0_1 l0_2 l0_3 l0_4 l0_5 a2_0 a2_1 a2_2 a2_3) = some r:=by rw [if_neg (show ¬ (false = true) by decide)] at H;exact H
   clear H
   have H:=H1
   clear H1
   have H':=qqm H
   clear H
   have hnb16:=NB322_323.out
   have hnc16:=NB323_322.out
   obtain ⟨hcz17_0,hcz17_1,hcz17_2,hcz17_3,hcz17_4,hcz17_5⟩:=qc6 BK322.out
   obtain ⟨hfz17_0,hfz17_1,hfz17_2,hfz17_3,hfz17_4,hfz17_5⟩:=qf6 BK322.out
   go_wp2_with (first|((with_reducible refine gate_callee (f:=10) rfl ?_);refine goesL_ (some 14) rfl rfl Try.func10 (by kernel_rfl) rfl #[.agg #[.int .u16 a0_0,.int .u16 a0_1,.slice A0_2 l0_2.length c0_2,.slice A0_3 l0_3.length c0_3,.slice A0_4 l0_4.length c0_4,.slice A0_5 l0_5.length c0_5]] rfl (by (try simp only [List.map_toArray,List.map_cons,List.map_nil]);first|done|rfl|(simp only [List.length_drop,List.length_take];rfl)) ?_;(with_reducible refine (nunciolaw07_Few.calls k a0_0 a0_1 _ _ l0_2 _ _ l0_3 _ _ l0_4 _ _ l0_5 false _ ?side1 ?side2 ?side3 ?side4 ?side5 ?side6 ?side7 ?side8 A10.out).mono ?_);(case side1=>repeat (first|exact (Kd.C_below HR0_2.out HB.out)|(with_reducible first|apply Kd.C_alloc|apply Kd.C_drewN|apply Kd.C_drew)));(case side2=>exact HC0_2.out);(case side3=>repeat (first|exact (Kd.C_below HR0_3.out HB.out)|(with_reducible first|apply Kd.C_alloc|apply Kd.C_drewN|apply Kd.C_drew)));(case side4=>exact HC0_3.out);(case side5=>repeat (first|exact (Kd.C_below HR0_4.out HB.out)|(with_reducible first|apply Kd.C_alloc|apply Kd.C_drewN|apply Kd.C_drew)));(case side6=>exact HC0_4.out);(case side7=>repeat (first|exact (Kd.C_below HR0_5.out HB.out)|(with_reducible first|apply Kd.C_alloc|apply Kd.C_drewN|apply Kd.C_drew)));(case side8=>exact HC0_5.out);rintro e w18 ⟨rfl,hb⟩;refine ⟨_,rfl,?_⟩;have n0_:=qqm (blk_below (g:=gb322) (o:=.cells #[.int .u16 a0_0,.int .u16 a0_1,.slice A0_2 l0_2.length c0_2,.slice A0_3 l0_3.length c0_3,.slice A0_4 l0_4.length c0_4,.slice A0_5 l0_5.length c0_5] 26 (0,0)) (by (with_reducible repeat first|apply qqa|apply qqb|apply qqc);exact BK322.out) hb);have n1_:=qqm (blk_below (g:=gb323) (o:=.cells #[.string a2_0,.int .u16 a2_1,.int .u16 a2_2,.bool a2_3] 28 (0,0)) (by (with_reducible repeat first|apply qqa|apply qqb|apply qqc);exact BK323.out) hb);have n2_:=qqm (below_step (by with_reducible repeat first|exact HB.out|apply qqf|apply qqd|apply qqe|refine qqg ?_ GE322.out|refine qqg ?_ GE323.out) hb);clear BK322 BK323 HB;have BK322:=n0_;have BK323:=n1_;have HB:=n2_;clear n0_ n1_ n2_;(try clear hb);(try clear hb2);(try clear hk);(try clear hi)))
   go_meet
   case rel=>exact ⟨_,(true),(by first|rfl|(simp;done)|(simp [*];done)),H',⟨by first|omega|exact Nat.le_refl _⟩,⟨by (with_reducible repeat first|apply qqa|apply qqb|apply qqc);exact BK322.out⟩,⟨by (with_reducible repeat first|apply qqa|apply qqb|apply qqc);exact BK323.out⟩,⟨by with_reducible repeat first|exact HB.out|apply qqf|apply qqd|apply qqe|refine qqg ?_ GE322.out|refine qqg ?_ GE323.out⟩⟩
 case rest =>
  clear HC6
  try clear c1
  try clear p2
  try clear c3
  try clear c5
  try clear c9
  try clear c10
  try clear c11
  try clear c12
  try clear c16
  try clear hcz13_0 hcz13_1 hcz13_2 hcz13_3 hcz13_4 hcz13_5
  try clear hcz15_0 hcz15_1 hcz15_2 hcz15_3
  try clear hcz17_0 hcz17_1 hcz17_2 hcz17_3 hcz17_4 hcz17_5
  try clear hfz13_0 hfz13_1 hfz13_2 hfz13_3 hfz13_4 hfz13_5
  try clear hfz15_0 hfz15_1 hfz15_2 hfz15_3
  try clear hfz17_0 hfz17_1 hfz17_2 hfz17_3 hfz17_4 hfz17_5
  obtain ⟨kq,x21_5,rfl,HA,HJ5,BK322,BK323,HB⟩:=hcut
  cases kq with
  | zero => exact absurd HA.out (by simp [nunciolaw08_QueryAsks.j0])
  | succ kj5 =>
   have H:=HA.out
   clear HA
   simp only [nunciolaw08_QueryAsks.j0] at H
   by_cases c19:x21_5 = true
   ·
    subst c19
    have H1:(some true) = some r:=by rw [if_pos rfl] at H;exact H
    clear H
    have H:=H1
    clear H1
    obtain rfl:=Option.some.inj H
    go_wp2
    go_ret
    exact ⟨by first|rfl|(simp [errW_none,errW_some] <;> rfl)|(simp [*,errW_none,errW_some] <;> rfl),by with_reducible repeat first|exact HB.out|apply qqf|apply qqd|apply qqe|refine qqg ?_ GE322.out|refine qqg ?_ GE323.out⟩
   ·
    replace c19:=Bool.eq_false_iff.mpr c19
    subst c19
    have H1:((query_Ask.f kj5 a0_0 a0_1 l0_2 l0_3 l0_4 l0_5).bind fun bt326=>((nuncioref08_Ask.f kj5 a0_0 a0_1 l0_2 l0_3 l0_4 l0_5).bind fun bt332=>(if (bt326.1.toList == bt332.1.toList && (bt326.2.1 == bt332.2.1 && (bt326.2.2.1 == bt332.2.2.1 && (bt326.2.2.2.1 == bt332.2.2.2.1)))) = true then (if bt326.2.2.2.2 = bt332.2.2.2.2 then ((query_Make.f a1 a2_0 a2_1 a2_2 a2_3).bind fun bt338=>((nuncioref08_Make.f a1 a2_0 a2_1 a2_2 a2_3).bind fun bt352=>((nuncioref06_Same.f kj5 bt338.1 bt338.2.1 bt338.2.2.1 bt338.2.2.2.1 bt338.2.2.2.2.1 bt338.2.2.2.2.2 bt352.1 bt352.2.1 bt352.2.2.1 bt352.2.2.2.1 bt352.2.2.2.2.1 bt352.2.2.2.2.2).bind fun t366=>(if t366 = true then ((query_Fits.f kj5 a2_0 a2_1 a2_2 a2_3 a1 a0_0 a0_1 l0_2 l0_3 l0_4 l0_5).bind fun t367=>((nuncioref08_Fits.f kj5 a2_0 a2_1 a2_2 a2_3 a1 a0_0 a0_1 l0_2 l0_3 l0_4 l0_5).bind fun t368=>(if (t367 == t368) = true then ((query_Fits.f kj5 bt332.1 bt332.2.1 bt332.2.2.1 bt332.2.2.2.1 a0_0 a0_0 a0_1 l0_2 l0_3 l0_4 l0_5).bind fun t369=>((nuncioref08_Fits.f kj5 bt332.1 bt332.2.1 bt332.2.2.1 bt332.2.2.2.1 a0_0 a0_0 a0_1 l0_2 l0_3 l0_4 l0_5).bind fun t370=>(some (t369 == t370)))) else (some false)))) else (some false))))) else (some false)) else (some false)))) = some r:=by rw [if_neg (show ¬ (false = true) by decide)] at H;exact H
    clear H
    have H:=H1
    clear H1
    replace H:=Option.bind_eq_some_iff.mp H
    obtain ⟨⟨t326,t327,t328,t329,t330⟩,A200,H⟩:=H
    replace H:((nuncioref08_Ask.f kj5 a0_0 a0_1 l0_2 l0_3 l0_4 l0_5).bind fun bt332=>(if (t326.toList == bt332.1.toList && (t327 == bt332.2.1 && (t328 == bt332.2.2.1 && (t329 == bt332.2.2.2.1)))) = true then (if t330 = bt332.2.2.2.2 then ((query_Make.f a1 a2_0 a2_1 a2_2 a2_3).bind fun bt338=>((nuncioref08_Make.f a1 a2_0 a2_1 a2_2 a2_3).bind fun bt352=>((nuncioref06_Same.f kj5 bt338.1 bt338.2.1 bt338.2.2.1 bt338.2.2.2.1 bt338.2.2.2.2.1 bt338.2.2.2.2.2 bt352.1 bt352.2.1 bt352.2.2.1 bt352.2.2.2.1 bt352.2.2.2.2.1 bt352.2.2.2.2.2).bind fun t366=>(if t366 = true then ((query_Fits.f kj5 a2_0 a2_1 a2_2 a2_3 a1 a0_0 a0_1 l0_2 l0_3 l0_4 l0_5).bind fun t367=>((nuncioref08_Fits.f kj5 a2_0 a2_1 a2_2 a2_3 a1 a0_0 a0_1 l0_2 l0_3 l0_4 l0_5).bind fun t368=>(if (t367 == t368) = true then ((query_Fits.f kj5 bt332.1 bt332.2.1 bt332.2.2.1 bt332.2.2.2.1 a0_0 a0_0 a0_1 l0_2 l0_3 l0_4 l0_5).bind fun t369=>((nuncioref08_Fits.f kj5 bt332.1 bt332.2.1 bt332.2.2.1 bt332.2.2.2.1 a0_0 a0_0 a0_1 l0_2 l0_3 l0_4 l0_5).bind fun t370=>(some (t369 == t370)))) else (some false)))) else (some false))))) else (some false)) else (some false))) = some r:=H
    have A20:=qqm A200
    clear A200
    replace H:=Option.bind_eq_some_iff.mp H
    obtain ⟨⟨t332,t333,t334,t335,t336⟩,A210,H⟩:=H
    replace H:(if (t326.toList == t332.toList && (t327 == t333 && (t328 == t334 && (t329 == t335)))) = true then (if t330 = t336 then ((query_Make.f a1 a2_0 a2_1 a2_2 a2_3).bind fun bt338=>((nuncioref08_Make.f a1 a2_0 a2_1 a2_2 a2_3).bind fun bt352=>((nuncioref06_Same.f kj5 bt338.1 bt338.2.1 bt338.2.2.1 bt338.2.2.2.1 bt338.2.2.2.2.1 bt338.2.2.2.2.2 bt352.1 bt352.2.1 bt352.2.2.1 bt352.2.2.2.1 bt352.2.2.2.2.1 bt352.2.2.2.2.2).bind fun t366=>(if t366 = true then ((query_Fits.f kj5 a2_0 a2_1 a2_2 a2_3 a1 a0_0 a0_1 l0_2 l0_3 l0_4 l0_5).bind fun t367=>((nuncioref08_Fits.f kj5 a2_0 a2_1 a2_2 a2_3 a1 a0_0 a0_1 l0_2 l0_3 l0_4 l0_5).bind fun t368=>(if (t367 == t368) = true then ((query_Fits.f kj5 t332 t333 t334 t335 a0_0 a0_0 a0_1 l0_2 l0_3 l0_4 l0_5).bind fun t369=>((nuncioref08_Fits.f kj5 t332 t333 t334 t335 a0_0 a0_0 a0_1 l0_2 l0_3 l0_4 l0_5).bind fun t370=>(some (t369 == t370)))) else (some false)))) else (some false))))) else (some false)) else (some false)) = some r:=H
    have A21:=qqm A210
    clear A210
    by_cases c22:(t326.toList == t332.toList && (t327 == t333 && (t328 == t334 && (t329 == t335)))) = true
    ·
     rw [if_pos c22] at H
     have c22b0:(t326.toList == t332.toList && (t327 == t333 && (t328 == t334 && (t329 == t335)))) = true:=c22
     (try (have c22b1:decide (t326.toList = t332.toList && (t327 == t333 && (t328 == t334 && (t329 == t335)))) = true:=by simpa using c22))
     (try (have c22b2:(t326.toList == t332.toList && (t327 == t333 && (t328 == t334 && (t329 == t335)))) = true:=by simpa using c22))
     clear c22
     (try (have c22b9:=c22b0;simp only [beq_true,beq_false] at c22b9))
     by_cases c23:t330 = t336
     ·
      rw [if_pos c23] at H
      have c23b0:(t330 == t336) = true:=beq_iff_eq.mpr c23
      have c23b1:(t330 != t336) = false:=bne_eq_false_iff_eq.mpr c23
      clear c23
      replace H:=Option.bind_eq_some_iff.mp H
      obtain ⟨⟨t338,t339,t340,t343,t346,t349⟩,A240,H⟩:=H
      replace H:((nuncioref08_Make.f a1 a2_0 a2_1 a2_2 a2_3).bind fun bt352=>((nuncioref06_Same.f kj5 t338 t339 t340 t343 t346 t349 bt352.1 bt352.2.1 bt352.2.2.1 bt352.2.2.2.1 bt352.2.2.2.2.1 bt352.2.2.2.2.2).bind fun t366=>(if t366 = true then ((query_Fits.f kj5 a2_0 a2_1 a2_2 a2_3 a1 a0_0 a0_1 l0_2 l0_3 l0_4 l0_5).bind fun t367=>((nuncioref08_Fits.f kj5 a2_0 a2_1 a2_2 a2_3 a1 a0_0 a0_1 l0_2 l0_3 l0_4 l0_5).bind fun t368=>(if (t367 == t368) = true then ((query_Fits.f kj5 t332 t333 t334 t335 a0_0 a0_0 a0_1 l0_2 l0_3 l0_4 l0_5).bind fun t369=>((nuncioref08_Fits.f kj5 t332 t333 t334 t335 a0_0 a0_0 a0_1 l0_2 l0_3 l0_4 l0_5).bind fun t370=>(some (t369 == t370)))) else (some false)))) else (some false)))) = some r:=H
      have A24:=qqm A240
      clear A240
      replace H:=Option.bind_eq_some_iff.mp H
      obtain ⟨⟨t352,t353,t354,t357,t360,t363⟩,A250,H⟩:=H
      replace H:((nuncioref06_Same.f kj5 t338 t339 t340 t343 t346 t349 t352 t353 t354 t357 t360 t363).bind fun t366=>(if t366 = true then ((query_Fits.f kj5 a2_0 a2_1 a2_2 a2_3 a1 a0_0 a0_1 l0_2 l0_3 l0_4 l0_5).bind fun t367=>((nuncioref08_Fits.f kj5 a2_0 a2_1 a2_2 a2_3 a1 a0_0 a0_1 l0_2 l0_3 l0_4 l0_5).bind fun t368=>(if (t367 == t368) = true then ((query_Fits.f kj5 t332 t333 t334 t335 a0_0 a0_0 a0_1 l0_2 l0_3 l0_4 l0_5).bind fun t369=>((nuncioref08_Fits.f kj5 t332 t333 t334 t335 a0_0 a0_0 a0_1 l0_2 l0_3 l0_4 l0_5).bind fun t370=>(some (t369 == t370)))) else (some false)))) else (some false))) = some r:=H
      have A25:=qqm A250
      clear A250
      replace H:=Option.bind_eq_some_iff.mp H
      obtain ⟨t366,A260,H⟩:=H
      replace H:(if t366 = true then ((query_Fits.f kj5 a2_0 a2_1 a2_2 a2_3 a1 a0_0 a0_1 l0_2 l0_3 l0_4 l0_5).bind fun t367=>((nuncioref08_Fits.f kj5 a2_0 a2_1 a2_2 a2_3 a1 a0_0 a0_1 l0_2 l0_3 l0_4 l0_5).bind fun t368=>(if (t367 == t368) = true then ((query_Fits.f kj5 t332 t333 t334 t335 a0_0 a0_0 a0_1 l0_2 l0_3 l0_4 l0_5).bind fun t369=>((nuncioref08_Fits.f kj5 t332 t333 t334 t335 a0_0 a0_0 a0_1 l0_2 l0_3 l0_4 l0_5).bind fun t370=>(some (t369 == t370)))) else (some false)))) else (some false)) = some r:=H
      have A26:=qqm A260
      clear A260
      by_cases c27:t366 = true
      ·
       subst c27
       have H1:((query_Fits.f kj5 a2_0 a2_1 a2_2 a2_3 a1 a0_0 a0_1 l0_2 l0_3 l0_4 l0_5).bind fun t367=>((nuncioref08_Fits.f kj5 a2_0 a2_1 a2_2 a2_3 a1 a0_0 a0_1 l0_2 l0_3 l0_4 l0_5).bind fun t368=>(if (t367 == t368) = true then ((query_Fits.f kj5 t332 t333 t334 t335 a0_0 a0_0 a0_1 l0_2 l0_3 l0_4 l0_5).bind fun t369=>((nuncioref08_Fits.f kj5 t332 t333 t334 t335 a0_0 a0_0 a0_1 l0_2 l0_3 l0_4 l0_5).bind fun t370=>(some (t369 == t370)))) else (some false)))) = some r:=by rw [if_pos rfl] at H;exact H
       clear H
       have H:=H1
       clear H1
       replace H:=Option.bind_eq_some_iff.mp H
       obtain ⟨t367,A280,H⟩:=H
       replace H:((nuncioref08_Fits.f kj5 a2_0 a2_1 a2_2 a2_3 a1 a0_0 a0_1 l0_2 l0_3 l0_4 l0_5).bind fun t368=>(if (t367 == t368) = true then ((query_Fits.f kj5 t332 t333 t334 t335 a0_0 a0_0 a0_1 l0_2 l0_3 l0_4 l0_5).bind fun t369=>((nuncioref08_Fits.f kj5 t332 t333 t334 t335 a0_0 a0_0 a0_1 l0_2 l0_3 l0_4 l0_5).bind fun t370=>(some (t369 == t370)))) else (some false))) = some r:=H
       have A28:=qqm A280
       clear A280
       replace H:=Option.bind_eq_some_iff.mp H
       obtain ⟨t368,A290,H⟩:=H
       replace H:(if (t367 == t368) = true then ((query_Fits.f kj5 t332 t333 t334 t335 a0_0 a0_0 a0_1 l0_2 l0_3 l0_4 l0_5).bind fun t369=>((nuncioref08_Fits.f kj5 t332 t333 t334 t335 a0_0 a0_0 a0_1 l0_2 l0_3 l0_4 l0_5).bind fun t370=>(some (t369 == t370)))) else (some false)) = some r:=H
       have A29:=qqm A290
       clear A290
       by_cases c30:(t367 == t368) = true
       ·
        rw [if_pos c30] at H
        have c30b0:(t367 == t368) = true:=c30
        (try (have c30b1:decide (t367 = t368) = true:=by simpa using c30))
        (try (have c30b2:(t367 == t368) = true:=by simpa using c30))
        clear c30
        replace H:=Option.bind_eq_some_iff.mp H
        obtain ⟨t369,A310,H⟩:=H
        replace H:((nuncioref08_Fits.f kj5 t332 t333 t334 t335 a0_0 a0_0 a0_1 l0_2 l0_3 l0_4 l0_5).bind fun t370=>(some (t369 == t370))) = some r:=H
        have A31:=qqm A310
        clear A310
        replace H:=Option.bind_eq_some_iff.mp H
        obtain ⟨t370,A320,H⟩:=H
        replace H:(some (t369 == t370)) = some r:=H
        have A32:=qqm A320
        clear A320
        obtain rfl:=Option.some.inj H
        have hnb33:=NB322_323.out
        have hnc33:=NB323_322.out
        obtain ⟨hcz34_0,hcz34_1,hcz34_2,hcz34_3,hcz34_4,hcz34_5⟩:=qc6 BK322.out
        obtain ⟨hfz34_0,hfz34_1,hfz34_2,hfz34_3,hfz34_4,hfz34_5⟩:=qf6 BK322.out
        try go_wp2_with (first|((with_reducible refine gate_callee (f:=11) rfl ?_);refine goesL_ (some 24) rfl rfl Try.func11 (by kernel_rfl) rfl #[.agg #[.int .u16 a0_0,.int .u16 a0_1,.slice A0_2 l0_2.length c0_2,.slice A0_3 l0_3.length c0_3,.slice A0_4 l0_4.length c0_4,.slice A0_5 l0_5.length c0_5]] rfl (by (try simp only [List.map_toArray,List.map_cons,List.map_nil]);first|done|rfl|(simp only [List.length_drop,List.length_take];rfl)) ?_;(with_reducible refine (query_Ask.calls kj5 a0_0 a0_1 _ _ l0_2 _ _ l0_3 _ _ l0_4 _ _ l0_5 t326 t327 t328 t329 t330 _ ?side1 ?side2 ?side3 ?side4 ?side5 ?side6 ?side7 ?side8 A20.out).mono ?_);(case side1=>repeat (first|exact (Kd.C_below HR0_2.out HB.out)|(with_reducible first|apply Kd.C_alloc|apply Kd.C_drewN|apply Kd.C_drew)));(case side2=>exact HC0_2.out);(case side3=>repeat (first|exact (Kd.C_below HR0_3.out HB.out)|(with_reducible first|apply Kd.C_alloc|apply Kd.C_drewN|apply Kd.C_drew)));(case side4=>exact HC0_3.out);(case side5=>repeat (first|exact (Kd.C_below HR0_4.out HB.out)|(with_reducible first|apply Kd.C_alloc|apply Kd.C_drewN|apply Kd.C_drew)));(case side6=>exact HC0_4.out);(case side7=>repeat (first|exact (Kd.C_below HR0_5.out HB.out)|(with_reducible first|apply Kd.C_alloc|apply Kd.C_drewN|apply Kd.C_drew)));(case side8=>exact HC0_5.out);rintro e w35 ⟨rfl,hb⟩;refine ⟨_,rfl,?_⟩;have n0_:=qqm (blk_below (g:=gb322) (o:=.cells #[.int .u16 a0_0,.int .u16 a0_1,.slice A0_2 l0_2.length c0_2,.slice A0_3 l0_3.length c0_3,.slice A0_4 l0_4.length c0_4,.slice A0_5 l0_5.length c0_5] 26 (0,0)) (by (with_reducible repeat first|apply qqa|apply qqb|apply qqc);exact BK322.out) hb);have n1_:=qqm (blk_below (g:=gb323) (o:=.cells #[.string a2_0,.int .u16 a2_1,.int .u16 a2_2,.bool a2_3] 28 (0,0)) (by (with_reducible repeat first|apply qqa|apply qqb|apply qqc);exact BK323.out) hb);have n2_:=qqm (below_step (by with_reducible repeat first|exact HB.out|apply qqf|apply qqd|apply qqe|refine qqg ?_ GE322.out|refine qqg ?_ GE323.out) hb);clear BK322 BK323 HB;have BK322:=n0_;have BK323:=n1_;have HB:=n2_;clear n0_ n1_ n2_;(try clear hb);(try clear hb2);(try clear hk);(try clear hi))|((with_reducible refine gate_dst (N:=7) rfl ?_);(try (refine gate_guard (by rfl) ?_;dsimp only));refine box_event ?hg (N:=7) ?hd (cs:=#[.string (⟨#[]⟩:ByteArray),.int .u16 0,.int .u16 0,.bool false]) (t:=28) ?hr ?_;(case hd=>rfl);(case hg=>rfl);(case hr=>first|(go_simp;done)|(go_simp;rfl));intro gb331 hg w36 hbox hb;have n0_:=qqm (blk_below (g:=gb322) (o:=.cells #[.int .u16 a0_0,.int .u16 a0_1,.slice A0_2 l0_2.length c0_2,.slice A0_3 l0_3.length c0_3,.slice A0_4 l0_4.length c0_4,.slice A0_5 l0_5.length c0_5] 26 (0,0)) (by (with_reducible repeat first|apply qqa|apply qqb|apply qqc);exact BK322.out) hb);have n1_:=qqm (blk_below (g:=gb323) (o:=.cells #[.string a2_0,.int .u16 a2_1,.int .u16 a2_2,.bool a2_3] 28 (0,0)) (by (with_reducible repeat first|apply qqa|apply qqb|apply qqc);exact BK323.out) hb);have n2_:=qqm (below_step (by with_reducible repeat first|exact HB.out|apply qqf|apply qqd|apply qqe|refine qqg ?_ GE322.out|refine qqg ?_ GE323.out) hb);have n3_:=qqm (hbox);have n4_:=qqm ((by rw [hg];exact (below_size (by with_reducible repeat first|exact HB.out|apply qqf|apply qqd|apply qqe|refine qqg ?_ GE322.out|refine qqg ?_ GE323.out)):w.heap.size ≤ gb331));have n5_:=n4_;have n6_:=qqm ((by rw [hg];exact Nat.ne_of_lt (blk_lt (by (with_reducible repeat first|apply qqa|apply qqb|apply qqc);exact BK322.out)):gb322 ≠ gb331));have n7_:=qqm (Ne.symm n6_.out);have n8_:=qqm ((by rw [hg];exact Nat.ne_of_lt (blk_lt (by (with_reducible repeat first|apply qqa|apply qqb|apply qqc);exact BK323.out)):gb323 ≠ gb331));have n9_:=qqm (Ne.symm n8_.out);clear BK322 BK323 HB;have BK322:=n0_;have BK323:=n1_;have HB:=n2_;have BK331:=n3_;have GW331:=n4_;have GE331:=n5_;have NB322_331:=n6_;have NB331_322:=n7_;have NB323_331:=n8_;have NB331_323:=n9_;clear n0_ n1_ n2_ n3_ n4_ n5_ n6_ n7_ n8_ n9_ hb hbox hg;have hnb37:=NB331_322.out;have hnc37:=NB322_331.out;have hnb38:=NB331_323.out;have hnc38:=NB323_331.out;obtain ⟨hcz39_0,hcz39_1,hcz39_2,hcz39_3⟩:=qc4 BK331.out;obtain ⟨hfz39_0,hfz39_1,hfz39_2,hfz39_3⟩:=qf4 BK331.out;obtain ⟨hcz40_0,hcz40_1,hcz40_2,hcz40_3,hcz40_4,hcz40_5⟩:=qc6 BK322.out;obtain ⟨hfz40_0,hfz40_1,hfz40_2,hfz40_3,hfz40_4,hfz40_5⟩:=qf6 BK322.out)|((with_reducible refine gate_callee (f:=12) rfl ?_);refine goesL_ (some 29) rfl rfl Try.func12 (by kernel_rfl) rfl #[.agg #[.int .u16 a0_0,.int .u16 a0_1,.slice A0_2 l0_2.length c0_2,.slice A0_3 l0_3.length c0_3,.slice A0_4 l0_4.length c0_4,.slice A0_5 l0_5.length c0_5]] rfl (by (try simp only [List.map_toArray,List.map_cons,List.map_nil]);first|done|rfl|(simp only [List.length_drop,List.length_take];rfl)) ?_;(with_reducible refine (nuncioref08_Ask.calls kj5 a0_0 a0_1 _ _ l0_2 _ _ l0_3 _ _ l0_4 _ _ l0_5 t332 t333 t334 t335 t336 _ ?side1 ?side2 ?side3 ?side4 ?side5 ?side6 ?side7 ?side8 A21.out).mono ?_);(case side1=>exact Kd.C_below HR0_2.out (by with_reducible repeat first|exact HB.out|apply qqf|apply qqd|apply qqe|refine qqg ?_ GE322.out|refine qqg ?_ GE323.out|refine qqg ?_ GE331.out));(case side2=>exact HC0_2.out);(case side3=>exact Kd.C_below HR0_3.out (by with_reducible repeat first|exact HB.out|apply qqf|apply qqd|apply qqe|refine qqg ?_ GE322.out|refine qqg ?_ GE323.out|refine qqg ?_ GE331.out));(case side4=>exact HC0_3.out);(case side5=>exact Kd.C_below HR0_4.out (by with_reducible repeat first|exact HB.out|apply qqf|apply qqd|apply qqe|refine qqg ?_ GE322.out|refine qqg ?_ GE323.out|refine qqg ?_ GE331.out));(case side6=>exact HC0_4.out);(case side7=>exact Kd.C_below HR0_5.out (by with_reducible repeat first|exact HB.out|apply qqf|apply qqd|apply qqe|refine qqg ?_ GE322.out|refine qqg ?_ GE323.out|refine qqg ?_ GE331.out));(case side8=>exact HC0_5.out);rintro e w41 ⟨rfl,hb⟩;refine ⟨_,rfl,?_⟩;have n0_:=qqm (blk_below (g:=gb322) (o:=.cells #[.int .u16 a0_0,.int .u16 a0_1,.slice A0_2 l0_2.length c0_2,.slice A0_3 l0_3.length c0_3,.slice A0_4 l0_4.length c0_4,.slice A0_5 l0_5.length c0_5] 26 (0,0)) (by (with_reducible repeat first|apply qqa|apply qqb|apply qqc);refine blk_far ?_ NB322_331.out _;(with_reducible repeat first|apply qqa|apply qqb|apply qqc);refine blk_far ?_ NB322_331.out _;(with_reducible repeat first|apply qqa|apply qqb|apply qqc);refine blk_far ?_ NB322_331.out _;(with_reducible repeat first|apply qqa|apply qqb|apply qqc);refine blk_far ?_ NB322_331.out _;(with_reducible repeat first|apply qqa|apply qqb|apply qqc);exact BK322.out) hb);have n1_:=qqm (blk_below (g:=gb323) (o:=.cells #[.string a2_0,.int .u16 a2_1,.int .u16 a2_2,.bool a2_3] 28 (0,0)) (by (with_reducible repeat first|apply qqa|apply qqb|apply qqc);refine blk_far ?_ NB323_331.out _;(with_reducible repeat first|apply qqa|apply qqb|apply qqc);refine blk_far ?_ NB323_331.out _;(with_reducible repeat first|apply qqa|apply qqb|apply qqc);refine blk_far ?_ NB323_331.out _;(with_reducible repeat first|apply qqa|apply qqb|apply qqc);refine blk_far ?_ NB323_331.out _;(with_reducible repeat first|apply qqa|apply qqb|apply qqc);exact BK323.out) hb);have n2_:=qqm (blk_below (g:=gb331) (o:=.cells #[.string t326,.int .u16 t327,.int .u16 t328,.bool t329] 28 (0,0)) (by (with_reducible repeat first|apply qqa|apply qqb|apply qqc);refine blk_put (cs:=#[.string t326,.int .u16 t327,.int .u16 t328,.bool false]) ?_ 3 _ rfl;(with_reducible repeat first|apply qqa|apply qqb|apply qqc);refine blk_put (cs:=#[.string t326,.int .u16 t327,.int .u16 0,.bool false]) ?_ 2 _ rfl;(with_reducible repeat first|apply qqa|apply qqb|apply qqc);refine blk_put (cs:=#[.string t326,.int .u16 0,.int .u16 0,.bool false]) ?_ 1 _ rfl;(with_reducible repeat first|apply qqa|apply qqb|apply qqc);refine blk_put (cs:=#[.string (⟨#[]⟩:ByteArray),.int .u16 0,.int .u16 0,.bool false]) ?_ 0 _ rfl;(with_reducible repeat first|apply qqa|apply qqb|apply qqc);exact BK331.out) hb);have n3_:=qqm (below_step (by with_reducible repeat first|exact HB.out|apply qqf|apply qqd|apply qqe|refine qqg ?_ GE322.out|refine qqg ?_ GE323.out|refine qqg ?_ GE331.out) hb);clear BK322 BK323 BK331 HB;have BK322:=n0_;have BK323:=n1_;have BK331:=n2_;have HB:=n3_;clear n0_ n1_ n2_ n3_;(try clear hb);(try clear hb2);(try clear hk);(try clear hi))|((with_reducible refine gate_dst (N:=9) rfl ?_);(try (refine gate_guard (by rfl) ?_;dsimp only));refine box_event ?hg (N:=9) ?hd (cs:=#[.string (⟨#[]⟩:ByteArray),.int .u16 0,.int .u16 0,.bool false]) (t:=28) ?hr ?_;(case hd=>rfl);(case hg=>rfl);(case hr=>first|(go_simp;done)|(go_simp;rfl));intro gb337 hg w42 hbox hb;have n0_:=qqm (blk_below (g:=gb322) (o:=.cells #[.int .u16 a0_0,.int .u16 a0_1,.slice A0_2 l0_2.length c0_2,.slice A0_3 l0_3.length c0_3,.slice A0_4 l0_4.length c0_4,.slice A0_5 l0_5.length c0_5] 26 (0,0)) (by (with_reducible repeat first|apply qqa|apply qqb|apply qqc);exact BK322.out) hb);have n1_:=qqm (blk_below (g:=gb323) (o:=.cells #[.string a2_0,.int .u16 a2_1,.int .u16 a2_2,.bool a2_3] 28 (0,0)) (by (with_reducible repeat first|apply qqa|apply qqb|apply qqc);exact BK323.out) hb);have n2_:=qqm (blk_below (g:=gb331) (o:=.cells #[.string t326,.int .u16 t327,.int .u16 t328,.bool t329] 28 (0,0)) (by (with_reducible repeat first|apply qqa|apply qqb|apply qqc);exact BK331.out) hb);have n3_:=qqm (below_step (by with_reducible repeat first|exact HB.out|apply qqf|apply qqd|apply qqe|refine qqg ?_ GE322.out|refine qqg ?_ GE323.out|refine qqg ?_ GE331.out) hb);have n4_:=qqm (hbox);have n5_:=qqm ((by rw [hg];exact (below_size (by with_reducible repeat first|exact HB.out|apply qqf|apply qqd|apply qqe|refine qqg ?_ GE322.out|refine qqg ?_ GE323.out|refine qqg ?_ GE331.out)):w.heap.size ≤ gb337));have n6_:=n5_;have n7_:=qqm ((by rw [hg];exact Nat.ne_of_lt (blk_lt (by (with_reducible repeat first|apply qqa|apply qqb|apply qqc);exact BK322.out)):gb322 ≠ gb337));have n8_:=qqm (Ne.symm n7_.out);have n9_:=qqm ((by rw [hg];exact Nat.ne_of_lt (blk_lt (by (with_reducible repeat first|apply qqa|apply qqb|apply qqc);exact BK323.out)):gb323 ≠ gb337));have n10_:=qqm (Ne.symm n9_.out);have n11_:=qqm ((by rw [hg];exact Nat.ne_of_lt (blk_lt (by (with_reducible repeat first|apply qqa|apply qqb|apply qqc);exact BK331.out)):gb331 ≠ gb337));have n12_:=qqm (Ne.symm n11_.out);clear BK322 BK323 BK331 HB;have BK322:=n0_;have BK323:=n1_;have BK331:=n2_;have HB:=n3_;have BK337:=n4_;have GW337:=n5_;have GE337:=n6_;have NB322_337:=n7_;have NB337_322:=n8_;have NB323_337:=n9_;have NB337_323:=n10_;have NB331_337:=n11_;have NB337_331:=n12_;clear n0_ n1_ n2_ n3_ n4_ n5_ n6_ n7_ n8_ n9_ n10_ n11_ n12_ hb hbox hg;have hnb43:=NB337_322.out;have hnc43:=NB322_337.out;have hnb44:=NB337_323.out;have hnc44:=NB323_337.out;have hnb45:=NB337_331.out;have hnc45:=NB331_337.out;obtain ⟨hcz46_0,hcz46_1,hcz46_2,hcz46_3⟩:=qc4 BK337.out;obtain ⟨hfz46_0,hfz46_1,hfz46_2,hfz46_3⟩:=qf4 BK337.out))
        have n0_:Aside0 (((((w42.setCell ⟨gb337,0,none⟩ (.string t332)).setCell ⟨gb337,1,none⟩ (.int .u16 t333)).setCell ⟨gb337,2,none⟩ (.int .u16 t334)).setCell ⟨gb337,3,none⟩ (.bool t335)).heap[gb322]? = some (.cells #[.int .u16 a0_0,.int .u16 a0_1,.slice A0_2 l0_2.length c0_2,.slice A0_3 l0_3.length c0_3,.slice A0_4 l0_4.length c0_4,.slice A0_5 l0_5.length c0_5] 26 (0,0))):=⟨by (with_reducible repeat first|apply qqa|apply qqb|apply qqc);refine blk_far ?_ NB322_337.out _;(with_reducible repeat first|apply qqa|apply qqb|apply qqc);refine blk_far ?_ NB322_337.out _;(with_reducible repeat first|apply qqa|apply qqb|apply qqc);refine blk_far ?_ NB322_337.out _;(with_reducible repeat first|apply qqa|apply qqb|apply qqc);refine blk_far ?_ NB322_337.out _;(with_reducible repeat first|apply qqa|apply qqb|apply qqc);exact BK322.out⟩
        have n1_:Aside0 (((((w42.setCell ⟨gb337,0,none⟩ (.string t332)).setCell ⟨gb337,1,none⟩ (.int .u16 t333)).setCell ⟨gb337,2,none⟩ (.int .u16 t334)).setCell ⟨gb337,3,none⟩ (.bool t335)).heap[gb323]? = some (.cells #[.string a2_0,.int .u16 a2_1,.int .u16 a2_2,.bool a2_3] 28 (0,0))):=⟨by (with_reducible repeat first|apply qqa|apply qqb|apply qqc);refine blk_far ?_ NB323_337.out _;(with_reducible repeat first|apply qqa|apply qqb|apply qqc);refine blk_far ?_ NB323_337.out _;(with_reducible repeat first|apply qqa|apply qqb|apply qqc);refine blk_far ?_ NB323_337.out _;(with_reducible repeat first|apply qqa|apply qqb|apply qqc);refine blk_far ?_ NB323_337.out _;(with_reducible repeat first|apply qqa|apply qqb|apply qqc);exact BK323.out⟩
        have n2_:Aside0 (((((w42.setCell ⟨gb337,0,none⟩ (.string t332)).setCell ⟨gb337,1,none⟩ (.int .u16 t333)).setCell ⟨gb337,2,none⟩ (.int .u16 t334)).setCell ⟨gb337,3,none⟩ (.bool t335)).heap[gb331]? = some (.cells #[.string t326,.int .u16 t327,.int .u16 t328,.bool t329] 28 (0,0))):=⟨by (with_reducible repeat first|apply qqa|apply qqb|apply qqc);refine blk_far ?_ NB331_337.out _;(with_reducible repeat first|apply qqa|apply qqb|apply qqc);refine blk_far ?_ NB331_337.out _;(with_reducible repeat first|apply qqa|apply qqb|apply qqc);refine blk_far ?_ NB331_337.out _;(with_reducible repeat first|apply qqa|apply qqb|apply qqc);refine blk_far ?_ NB331_337.out _;(with_reducible repeat first|apply qqa|apply qqb|apply qqc);exact BK331.out⟩
        have n3_:Aside0 (((((w42.setCell ⟨gb337,0,none⟩ (.string t332)).setCell ⟨gb337,1,none⟩ (.int .u16 t333)).setCell ⟨gb337,2,none⟩ (.int .u16 t334)).setCell ⟨gb337,3,none⟩ (.bool t335)).heap[gb337]? = some (.cells #[.string t332,.int .u16 t333,.int .u16 t334,.bool t335] 28 (0,0))):=⟨by (with_reducible repeat first|apply qqa|apply qqb|apply qqc);refine blk_put (cs:=#[.string t332,.int .u16 t333,.int .u16 t334,.bool false]) ?_ 3 _ rfl;(with_reducible repeat first|apply qqa|apply qqb|apply qqc);refine blk_put (cs:=#[.string t332,.int .u16 t333,.int .u16 0,.bool false]) ?_ 2 _ rfl;(with_reducible repeat first|apply qqa|apply qqb|apply qqc);refine blk_put (cs:=#[.string t332,.int .u16 0,.int .u16 0,.bool false]) ?_ 1 _ rfl;(with_reducible repeat first|apply qqa|apply qqb|apply qqc);refine blk_put (cs:=#[.string (⟨#[]⟩:ByteArray),.int .u16 0,.int .u16 0,.bool false]) ?_ 0 _ rfl;(with_reducible repeat first|apply qqa|apply qqb|apply qqc);exact BK337.out⟩
        have n4_:Aside0 (Below w.heap.size w ((((w42.setCell ⟨gb337,0,none⟩ (.string t332)).setCell ⟨gb337,1,none⟩ (.int .u16 t333)).setCell ⟨gb337,2,none⟩ (.int .u16 t334)).setCell ⟨gb337,3,none⟩ (.bool t335))):=⟨by with_reducible repeat first|exact HB.out|apply qqf|apply qqd|apply qqe|refine qqg ?_ GE322.out|refine qqg ?_ GE323.out|refine qqg ?_ GE331.out|refine qqg ?_ GE337.out⟩
        (try clear BK322)
        (try clear BK323)
        (try clear BK331)
        (try clear BK337)
        (try clear HB)
        generalize ((((w42.setCell ⟨gb337,0,none⟩ (.string t332)).setCell ⟨gb337,1,none⟩ (.int .u16 t333)).setCell ⟨gb337,2,none⟩ (.int .u16 t334)).setCell ⟨gb337,3,none⟩ (.bool t335)) = w47 at n0_ n1_ n2_ n3_ n4_ ⊢
        have BK322:=n0_
        have BK323:=n1_
        have BK331:=n2_
        have BK337:=n3_
        have HB:=n4_
        clear n0_ n1_ n2_ n3_ n4_
        have n0_:=qqm (qqb BK322.out)
        have n1_:=qqm (qqb BK323.out)
        have n2_:=qqm (qqb BK331.out)
        have n3_:=qqm (qqb BK337.out)
        have n4_:=qqm (qqe HB.out)
        clear BK322
        clear BK323
        clear BK331
        clear BK337
        clear HB
        have BK322:=n0_
        have BK323:=n1_
        have BK331:=n2_
        have BK337:=n3_
        have HB:=n4_
        clear n0_ n1_ n2_ n3_ n4_
        refine start_ (n:=42) (S:=fun w'=>w'.cell? ⟨gb331,0,none⟩ = some (.string t326)∧w'.cell? ⟨gb331,1,none⟩ = some (.int .u16 t327)∧w'.cell? ⟨gb331,2,none⟩ = some (.int .u16 t328)∧w'.cell? ⟨gb331,3,none⟩ = some (.bool t329)∧w'.cell? ⟨gb337,0,none⟩ = some (.string t332)∧w'.cell? ⟨gb337,1,none⟩ = some (.int .u16 t333)∧w'.cell? ⟨gb337,2,none⟩ = some (.int .u16 t334)∧w'.cell? ⟨gb337,3,none⟩ = some (.bool t335)∧w'.cell? ⟨gb323,0,none⟩ = some (.string a2_0)∧w'.cell? ⟨gb323,1,none⟩ = some (.int .u16 a2_1)∧w'.cell? ⟨gb323,2,none⟩ = some (.int .u16 a2_2)∧w'.cell? ⟨gb323,3,none⟩ = some (.bool a2_3)∧w'.cell? ⟨gb322,0,none⟩ = some (.int .u16 a0_0)∧w'.cell? ⟨gb322,1,none⟩ = some (.int .u16 a0_1)∧w'.cell? ⟨gb322,2,none⟩ = some (.slice A0_2 l0_2.length c0_2)∧w'.cell? ⟨gb322,3,none⟩ = some (.slice A0_3 l0_3.length c0_3)∧w'.cell? ⟨gb322,4,none⟩ = some (.slice A0_4 l0_4.length c0_4)∧w'.cell? ⟨gb322,5,none⟩ = some (.slice A0_5 l0_5.length c0_5)) (ds:=[]) (qqz 42 0) (by kernel_rfl) rfl rfl ⟨(qqh BK331.out 0).trans rfl,(qqh BK331.out 1).trans rfl,(qqh BK331.out 2).trans rfl,(qqh BK331.out 3).trans rfl,(qqh BK337.out 0).trans rfl,(qqh BK337.out 1).trans rfl,(qqh BK337.out 2).trans rfl,(qqh BK337.out 3).trans rfl,(qqh BK323.out 0).trans rfl,(qqh BK323.out 1).trans rfl,(qqh BK323.out 2).trans rfl,(qqh BK323.out 3).trans rfl,(qqh BK322.out 0).trans rfl,(qqh BK322.out 1).trans rfl,(qqh BK322.out 2).trans rfl,(qqh BK322.out 3).trans rfl,(qqh BK322.out 4).trans rfl,(qqh BK322.out 5).trans rfl⟩ (fun hHeld=>?_);refine with_tabW nunciolaw08_QueryAsks.tab7 nunciolaw08_QueryAsks.bits7 (fun HT_ HW_=>?_)
        generalize w47.drew = w48 at BK322 BK323 BK331 BK337 HB hHeld ⊢
        refine take_ (i:=0) (N:=some 32) (qqz 42 1) rfl rfl (take_ofW HT_.out HW_.out (by kernel_rfl)) (fun _ _ _ h=>h) (Or.inl ⟨by rfl,by rintro w' ⟨s0,s1,s2,s3,s4,s5,s6,s7,s8,s9,s10,s11,s12,s13,s14,s15,s16,s17⟩;go_simp;with_reducible rfl⟩) hHeld (by simp only [Act.put,qqj,qqk,qql,i64_w,i32_w];rfl) ?_
        refine take_ (i:=1) (N:=some 33) (qqz 42 3) rfl rfl (take_ofW HT_.out HW_.out (by kernel_rfl)) (fun _ _ _ h=>h) (Or.inl ⟨by rfl,by rintro w' ⟨s0,s1,s2,s3,s4,s5,s6,s7,s8,s9,s10,s11,s12,s13,s14,s15,s16,s17⟩;go_simp;with_reducible rfl⟩) hHeld (by simp only [Act.put,qqj,qqk,qql,i64_w,i32_w];rfl) ?_
        refine pure_ (i:=2) (N:=some 34) (qqz 42 7) rfl rfl (any_of HT_.out (by kernel_rfl)) (fun _ _ _ h=>h) (Or.inl ⟨by rfl,by intro w';go_simp;with_reducible rfl⟩) (by simp only [Act.put,qqj,qqk,qql,i64_w,i32_w];rfl) ?_
        refine pure_ (i:=3) (N:=some 35) (qqz 42 15) rfl rfl (any_of HT_.out (by kernel_rfl)) (fun _ _ _ h=>h) (Or.inl ⟨by rfl,by intro w';go_simp;with_reducible rfl⟩) (by simp only [Act.put,qqj,qqk,qql,i64_w,i32_w];rfl) ?_
        refine pure_ (i:=4) (N:=some 36) (qqz 42 31) rfl rfl (any_of HT_.out (by kernel_rfl)) (fun _ _ _ h=>h) (Or.inl ⟨by rfl,by intro w';go_simp;with_reducible rfl⟩) (by simp only [Act.put,qqj,qqk,qql,i64_w,i32_w];rfl) ?_
        refine pure_ (i:=5) (N:=some 37) (qqz 42 63) rfl rfl (any_of HT_.out (by kernel_rfl)) (fun _ _ _ h=>h) (Or.inl ⟨by rfl,by intro w';go_simp;with_reducible rfl⟩) (by simp only [Act.put,qqj,qqk,qql,i64_w,i32_w];rfl) ?_
        refine pure_ (i:=6) (N:=some 38) (qqz 42 127) rfl rfl (any_of HT_.out (by kernel_rfl)) (fun _ _ _ h=>h) (Or.inl ⟨by rfl,by intro w';go_simp;with_reducible rfl⟩) (by simp only [Act.put,qqj,qqk,qql,i64_w,i32_w];rfl) ?_
        refine pure_ (i:=7) (N:=some 39) (qqz 42 255) rfl rfl (any_of HT_.out (by kernel_rfl)) (fun _ _ _ h=>h) (Or.inl ⟨by rfl,by intro w';go_simp;with_reducible rfl⟩) (by simp only [Act.put,qqj,qqk,qql,i64_w,i32_w];rfl) ?_
        refine pure_ (i:=8) (N:=some 40) (qqz 42 511) rfl rfl (any_of HT_.out (by kernel_rfl)) (fun _ _ _ h=>h) (Or.inl ⟨by rfl,by intro w';go_simp;with_reducible rfl⟩) (by simp only [Act.put,qqj,qqk,qql,i64_w,i32_w];rfl) ?_
        refine pure_ (i:=9) (N:=some 41) (qqz 42 1023) rfl rfl (any_of HT_.out (by kernel_rfl)) (fun _ _ _ h=>h) (Or.inl ⟨by rfl,by intro w';go_simp;with_reducible rfl⟩) (by simp only [Act.put,qqj,qqk,qql,i64_w,i32_w];rfl) ?_
        refine pure_ (i:=12) (N:=some 44) (qqz 42 5119) rfl rfl (any_of HT_.out (by kernel_rfl)) (fun _ _ _ h=>h) (Or.inl ⟨by rfl,by intro w';go_simp;with_reducible rfl⟩) (by simp only [Act.put,qqj,qqk,qql,i64_w,i32_w];rfl) ?_
        refine take_ (i:=10) (N:=some 42) (qqz 42 6143) rfl rfl (take_ofW HT_.out HW_.out (by kernel_rfl)) (fun _ _ _ h=>h) (Or.inl ⟨by rfl,by rintro w' ⟨s0,s1,s2,s3,s4,s5,s6,s7,s8,s9,s10,s11,s12,s13,s14,s15,s16,s17⟩;go_simp;with_reducible rfl⟩) hHeld (by simp only [Act.put,qqj,qqk,qql,i64_w,i32_w];rfl) ?_
        refine take_ (i:=13) (N:=some 45) (qqz 42 14335) rfl rfl (take_ofW HT_.out HW_.out (by kernel_rfl)) (fun _ _ _ h=>h) (Or.inl ⟨by rfl,by rintro w' ⟨s0,s1,s2,s3,s4,s5,s6,s7,s8,s9,s10,s11,s12,s13,s14,s15,s16,s17⟩;go_simp;with_reducible rfl⟩) hHeld (by simp only [Act.put,qqj,qqk,qql,i64_w,i32_w];rfl) ?_
        refine one_ (i:=11) (N:=some 43) (qqz 42 16383) rfl rfl (one_of HT_.out (by kernel_rfl)) (by decide) (fun K hK=>?_)
        refine goes_ Try.func14 (by kernel_rfl) rfl #[.int .u16 a1,.agg #[.string a2_0,.int .u16 a2_1,.int .u16 a2_2,.bool a2_3]] (by rfl) rfl rfl (by (try simp only [List.map_toArray,List.map_cons,List.map_nil]);first|done|rfl|(simp only [List.length_drop,List.length_take];rfl)) ?_
        with_reducible refine (query_Make.calls a1 a2_0 a2_1 a2_2 a2_3 t338 t339 t340 t343 t346 t349 _ A24.out).mono ?_
        rintro e w49 ⟨v341,v344,v347,v350,rfl,ho0,ho1,ho2,ho3,hb⟩
        refine ⟨_,rfl,?_⟩
        have n0_:=qqm (Kd.R_lower (Kd.R_mono (ok':=fun k_=>True) ho0 (fun _ hk_=>trivial)) (below_size (by with_reducible repeat first|exact HB.out|apply qqf|apply qqd|apply qqe|refine qqg ?_ GE322.out|refine qqg ?_ GE323.out|refine qqg ?_ GE331.out|refine qqg ?_ GE337.out)))
        have n1_:=qqm (Kd.N_lower (Kd.N_mono (ok':=fun k_=>some k_ ≠ (v341:Value).ownBlock∧some k_ ≠ (v347:Value).ownBlock∧some k_ ≠ (v350:Value).ownBlock∧k_ ≠ gb322∧k_ ≠ gb323∧k_ ≠ gb331∧k_ ≠ gb337) ho1 (fun k_ hk_=>⟨hk_.2.1,hk_.2.2.1,hk_.2.2.2,(Kd.freshB (g:=gb322) (o:=.cells #[.int .u16 a0_0,.int .u16 a0_1,.slice A0_2 l0_2.length c0_2,.slice A0_3 l0_3.length c0_3,.slice A0_4 l0_4.length c0_4,.slice A0_5 l0_5.length c0_5] 26 (0,0)) (by (with_reducible repeat first|apply qqa|apply qqb|apply qqc);exact BK322.out) k_ hk_.1),(Kd.freshB (g:=gb323) (o:=.cells #[.string a2_0,.int .u16 a2_1,.int .u16 a2_2,.bool a2_3] 28 (0,0)) (by (with_reducible repeat first|apply qqa|apply qqb|apply qqc);exact BK323.out) k_ hk_.1),(Kd.freshB (g:=gb331) (o:=.cells #[.string t326,.int .u16 t327,.int .u16 t328,.bool t329] 28 (0,0)) (by (with_reducible repeat first|apply qqa|apply qqb|apply qqc);exact BK331.out) k_ hk_.1),(Kd.freshB (g:=gb337) (o:=.cells #[.string t332,.int .u16 t333,.int .u16 t334,.bool t335] 28 (0,0)) (by (with_reducible repeat first|apply qqa|apply qqb|apply qqc);exact BK337.out) k_ hk_.1)⟩)) (below_size (by with_reducible repeat first|exact HB.out|apply qqf|apply qqd|apply qqe|refine qqg ?_ GE322.out|refine qqg ?_ GE323.out|refine qqg ?_ GE331.out|refine qqg ?_ GE337.out)))
        have n2_:=qqm (Kd.N_lower (Kd.N_mono (ok':=fun k_=>some k_ ≠ (v341:Value).ownBlock∧some k_ ≠ (v344:Value).ownBlock∧some k_ ≠ (v350:Value).ownBlock∧k_ ≠ gb322∧k_ ≠ gb323∧k_ ≠ gb331∧k_ ≠ gb337) ho2 (fun k_ hk_=>⟨hk_.2.1,hk_.2.2.1,hk_.2.2.2,(Kd.freshB (g:=gb322) (o:=.cells #[.int .u16 a0_0,.int .u16 a0_1,.slice A0_2 l0_2.length c0_2,.slice A0_3 l0_3.length c0_3,.slice A0_4 l0_4.length c0_4,.slice A0_5 l0_5.length c0_5] 26 (0,0)) (by (with_reducible repeat first|apply qqa|apply qqb|apply qqc);exact BK322.out) k_ hk_.1),(Kd.freshB (g:=gb323) (o:=.cells #[.string a2_0,.int .u16 a2_1,.int .u16 a2_2,.bool a2_3] 28 (0,0)) (by (with_reducible repeat first|apply qqa|apply qqb|apply qqc);exact BK323.out) k_ hk_.1),(Kd.freshB (g:=gb331) (o:=.cells #[.string t326,.int .u16 t327,.int .u16 t328,.bool t329] 28 (0,0)) (by (with_reducible repeat first|apply qqa|apply qqb|apply qqc);exact BK331.out) k_ hk_.1),(Kd.freshB (g:=gb337) (o:=.cells #[.string t332,.int .u16 t333,.int .u16 t334,.bool t335] 28 (0,0)) (by (with_reducible repeat first|apply qqa|apply qqb|apply qqc);exact BK337.out) k_ hk_.1)⟩)) (below_size (by with_reducible repeat first|exact HB.out|apply qqf|apply qqd|apply qqe|refine qqg ?_ GE322.out|refine qqg ?_ GE323.out|refine qqg ?_ GE331.out|refine qqg ?_ GE337.out)))
        have n3_:=qqm (Kd.N_lower (Kd.N_mono (ok':=fun k_=>some k_ ≠ (v341:Value).ownBlock∧some k_ ≠ (v344:Value).ownBlock∧some k_ ≠ (v347:Value).ownBlock∧k_ ≠ gb322∧k_ ≠ gb323∧k_ ≠ gb331∧k_ ≠ gb337) ho3 (fun k_ hk_=>⟨hk_.2.1,hk_.2.2.1,hk_.2.2.2,(Kd.freshB (g:=gb322) (o:=.cells #[.int .u16 a0_0,.int .u16 a0_1,.slice A0_2 l0_2.length c0_2,.slice A0_3 l0_3.length c0_3,.slice A0_4 l0_4.length c0_4,.slice A0_5 l0_5.length c0_5] 26 (0,0)) (by (with_reducible repeat first|apply qqa|apply qqb|apply qqc);exact BK322.out) k_ hk_.1),(Kd.freshB (g:=gb323) (o:=.cells #[.string a2_0,.int .u16 a2_1,.int .u16 a2_2,.bool a2_3] 28 (0,0)) (by (with_reducible repeat first|apply qqa|apply qqb|apply qqc);exact BK323.out) k_ hk_.1),(Kd.freshB (g:=gb331) (o:=.cells #[.string t326,.int .u16 t327,.int .u16 t328,.bool t329] 28 (0,0)) (by (with_reducible repeat first|apply qqa|apply qqb|apply qqc);exact BK331.out) k_ hk_.1),(Kd.freshB (g:=gb337) (o:=.cells #[.string t332,.int .u16 t333,.int .u16 t334,.bool t335] 28 (0,0)) (by (with_reducible repeat first|apply qqa|apply qqb|apply qqc);exact BK337.out) k_ hk_.1)⟩)) (below_size (by with_reducible repeat first|exact HB.out|apply qqf|apply qqd|apply qqe|refine qqg ?_ GE322.out|refine qqg ?_ GE323.out|refine qqg ?_ GE331.out|refine qqg ?_ GE337.out)))
        have n4_:=qqm (blk_below (g:=gb322) (o:=.cells #[.int .u16 a0_0,.int .u16 a0_1,.slice A0_2 l0_2.length c0_2,.slice A0_3 l0_3.length c0_3,.slice A0_4 l0_4.length c0_4,.slice A0_5 l0_5.length c0_5] 26 (0,0)) (by (with_reducible repeat first|apply qqa|apply qqb|apply qqc);exact BK322.out) hb)
        have n5_:=qqm (blk_below (g:=gb323) (o:=.cells #[.string a2_0,.int .u16 a2_1,.int .u16 a2_2,.bool a2_3] 28 (0,0)) (by (with_reducible repeat first|apply qqa|apply qqb|apply qqc);exact BK323.out) hb)
        have n6_:=qqm (blk_below (g:=gb331) (o:=.cells #[.string t326,.int .u16 t327,.int .u16 t328,.bool t329] 28 (0,0)) (by (with_reducible repeat first|apply qqa|apply qqb|apply qqc);exact BK331.out) hb)
        have n7_:=qqm (blk_below (g:=gb337) (o:=.cells #[.string t332,.int .u16 t333,.int .u16 t334,.bool t335] 28 (0,0)) (by (with_reducible repeat first|apply qqa|apply qqb|apply qqc);exact BK337.out) hb)
        have n8_:=qqm (below_step (by with_reducible repeat first|exact HB.out|apply qqf|apply qqd|apply qqe|refine qqg ?_ GE322.out|refine qqg ?_ GE323.out|refine qqg ?_ GE331.out|refine qqg ?_ GE337.out) hb)
        clear BK322
        clear BK323
        clear BK331
        clear BK337
        clear HB
        have HO342:=n0_
        have HO345:=n1_
        have HO348:=n2_
        have HO351:=n3_
        have BK322:=n4_
        have BK323:=n5_
        have BK331:=n6_
        have BK337:=n7_
        have HB:=n8_
        clear n0_ n1_ n2_ n3_ n4_ n5_ n6_ n7_ n8_
        (try clear hb)
        (try clear hb2)
        (try clear hk)
        (try clear hi)
        (try clear ho0)
        (try clear ho1)
        (try clear ho2)
        (try clear ho3)
        refine hK.out _ _ ⟨(qqh BK331.out 0).trans rfl,(qqh BK331.out 1).trans rfl,(qqh BK331.out 2).trans rfl,(qqh BK331.out 3).trans rfl,(qqh BK337.out 0).trans rfl,(qqh BK337.out 1).trans rfl,(qqh BK337.out 2).trans rfl,(qqh BK337.out 3).trans rfl,(qqh BK323.out 0).trans rfl,(qqh BK323.out 1).trans rfl,(qqh BK323.out 2).trans rfl,(qqh BK323.out 3).trans rfl,(qqh BK322.out 0).trans rfl,(qqh BK322.out 1).trans rfl,(qqh BK322.out 2).trans rfl,(qqh BK322.out 3).trans rfl,(qqh BK322.out 4).trans rfl,(qqh BK322.out 5).trans rfl⟩ (fun hHeld=>?_)
        clear hK K
        refine norm_ (a':=?_) ?_ ?_
        rotate_left
        ·
         show Act.put _ (some 43) _ = _
         simp only [Act.put,qqj,qqk,qql,i64_w,i32_w]
         rfl
        refine one_ (i:=14) (N:=some 46) (qqz 42 32767) rfl rfl (one_of HT_.out (by kernel_rfl)) (by decide) (fun K hK=>?_)
        refine goes_ Try.func15 (by kernel_rfl) rfl #[.int .u16 a1,.agg #[.string a2_0,.int .u16 a2_1,.int .u16 a2_2,.bool a2_3]] (by rfl) rfl rfl (by (try simp only [List.map_toArray,List.map_cons,List.map_nil]);first|done|rfl|(simp only [List.length_drop,List.length_take];rfl)) ?_
        with_reducible refine (nuncioref08_Make.calls a1 a2_0 a2_1 a2_2 a2_3 t352 t353 t354 t357 t360 t363 _ A25.out).mono ?_
        rintro e w50 ⟨v355,v358,v361,v364,rfl,ho0,ho1,ho2,ho3,hb⟩
        refine ⟨_,rfl,?_⟩
        have n0_:=qqm (Kd.R_elder' (by (with_reducible repeat (first|apply Kd.R_alloc|apply Kd.R_drewN|apply Kd.R_drew));exact HO342.out) (Kd.R_base ho0) hb)
        have n1_:=qqm (Kd.N_mono (Kd.N_told (Kd.N_told (Kd.N_told (Kd.N_told (Kd.N_old (by (with_reducible repeat (first|apply Kd.N_alloc|apply Kd.N_drewN|apply Kd.N_drew));exact HO345.out) hb) (Kd.R_base ho0)) (Kd.N_base ho1)) (Kd.N_base ho2)) (Kd.N_base ho3)) (fun _ h_=>h_.1))
        have n2_:=qqm (Kd.N_mono (Kd.N_told (Kd.N_told (Kd.N_told (Kd.N_told (Kd.N_old (by (with_reducible repeat (first|apply Kd.N_alloc|apply Kd.N_drewN|apply Kd.N_drew));exact HO348.out) hb) (Kd.R_base ho0)) (Kd.N_base ho1)) (Kd.N_base ho2)) (Kd.N_base ho3)) (fun _ h_=>h_.1))
        have n3_:=qqm (Kd.N_mono (Kd.N_told (Kd.N_told (Kd.N_told (Kd.N_told (Kd.N_old (by (with_reducible repeat (first|apply Kd.N_alloc|apply Kd.N_drewN|apply Kd.N_drew));exact HO351.out) hb) (Kd.R_base ho0)) (Kd.N_base ho1)) (Kd.N_base ho2)) (Kd.N_base ho3)) (fun _ h_=>h_.1))
        have n4_:=qqm (Kd.R_lower (Kd.R_new' (Kd.R_mono (ok':=fun k_=>True) ho0 (fun _ hk_=>trivial)) (Kd.R_lt (by (with_reducible repeat (first|apply Kd.R_alloc|apply Kd.R_drewN|apply Kd.R_drew));exact HO342.out))) (below_size (by with_reducible repeat first|exact HB.out|apply qqf|apply qqd|apply qqe|refine qqg ?_ GE322.out|refine qqg ?_ GE323.out|refine qqg ?_ GE331.out|refine qqg ?_ GE337.out)))
        have n5_:=qqm (Kd.N_lower (Kd.N_mono (ok':=fun k_=>some k_ ≠ (v355:Value).ownBlock∧some k_ ≠ (v361:Value).ownBlock∧some k_ ≠ (v364:Value).ownBlock∧some k_ ≠ (v341:Value).ownBlock∧some k_ ≠ (v344:Value).ownBlock∧some k_ ≠ (v347:Value).ownBlock∧some k_ ≠ (v350:Value).ownBlock∧k_ ≠ gb322∧k_ ≠ gb323∧k_ ≠ gb331∧k_ ≠ gb337) ho1 (fun k_ hk_=>⟨hk_.2.1,hk_.2.2.1,hk_.2.2.2,(Kd.fresh' (Kd.R_lt (by (with_reducible repeat (first|apply Kd.R_alloc|apply Kd.R_drewN|apply Kd.R_drew));exact HO342.out)) k_ hk_.1),(Kd.fresh' (Kd.N_lt (by (with_reducible repeat (first|apply Kd.N_alloc|apply Kd.N_drewN|apply Kd.N_drew));exact HO345.out)) k_ hk_.1),(Kd.fresh' (Kd.N_lt (by (with_reducible repeat (first|apply Kd.N_alloc|apply Kd.N_drewN|apply Kd.N_drew));exact HO348.out)) k_ hk_.1),(Kd.fresh' (Kd.N_lt (by (with_reducible repeat (first|apply Kd.N_alloc|apply Kd.N_drewN|apply Kd.N_drew));exact HO351.out)) k_ hk_.1),(Kd.freshB (g:=gb322) (o:=.cells #[.int .u16 a0_0,.int .u16 a0_1,.slice A0_2 l0_2.length c0_2,.slice A0_3 l0_3.length c0_3,.slice A0_4 l0_4.length c0_4,.slice A0_5 l0_5.length c0_5] 26 (0,0)) (by (with_reducible repeat first|apply qqa|apply qqb|apply qqc);exact BK322.out) k_ hk_.1),(Kd.freshB (g:=gb323) (o:=.cells #[.string a2_0,.int .u16 a2_1,.int .u16 a2_2,.bool a2_3] 28 (0,0)) (by (with_reducible repeat first|apply qqa|apply qqb|apply qqc);exact BK323.out) k_ hk_.1),(Kd.freshB (g:=gb331) (o:=.cells #[.string t326,.int .u16 t327,.int .u16 t328,.bool t329] 28 (0,0)) (by (with_reducible repeat first|apply qqa|apply qqb|apply qqc);exact BK331.out) k_ hk_.1),(Kd.freshB (g:=gb337) (o:=.cells #[.string t332,.int .u16 t333,.int .u16 t334,.bool t335] 28 (0,0)) (by (with_reducible repeat first|apply qqa|apply qqb|apply qqc);exact BK337.out) k_ hk_.1)⟩)) (below_size (by with_reducible repeat first|exact HB.out|apply qqf|apply qqd|apply qqe|refine qqg ?_ GE322.out|refine qqg ?_ GE323.out|refine qqg ?_ GE331.out|refine qqg ?_ GE337.out)))
        have n6_:=qqm (Kd.N_lower (Kd.N_mono (ok':=fun k_=>some k_ ≠ (v355:Value).ownBlock∧some k_ ≠ (v358:Value).ownBlock∧some k_ ≠ (v364:Value).ownBlock∧some k_ ≠ (v341:Value).ownBlock∧some k_ ≠ (v344:Value).ownBlock∧some k_ ≠ (v347:Value).ownBlock∧some k_ ≠ (v350:Value).ownBlock∧k_ ≠ gb322∧k_ ≠ gb323∧k_ ≠ gb331∧k_ ≠ gb337) ho2 (fun k_ hk_=>⟨hk_.2.1,hk_.2.2.1,hk_.2.2.2,(Kd.fresh' (Kd.R_lt (by (with_reducible repeat (first|apply Kd.R_alloc|apply Kd.R_drewN|apply Kd.R_drew));exact HO342.out)) k_ hk_.1),(Kd.fresh' (Kd.N_lt (by (with_reducible repeat (first|apply Kd.N_alloc|apply Kd.N_drewN|apply Kd.N_drew));exact HO345.out)) k_ hk_.1),(Kd.fresh' (Kd.N_lt (by (with_reducible repeat (first|apply Kd.N_alloc|apply Kd.N_drewN|apply Kd.N_drew));exact HO348.out)) k_ hk_.1),(Kd.fresh' (Kd.N_lt (by (with_reducible repeat (first|apply Kd.N_alloc|apply Kd.N_drewN|apply Kd.N_drew));exact HO351.out)) k_ hk_.1),(Kd.freshB (g:=gb322) (o:=.cells #[.int .u16 a0_0,.int .u16 a0_1,.slice A0_2 l0_2.length c0_2,.slice A0_3 l0_3.length c0_3,.slice A0_4 l0_4.length c0_4,.slice A0_5 l0_5.length c0_5] 26 (0,0)) (by (with_reducible repeat first|apply qqa|apply qqb|apply qqc);exact BK322.out) k_ hk_.1),(Kd.freshB (g:=gb323) (o:=.cells #[.string a2_0,.int .u16 a2_1,.int .u16 a2_2,.bool a2_3] 28 (0,0)) (by (with_reducible repeat first|apply qqa|apply qqb|apply qqc);exact BK323.out) k_ hk_.1),(Kd.freshB (g:=gb331) (o:=.cells #[.string t326,.int .u16 t327,.int .u16 t328,.bool t329] 28 (0,0)) (by (with_reducible repeat first|apply qqa|apply qqb|apply qqc);exact BK331.out) k_ hk_.1),(Kd.freshB (g:=gb337) (o:=.cells #[.string t332,.int .u16 t333,.int .u16 t334,.bool t335] 28 (0,0)) (by (with_reducible repeat first|apply qqa|apply qqb|apply qqc);exact BK337.out) k_ hk_.1)⟩)) (below_size (by with_reducible repeat first|exact HB.out|apply qqf|apply qqd|apply qqe|refine qqg ?_ GE322.out|refine qqg ?_ GE323.out|refine qqg ?_ GE331.out|refine qqg ?_ GE337.out)))
        have n7_:=qqm (Kd.N_lower (Kd.N_mono (ok':=fun k_=>some k_ ≠ (v355:Value).ownBlock∧some k_ ≠ (v358:Value).ownBlock∧some k_ ≠ (v361:Value).ownBlock∧some k_ ≠ (v341:Value).ownBlock∧some k_ ≠ (v344:Value).ownBlock∧some k_ ≠ (v347:Value).ownBlock∧some k_ ≠ (v350:Value).ownBlock∧k_ ≠ gb322∧k_ ≠ gb323∧k_ ≠ gb331∧k_ ≠ gb337) ho3 (fun k_ hk_=>⟨hk_.2.1,hk_.2.2.1,hk_.2.2.2,(Kd.fresh' (Kd.R_lt (by (with_reducible repeat (first|apply Kd.R_alloc|apply Kd.R_drewN|apply Kd.R_drew));exact HO342.out)) k_ hk_.1),(Kd.fresh' (Kd.N_lt (by (with_reducible repeat (first|apply Kd.N_alloc|apply Kd.N_drewN|apply Kd.N_drew));exact HO345.out)) k_ hk_.1),(Kd.fresh' (Kd.N_lt (by (with_reducible repeat (first|apply Kd.N_alloc|apply Kd.N_drewN|apply Kd.N_drew));exact HO348.out)) k_ hk_.1),(Kd.fresh' (Kd.N_lt (by (with_reducible repeat (first|apply Kd.N_alloc|apply Kd.N_drewN|apply Kd.N_drew));exact HO351.out)) k_ hk_.1),(Kd.freshB (g:=gb322) (o:=.cells #[.int .u16 a0_0,.int .u16 a0_1,.slice A0_2 l0_2.length c0_2,.slice A0_3 l0_3.length c0_3,.slice A0_4 l0_4.length c0_4,.slice A0_5 l0_5.length c0_5] 26 (0,0)) (by (with_reducible repeat first|apply qqa|apply qqb|apply qqc);exact BK322.out) k_ hk_.1),(Kd.freshB (g:=gb323) (o:=.cells #[.string a2_0,.int .u16 a2_1,.int .u16 a2_2,.bool a2_3] 28 (0,0)) (by (with_reducible repeat first|apply qqa|apply qqb|apply qqc);exact BK323.out) k_ hk_.1),(Kd.freshB (g:=gb331) (o:=.cells #[.string t326,.int .u16 t327,.int .u16 t328,.bool t329] 28 (0,0)) (by (with_reducible repeat first|apply qqa|apply qqb|apply qqc);exact BK331.out) k_ hk_.1),(Kd.freshB (g:=gb337) (o:=.cells #[.string t332,.int .u16 t333,.int .u16 t334,.bool t335] 28 (0,0)) (by (with_reducible repeat first|apply qqa|apply qqb|apply qqc);exact BK337.out) k_ hk_.1)⟩)) (below_size (by with_reducible repeat first|exact HB.out|apply qqf|apply qqd|apply qqe|refine qqg ?_ GE322.out|refine qqg ?_ GE323.out|refine qqg ?_ GE331.out|refine qqg ?_ GE337.out)))
        have n8_:=qqm (blk_below (g:=gb322) (o:=.cells #[.int .u16 a0_0,.int .u16 a0_1,.slice A0_2 l0_2.length c0_2,.slice A0_3 l0_3.length c0_3,.slice A0_4 l0_4.length c0_4,.slice A0_5 l0_5.length c0_5] 26 (0,0)) (by (with_reducible repeat first|apply qqa|apply qqb|apply qqc);exact BK322.out) hb)
        have n9_:=qqm (blk_below (g:=gb323) (o:=.cells #[.string a2_0,.int .u16 a2_1,.int .u16 a2_2,.bool a2_3] 28 (0,0)) (by (with_reducible repeat first|apply qqa|apply qqb|apply qqc);exact BK323.out) hb)
        have n10_:=qqm (blk_below (g:=gb331) (o:=.cells #[.string t326,.int .u16 t327,.int .u16 t328,.bool t329] 28 (0,0)) (by (with_reducible repeat first|apply qqa|apply qqb|apply qqc);exact BK331.out) hb)
        have n11_:=qqm (blk_below (g:=gb337) (o:=.cells #[.string t332,.int .u16 t333,.int .u16 t334,.bool t335] 28 (0,0)) (by (with_reducible repeat first|apply qqa|apply qqb|apply qqc);exact BK337.out) hb)
        have n12_:=qqm (below_step (by with_reducible repeat first|exact HB.out|apply qqf|apply qqd|apply qqe|refine qqg ?_ GE322.out|refine qqg ?_ GE323.out|refine qqg ?_ GE331.out|refine qqg ?_ GE337.out) hb)
        clear HO342
        clear HO345
        clear HO348
        clear HO351
        clear BK322
        clear BK323
        clear BK331
        clear BK337
        clear HB
        have HO342:=n0_
        have HO345:=n1_
        have HO348:=n2_
        have HO351:=n3_
        have HO356:=n4_
        have HO359:=n5_
        have HO362:=n6_
        have HO365:=n7_
        have BK322:=n8_
        have BK323:=n9_
        have BK331:=n10_
        have BK337:=n11_
        have HB:=n12_
        clear n0_ n1_ n2_ n3_ n4_ n5_ n6_ n7_ n8_ n9_ n10_ n11_ n12_
        (try clear hb)
        (try clear hb2)
        (try clear hk)
        (try clear hi)
        (try clear ho0)
        (try clear ho1)
        (try clear ho2)
        (try clear ho3)
        obtain ⟨Ao51,co51,eo51⟩:=Kd.R_slice HO342.out
        (first|subst eo51|(injection eo51 with f1_ f2_ f3_;have f4_:=f1_.symm;have f5_:=f3_.symm;clear f1_ f2_ f3_;subst f4_;subst f5_))
        obtain ⟨Ao52,co52,eo52⟩:=Kd.N_slice HO345.out
        (first|subst eo52|(injection eo52 with f1_ f2_ f3_;have f4_:=f1_.symm;have f5_:=f3_.symm;clear f1_ f2_ f3_;subst f4_;subst f5_))
        obtain ⟨Ao53,co53,eo53⟩:=Kd.N_slice HO348.out
        (first|subst eo53|(injection eo53 with f1_ f2_ f3_;have f4_:=f1_.symm;have f5_:=f3_.symm;clear f1_ f2_ f3_;subst f4_;subst f5_))
        obtain ⟨Ao54,co54,eo54⟩:=Kd.N_slice HO351.out
        (first|subst eo54|(injection eo54 with f1_ f2_ f3_;have f4_:=f1_.symm;have f5_:=f3_.symm;clear f1_ f2_ f3_;subst f4_;subst f5_))
        obtain ⟨Ao55,co55,eo55⟩:=Kd.R_slice HO356.out
        (first|subst eo55|(injection eo55 with f1_ f2_ f3_;have f4_:=f1_.symm;have f5_:=f3_.symm;clear f1_ f2_ f3_;subst f4_;subst f5_))
        obtain ⟨Ao56,co56,eo56⟩:=Kd.N_slice HO359.out
        (first|subst eo56|(injection eo56 with f1_ f2_ f3_;have f4_:=f1_.symm;have f5_:=f3_.symm;clear f1_ f2_ f3_;subst f4_;subst f5_))
        obtain ⟨Ao57,co57,eo57⟩:=Kd.N_slice HO362.out
        (first|subst eo57|(injection eo57 with f1_ f2_ f3_;have f4_:=f1_.symm;have f5_:=f3_.symm;clear f1_ f2_ f3_;subst f4_;subst f5_))
        obtain ⟨Ao58,co58,eo58⟩:=Kd.N_slice HO365.out
        (first|subst eo58|(injection eo58 with f1_ f2_ f3_;have f4_:=f1_.symm;have f5_:=f3_.symm;clear f1_ f2_ f3_;subst f4_;subst f5_))
        refine hK.out _ _ ⟨(qqh BK331.out 0).trans rfl,(qqh BK331.out 1).trans rfl,(qqh BK331.out 2).trans rfl,(qqh BK331.out 3).trans rfl,(qqh BK337.out 0).trans rfl,(qqh BK337.out 1).trans rfl,(qqh BK337.out 2).trans rfl,(qqh BK337.out 3).trans rfl,(qqh BK323.out 0).trans rfl,(qqh BK323.out 1).trans rfl,(qqh BK323.out 2).trans rfl,(qqh BK323.out 3).trans rfl,(qqh BK322.out 0).trans rfl,(qqh BK322.out 1).trans rfl,(qqh BK322.out 2).trans rfl,(qqh BK322.out 3).trans rfl,(qqh BK322.out 4).trans rfl,(qqh BK322.out 5).trans rfl⟩ (fun hHeld=>?_)
        clear hK K
        refine norm_ (a':=?_) ?_ ?_
        rotate_left
        ·
         show Act.put _ (some 46) _ = _
         simp only [Act.put,qqj,qqk,qql,i64_w,i32_w]
         rfl
        refine one_ (i:=15) (N:=some 47) (qqz 42 65535) rfl rfl (one_of HT_.out (by kernel_rfl)) (by decide) (fun K hK=>?_)
        refine goes_ Try.func13 (by kernel_rfl) rfl #[.agg #[.int .u16 t338,.int .u16 t339,.slice Ao51 t340.length co51,.slice Ao52 t343.length co52,.slice Ao53 t346.length co53,.slice Ao54 t349.length co54],.agg #[.int .u16 t352,.int .u16 t353,.slice Ao55 t354.length co55,.slice Ao56 t357.length co56,.slice Ao57 t360.length co57,.slice Ao58 t363.length co58]] (by rfl) rfl rfl (by (try simp only [List.map_toArray,List.map_cons,List.map_nil]);first|done|rfl|(simp only [List.length_drop,List.length_take];rfl)) ?_
        with_reducible refine (nuncioref06_Same.calls kj5 t338 t339 _ _ t340 _ _ t343 _ _ t346 _ _ t349 t352 t353 _ _ t354 _ _ t357 _ _ t360 _ _ t363 true _ ?side1 ?side2 ?side3 ?side4 ?side5 ?side6 ?side7 ?side8 ?side9 ?side10 ?side11 ?side12 ?side13 ?side14 ?side15 ?side16 A26.out).mono ?_
        (case side1=>repeat (first|exact (Kd.R_reads' HO342.out).2.2|(with_reducible first|apply Kd.C_alloc|apply Kd.C_drewN|apply Kd.C_drew)))
        (case side2=>exact (Kd.R_reads' HO342.out).2.1)
        (case side3=>repeat (first|exact (Kd.N_reads' HO345.out).2.2|(with_reducible first|apply Kd.C_alloc|apply Kd.C_drewN|apply Kd.C_drew)))
        (case side4=>exact (Kd.N_reads' HO345.out).2.1)
        (case side5=>repeat (first|exact (Kd.N_reads' HO348.out).2.2|(with_reducible first|apply Kd.C_alloc|apply Kd.C_drewN|apply Kd.C_drew)))
        (case side6=>exact (Kd.N_reads' HO348.out).2.1)
        (case side7=>repeat (first|exact (Kd.N_reads' HO351.out).2.2|(with_reducible first|apply Kd.C_alloc|apply Kd.C_drewN|apply Kd.C_drew)))
        (case side8=>exact (Kd.N_reads' HO351.out).2.1)
        (case side9=>repeat (first|exact (Kd.R_reads' HO356.out).2.2|(with_reducible first|apply Kd.C_alloc|apply Kd.C_drewN|apply Kd.C_drew)))
        (case side10=>exact (Kd.R_reads' HO356.out).2.1)
        (case side11=>repeat (first|exact (Kd.N_reads' HO359.out).2.2|(with_reducible first|apply Kd.C_alloc|apply Kd.C_drewN|apply Kd.C_drew)))
        (case side12=>exact (Kd.N_reads' HO359.out).2.1)
        (case side13=>repeat (first|exact (Kd.N_reads' HO362.out).2.2|(with_reducible first|apply Kd.C_alloc|apply Kd.C_drewN|apply Kd.C_drew)))
        (case side14=>exact (Kd.N_reads' HO362.out).2.1)
        (case side15=>repeat (first|exact (Kd.N_reads' HO365.out).2.2|(with_reducible first|apply Kd.C_alloc|apply Kd.C_drewN|apply Kd.C_drew)))
        (case side16=>exact (Kd.N_reads' HO365.out).2.1)
        rintro e w59 ⟨rfl,hb⟩
        refine ⟨_,rfl,?_⟩
        have n0_:=qqm (Kd.R_below (by (with_reducible repeat (first|apply Kd.R_alloc|apply Kd.R_drewN|apply Kd.R_drew));exact HO342.out) hb)
        have n1_:=qqm (Kd.N_below (by (with_reducible repeat (first|apply Kd.N_alloc|apply Kd.N_drewN|apply Kd.N_drew));exact HO345.out) hb)
        have n2_:=qqm (Kd.N_below (by (with_reducible repeat (first|apply Kd.N_alloc|apply Kd.N_drewN|apply Kd.N_drew));exact HO348.out) hb)
        have n3_:=qqm (Kd.N_below (by (with_reducible repeat (first|apply Kd.N_alloc|apply Kd.N_drewN|apply Kd.N_drew));exact HO351.out) hb)
        have n4_:=qqm (Kd.R_below (by (with_reducible repeat (first|apply Kd.R_alloc|apply Kd.R_drewN|apply Kd.R_drew));exact HO356.out) hb)
        have n5_:=qqm (Kd.N_below (by (with_reducible repeat (first|apply Kd.N_alloc|apply Kd.N_drewN|apply Kd.N_drew));exact HO359.out) hb)
        have n6_:=qqm (Kd.N_below (by (with_reducible repeat (first|apply Kd.N_alloc|apply Kd.N_drewN|apply Kd.N_drew));exact HO362.out) hb)
        have n7_:=qqm (Kd.N_below (by (with_reducible repeat (first|apply Kd.N_alloc|apply Kd.N_drewN|apply Kd.N_drew));exact HO365.out) hb)
        have n8_:=qqm (blk_below (g:=gb322) (o:=.cells #[.int .u16 a0_0,.int .u16 a0_1,.slice A0_2 l0_2.length c0_2,.slice A0_3 l0_3.length c0_3,.slice A0_4 l0_4.length c0_4,.slice A0_5 l0_5.length c0_5] 26 (0,0)) (by (with_reducible repeat first|apply qqa|apply qqb|apply qqc);exact BK322.out) hb)
        have n9_:=qqm (blk_below (g:=gb323) (o:=.cells #[.string a2_0,.int .u16 a2_1,.int .u16 a2_2,.bool a2_3] 28 (0,0)) (by (with_reducible repeat first|apply qqa|apply qqb|apply qqc);exact BK323.out) hb)
        have n10_:=qqm (blk_below (g:=gb331) (o:=.cells #[.string t326,.int .u16 t327,.int .u16 t328,.bool t329] 28 (0,0)) (by (with_reducible repeat first|apply qqa|apply qqb|apply qqc);exact BK331.out) hb)
        have n11_:=qqm (blk_below (g:=gb337) (o:=.cells #[.string t332,.int .u16 t333,.int .u16 t334,.bool t335] 28 (0,0)) (by (with_reducible repeat first|apply qqa|apply qqb|apply qqc);exact BK337.out) hb)
        have n12_:=qqm (below_step (by with_reducible repeat first|exact HB.out|apply qqf|apply qqd|apply qqe|refine qqg ?_ GE322.out|refine qqg ?_ GE323.out|refine qqg ?_ GE331.out|refine qqg ?_ GE337.out) hb)
        clear HO342
        clear HO345
        clear HO348
        clear HO351
        clear HO356
        clear HO359
        clear HO362
        clear HO365
        clear BK322
        clear BK323
        clear BK331
        clear BK337
        clear HB
        have HO342:=n0_
        have HO345:=n1_
        have HO348:=n2_
        have HO351:=n3_
        have HO356:=n4_
        have HO359:=n5_
        have HO362:=n6_
        have HO365:=n7_
        have BK322:=n8_
        have BK323:=n9_
        have BK331:=n10_
        have BK337:=n11_
        have HB:=n12_
        clear n0_ n1_ n2_ n3_ n4_ n5_ n6_ n7_ n8_ n9_ n10_ n11_ n12_
        (try clear hb)
        (try clear hb2)
        (try clear hk)
        (try clear hi)
        refine hK.out _ _ ⟨(qqh BK331.out 0).trans rfl,(qqh BK331.out 1).trans rfl,(qqh BK331.out 2).trans rfl,(qqh BK331.out 3).trans rfl,(qqh BK337.out 0).trans rfl,(qqh BK337.out 1).trans rfl,(qqh BK337.out 2).trans rfl,(qqh BK337.out 3).trans rfl,(qqh BK323.out 0).trans rfl,(qqh BK323.out 1).trans rfl,(qqh BK323.out 2).trans rfl,(qqh BK323.out 3).trans rfl,(qqh BK322.out 0).trans rfl,(qqh BK322.out 1).trans rfl,(qqh BK322.out 2).trans rfl,(qqh BK322.out 3).trans rfl,(qqh BK322.out 4).trans rfl,(qqh BK322.out 5).trans rfl⟩ (fun hHeld=>?_)
        clear hK K
        refine norm_ (a':=?_) ?_ ?_
        rotate_left
        ·
         show Act.put _ (some 47) _ = _
         simp only [Act.put,qqj,qqk,qql,i64_w,i32_w]
         rfl
        refine pure_ (i:=16) (N:=some 48) (qqz 42 131071) rfl rfl (any_of HT_.out (by kernel_rfl)) (fun _ _ _ h=>h) (Or.inl ⟨by rfl,by intro w';go_simp;with_reducible rfl⟩) (by simp only [Act.put,qqj,qqk,qql,i64_w,i32_w];rfl) ?_
        refine pure_ (i:=17) (N:=some 49) (qqz 42 262143) rfl rfl (any_of HT_.out (by kernel_rfl)) (fun _ _ _ h=>h) (Or.inl ⟨by rfl,by intro w';go_simp;with_reducible rfl⟩) (by simp only [Act.put,qqj,qqk,qql,i64_w,i32_w];rfl) ?_
        refine pure_ (i:=19) (N:=some 51) (qqz 42 786431) rfl rfl (any_of HT_.out (by kernel_rfl)) (fun _ _ _ h=>h) (Or.inl ⟨by rfl,by intro w';go_simp;with_reducible rfl⟩) (by simp only [Act.put,qqj,qqk,qql,i64_w,i32_w];rfl) ?_
        refine pure_ (i:=23) (N:=some 55) (qqz 42 9175039) rfl rfl (any_of HT_.out (by kernel_rfl)) (fun _ _ _ h=>h) (Or.inl ⟨by rfl,by intro w';go_simp;with_reducible rfl⟩) (by simp only [Act.put,qqj,qqk,qql,i64_w,i32_w];rfl) ?_
        refine take_ (i:=18) (N:=some 50) (qqz 42 9437183) rfl rfl (take_ofW HT_.out HW_.out (by kernel_rfl)) (fun _ _ _ h=>h) (Or.inl ⟨by rfl,by rintro w' ⟨s0,s1,s2,s3,s4,s5,s6,s7,s8,s9,s10,s11,s12,s13,s14,s15,s16,s17⟩;go_simp;with_reducible rfl⟩) hHeld (by simp only [Act.put,qqj,qqk,qql,i64_w,i32_w];rfl) ?_
        refine take_ (i:=20) (N:=some 52) (qqz 42 10485759) rfl rfl (take_ofW HT_.out HW_.out (by kernel_rfl)) (fun _ _ _ h=>h) (Or.inl ⟨by rfl,by rintro w' ⟨s0,s1,s2,s3,s4,s5,s6,s7,s8,s9,s10,s11,s12,s13,s14,s15,s16,s17⟩;go_simp;with_reducible rfl⟩) hHeld (by simp only [Act.put,qqj,qqk,qql,i64_w,i32_w];rfl) ?_
        refine take_ (i:=22) (N:=some 54) (qqz 42 14680063) rfl rfl (take_ofW HT_.out HW_.out (by kernel_rfl)) (fun _ _ _ h=>h) (Or.inl ⟨by rfl,by rintro w' ⟨s0,s1,s2,s3,s4,s5,s6,s7,s8,s9,s10,s11,s12,s13,s14,s15,s16,s17⟩;go_simp;with_reducible rfl⟩) hHeld (by simp only [Act.put,qqj,qqk,qql,i64_w,i32_w];rfl) ?_
        refine take_ (i:=24) (N:=some 56) (qqz 42 31457279) rfl rfl (take_ofW HT_.out HW_.out (by kernel_rfl)) (fun _ _ _ h=>h) (Or.inl ⟨by rfl,by rintro w' ⟨s0,s1,s2,s3,s4,s5,s6,s7,s8,s9,s10,s11,s12,s13,s14,s15,s16,s17⟩;go_simp;with_reducible rfl⟩) hHeld (by simp only [Act.put,qqj,qqk,qql,i64_w,i32_w];rfl) ?_
        refine one_ (i:=21) (N:=some 53) (qqz 42 33554431) rfl rfl (one_of HT_.out (by kernel_rfl)) (by decide) (fun K hK=>?_)
        refine goes_ Try.func16 (by kernel_rfl) rfl #[.agg #[.string a2_0,.int .u16 a2_1,.int .u16 a2_2,.bool a2_3],.int .u16 a1,.agg #[.int .u16 a0_0,.int .u16 a0_1,.slice A0_2 l0_2.length c0_2,.slice A0_3 l0_3.length c0_3,.slice A0_4 l0_4.length c0_4,.slice A0_5 l0_5.length c0_5]] (by rfl) rfl rfl (by (try simp only [List.map_toArray,List.map_cons,List.map_nil]);first|done|rfl|(simp only [List.length_drop,List.length_take];rfl)) ?_
        with_reducible refine (query_Fits.calls kj5 a2_0 a2_1 a2_2 a2_3 a1 a0_0 a0_1 _ _ l0_2 _ _ l0_3 _ _ l0_4 _ _ l0_5 t367 _ ?side1 ?side2 ?side3 ?side4 ?side5 ?side6 ?side7 ?side8 A28.out).mono ?_
        (case side1=>repeat (first|exact (Kd.C_below HR0_2.out HB.out)|(with_reducible first|apply Kd.C_alloc|apply Kd.C_drewN|apply Kd.C_drew)))
        (case side2=>exact HC0_2.out)
        (case side3=>repeat (first|exact (Kd.C_below HR0_3.out HB.out)|(with_reducible first|apply Kd.C_alloc|apply Kd.C_drewN|apply Kd.C_drew)))
        (case side4=>exact HC0_3.out)
        (case side5=>repeat (first|exact (Kd.C_below HR0_4.out HB.out)|(with_reducible first|apply Kd.C_alloc|apply Kd.C_drewN|apply Kd.C_drew)))
        (case side6=>exact HC0_4.out)
        (case side7=>repeat (first|exact (Kd.C_below HR0_5.out HB.out)|(with_reducible first|apply Kd.C_alloc|apply Kd.C_drewN|apply Kd.C_drew)))
        (case side8=>exact HC0_5.out)
        rintro e w60 ⟨rfl,hb⟩
        refine ⟨_,rfl,?_⟩
        have n0_:=qqm (Kd.R_below (by (with_reducible repeat (first|apply Kd.R_alloc|apply Kd.R_drewN|apply Kd.R_drew));exact HO342.out) hb)
        have n1_:=qqm (Kd.N_below (by (with_reducible repeat (first|apply Kd.N_alloc|apply Kd.N_drewN|apply Kd.N_drew));exact HO345.out) hb)
        have n2_:=qqm (Kd.N_below (by (with_reducible repeat (first|apply Kd.N_alloc|apply Kd.N_drewN|apply Kd.N_drew));exact HO348.out) hb)
        have n3_:=qqm (Kd.N_below (by (with_reducible repeat (first|apply Kd.N_alloc|apply Kd.N_drewN|apply Kd.N_drew));exact HO351.out) hb)
        have n4_:=qqm (Kd.R_below (by (with_reducible repeat (first|apply Kd.R_alloc|apply Kd.R_drewN|apply Kd.R_drew));exact HO356.out) hb)
        have n5_:=qqm (Kd.N_below (by (with_reducible repeat (first|apply Kd.N_alloc|apply Kd.N_drewN|apply Kd.N_drew));exact HO359.out) hb)
        have n6_:=qqm (Kd.N_below (by (with_reducible repeat (first|apply Kd.N_alloc|apply Kd.N_drewN|apply Kd.N_drew));exact HO362.out) hb)
        have n7_:=qqm (Kd.N_below (by (with_reducible repeat (first|apply Kd.N_alloc|apply Kd.N_drewN|apply Kd.N_drew));exact HO365.out) hb)
        have n8_:=qqm (blk_below (g:=gb322) (o:=.cells #[.int .u16 a0_0,.int .u16 a0_1,.slice A0_2 l0_2.length c0_2,.slice A0_3 l0_3.length c0_3,.slice A0_4 l0_4.length c0_4,.slice A0_5 l0_5.length c0_5] 26 (0,0)) (by (with_reducible repeat first|apply qqa|apply qqb|apply qqc);exact BK322.out) hb)
        have n9_:=qqm (blk_below (g:=gb323) (o:=.cells #[.string a2_0,.int .u16 a2_1,.int .u16 a2_2,.bool a2_3] 28 (0,0)) (by (with_reducible repeat first|apply qqa|apply qqb|apply qqc);exact BK323.out) hb)
        have n10_:=qqm (blk_below (g:=gb331) (o:=.cells #[.string t326,.int .u16 t327,.int .u16 t328,.bool t329] 28 (0,0)) (by (with_reducible repeat first|apply qqa|apply qqb|apply qqc);exact BK331.out) hb)
        have n11_:=qqm (blk_below (g:=gb337) (o:=.cells #[.string t332,.int .u16 t333,.int .u16 t334,.bool t335] 28 (0,0)) (by (with_reducible repeat first|apply qqa|apply qqb|apply qqc);exact BK337.out) hb)
        have n12_:=qqm (below_step (by with_reducible repeat first|exact HB.out|apply qqf|apply qqd|apply qqe|refine qqg ?_ GE322.out|refine qqg ?_ GE323.out|refine qqg ?_ GE331.out|refine qqg ?_ GE337.out) hb)
        clear HO342
        clear HO345
        clear HO348
        clear HO351
        clear HO356
        clear HO359
        clear HO362
        clear HO365
        clear BK322
        clear BK323
        clear BK331
        clear BK337
        clear HB
        have HO342:=n0_
        have HO345:=n1_
        have HO348:=n2_
        have HO351:=n3_
        have HO356:=n4_
        have HO359:=n5_
        have HO362:=n6_
        have HO365:=n7_
        have BK322:=n8_
        have BK323:=n9_
        have BK331:=n10_
        have BK337:=n11_
        have HB:=n12_
        clear n0_ n1_ n2_ n3_ n4_ n5_ n6_ n7_ n8_ n9_ n10_ n11_ n12_
        (try clear hb)
        (try clear hb2)
        (try clear hk)
        (try clear hi)
        refine hK.out _ _ ⟨(qqh BK331.out 0).trans rfl,(qqh BK331.out 1).trans rfl,(qqh BK331.out 2).trans rfl,(qqh BK331.out 3).trans rfl,(qqh BK337.out 0).trans rfl,(qqh BK337.out 1).trans rfl,(qqh BK337.out 2).trans rfl,(qqh BK337.out 3).trans rfl,(qqh BK323.out 0).trans rfl,(qqh BK323.out 1).trans rfl,(qqh BK323.out 2).trans rfl,(qqh BK323.out 3).trans rfl,(qqh BK322.out 0).trans rfl,(qqh BK322.out 1).trans rfl,(qqh BK322.out 2).trans rfl,(qqh BK322.out 3).trans rfl,(qqh BK322.out 4).trans rfl,(qqh BK322.out 5).trans rfl⟩ (fun hHeld=>?_)
        clear hK K
        refine norm_ (a':=?_) ?_ ?_
        rotate_left
        ·
         show Act.put _ (some 53) _ = _
         simp only [Act.put,qqj,qqk,qql,i64_w,i32_w]
         rfl
        refine one_ (i:=25) (N:=some 57) (qqz 42 67108863) rfl rfl (one_of HT_.out (by kernel_rfl)) (by decide) (fun K hK=>?_)
        refine goes_ Try.func17 (by kernel_rfl) rfl #[.agg #[.string a2_0,.int .u16 a2_1,.int .u16 a2_2,.bool a2_3],.int .u16 a1,.agg #[.int .u16 a0_0,.int .u16 a0_1,.slice A0_2 l0_2.length c0_2,.slice A0_3 l0_3.length c0_3,.slice A0_4 l0_4.length c0_4,.slice A0_5 l0_5.length c0_5]] (by rfl) rfl rfl (by (try simp only [List.map_toArray,List.map_cons,List.map_nil]);first|done|rfl|(simp only [List.length_drop,List.length_take];rfl)) ?_
        with_reducible refine (nuncioref08_Fits.calls kj5 a2_0 a2_1 a2_2 a2_3 a1 a0_0 a0_1 _ _ l0_2 _ _ l0_3 _ _ l0_4 _ _ l0_5 t368 _ ?side1 ?side2 ?side3 ?side4 ?side5 ?side6 ?side7 ?side8 A29.out).mono ?_
        (case side1=>repeat (first|exact (Kd.C_below HR0_2.out HB.out)|(with_reducible first|apply Kd.C_alloc|apply Kd.C_drewN|apply Kd.C_drew)))
        (case side2=>exact HC0_2.out)
        (case side3=>repeat (first|exact (Kd.C_below HR0_3.out HB.out)|(with_reducible first|apply Kd.C_alloc|apply Kd.C_drewN|apply Kd.C_drew)))
        (case side4=>exact HC0_3.out)
        (case side5=>repeat (first|exact (Kd.C_below HR0_4.out HB.out)|(with_reducible first|apply Kd.C_alloc|apply Kd.C_drewN|apply Kd.C_drew)))
        (case side6=>exact HC0_4.out)
        (case side7=>repeat (first|exact (Kd.C_below HR0_5.out HB.out)|(with_reducible first|apply Kd.C_alloc|apply Kd.C_drewN|apply Kd.C_drew)))
        (case side8=>exact HC0_5.out)
        rintro e w61 ⟨rfl,hb⟩
        refine ⟨_,rfl,?_⟩
        have n0_:=qqm (Kd.R_below (by (with_reducible repeat (first|apply Kd.R_alloc|apply Kd.R_drewN|apply Kd.R_drew));exact HO342.out) hb)
        have n1_:=qqm (Kd.N_below (by (with_reducible repeat (first|apply Kd.N_alloc|apply Kd.N_drewN|apply Kd.N_drew));exact HO345.out) hb)
        have n2_:=qqm (Kd.N_below (by (with_reducible repeat (first|apply Kd.N_alloc|apply Kd.N_drewN|apply Kd.N_drew));exact HO348.out) hb)
        have n3_:=qqm (Kd.N_below (by (with_reducible repeat (first|apply Kd.N_alloc|apply Kd.N_drewN|apply Kd.N_drew));exact HO351.out) hb)
        have n4_:=qqm (Kd.R_below (by (with_reducible repeat (first|apply Kd.R_alloc|apply Kd.R_drewN|apply Kd.R_drew));exact HO356.out) hb)
        have n5_:=qqm (Kd.N_below (by (with_reducible repeat (first|apply Kd.N_alloc|apply Kd.N_drewN|apply Kd.N_drew));exact HO359.out) hb)
        have n6_:=qqm (Kd.N_below (by (with_reducible repeat (first|apply Kd.N_alloc|apply Kd.N_drewN|apply Kd.N_drew));exact HO362.out) hb)
        have n7_:=qqm (Kd.N_below (by (with_reducible repeat (first|apply Kd.N_alloc|apply Kd.N_drewN|apply Kd.N_drew));exact HO365.out) hb)
        have n8_:=qqm (blk_below (g:=gb322) (o:=.cells #[.int .u16 a0_0,.int .u16 a0_1,.slice A0_2 l0_2.length c0_2,.slice A0_3 l0_3.length c0_3,.slice A0_4 l0_4.length c0_4,.slice A0_5 l0_5.length c0_5] 26 (0,0)) (by (with_reducible repeat first|apply qqa|apply qqb|apply qqc);exact BK322.out) hb)
        have n9_:=qqm (blk_below (g:=gb323) (o:=.cells #[.string a2_0,.int .u16 a2_1,.int .u16 a2_2,.bool a2_3] 28 (0,0)) (by (with_reducible repeat first|apply qqa|apply qqb|apply qqc);exact BK323.out) hb)
        have n10_:=qqm (blk_below (g:=gb331) (o:=.cells #[.string t326,.int .u16 t327,.int .u16 t328,.bool t329] 28 (0,0)) (by (with_reducible repeat first|apply qqa|apply qqb|apply qqc);exact BK331.out) hb)
        have n11_:=qqm (blk_below (g:=gb337) (o:=.cells #[.string t332,.int .u16 t333,.int .u16 t334,.bool t335] 28 (0,0)) (by (with_reducible repeat first|apply qqa|apply qqb|apply qqc);exact BK337.out) hb)
        have n12_:=qqm (below_step (by with_reducible repeat first|exact HB.out|apply qqf|apply qqd|apply qqe|refine qqg ?_ GE322.out|refine qqg ?_ GE323.out|refine qqg ?_ GE331.out|refine qqg ?_ GE337.out) hb)
        clear HO342
        clear HO345
        clear HO348
        clear HO351
        clear HO356
        clear HO359
        clear HO362
        clear HO365
        clear BK322
        clear BK323
        clear BK331
        clear BK337
        clear HB
        have HO342:=n0_
        have HO345:=n1_
        have HO348:=n2_
        have HO351:=n3_
        have HO356:=n4_
        have HO359:=n5_
        have HO362:=n6_
        have HO365:=n7_
        have BK322:=n8_
        have BK323:=n9_
        have BK331:=n10_
        have BK337:=n11_
        have HB:=n12_
        clear n0_ n1_ n2_ n3_ n4_ n5_ n6_ n7_ n8_ n9_ n10_ n11_ n12_
        (try clear hb)
        (try clear hb2)
        (try clear hk)
        (try clear hi)
        refine hK.out _ _ ⟨(qqh BK331.out 0).trans rfl,(qqh BK331.out 1).trans rfl,(qqh BK331.out 2).trans rfl,(qqh BK331.out 3).trans rfl,(qqh BK337.out 0).trans rfl,(qqh BK337.out 1).trans rfl,(qqh BK337.out 2).trans rfl,(qqh BK337.out 3).trans rfl,(qqh BK323.out 0).trans rfl,(qqh BK323.out 1).trans rfl,(qqh BK323.out 2).trans rfl,(qqh BK323.out 3).trans rfl,(qqh BK322.out 0).trans rfl,(qqh BK322.out 1).trans rfl,(qqh BK322.out 2).trans rfl,(qqh BK322.out 3).trans rfl,(qqh BK322.out 4).trans rfl,(qqh BK322.out 5).trans rfl⟩ (fun hHeld=>?_)
        clear hK K
        refine norm_ (a':=?_) ?_ ?_
        rotate_left
        ·
         show Act.put _ (some 57) _ = _
         simp only [Act.put,qqj,qqk,qql,i64_w,i32_w]
         rfl
        refine pure_ (i:=26) (N:=some 58) (qqz 42 134217727) rfl rfl (any_of HT_.out (by kernel_rfl)) (fun _ _ _ h=>h) (Or.inl ⟨by rfl,by intro w';go_simp;with_reducible rfl⟩) (by simp only [Act.put,qqj,qqk,qql,i64_w,i32_w];rfl) ?_
        refine pure_ (i:=27) (N:=some 59) (qqz 42 268435455) rfl rfl (any_of HT_.out (by kernel_rfl)) (fun _ _ _ h=>h) (Or.inl ⟨by rfl,by intro w';go_simp;with_reducible rfl⟩) (by simp only [Act.put,qqj,qqk,qql,i64_w,i32_w];rfl) ?_
        refine pure_ (i:=28) (N:=some 60) (qqz 42 536870911) rfl rfl (any_of HT_.out (by kernel_rfl)) (fun _ _ _ h=>h) (Or.inl ⟨by rfl,by intro w';go_simp;with_reducible rfl⟩) (by simp only [Act.put,qqj,qqk,qql,i64_w,i32_w];rfl) ?_
        refine pure_ (i:=30) (N:=some 62) (qqz 42 1610612735) rfl rfl (any_of HT_.out (by kernel_rfl)) (fun _ _ _ h=>h) (Or.inl ⟨by rfl,by intro w';go_simp;with_reducible rfl⟩) (by simp only [Act.put,qqj,qqk,qql,i64_w,i32_w];rfl) ?_
        refine pure_ (i:=35) (N:=some 67) (qqz 42 35970351103) rfl rfl (any_of HT_.out (by kernel_rfl)) (fun _ _ _ h=>h) (Or.inl ⟨by rfl,by intro w';go_simp;with_reducible rfl⟩) (by simp only [Act.put,qqj,qqk,qql,i64_w,i32_w];rfl) ?_
        refine take_ (i:=29) (N:=some 61) (qqz 42 36507222015) rfl rfl (take_ofW HT_.out HW_.out (by kernel_rfl)) (fun _ _ _ h=>h) (Or.inl ⟨by rfl,by rintro w' ⟨s0,s1,s2,s3,s4,s5,s6,s7,s8,s9,s10,s11,s12,s13,s14,s15,s16,s17⟩;go_simp;with_reducible rfl⟩) hHeld (by simp only [Act.put,qqj,qqk,qql,i64_w,i32_w];rfl) ?_
        refine take_ (i:=31) (N:=some 63) (qqz 42 38654705663) rfl rfl (take_ofW HT_.out HW_.out (by kernel_rfl)) (fun _ _ _ h=>h) (Or.inl ⟨by rfl,by rintro w' ⟨s0,s1,s2,s3,s4,s5,s6,s7,s8,s9,s10,s11,s12,s13,s14,s15,s16,s17⟩;go_simp;with_reducible rfl⟩) hHeld (by simp only [Act.put,qqj,qqk,qql,i64_w,i32_w];rfl) ?_
        refine take_ (i:=32) (N:=some 64) (qqz 42 42949672959) rfl rfl (take_ofW HT_.out HW_.out (by kernel_rfl)) (fun _ _ _ h=>h) (Or.inl ⟨by rfl,by rintro w' ⟨s0,s1,s2,s3,s4,s5,s6,s7,s8,s9,s10,s11,s12,s13,s14,s15,s16,s17⟩;go_simp;with_reducible rfl⟩) hHeld (by simp only [Act.put,qqj,qqk,qql,i64_w,i32_w];rfl) ?_
        refine take_ (i:=34) (N:=some 66) (qqz 42 60129542143) rfl rfl (take_ofW HT_.out HW_.out (by kernel_rfl)) (fun _ _ _ h=>h) (Or.inl ⟨by rfl,by rintro w' ⟨s0,s1,s2,s3,s4,s5,s6,s7,s8,s9,s10,s11,s12,s13,s14,s15,s16,s17⟩;go_simp;with_reducible rfl⟩) hHeld (by simp only [Act.put,qqj,qqk,qql,i64_w,i32_w];rfl) ?_
        refine take_ (i:=36) (N:=some 68) (qqz 42 128849018879) rfl rfl (take_ofW HT_.out HW_.out (by kernel_rfl)) (fun _ _ _ h=>h) (Or.inl ⟨by rfl,by rintro w' ⟨s0,s1,s2,s3,s4,s5,s6,s7,s8,s9,s10,s11,s12,s13,s14,s15,s16,s17⟩;go_simp;with_reducible rfl⟩) hHeld (by simp only [Act.put,qqj,qqk,qql,i64_w,i32_w];rfl) ?_
        refine take_ (i:=37) (N:=some 69) (qqz 42 266287972351) rfl rfl (take_ofW HT_.out HW_.out (by kernel_rfl)) (fun _ _ _ h=>h) (Or.inl ⟨by rfl,by rintro w' ⟨s0,s1,s2,s3,s4,s5,s6,s7,s8,s9,s10,s11,s12,s13,s14,s15,s16,s17⟩;go_simp;with_reducible rfl⟩) hHeld (by simp only [Act.put,qqj,qqk,qql,i64_w,i32_w];rfl) ?_
        refine one_ (i:=33) (N:=some 65) (qqz 42 274877906943) rfl rfl (one_of HT_.out (by kernel_rfl)) (by decide) (fun K hK=>?_)
        refine goes_ Try.func16 (by kernel_rfl) rfl #[.agg #[.string t332,.int .u16 t333,.int .u16 t334,.bool t335],.int .u16 a0_0,.agg #[.int .u16 a0_0,.int .u16 a0_1,.slice A0_2 l0_2.length c0_2,.slice A0_3 l0_3.length c0_3,.slice A0_4 l0_4.length c0_4,.slice A0_5 l0_5.length c0_5]] (by rfl) rfl rfl (by (try simp only [List.map_toArray,List.map_cons,List.map_nil]);first|done|rfl|(simp only [List.length_drop,List.length_take];rfl)) ?_
        with_reducible refine (query_Fits.calls kj5 t332 t333 t334 t335 a0_0 a0_0 a0_1 _ _ l0_2 _ _ l0_3 _ _ l0_4 _ _ l0_5 t369 _ ?side1 ?side2 ?side3 ?side4 ?side5 ?side6 ?side7 ?side8 A31.out).mono ?_
        (case side1=>repeat (first|exact (Kd.C_below HR0_2.out HB.out)|(with_reducible first|apply Kd.C_alloc|apply Kd.C_drewN|apply Kd.C_drew)))
        (case side2=>exact HC0_2.out)
        (case side3=>repeat (first|exact (Kd.C_below HR0_3.out HB.out)|(with_reducible first|apply Kd.C_alloc|apply Kd.C_drewN|apply Kd.C_drew)))
        (case side4=>exact HC0_3.out)
        (case side5=>repeat (first|exact (Kd.C_below HR0_4.out HB.out)|(with_reducible first|apply Kd.C_alloc|apply Kd.C_drewN|apply Kd.C_drew)))
        (case side6=>exact HC0_4.out)
        (case side7=>repeat (first|exact (Kd.C_below HR0_5.out HB.out)|(with_reducible first|apply Kd.C_alloc|apply Kd.C_drewN|apply Kd.C_drew)))
        (case side8=>exact HC0_5.out)
        rintro e w62 ⟨rfl,hb⟩
        refine ⟨_,rfl,?_⟩
        have n0_:=qqm (Kd.R_below (by (with_reducible repeat (first|apply Kd.R_alloc|apply Kd.R_drewN|apply Kd.R_drew));exact HO342.out) hb)
        have n1_:=qqm (Kd.N_below (by (with_reducible repeat (first|apply Kd.N_alloc|apply Kd.N_drewN|apply Kd.N_drew));exact HO345.out) hb)
        have n2_:=qqm (Kd.N_below (by (with_reducible repeat (first|apply Kd.N_alloc|apply Kd.N_drewN|apply Kd.N_drew));exact HO348.out) hb)
        have n3_:=qqm (Kd.N_below (by (with_reducible repeat (first|apply Kd.N_alloc|apply Kd.N_drewN|apply Kd.N_drew));exact HO351.out) hb)
        have n4_:=qqm (Kd.R_below (by (with_reducible repeat (first|apply Kd.R_alloc|apply Kd.R_drewN|apply Kd.R_drew));exact HO356.out) hb)
        have n5_:=qqm (Kd.N_below (by (with_reducible repeat (first|apply Kd.N_alloc|apply Kd.N_drewN|apply Kd.N_drew));exact HO359.out) hb)
        have n6_:=qqm (Kd.N_below (by (with_reducible repeat (first|apply Kd.N_alloc|apply Kd.N_drewN|apply Kd.N_drew));exact HO362.out) hb)
        have n7_:=qqm (Kd.N_below (by (with_reducible repeat (first|apply Kd.N_alloc|apply Kd.N_drewN|apply Kd.N_drew));exact HO365.out) hb)
        have n8_:=qqm (blk_below (g:=gb322) (o:=.cells #[.int .u16 a0_0,.int .u16 a0_1,.slice A0_2 l0_2.length c0_2,.slice A0_3 l0_3.length c0_3,.slice A0_4 l0_4.length c0_4,.slice A0_5 l0_5.length c0_5] 26 (0,0)) (by (with_reducible repeat first|apply qqa|apply qqb|apply qqc);exact BK322.out) hb)
        have n9_:=qqm (blk_below (g:=gb323) (o:=.cells #[.string a2_0,.int .u16 a2_1,.int .u16 a2_2,.bool a2_3] 28 (0,0)) (by (with_reducible repeat first|apply qqa|apply qqb|apply qqc);exact BK323.out) hb)
        have n10_:=qqm (blk_below (g:=gb331) (o:=.cells #[.string t326,.int .u16 t327,.int .u16 t328,.bool t329] 28 (0,0)) (by (with_reducible repeat first|apply qqa|apply qqb|apply qqc);exact BK331.out) hb)
        have n11_:=qqm (blk_below (g:=gb337) (o:=.cells #[.string t332,.int .u16 t333,.int .u16 t334,.bool t335] 28 (0,0)) (by (with_reducible repeat first|apply qqa|apply qqb|apply qqc);exact BK337.out) hb)
        have n12_:=qqm (below_step (by with_reducible repeat first|exact HB.out|apply qqf|apply qqd|apply qqe|refine qqg ?_ GE322.out|refine qqg ?_ GE323.out|refine qqg ?_ GE331.out|refine qqg ?_ GE337.out) hb)
        clear HO342
        clear HO345
        clear HO348
        clear HO351
        clear HO356
        clear HO359
        clear HO362
        clear HO365
        clear BK322
        clear BK323
        clear BK331
        clear BK337
        clear HB
        have HO342:=n0_
        have HO345:=n1_
        have HO348:=n2_
        have HO351:=n3_
        have HO356:=n4_
        have HO359:=n5_
        have HO362:=n6_
        have HO365:=n7_
        have BK322:=n8_
        have BK323:=n9_
        have BK331:=n10_
        have BK337:=n11_
        have HB:=n12_
        clear n0_ n1_ n2_ n3_ n4_ n5_ n6_ n7_ n8_ n9_ n10_ n11_ n12_
        (try clear hb)
        (try clear hb2)
        (try clear hk)
        (try clear hi)
        refine hK.out _ _ ⟨(qqh BK331.out 0).trans rfl,(qqh BK331.out 1).trans rfl,(qqh BK331.out 2).trans rfl,(qqh BK331.out 3).trans rfl,(qqh BK337.out 0).trans rfl,(qqh BK337.out 1).trans rfl,(qqh BK337.out 2).trans rfl,(qqh BK337.out 3).trans rfl,(qqh BK323.out 0).trans rfl,(qqh BK323.out 1).trans rfl,(qqh BK323.out 2).trans rfl,(qqh BK323.out 3).trans rfl,(qqh BK322.out 0).trans rfl,(qqh BK322.out 1).trans rfl,(qqh BK322.out 2).trans rfl,(qqh BK322.out 3).trans rfl,(qqh BK322.out 4).trans rfl,(qqh BK322.out 5).trans rfl⟩ (fun hHeld=>?_)
        clear hK K
        refine norm_ (a':=?_) ?_ ?_
        rotate_left
        ·
         show Act.put _ (some 65) _ = _
         simp only [Act.put,qqj,qqk,qql,i64_w,i32_w]
         rfl
        refine one_ (i:=38) (N:=some 70) (qqz 42 549755813887) rfl rfl (one_of HT_.out (by kernel_rfl)) (by decide) (fun K hK=>?_)
        refine goes_ Try.func17 (by kernel_rfl) rfl #[.agg #[.string t332,.int .u16 t333,.int .u16 t334,.bool t335],.int .u16 a0_0,.agg #[.int .u16 a0_0,.int .u16 a0_1,.slice A0_2 l0_2.length c0_2,.slice A0_3 l0_3.length c0_3,.slice A0_4 l0_4.length c0_4,.slice A0_5 l0_5.length c0_5]] (by rfl) rfl rfl (by (try simp only [List.map_toArray,List.map_cons,List.map_nil]);first|done|rfl|(simp only [List.length_drop,List.length_take];rfl)) ?_
        with_reducible refine (nuncioref08_Fits.calls kj5 t332 t333 t334 t335 a0_0 a0_0 a0_1 _ _ l0_2 _ _ l0_3 _ _ l0_4 _ _ l0_5 t370 _ ?side1 ?side2 ?side3 ?side4 ?side5 ?side6 ?side7 ?side8 A32.out).mono ?_
        (case side1=>repeat (first|exact (Kd.C_below HR0_2.out HB.out)|(with_reducible first|apply Kd.C_alloc|apply Kd.C_drewN|apply Kd.C_drew)))
        (case side2=>exact HC0_2.out)
        (case side3=>repeat (first|exact (Kd.C_below HR0_3.out HB.out)|(with_reducible first|apply Kd.C_alloc|apply Kd.C_drewN|apply Kd.C_drew)))
        (case side4=>exact HC0_3.out)
        (case side5=>repeat (first|exact (Kd.C_below HR0_4.out HB.out)|(with_reducible first|apply Kd.C_alloc|apply Kd.C_drewN|apply Kd.C_drew)))
        (case side6=>exact HC0_4.out)
        (case side7=>repeat (first|exact (Kd.C_below HR0_5.out HB.out)|(with_reducible first|apply Kd.C_alloc|apply Kd.C_drewN|apply Kd.C_drew)))
        (case side8=>exact HC0_5.out)
        rintro e w63 ⟨rfl,hb⟩
        refine ⟨_,rfl,?_⟩
        have n0_:=qqm (Kd.R_below (by (with_reducible repeat (first|apply Kd.R_alloc|apply Kd.R_drewN|apply Kd.R_drew));exact HO342.out) hb)
        have n1_:=qqm (Kd.N_below (by (with_reducible repeat (first|apply Kd.N_alloc|apply Kd.N_drewN|apply Kd.N_drew));exact HO345.out) hb)
        have n2_:=qqm (Kd.N_below (by (with_reducible repeat (first|apply Kd.N_alloc|apply Kd.N_drewN|apply Kd.N_drew));exact HO348.out) hb)
        have n3_:=qqm (Kd.N_below (by (with_reducible repeat (first|apply Kd.N_alloc|apply Kd.N_drewN|apply Kd.N_drew));exact HO351.out) hb)
        have n4_:=qqm (Kd.R_below (by (with_reducible repeat (first|apply Kd.R_alloc|apply Kd.R_drewN|apply Kd.R_drew));exact HO356.out) hb)
        have n5_:=qqm (Kd.N_below (by (with_reducible repeat (first|apply Kd.N_alloc|apply Kd.N_drewN|apply Kd.N_drew));exact HO359.out) hb)
        have n6_:=qqm (Kd.N_below (by (with_reducible repeat (first|apply Kd.N_alloc|apply Kd.N_drewN|apply Kd.N_drew));exact HO362.out) hb)
        have n7_:=qqm (Kd.N_below (by (with_reducible repeat (first|apply Kd.N_alloc|apply Kd.N_drewN|apply Kd.N_drew));exact HO365.out) hb)
        have n8_:=qqm (blk_below (g:=gb322) (o:=.cells #[.int .u16 a0_0,.int .u16 a0_1,.slice A0_2 l0_2.length c0_2,.slice A0_3 l0_3.length c0_3,.slice A0_4 l0_4.length c0_4,.slice A0_5 l0_5.length c0_5] 26 (0,0)) (by (with_reducible repeat first|apply qqa|apply qqb|apply qqc);exact BK322.out) hb)
        have n9_:=qqm (blk_below (g:=gb323) (o:=.cells #[.string a2_0,.int .u16 a2_1,.int .u16 a2_2,.bool a2_3] 28 (0,0)) (by (with_reducible repeat first|apply qqa|apply qqb|apply qqc);exact BK323.out) hb)
        have n10_:=qqm (blk_below (g:=gb331) (o:=.cells #[.string t326,.int .u16 t327,.int .u16 t328,.bool t329] 28 (0,0)) (by (with_reducible repeat first|apply qqa|apply qqb|apply qqc);exact BK331.out) hb)
        have n11_:=qqm (blk_below (g:=gb337) (o:=.cells #[.string t332,.int .u16 t333,.int .u16 t334,.bool t335] 28 (0,0)) (by (with_reducible repeat first|apply qqa|apply qqb|apply qqc);exact BK337.out) hb)
        have n12_:=qqm (below_step (by with_reducible repeat first|exact HB.out|apply qqf|apply qqd|apply qqe|refine qqg ?_ GE322.out|refine qqg ?_ GE323.out|refine qqg ?_ GE331.out|refine qqg ?_ GE337.out) hb)
        clear HO342
        clear HO345
        clear HO348
        clear HO351
        clear HO356
        clear HO359
        clear HO362
        clear HO365
        clear BK322
        clear BK323
        clear BK331
        clear BK337
        clear HB
        have HO342:=n0_
        have HO345:=n1_
        have HO348:=n2_
        have HO351:=n3_
        have HO356:=n4_
        have HO359:=n5_
        have HO362:=n6_
        have HO365:=n7_
        have BK322:=n8_
        have BK323:=n9_
        have BK331:=n10_
        have BK337:=n11_
        have HB:=n12_
        clear n0_ n1_ n2_ n3_ n4_ n5_ n6_ n7_ n8_ n9_ n10_ n11_ n12_
        (try clear hb)
        (try clear hb2)
        (try clear hk)
        (try clear hi)
        refine hK.out _ _ ⟨(qqh BK331.out 0).trans rfl,(qqh BK331.out 1).trans rfl,(qqh BK331.out 2).trans rfl,(qqh BK331.out 3).trans rfl,(qqh BK337.out 0).trans rfl,(qqh BK337.out 1).trans rfl,(qqh BK337.out 2).trans rfl,(qqh BK337.out 3).trans rfl,(qqh BK323.out 0).trans rfl,(qqh BK323.out 1).trans rfl,(qqh BK323.out 2).trans rfl,(qqh BK323.out 3).trans rfl,(qqh BK322.out 0).trans rfl,(qqh BK322.out 1).trans rfl,(qqh BK322.out 2).trans rfl,(qqh BK322.out 3).trans rfl,(qqh BK322.out 4).trans rfl,(qqh BK322.out 5).trans rfl⟩ (fun hHeld=>?_)
        clear hK K
        refine norm_ (a':=?_) ?_ ?_
        rotate_left
        ·
         show Act.put _ (some 70) _ = _
         simp only [Act.put,qqj,qqk,qql,i64_w,i32_w]
         rfl
        refine pure_ (i:=39) (N:=some 71) (qqz 42 1099511627775) rfl rfl (any_of HT_.out (by kernel_rfl)) (fun _ _ _ h=>h) (Or.inl ⟨by rfl,by intro w';go_simp;with_reducible rfl⟩) (by simp only [Act.put,qqj,qqk,qql,i64_w,i32_w];rfl) ?_
        refine pure_ (i:=40) (N:=some 72) (qqz 42 2199023255551) rfl rfl (any_of HT_.out (by kernel_rfl)) (fun _ _ _ h=>h) (Or.inl ⟨by rfl,by intro w';go_simp;with_reducible rfl⟩) (by simp only [Act.put,qqj,qqk,qql,i64_w,i32_w];rfl) ?_
        refine pure_ (i:=41) (N:=some 6) (qqz 42 4398046511103) rfl rfl (any_of HT_.out (by kernel_rfl)) (fun _ _ _ h=>h) (Or.inl ⟨by rfl,by intro w';go_simp;with_reducible rfl⟩) (by simp only [Act.put,qqj,qqk,qql,i64_w,i32_w];rfl) ?_
        refine done_ (done_of HT_.out (by kernel_rfl)) ?_
        try go_wp2
        go_ret
        exact ⟨by first|rfl|(simp [errW_none,errW_some] <;> rfl)|(simp [*,errW_none,errW_some] <;> rfl),by with_reducible repeat first|exact HB.out|apply qqf|apply qqd|apply qqe|refine qqg ?_ GE322.out|refine qqg ?_ GE323.out|refine qqg ?_ GE331.out|refine qqg ?_ GE337.out⟩
       ·
        rw [if_neg c30] at H
        have c30b0:(t367 == t368) = false:=by simpa using c30
        (try (have c30b1:decide (t367 = t368) = false:=by simpa using c30))
        (try (have c30b2:(t367 == t368) = false:=by simpa using c30))
        (try (have c30b3:¬ (t367 = t368):=by simpa using c30))
        clear c30
        exact absurd ((Option.some.inj H).trans HT.out) (by decide)
      ·
       replace c27:=Bool.eq_false_iff.mpr c27
       subst c27
       have H1:(some false) = some r:=by rw [if_neg (show ¬ (false = true) by decide)] at H;exact H
       clear H
       have H:=H1
       clear H1
       exact absurd ((Option.some.inj H).trans HT.out) (by decide)
     ·
      rw [if_neg c23] at H
      have c23b0:(t330 == t336) = false:=beq_eq_false_iff_ne.mpr c23
      have c23b1:(t330 != t336) = true:=bne_iff_ne.mpr c23
      exact absurd ((Option.some.inj H).trans HT.out) (by decide)
    ·
     rw [if_neg c22] at H
     have c22b0:(t326.toList == t332.toList && (t327 == t333 && (t328 == t334 && (t329 == t335)))) = false:=by simpa using c22
     (try (have c22b1:decide (t326.toList = t332.toList && (t327 == t333 && (t328 == t334 && (t329 == t335)))) = false:=by simpa using c22))
     (try (have c22b2:(t326.toList == t332.toList && (t327 == t333 && (t328 == t334 && (t329 == t335)))) = false:=by simpa using c22))
     (try (have c22b3:¬ (t326.toList = t332.toList && (t327 == t333 && (t328 == t334 && (t329 == t335)))):=by simpa using c22))
     clear c22
     (try (have c22b9:=c22b0;simp only [beq_true,beq_false] at c22b9))
     exact absurd ((Option.some.inj H).trans HT.out) (by decide)

/-- THE ONE PURE STATEMENT of nunciolaw08_QueryAsks: yours. -/
def nunciolaw08_QueryAsks.Pure : Prop := ∀ (a0_0 : Int) (a0_1 : Int) (l0_2 : List (S53)) (l0_3 : List (S51)) (l0_4 : List (S51)) (l0_5 : List (S51)) (a1 : Int) (a2_0 : ByteArray) (a2_1 : Int) (a2_2 : Int) (a2_3 : Bool), ((Lit.int .u16 a0_0).wf = true) → ((Lit.int .u16 a0_1).wf = true) → (l0_2.length ≤ 9223372036854775807 ∧ l0_2.length * 24 ≤ 140737488351232 ∧ ∀ x_ ∈ l0_2, k53_wf x_) → (l0_3.length ≤ 9223372036854775807 ∧ l0_3.length * 96 ≤ 140737488351232 ∧ ∀ x_ ∈ l0_3, k51_wf x_) → (l0_4.length ≤ 9223372036854775807 ∧ l0_4.length * 96 ≤ 140737488351232 ∧ ∀ x_ ∈ l0_4, k51_wf x_) → (l0_5.length ≤ 9223372036854775807 ∧ l0_5.length * 96 ≤ 140737488351232 ∧ ∀ x_ ∈ l0_5, k51_wf x_) → ((Lit.int .u16 a1).wf = true) → (a2_0.size ≤ 140737488351232) → ((Lit.int .u16 a2_1).wf = true) → ((Lit.int .u16 a2_2).wf = true) → ∃ k, nunciolaw08_QueryAsks.f k a0_0 a0_1 l0_2 l0_3 l0_4 l0_5 a1 a2_0 a2_1 a2_2 a2_3 = some true
theorem nunciolaw08_QueryAsks.walk (P : nunciolaw08_QueryAsks.Pure) (a0_0 : Int) (a0_1 : Int) (A0_2 : Option Addr) (c0_2 : Nat) (l0_2 : List (S53)) (A0_3 : Option Addr) (c0_3 : Nat) (l0_3 : List (S51)) (A0_4 : Option Addr) (c0_4 : Nat) (l0_4 : List (S51)) (A0_5 : Option Addr) (c0_5 : Nat) (l0_5 : List (S51)) (a1 : Int) (a2_0 : ByteArray) (a2_1 : Int) (a2_2 : Int) (a2_3 : Bool) (w : World) (hr0_2 : Kd.C k53 w A0_2 l0_2.length l0_2) (hc0_2 : l0_2.length ≤ c0_2) (hr0_3 : Kd.C k51 w A0_3 l0_3.length l0_3) (hc0_3 : l0_3.length ≤ c0_3) (hr0_4 : Kd.C k51 w A0_4 l0_4.length l0_4) (hc0_4 : l0_4.length ≤ c0_4) (hr0_5 : Kd.C k51 w A0_5 l0_5.length l0_5) (hc0_5 : l0_5.length ≤ c0_5) (w0_0 : (Lit.int .u16 a0_0).wf = true) (w0_1 : (Lit.int .u16 a0_1).wf = true) (w0_2 : l0_2.length ≤ 9223372036854775807 ∧ l0_2.length * 24 ≤ 140737488351232 ∧ ∀ x_ ∈ l0_2, k53_wf x_) (w0_3 : l0_3.length ≤ 9223372036854775807 ∧ l0_3.length * 96 ≤ 140737488351232 ∧ ∀ x_ ∈ l0_3, k51_wf x_) (w0_4 : l0_4.length ≤ 9223372036854775807 ∧ l0_4.length * 96 ≤ 140737488351232 ∧ ∀ x_ ∈ l0_4, k51_wf x_) (w0_5 : l0_5.length ≤ 9223372036854775807 ∧ l0_5.length * 96 ≤ 140737488351232 ∧ ∀ x_ ∈ l0_5, k51_wf x_) (w1 : (Lit.int .u16 a1).wf = true) (w2_0 : a2_0.size ≤ 140737488351232) (w2_1 : (Lit.int .u16 a2_1).wf = true) (w2_2 : (Lit.int .u16 a2_2).wf = true) :
  Calls Try.prog 3 #[.agg #[.int .u16 a0_0,.int .u16 a0_1,.slice A0_2 l0_2.length c0_2,.slice A0_3 l0_3.length c0_3,.slice A0_4 l0_4.length c0_4,.slice A0_5 l0_5.length c0_5],.int .u16 a1,.agg #[.string a2_0,.int .u16 a2_1,.int .u16 a2_2,.bool a2_3]] w fun e w'=>e = .returned (.bool true)∧Below w.heap.size w w':=by
 obtain ⟨k,h⟩:=P a0_0 a0_1 l0_2 l0_3 l0_4 l0_5 a1 a2_0 a2_1 a2_2 a2_3 w0_0 w0_1 w0_2 w0_3 w0_4 w0_5 w1 w2_0 w2_1 w2_2
 refine (nunciolaw08_QueryAsks.calls k a0_0 a0_1 _ _ l0_2 _ _ l0_3 _ _ l0_4 _ _ l0_5 a1 a2_0 a2_1 a2_2 a2_3 true w hr0_2 hc0_2 hr0_3 hc0_3 hr0_4 hc0_4 hr0_5 hc0_5 h rfl).mono ?_
 rintro e w' ⟨rfl,hd⟩
 exact ⟨rfl,hd⟩

end Go.Proofs.Ythkdfnbhlinhiaa.Mine
