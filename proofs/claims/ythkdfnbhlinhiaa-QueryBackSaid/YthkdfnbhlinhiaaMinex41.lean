-- Written by this repo's own printer (wip/print), which builds on the kit's.
import Derived.Test.YthkdfnbhlinhiaaMinex0
import Derived.Test.YthkdfnbhlinhiaaMinex1
import Derived.Test.YthkdfnbhlinhiaaMinex7
import Derived.Test.YthkdfnbhlinhiaaMinex8
import Derived.Test.YthkdfnbhlinhiaaMinex9
import Derived.Test.YthkdfnbhlinhiaaMinex16
import Derived.Test.YthkdfnbhlinhiaaMinex20
import Derived.Test.YthkdfnbhlinhiaaMinex22
namespace Go.Proofs.Ythkdfnbhlinhiaa.Mine
open Go.RowKit Go.Proofs.YthkdfnbhlinhiaaW.PrintWords Go.Proofs.YthkdfnbhlinhiaaW.PrintLast Go.Proofs.YthkdfnbhlinhiaaW.PrintMore
attribute [local go_sem] max2_int min2_int max_two min_two max_three min_three max_four min_four   -- for this text's walks alone
set_option linter.unusedVariables false
set_option linter.unusedSimpArgs false

attribute [local go_sem high] eqA28
/-! ### nunciolaw08_QueryBack: function 6 -/
mutual
def nunciolaw08_QueryBack.j0 : Nat → Int → Int → Int → Bool → ByteArray → Int → Int → Bool → ByteArray → Int → Int → Bool → Option (Bool)
 | 0, _, _, _, _, _, _, _, _, _, _, _, _ => none
 | k + 1, x2, x3, x4, x39, x444000, x444001, x444002, x444003, x445000, x445001, x445002, x445003 => if x39 = true then (some true) else ((query_Make.f x2 x444000 x444001 x444002 x444003).bind fun bt448 => ((query_Ask.f k bt448.1 bt448.2.1 bt448.2.2.1 bt448.2.2.2.1 bt448.2.2.2.2.1 bt448.2.2.2.2.2).bind fun bt463 => (if bt463.2.2.2.2 = 0 then (if (!(bt463.1.toList == x444000.toList) || (!(bt463.2.1 == x444001) || (!(bt463.2.2.1 == x444002) || (!(bt463.2.2.2.1 == x444003))))) = true then (nunciolaw08_QueryBack.j1 k x2 x3 x4 true x444000 x444001 x444002 x444003 x445000 x445001 x445002 x445003 bt448.1 bt448.2.1 bt448.2.2.1 bt448.2.2.2.1 bt448.2.2.2.2.1 bt448.2.2.2.2.2) else (nunciolaw08_QueryBack.j1 k x2 x3 x4 (bt448.1 != x2) x444000 x444001 x444002 x444003 x445000 x445001 x445002 x445003 bt448.1 bt448.2.1 bt448.2.2.1 bt448.2.2.2.1 bt448.2.2.2.2.1 bt448.2.2.2.2.2)) else (nunciolaw08_QueryBack.j1 k x2 x3 x4 true x444000 x444001 x444002 x444003 x445000 x445001 x445002 x445003 bt448.1 bt448.2.1 bt448.2.2.1 bt448.2.2.2.1 bt448.2.2.2.2.1 bt448.2.2.2.2.2))))
def nunciolaw08_QueryBack.j1 : Nat → Int → Int → Int → Bool → ByteArray → Int → Int → Bool → ByteArray → Int → Int → Bool → Int → Int → List (S53) → List (S51) → List (S51) → List (S51) → Option (Bool)
 | 0, _, _, _, _, _, _, _, _, _, _, _, _, _, _, _, _, _, _ => none
 | k + 1, x2, x3, x4, x60, x444000, x444001, x444002, x444003, x445000, x445001, x445002, x445003, x463000, x463001, x463002, x463003, x463004, x463005 => if x60 = true then (some false) else ((query_Fits.f k x444000 x444001 x444002 x444003 x2 x463000 (IntKind.u16.wrap (32768 + (Int.tmod x4 512))) x463002 x463003 x463004 x463005).bind fun t470 => (if t470 = true then ((query_Fits.f k x444000 x444001 x444002 x444003 x3 x463000 (IntKind.u16.wrap (32768 + (Int.tmod x4 512))) x463002 x463003 x463004 x463005).bind fun t471 => (if (t471 == (x3 == x2)) = true then ((query_Fits.f k x445000 x445001 x445002 x444003 x2 x463000 (IntKind.u16.wrap (32768 + (Int.tmod x4 512))) x463002 x463003 x463004 x463005).bind fun t472 => (if (t472 == (x445000.toList == x444000.toList && (x445001 == x444001 && (x445002 == x444002)))) = true then ((query_Fits.f k x444000 x444001 x444002 x444003 x2 x463000 x463001 x463002 x463003 x463004 x463005).bind fun t473 => (some (!t473))) else (some false))) else (some false))) else (some false)))
end
def nunciolaw08_QueryBack.f (k : Nat) (a0_0 : ByteArray) (a0_1 : Int) (a0_2 : Int) (a0_3 : Bool) (a1_0 : ByteArray) (a1_1 : Int) (a1_2 : Int) (a1_3 : Bool) (a2 : Int) (a3 : Int) (a4 : Int) : Option (Bool) := (nunciolaw08_awake.f k).bind fun t445 => (if t445 = true then ((nuncioref04_Is.f k a0_0).bind fun t446 => (if t446 = true then ((nuncioref04_Fold.f k a0_0).bind fun t447 => (if t447.toList = a0_0.toList then (if a0_1 = 41 then (nunciolaw08_QueryBack.j0 k a2 a3 a4 true a0_0 a0_1 a0_2 a0_3 a1_0 a1_1 a1_2 a1_3) else (nunciolaw08_QueryBack.j0 k a2 a3 a4 (decide ((a1_0.size : Int) > 5000)) a0_0 a0_1 a0_2 a0_3 a1_0 a1_1 a1_2 a1_3)) else (nunciolaw08_QueryBack.j0 k a2 a3 a4 true a0_0 a0_1 a0_2 a0_3 a1_0 a1_1 a1_2 a1_3))) else (nunciolaw08_QueryBack.j0 k a2 a3 a4 true a0_0 a0_1 a0_2 a0_3 a1_0 a1_1 a1_2 a1_3))) else (some false))
theorem nunciolaw08_QueryBack.mono_l : ∀ k, (∀ y0 y1 y2 y3 y4 y5 y6 y7 y8 y9 y10 y11, LeO (nunciolaw08_QueryBack.j0 k y0 y1 y2 y3 y4 y5 y6 y7 y8 y9 y10 y11) (nunciolaw08_QueryBack.j0 (k + 1) y0 y1 y2 y3 y4 y5 y6 y7 y8 y9 y10 y11)) ∧ (∀ y0 y1 y2 y3 y4 y5 y6 y7 y8 y9 y10 y11 y12 y13 y14 y15 y16 y17, LeO (nunciolaw08_QueryBack.j1 k y0 y1 y2 y3 y4 y5 y6 y7 y8 y9 y10 y11 y12 y13 y14 y15 y16 y17) (nunciolaw08_QueryBack.j1 (k + 1) y0 y1 y2 y3 y4 y5 y6 y7 y8 y9 y10 y11 y12 y13 y14 y15 y16 y17))
 | 0 => ⟨fun _ _ _ _ _ _ _ _ _ _ _ _ r h => by simp [nunciolaw08_QueryBack.j0] at h, fun _ _ _ _ _ _ _ _ _ _ _ _ _ _ _ _ _ _ r h => by simp [nunciolaw08_QueryBack.j1] at h⟩
 | k + 1 => by
  obtain ⟨ih0,ih1⟩:=nunciolaw08_QueryBack.mono_l k
  refine ⟨?_,?_⟩
  ·
   intro y0 y1 y2 y3 y4 y5 y6 y7 y8 y9 y10 y11
   unfold nunciolaw08_QueryBack.j0
   repeat' first
   | (with_reducible exact ih0 _ _ _ _ _ _ _ _ _ _ _ _)
   | (with_reducible exact ih1 _ _ _ _ _ _ _ _ _ _ _ _ _ _ _ _ _ _)
   | (with_reducible exact nunciolaw08_awake.mono _)
   | (with_reducible exact nuncioref04_Fold.mono _ _)
   | (with_reducible exact nuncioref04_Is.mono _ _)
   | (with_reducible exact query_Ask.mono _ _ _ _ _ _ _)
   | (with_reducible exact query_Fits.mono _ _ _ _ _ _ _ _ _ _ _ _)
   | (with_reducible exact LeO.refl _)
   | (with_reducible exact LeO.none _)
   | (with_reducible refine LeO.ite ?_ ?_)
   | (with_reducible refine LeO.bind ?_ (fun _ => ?_))
   | exact ih0 _ _ _ _ _ _ _ _ _ _ _ _
   | exact ih1 _ _ _ _ _ _ _ _ _ _ _ _ _ _ _ _ _ _
   | exact nunciolaw08_awake.mono _
   | exact nuncioref04_Fold.mono _ _
   | exact nuncioref04_Is.mono _ _
   | exact query_Ask.mono _ _ _ _ _ _ _
   | exact query_Fits.mono _ _ _ _ _ _ _ _ _ _ _ _
   | exact LeO.none _
   | refine LeO.ite ?_ ?_
   | refine LeO.bind ?_ (fun _ => ?_)
  ·
   intro y0 y1 y2 y3 y4 y5 y6 y7 y8 y9 y10 y11 y12 y13 y14 y15 y16 y17
   unfold nunciolaw08_QueryBack.j1
   repeat' first
   | (with_reducible exact ih0 _ _ _ _ _ _ _ _ _ _ _ _)
   | (with_reducible exact ih1 _ _ _ _ _ _ _ _ _ _ _ _ _ _ _ _ _ _)
   | (with_reducible exact nunciolaw08_awake.mono _)
   | (with_reducible exact nuncioref04_Fold.mono _ _)
   | (with_reducible exact nuncioref04_Is.mono _ _)
   | (with_reducible exact query_Ask.mono _ _ _ _ _ _ _)
   | (with_reducible exact query_Fits.mono _ _ _ _ _ _ _ _ _ _ _ _)
   | (with_reducible exact LeO.refl _)
   | (with_reducible exact LeO.none _)
   | (with_reducible refine LeO.ite ?_ ?_)
   | (with_reducible refine LeO.bind ?_ (fun _ => ?_))
   | exact ih0 _ _ _ _ _ _ _ _ _ _ _ _
   | exact ih1 _ _ _ _ _ _ _ _ _ _ _ _ _ _ _ _ _ _
   | exact nunciolaw08_awake.mono _
   | exact nuncioref04_Fold.mono _ _
   | exact nuncioref04_Is.mono _ _
   | exact query_Ask.mono _ _ _ _ _ _ _
   | exact query_Fits.mono _ _ _ _ _ _ _ _ _ _ _ _
   | exact LeO.none _
   | refine LeO.ite ?_ ?_
   | refine LeO.bind ?_ (fun _ => ?_)
theorem nunciolaw08_QueryBack.mono : ∀ a0 a1 a2 a3 a4 a5 a6 a7 a8 a9 a10 k, LeO (nunciolaw08_QueryBack.f k a0 a1 a2 a3 a4 a5 a6 a7 a8 a9 a10) (nunciolaw08_QueryBack.f (k + 1) a0 a1 a2 a3 a4 a5 a6 a7 a8 a9 a10) := by
 intro a0 a1 a2 a3 a4 a5 a6 a7 a8 a9 a10 k
 obtain ⟨ih0,ih1⟩:=nunciolaw08_QueryBack.mono_l k
 unfold nunciolaw08_QueryBack.f
 repeat' first
   | (with_reducible exact ih0 _ _ _ _ _ _ _ _ _ _ _ _)
   | (with_reducible exact ih1 _ _ _ _ _ _ _ _ _ _ _ _ _ _ _ _ _ _)
   | (with_reducible exact nunciolaw08_awake.mono _)
   | (with_reducible exact nuncioref04_Fold.mono _ _)
   | (with_reducible exact nuncioref04_Is.mono _ _)
   | (with_reducible exact query_Ask.mono _ _ _ _ _ _ _)
   | (with_reducible exact query_Fits.mono _ _ _ _ _ _ _ _ _ _ _ _)
   | (with_reducible exact LeO.refl _)
   | (with_reducible exact LeO.none _)
   | (with_reducible refine LeO.ite ?_ ?_)
   | (with_reducible refine LeO.bind ?_ (fun _ => ?_))
   | exact ih0 _ _ _ _ _ _ _ _ _ _ _ _
   | exact ih1 _ _ _ _ _ _ _ _ _ _ _ _ _ _ _ _ _ _
   | exact nunciolaw08_awake.mono _
   | exact nuncioref04_Fold.mono _ _
   | exact nuncioref04_Is.mono _ _
   | exact query_Ask.mono _ _ _ _ _ _ _
   | exact query_Fits.mono _ _ _ _ _ _ _ _ _ _ _ _
   | exact LeO.none _
   | refine LeO.ite ?_ ?_
   | refine LeO.bind ?_ (fun _ => ?_)
def nunciolaw08_QueryBack.T3 : Bool × List (List Nat × List Nat) := (true, [([], []), ([0], [0]), ([1], [1]), ([2], [2]), ([3, 2], [3]), ([4], [4]), ([5, 4], [4, 5]), ([6, 4, 4], [4, 6]), ([4], [4]), ([8, 4], [4, 8]), ([7, 9, 4], [4, 7, 9]), ([4, 10], [4, 10]), ([11, 7], [11]), ([12], [12]), ([13, 12], [12, 13]), ([14, 12], [12, 14]), ([12, 15], [12, 15]), ([16, 12], [16]), ([17], [17]), ([18, 17], [17, 18]), ([19, 17], [17, 19]), ([20, 17], [17, 20]), ([17, 21], [17, 21])])
def nunciolaw08_QueryBack.B3 : List Nat := [0, 1, 3, 7, 15, 31, 63, 127, 31, 287, 1023, 2047, 4095, 8191, 16383, 32767, 65535, 131071, 262143, 524287, 1048575, 2097151, 4194303]
theorem nunciolaw08_QueryBack.tab3 : rtab .any (opsOf Try.f6 3) = nunciolaw08_QueryBack.T3 := by kernel_rfl
theorem nunciolaw08_QueryBack.bits3 : waitsOk nunciolaw08_QueryBack.T3.2 nunciolaw08_QueryBack.B3 = true := by kernel_rfl
def nunciolaw08_QueryBack.T12 : Bool × List (List Nat × List Nat) := (true, [([], []), ([], []), ([], []), ([0, 1, 2], [0, 1, 2]), ([3, 3], [3]), ([4], [4]), ([4], [4]), ([4], [4]), ([5, 6, 7, 4, 4], [4, 5, 6, 7]), ([4], [4]), ([4], [4]), ([9, 10, 4], [4, 9, 10]), ([8, 11, 4], [4, 8, 11]), ([4, 12], [4, 12]), ([13, 8], [13]), ([14], [14]), ([14], [14]), ([14], [14]), ([15, 16, 17, 14, 14], [14, 15, 16, 17]), ([14], [14]), ([14], [14]), ([19, 20, 14], [14, 19, 20]), ([18, 21, 14], [14, 18, 21]), ([14, 22], [14, 22]), ([23, 18], [23]), ([24], [24]), ([24], [24]), ([24], [24]), ([25, 26, 27, 24, 24], [24, 25, 26, 27]), ([28, 24], [24, 28]), ([24, 29], [24, 29]), ([30, 28, 0, 1, 2, 3, 4, 5, 6, 7, 8, 9, 10, 11, 12, 13, 14, 15, 16, 17, 18, 19, 20, 21, 22, 23, 24, 25, 26, 27, 28, 29, 30], [30])])
def nunciolaw08_QueryBack.B12 : List Nat := [0, 0, 0, 7, 15, 31, 31, 31, 255, 31, 31, 1567, 4095, 8191, 16383, 32767, 32767, 32767, 262143, 32767, 32767, 1605631, 4194303, 8388607, 16777215, 33554431, 33554431, 33554431, 268435455, 536870911, 1073741823, 2147483647]
theorem nunciolaw08_QueryBack.tab12 : rtab .any (opsOf Try.f6 12) = nunciolaw08_QueryBack.T12 := by kernel_rfl
theorem nunciolaw08_QueryBack.bits12 : waitsOk nunciolaw08_QueryBack.T12.2 nunciolaw08_QueryBack.B12 = true := by kernel_rfl
set_option maxHeartbeats 8000000 in
set_option maxRecDepth 100000 in
theorem nunciolaw08_QueryBack.calls (k : Nat) (a0_0 : ByteArray) (a0_1 : Int) (a0_2 : Int) (a0_3 : Bool) (a1_0 : ByteArray) (a1_1 : Int) (a1_2 : Int) (a1_3 : Bool) (a2 : Int) (a3 : Int) (a4 : Int) (r : Bool) (w : World) (h : nunciolaw08_QueryBack.f k a0_0 a0_1 a0_2 a0_3 a1_0 a1_1 a1_2 a1_3 a2 a3 a4 = some r) (hT : r = true) :
  Calls Try.prog 6 #[.agg #[.string a0_0,.int .u16 a0_1,.int .u16 a0_2,.bool a0_3],.agg #[.string a1_0,.int .u16 a1_1,.int .u16 a1_2,.bool a1_3],.int .u16 a2,.int .u16 a3,.int .u16 a4] w fun e w' => e = .returned (.bool r)∧Below w.heap.size w w':=by
 have hu28:=Try.underlying28
 have hu26:=Try.underlying26
 have HB:=Aside0.mk (Below.refl w.heap.size w)
 have HT:=Aside0.mk hT
 clear hT
 have H : ((nunciolaw08_awake.f k).bind fun t445 => (if t445 = true then ((nuncioref04_Is.f k a0_0).bind fun t446 => (if t446 = true then ((nuncioref04_Fold.f k a0_0).bind fun t447 => (if t447.toList = a0_0.toList then (if a0_1 = 41 then (nunciolaw08_QueryBack.j0 k a2 a3 a4 true a0_0 a0_1 a0_2 a0_3 a1_0 a1_1 a1_2 a1_3) else (nunciolaw08_QueryBack.j0 k a2 a3 a4 (decide ((a1_0.size : Int) > 5000)) a0_0 a0_1 a0_2 a0_3 a1_0 a1_1 a1_2 a1_3)) else (nunciolaw08_QueryBack.j0 k a2 a3 a4 true a0_0 a0_1 a0_2 a0_3 a1_0 a1_1 a1_2 a1_3))) else (nunciolaw08_QueryBack.j0 k a2 a3 a4 true a0_0 a0_1 a0_2 a0_3 a1_0 a1_1 a1_2 a1_3))) else (some false))) = some r:=h
 clear h
 replace H:=Option.bind_eq_some_iff.mp H
 obtain ⟨t445,A60,H⟩:=H
 replace H : (if t445 = true then ((nuncioref04_Is.f k a0_0).bind fun t446 => (if t446 = true then ((nuncioref04_Fold.f k a0_0).bind fun t447 => (if t447.toList = a0_0.toList then (if a0_1 = 41 then (nunciolaw08_QueryBack.j0 k a2 a3 a4 true a0_0 a0_1 a0_2 a0_3 a1_0 a1_1 a1_2 a1_3) else (nunciolaw08_QueryBack.j0 k a2 a3 a4 (decide ((a1_0.size : Int) > 5000)) a0_0 a0_1 a0_2 a0_3 a1_0 a1_1 a1_2 a1_3)) else (nunciolaw08_QueryBack.j0 k a2 a3 a4 true a0_0 a0_1 a0_2 a0_3 a1_0 a1_1 a1_2 a1_3))) else (nunciolaw08_QueryBack.j0 k a2 a3 a4 true a0_0 a0_1 a0_2 a0_3 a1_0 a1_1 a1_2 a1_3))) else (some false)) = some r:=H
 have A6:=Aside0.mk A60
 clear A60
 by_cases c7 : t445 = true
 rotate_left
 ·
  replace c7:=Bool.eq_false_iff.mpr c7
  subst c7
  have H1 : (some false) = some r:=by rw [if_neg (show ¬ (false = true) by decide)] at H;exact H
  clear H
  have H:=H1
  clear H1
  exact absurd ((Option.some.inj H).trans HT.out) (by decide)
 subst c7
 have H1 : ((nuncioref04_Is.f k a0_0).bind fun t446 => (if t446 = true then ((nuncioref04_Fold.f k a0_0).bind fun t447 => (if t447.toList = a0_0.toList then (if a0_1 = 41 then (nunciolaw08_QueryBack.j0 k a2 a3 a4 true a0_0 a0_1 a0_2 a0_3 a1_0 a1_1 a1_2 a1_3) else (nunciolaw08_QueryBack.j0 k a2 a3 a4 (decide ((a1_0.size : Int) > 5000)) a0_0 a0_1 a0_2 a0_3 a1_0 a1_1 a1_2 a1_3)) else (nunciolaw08_QueryBack.j0 k a2 a3 a4 true a0_0 a0_1 a0_2 a0_3 a1_0 a1_1 a1_2 a1_3))) else (nunciolaw08_QueryBack.j0 k a2 a3 a4 true a0_0 a0_1 a0_2 a0_3 a1_0 a1_1 a1_2 a1_3))) = some r:=by rw [if_pos rfl] at H;exact H
 clear H
 have H:=H1
 clear H1
 have HC8:=Aside0.mk H
 clear H
 go_enter Try.func6,Try.ntmps6
 go_upto_region 3 with (first|((with_reducible refine gate_dst (N:=5) rfl ?_);(try (refine gate_guard (by rfl) ?_;dsimp only));refine box_event ?hg (N:=5) ?hd (cs:=#[.string a0_0,.int .u16 a0_1,.int .u16 a0_2,.bool a0_3]) (t:=28) ?hr ?_;(case hd => rfl);(case hg => rfl);(case hr => first|(go_simp;done)|(go_simp;rfl));intro gb443 hg w9 hbox hb;have n0_:=Aside0.mk (below_step (by repeat (first|(with_reducible first|exact HB.out|apply qqf|apply qqd|apply qqe)|exact HB.out)) hb);have n1_:=Aside0.mk (hbox);have n2_:=Aside0.mk ((by rw [hg];exact (below_size (by repeat (first|(with_reducible first|exact HB.out|apply qqf|apply qqd|apply qqe)|exact HB.out))) : w.heap.size ≤ gb443));have n3_:=Aside0.mk ((by rw [hg];exact (below_size (by repeat (first|(with_reducible first|exact HB.out|apply qqf|apply qqd|apply qqe)|exact HB.out))) : w.heap.size ≤ gb443));clear HB;have HB:=n0_;have BK443:=n1_;have GW443:=n2_;have GE443:=n3_;clear n0_ n1_ n2_ n3_;clear hb hbox hg)|((with_reducible refine gate_dst (N:=6) rfl ?_);(try (refine gate_guard (by rfl) ?_;dsimp only));refine box_event ?hg (N:=6) ?hd (cs:=#[.string a1_0,.int .u16 a1_1,.int .u16 a1_2,.bool a1_3]) (t:=28) ?hr ?_;(case hd => rfl);(case hg => rfl);(case hr => first|(go_simp;done)|(go_simp;rfl));intro gb444 hg w10 hbox hb;have n0_:=Aside0.mk (blk_below (g:=gb443) (o:=.cells #[.string a0_0,.int .u16 a0_1,.int .u16 a0_2,.bool a0_3] 28 (0,0)) (by (with_reducible repeat first|apply qqa|apply qqb|apply qqc);exact BK443.out) hb);have n1_:=Aside0.mk (below_step (by repeat (first|(with_reducible first|exact HB.out|apply qqf|apply qqd|apply qqe|refine qqg ?_ GE443.out)|exact HB.out)) hb);have n2_:=Aside0.mk (hbox);have n3_:=Aside0.mk ((by rw [hg];exact (below_size (by repeat (first|(with_reducible first|exact HB.out|apply qqf|apply qqd|apply qqe|refine qqg ?_ GE443.out)|exact HB.out))) : w.heap.size ≤ gb444));have n4_:=Aside0.mk ((by rw [hg];exact (below_size (by repeat (first|(with_reducible first|exact HB.out|apply qqf|apply qqd|apply qqe|refine qqg ?_ GE443.out)|exact HB.out))) : w.heap.size ≤ gb444));have n5_:=Aside0.mk ((by rw [hg];exact Nat.ne_of_lt (blk_lt (g:=gb443) (o:=.cells #[.string a0_0,.int .u16 a0_1,.int .u16 a0_2,.bool a0_3] 28 (0,0)) (by (with_reducible repeat first|apply qqa|apply qqb|apply qqc);exact BK443.out)) : gb443 ≠ gb444));have n6_:=Aside0.mk ((by rw [hg];exact Nat.ne_of_gt (blk_lt (g:=gb443) (o:=.cells #[.string a0_0,.int .u16 a0_1,.int .u16 a0_2,.bool a0_3] 28 (0,0)) (by (with_reducible repeat first|apply qqa|apply qqb|apply qqc);exact BK443.out)) : gb444 ≠ gb443));clear BK443;clear HB;have BK443:=n0_;have HB:=n1_;have BK444:=n2_;have GW444:=n3_;have GE444:=n4_;have NB443_444:=n5_;have NB444_443:=n6_;clear n0_ n1_ n2_ n3_ n4_ n5_ n6_;clear hb hbox hg)|((with_reducible refine gate_callee (f:=9) rfl ?_);refine goesL_ (some 15) rfl rfl Try.func9 (by kernel_rfl) rfl #[] rfl (by (try simp only [List.map_toArray,List.map_cons,List.map_nil]);first|done|rfl|(simp only [List.length_drop,List.length_take];rfl)) ?_;(with_reducible refine (nunciolaw08_awake.calls k  true _ A6.out).mono ?_);rintro e w11 ⟨rfl,hb⟩;refine ⟨_,rfl,?_⟩;have n0_:=Aside0.mk (blk_below (g:=gb443) (o:=.cells #[.string a0_0,.int .u16 a0_1,.int .u16 a0_2,.bool a0_3] 28 (0,0)) (by (with_reducible repeat first|apply qqa|apply qqb|apply qqc);exact BK443.out) hb);have n1_:=Aside0.mk (blk_below (g:=gb444) (o:=.cells #[.string a1_0,.int .u16 a1_1,.int .u16 a1_2,.bool a1_3] 28 (0,0)) (by (with_reducible repeat first|apply qqa|apply qqb|apply qqc);exact BK444.out) hb);have n2_:=Aside0.mk (below_step (by repeat (first|(with_reducible first|exact HB.out|apply qqf|apply qqd|apply qqe|refine qqg ?_ GE443.out|refine qqg ?_ GE444.out)|exact HB.out)) hb);clear BK443;clear BK444;clear HB;have BK443:=n0_;have BK444:=n1_;have HB:=n2_;clear n0_ n1_ n2_;(try clear hb);(try clear hb2);(try clear hk);(try clear hi)))
 (try simp only [Act.put,qqj,qqk,qql])
 go_cut [39] (fun v39 wc => ∃ (kq : Nat) (x39_7 : Bool),v39 = .bool x39_7∧Aside0 (nunciolaw08_QueryBack.j0 kq a2 a3 a4 x39_7 a0_0 a0_1 a0_2 a0_3 a1_0 a1_1 a1_2 a1_3 = some r)∧Aside0 (kq ≤ k)∧Aside0 (wc.heap[gb443]? = some (.cells #[.string a0_0,.int .u16 a0_1,.int .u16 a0_2,.bool a0_3] 28 (0,0)))∧Aside0 (wc.heap[gb444]? = some (.cells #[.string a1_0,.int .u16 a1_1,.int .u16 a1_2,.bool a1_3] 28 (0,0)))∧Aside0 (Below w.heap.size w wc))
 case first =>
  have H:=HC8.out
  clear HC8
  replace H:=Option.bind_eq_some_iff.mp H
  obtain ⟨t446,A120,H⟩:=H
  replace H : (if t446 = true then ((nuncioref04_Fold.f k a0_0).bind fun t447 => (if t447.toList = a0_0.toList then (if a0_1 = 41 then (nunciolaw08_QueryBack.j0 k a2 a3 a4 true a0_0 a0_1 a0_2 a0_3 a1_0 a1_1 a1_2 a1_3) else (nunciolaw08_QueryBack.j0 k a2 a3 a4 (decide ((a1_0.size : Int) > 5000)) a0_0 a0_1 a0_2 a0_3 a1_0 a1_1 a1_2 a1_3)) else (nunciolaw08_QueryBack.j0 k a2 a3 a4 true a0_0 a0_1 a0_2 a0_3 a1_0 a1_1 a1_2 a1_3))) else (nunciolaw08_QueryBack.j0 k a2 a3 a4 true a0_0 a0_1 a0_2 a0_3 a1_0 a1_1 a1_2 a1_3)) = some r:=H
  have A12:=Aside0.mk A120
  clear A120
  by_cases c13 : t446 = true
  ·
   subst c13
   have H1 : ((nuncioref04_Fold.f k a0_0).bind fun t447 => (if t447.toList = a0_0.toList then (if a0_1 = 41 then (nunciolaw08_QueryBack.j0 k a2 a3 a4 true a0_0 a0_1 a0_2 a0_3 a1_0 a1_1 a1_2 a1_3) else (nunciolaw08_QueryBack.j0 k a2 a3 a4 (decide ((a1_0.size : Int) > 5000)) a0_0 a0_1 a0_2 a0_3 a1_0 a1_1 a1_2 a1_3)) else (nunciolaw08_QueryBack.j0 k a2 a3 a4 true a0_0 a0_1 a0_2 a0_3 a1_0 a1_1 a1_2 a1_3))) = some r:=by rw [if_pos rfl] at H;exact H
   clear H
   have H:=H1
   clear H1
   replace H:=Option.bind_eq_some_iff.mp H
   obtain ⟨t447,A140,H⟩:=H
   replace H : (if t447.toList = a0_0.toList then (if a0_1 = 41 then (nunciolaw08_QueryBack.j0 k a2 a3 a4 true a0_0 a0_1 a0_2 a0_3 a1_0 a1_1 a1_2 a1_3) else (nunciolaw08_QueryBack.j0 k a2 a3 a4 (decide ((a1_0.size : Int) > 5000)) a0_0 a0_1 a0_2 a0_3 a1_0 a1_1 a1_2 a1_3)) else (nunciolaw08_QueryBack.j0 k a2 a3 a4 true a0_0 a0_1 a0_2 a0_3 a1_0 a1_1 a1_2 a1_3)) = some r:=H
   have A14:=Aside0.mk A140
   clear A140
   by_cases c15 : t447.toList = a0_0.toList
   ·
    rw [if_pos c15] at H
    have c15b0 : (t447.toList == a0_0.toList) = true:=beq_iff_eq.mpr c15
    have c15b1 : (t447.toList != a0_0.toList) = false:=bne_eq_false_iff_eq.mpr c15
    clear c15
    (first|rw [c15b0]|rw [c15b1]|(simp only [i64_w,i32_w];rw [c15b0])|skip)
    by_cases c16 : a0_1 = 41
    ·
     rw [if_pos c16] at H
     have c16b0 : (a0_1 == 41) = true:=beq_iff_eq.mpr c16
     have c16b1 : (a0_1 != 41) = false:=bne_eq_false_iff_eq.mpr c16
     clear c16
     have H':=Aside0.mk H
     clear H
     try go_wp2
     have n0_:=Aside0.mk (qqb BK443.out)
     have n1_:=Aside0.mk (qqb BK444.out)
     have n2_:=Aside0.mk (qqe HB.out)
     clear BK443
     clear BK444
     clear HB
     have BK443:=n0_
     have BK444:=n1_
     have HB:=n2_
     clear n0_ n1_ n2_
     refine start_ (n:=23) (S:=fun w' => w'.cell? ⟨gb443,0,none⟩ = some (.string a0_0)∧w'.cell? ⟨gb443,1,none⟩ = some (.int .u16 a0_1)∧w'.cell? ⟨gb443,2,none⟩ = some (.int .u16 a0_2)∧w'.cell? ⟨gb443,3,none⟩ = some (.bool a0_3)) (ds:=[]) #[false,false,false,false,false,false,false,false,false,false,false,false,false,false,false,false,false,false,false,false,false,false,false] (by kernel_rfl) rfl rfl ⟨(qqh BK443.out 0).trans rfl,(qqh BK443.out 1).trans rfl,(qqh BK443.out 2).trans rfl,(qqh BK443.out 3).trans rfl⟩ (fun hHeld => ?_);refine with_tabW nunciolaw08_QueryBack.tab3 nunciolaw08_QueryBack.bits3 (fun HT_ HW_ => ?_)
     generalize w11.drew = w17 at BK443 BK444 HB hHeld ⊢
     refine pure_ (i:=0) (N:=some 17) (v:=?_) (a':=?_) #[true,false,false,false,false,false,false,false,false,false,false,false,false,false,false,false,false,false,false,false,false,false,false] rfl rfl (any_of HT_.out (by kernel_rfl)) (fun _ _ _ h => h) (Or.inl ⟨by rfl,?_⟩) ?_ ?_
     rotate_left
     ·
      intro w'
      go_simp
      with_reducible rfl
     rotate_left
     ·
      simp only [Act.put,qqj,qqk,qql,i64_w,i32_w]
      rfl
     refine take_ (i:=1) (N:=some 18) (v:=?_) (a':=?_) #[true,true,false,false,false,false,false,false,false,false,false,false,false,false,false,false,false,false,false,false,false,false,false] rfl rfl (take_ofW HT_.out HW_.out (by kernel_rfl)) (fun _ _ _ h => h) (Or.inl ⟨by rfl,?_⟩) hHeld ?_ ?_
     rotate_left
     ·
      rintro w' ⟨s0,s1,s2,s3⟩
      go_simp
      with_reducible rfl
     rotate_left
     ·
      simp only [Act.put,qqj,qqk,qql,i64_w,i32_w]
      rfl
     refine one_ (i:=2) (N:=some 19) #[true,true,true,false,false,false,false,false,false,false,false,false,false,false,false,false,false,false,false,false,false,false,false] rfl rfl (one_of HT_.out (by kernel_rfl)) (by decide) (fun K hK => ?_)
     refine goes_ Try.func29 (by kernel_rfl) rfl #[.string a0_0] (by rfl) rfl rfl (by (try simp only [List.map_toArray,List.map_cons,List.map_nil]);first|done|rfl|(simp only [List.length_drop,List.length_take];rfl)) ?_
     with_reducible refine (nuncioref04_Is.calls k a0_0 true _ A12.out).mono ?_
     rintro e w18 ⟨rfl,hb⟩
     refine ⟨_,rfl,?_⟩
     have n0_:=Aside0.mk (blk_below (g:=gb443) (o:=.cells #[.string a0_0,.int .u16 a0_1,.int .u16 a0_2,.bool a0_3] 28 (0,0)) (by (with_reducible repeat first|apply qqa|apply qqb|apply qqc);exact BK443.out) hb)
     have n1_:=Aside0.mk (blk_below (g:=gb444) (o:=.cells #[.string a1_0,.int .u16 a1_1,.int .u16 a1_2,.bool a1_3] 28 (0,0)) (by (with_reducible repeat first|apply qqa|apply qqb|apply qqc);exact BK444.out) hb)
     have n2_:=Aside0.mk (below_step (by repeat (first|(with_reducible first|exact HB.out|apply qqf|apply qqd|apply qqe|refine qqg ?_ GE443.out|refine qqg ?_ GE444.out)|exact HB.out)) hb)
     clear BK443
     clear BK444
     clear HB
     have BK443:=n0_
     have BK444:=n1_
     have HB:=n2_
     clear n0_ n1_ n2_
     (try clear hb)
     (try clear hb2)
     (try clear hk)
     (try clear hi)
     refine hK.out _ _ ⟨(qqh BK443.out 0).trans rfl,(qqh BK443.out 1).trans rfl,(qqh BK443.out 2).trans rfl,(qqh BK443.out 3).trans rfl⟩ (fun hHeld => ?_)
     clear hK K
     refine norm_ (a':=?_) ?_ ?_
     rotate_left
     ·
      show Act.put _ (some 19) _ = _
      simp only [Act.put,qqj,qqk,qql,i64_w,i32_w]
      rfl
     refine pure_ (i:=3) (N:=some 20) (v:=?_) (a':=?_) #[true,true,true,true,false,false,false,false,false,false,false,false,false,false,false,false,false,false,false,false,false,false,false] rfl rfl (any_of HT_.out (by kernel_rfl)) (fun _ _ _ h => h) (Or.inl ⟨by rfl,?_⟩) ?_ ?_
     rotate_left
     ·
      intro w'
      go_simp
      with_reducible rfl
     rotate_left
     ·
      simp only [Act.put,qqj,qqk,qql,i64_w,i32_w]
      rfl
     refine pure_ (i:=4) (N:=some 21) (v:=?_) (a':=?_) #[true,true,true,true,true,false,false,false,false,false,false,false,false,false,false,false,false,false,false,false,false,false,false] rfl rfl (any_of HT_.out (by kernel_rfl)) (fun _ _ _ h => h) (Or.inl ⟨by rfl,?_⟩) ?_ ?_
     rotate_left
     ·
      intro w'
      go_simp
      with_reducible rfl
     rotate_left
     ·
      simp only [Act.put,qqj,qqk,qql,i64_w,i32_w]
      rfl
     refine pure_ (i:=5) (N:=some 22) (v:=?_) (a':=?_) #[true,true,true,true,true,true,false,false,false,false,false,false,false,false,false,false,false,false,false,false,false,false,false] rfl rfl (any_of HT_.out (by kernel_rfl)) (fun _ _ _ h => h) (Or.inl ⟨by rfl,?_⟩) ?_ ?_
     rotate_left
     ·
      intro w'
      go_simp
      with_reducible rfl
     rotate_left
     ·
      simp only [Act.put,qqj,qqk,qql,i64_w,i32_w]
      rfl
     refine pure_ (i:=8) (N:=some 25) (v:=?_) (a':=?_) #[true,true,true,true,true,true,false,false,true,false,false,false,false,false,false,false,false,false,false,false,false,false,false] rfl rfl (any_of HT_.out (by kernel_rfl)) (fun _ _ _ h => h) (Or.inl ⟨by rfl,?_⟩) ?_ ?_
     rotate_left
     ·
      intro w'
      go_simp
      with_reducible rfl
     rotate_left
     ·
      simp only [Act.put,qqj,qqk,qql,i64_w,i32_w]
      rfl
     refine take_ (i:=6) (N:=some 23) (v:=?_) (a':=?_) #[true,true,true,true,true,true,true,false,true,false,false,false,false,false,false,false,false,false,false,false,false,false,false] rfl rfl (take_ofW HT_.out HW_.out (by kernel_rfl)) (fun _ _ _ h => h) (Or.inl ⟨by rfl,?_⟩) hHeld ?_ ?_
     rotate_left
     ·
      rintro w' ⟨s0,s1,s2,s3⟩
      go_simp
      with_reducible rfl
     rotate_left
     ·
      simp only [Act.put,qqj,qqk,qql,i64_w,i32_w]
      rfl
     refine take_ (i:=9) (N:=some 26) (v:=?_) (a':=?_) #[true,true,true,true,true,true,true,false,true,true,false,false,false,false,false,false,false,false,false,false,false,false,false] rfl rfl (take_ofW HT_.out HW_.out (by kernel_rfl)) (fun _ _ _ h => h) (Or.inl ⟨by rfl,?_⟩) hHeld ?_ ?_
     rotate_left
     ·
      rintro w' ⟨s0,s1,s2,s3⟩
      go_simp
      with_reducible rfl
     rotate_left
     ·
      simp only [Act.put,qqj,qqk,qql,i64_w,i32_w]
      rfl
     refine one_ (i:=7) (N:=some 24) #[true,true,true,true,true,true,true,true,true,true,false,false,false,false,false,false,false,false,false,false,false,false,false] rfl rfl (one_of HT_.out (by kernel_rfl)) (by decide) (fun K hK => ?_)
     refine goes_ Try.func30 (by kernel_rfl) rfl #[.string a0_0] (by rfl) rfl rfl (by (try simp only [List.map_toArray,List.map_cons,List.map_nil]);first|done|rfl|(simp only [List.length_drop,List.length_take];rfl)) ?_
     with_reducible refine (nuncioref04_Fold.calls k a0_0 t447 _ A14.out).mono ?_
     rintro e w19 ⟨rfl,hb⟩
     refine ⟨_,rfl,?_⟩
     have n0_:=Aside0.mk (blk_below (g:=gb443) (o:=.cells #[.string a0_0,.int .u16 a0_1,.int .u16 a0_2,.bool a0_3] 28 (0,0)) (by (with_reducible repeat first|apply qqa|apply qqb|apply qqc);exact BK443.out) hb)
     have n1_:=Aside0.mk (blk_below (g:=gb444) (o:=.cells #[.string a1_0,.int .u16 a1_1,.int .u16 a1_2,.bool a1_3] 28 (0,0)) (by (with_reducible repeat first|apply qqa|apply qqb|apply qqc);exact BK444.out) hb)
     have n2_:=Aside0.mk (below_step (by repeat (first|(with_reducible first|exact HB.out|apply qqf|apply qqd|apply qqe|refine qqg ?_ GE443.out|refine qqg ?_ GE444.out)|exact HB.out)) hb)
     clear BK443
     clear BK444
     clear HB
     have BK443:=n0_
     have BK444:=n1_
     have HB:=n2_
     clear n0_ n1_ n2_
     (try clear hb)
     (try clear hb2)
     (try clear hk)
     (try clear hi)
     refine hK.out _ _ ⟨(qqh BK443.out 0).trans rfl,(qqh BK443.out 1).trans rfl,(qqh BK443.out 2).trans rfl,(qqh BK443.out 3).trans rfl⟩ (fun hHeld => ?_)
     clear hK K
     refine norm_ (a':=?_) ?_ ?_
     rotate_left
     ·
      show Act.put _ (some 24) _ = _
      simp only [Act.put,qqj,qqk,qql,i64_w,i32_w]
      rfl
     refine pure_ (i:=10) (N:=some 27) (v:=?_) (a':=?_) #[true,true,true,true,true,true,true,true,true,true,true,false,false,false,false,false,false,false,false,false,false,false,false] rfl rfl (any_of HT_.out (by kernel_rfl)) (fun _ _ _ h => h) (Or.inl ⟨by rfl,?_⟩) ?_ ?_
     rotate_left
     ·
      intro w'
      go_simp
      with_reducible rfl
     rotate_left
     ·
      simp only [Act.put,qqj,qqk,qql,i64_w,i32_w]
      rfl
     refine pure_ (i:=11) (N:=some 28) (v:=?_) (a':=?_) #[true,true,true,true,true,true,true,true,true,true,true,true,false,false,false,false,false,false,false,false,false,false,false] rfl rfl (any_of HT_.out (by kernel_rfl)) (fun _ _ _ h => h) (Or.inl ⟨by rfl,?_⟩) ?_ ?_
     rotate_left
     ·
      intro w'
      go_simp
      with_reducible rfl
     rotate_left
     ·
      simp only [Act.put,qqj,qqk,qql,i64_w,i32_w]
      rfl
     refine pure_ (i:=12) (N:=some 29) (v:=?_) (a':=?_) #[true,true,true,true,true,true,true,true,true,true,true,true,true,false,false,false,false,false,false,false,false,false,false] rfl rfl (any_of HT_.out (by kernel_rfl)) (fun _ _ _ h => h) (Or.inl ⟨by rfl,?_⟩) ?_ ?_
     rotate_left
     ·
      intro w'
      go_simp
      with_reducible rfl
     rotate_left
     ·
      simp only [Act.put,qqj,qqk,qql,i64_w,i32_w]
      rfl
     refine pure_ (i:=13) (N:=some 30) (v:=?_) (a':=?_) #[true,true,true,true,true,true,true,true,true,true,true,true,true,true,false,false,false,false,false,false,false,false,false] rfl rfl (any_of HT_.out (by kernel_rfl)) (fun _ _ _ h => h) (Or.inl ⟨by rfl,?_⟩) ?_ ?_
     rotate_left
     ·
      intro w'
      go_simp
      with_reducible rfl
     rotate_left
     ·
      simp only [Act.put,qqj,qqk,qql,i64_w,i32_w]
      rfl
     refine take_ (i:=14) (N:=some 31) (v:=?_) (a':=?_) #[true,true,true,true,true,true,true,true,true,true,true,true,true,true,true,false,false,false,false,false,false,false,false] rfl rfl (take_ofW HT_.out HW_.out (by kernel_rfl)) (fun _ _ _ h => h) (Or.inl ⟨by rfl,?_⟩) hHeld ?_ ?_
     rotate_left
     ·
      rintro w' ⟨s0,s1,s2,s3⟩
      go_simp
      with_reducible rfl
     rotate_left
     ·
      simp only [Act.put,qqj,qqk,qql,i64_w,i32_w]
      rfl
     refine pure_ (i:=15) (N:=some 32) (v:=?_) (a':=?_) #[true,true,true,true,true,true,true,true,true,true,true,true,true,true,true,true,false,false,false,false,false,false,false] rfl rfl (any_of HT_.out (by kernel_rfl)) (fun _ _ _ h => h) (Or.inl ⟨by rfl,?_⟩) ?_ ?_
     rotate_left
     ·
      intro w'
      go_simp
      with_reducible rfl
     rotate_left
     ·
      simp only [Act.put,qqj,qqk,qql,i64_w,i32_w]
      rfl
     refine pure_ (i:=16) (N:=some 33) (v:=?_) (a':=?_) #[true,true,true,true,true,true,true,true,true,true,true,true,true,true,true,true,true,false,false,false,false,false,false] rfl rfl (any_of HT_.out (by kernel_rfl)) (fun _ _ _ h => h) (Or.inl ⟨by rfl,?_⟩) ?_ ?_
     rotate_left
     ·
      intro w'
      go_simp
      with_reducible rfl
     rotate_left
     ·
      simp only [Act.put,qqj,qqk,qql,i64_w,i32_w]
      rfl
     refine pure_ (i:=17) (N:=some 34) (v:=?_) (a':=?_) #[true,true,true,true,true,true,true,true,true,true,true,true,true,true,true,true,true,true,false,false,false,false,false] rfl rfl (any_of HT_.out (by kernel_rfl)) (fun _ _ _ h => h) (Or.inl ⟨by rfl,?_⟩) ?_ ?_
     rotate_left
     ·
      intro w'
      go_simp
      with_reducible rfl
     rotate_left
     ·
      simp only [Act.put,qqj,qqk,qql,i64_w,i32_w]
      rfl
     refine pure_ (i:=18) (N:=some 35) (v:=undef) (a':=?_) #[true,true,true,true,true,true,true,true,true,true,true,true,true,true,true,true,true,true,true,false,false,false,false] rfl rfl (any_of HT_.out (by kernel_rfl)) (fun _ _ _ h => h) (Or.inr ⟨by rfl,rfl⟩) ?_ ?_
     rotate_left
     ·
      simp only [Act.put,qqj,qqk,qql,i64_w,i32_w]
      rfl
     refine pure_ (i:=19) (N:=some 36) (v:=undef) (a':=?_) #[true,true,true,true,true,true,true,true,true,true,true,true,true,true,true,true,true,true,true,true,false,false,false] rfl rfl (any_of HT_.out (by kernel_rfl)) (fun _ _ _ h => h) (Or.inr ⟨by rfl,rfl⟩) ?_ ?_
     rotate_left
     ·
      simp only [Act.put,qqj,qqk,qql,i64_w,i32_w]
      rfl
     refine pure_ (i:=20) (N:=some 37) (v:=undef) (a':=?_) #[true,true,true,true,true,true,true,true,true,true,true,true,true,true,true,true,true,true,true,true,true,false,false] rfl rfl (any_of HT_.out (by kernel_rfl)) (fun _ _ _ h => h) (Or.inr ⟨by rfl,rfl⟩) ?_ ?_
     rotate_left
     ·
      simp only [Act.put,qqj,qqk,qql,i64_w,i32_w]
      rfl
     refine pure_ (i:=21) (N:=some 38) (v:=undef) (a':=?_) #[true,true,true,true,true,true,true,true,true,true,true,true,true,true,true,true,true,true,true,true,true,true,false] rfl rfl (any_of HT_.out (by kernel_rfl)) (fun _ _ _ h => h) (Or.inr ⟨by rfl,rfl⟩) ?_ ?_
     rotate_left
     ·
      simp only [Act.put,qqj,qqk,qql,i64_w,i32_w]
      rfl
     refine pure_ (i:=22) (N:=some 39) (v:=?_) (a':=?_) #[true,true,true,true,true,true,true,true,true,true,true,true,true,true,true,true,true,true,true,true,true,true,true] rfl rfl (any_of HT_.out (by kernel_rfl)) (fun _ _ _ h => h) (Or.inl ⟨by rfl,?_⟩) ?_ ?_
     rotate_left
     ·
      intro w'
      go_simp
      with_reducible rfl
     rotate_left
     ·
      simp only [Act.put,qqj,qqk,qql,i64_w,i32_w]
      rfl
     refine done_ (done_of HT_.out (by kernel_rfl)) ?_
     try go_wp2
     go_meet
     case rel => exact ⟨_,(true),(by first|rfl|(simp;done)|(simp [*];done)),H',⟨by first|omega|exact Nat.le_refl _⟩,⟨by (with_reducible repeat first|apply qqa|apply qqb|apply qqc);exact BK443.out⟩,⟨by (with_reducible repeat first|apply qqa|apply qqb|apply qqc);exact BK444.out⟩,⟨by repeat (first|(with_reducible first|exact HB.out|apply qqf|apply qqd|apply qqe|refine qqg ?_ GE443.out|refine qqg ?_ GE444.out)|exact HB.out)⟩⟩
    ·
     rw [if_neg c16] at H
     have c16b0 : (a0_1 == 41) = false:=beq_eq_false_iff_ne.mpr c16
     have c16b1 : (a0_1 != 41) = true:=bne_iff_ne.mpr c16
     have H':=Aside0.mk H
     clear H
     try go_wp2
     have n0_:=Aside0.mk (qqb BK443.out)
     have n1_:=Aside0.mk (qqb BK444.out)
     have n2_:=Aside0.mk (qqe HB.out)
     clear BK443
     clear BK444
     clear HB
     have BK443:=n0_
     have BK444:=n1_
     have HB:=n2_
     clear n0_ n1_ n2_
     refine start_ (n:=23) (S:=fun w' => w'.cell? ⟨gb443,0,none⟩ = some (.string a0_0)∧w'.cell? ⟨gb443,1,none⟩ = some (.int .u16 a0_1)∧w'.cell? ⟨gb443,2,none⟩ = some (.int .u16 a0_2)∧w'.cell? ⟨gb443,3,none⟩ = some (.bool a0_3)∧w'.cell? ⟨gb444,0,none⟩ = some (.string a1_0)∧w'.cell? ⟨gb444,1,none⟩ = some (.int .u16 a1_1)∧w'.cell? ⟨gb444,2,none⟩ = some (.int .u16 a1_2)∧w'.cell? ⟨gb444,3,none⟩ = some (.bool a1_3)) (ds:=[]) #[false,false,false,false,false,false,false,false,false,false,false,false,false,false,false,false,false,false,false,false,false,false,false] (by kernel_rfl) rfl rfl ⟨(qqh BK443.out 0).trans rfl,(qqh BK443.out 1).trans rfl,(qqh BK443.out 2).trans rfl,(qqh BK443.out 3).trans rfl,(qqh BK444.out 0).trans rfl,(qqh BK444.out 1).trans rfl,(qqh BK444.out 2).trans rfl,(qqh BK444.out 3).trans rfl⟩ (fun hHeld => ?_);refine with_tabW nunciolaw08_QueryBack.tab3 nunciolaw08_QueryBack.bits3 (fun HT_ HW_ => ?_)
     generalize w11.drew = w20 at BK443 BK444 HB hHeld ⊢
     refine pure_ (i:=0) (N:=some 17) (v:=?_) (a':=?_) #[true,false,false,false,false,false,false,false,false,false,false,false,false,false,false,false,false,false,false,false,false,false,false] rfl rfl (any_of HT_.out (by kernel_rfl)) (fun _ _ _ h => h) (Or.inl ⟨by rfl,?_⟩) ?_ ?_
     rotate_left
     ·
      intro w'
      go_simp
      with_reducible rfl
     rotate_left
     ·
      simp only [Act.put,qqj,qqk,qql,i64_w,i32_w]
      rfl
     refine take_ (i:=1) (N:=some 18) (v:=?_) (a':=?_) #[true,true,false,false,false,false,false,false,false,false,false,false,false,false,false,false,false,false,false,false,false,false,false] rfl rfl (take_ofW HT_.out HW_.out (by kernel_rfl)) (fun _ _ _ h => h) (Or.inl ⟨by rfl,?_⟩) hHeld ?_ ?_
     rotate_left
     ·
      rintro w' ⟨s0,s1,s2,s3,s4,s5,s6,s7⟩
      go_simp
      with_reducible rfl
     rotate_left
     ·
      simp only [Act.put,qqj,qqk,qql,i64_w,i32_w]
      rfl
     refine one_ (i:=2) (N:=some 19) #[true,true,true,false,false,false,false,false,false,false,false,false,false,false,false,false,false,false,false,false,false,false,false] rfl rfl (one_of HT_.out (by kernel_rfl)) (by decide) (fun K hK => ?_)
     refine goes_ Try.func29 (by kernel_rfl) rfl #[.string a0_0] (by rfl) rfl rfl (by (try simp only [List.map_toArray,List.map_cons,List.map_nil]);first|done|rfl|(simp only [List.length_drop,List.length_take];rfl)) ?_
     with_reducible refine (nuncioref04_Is.calls k a0_0 true _ A12.out).mono ?_
     rintro e w21 ⟨rfl,hb⟩
     refine ⟨_,rfl,?_⟩
     have n0_:=Aside0.mk (blk_below (g:=gb443) (o:=.cells #[.string a0_0,.int .u16 a0_1,.int .u16 a0_2,.bool a0_3] 28 (0,0)) (by (with_reducible repeat first|apply qqa|apply qqb|apply qqc);exact BK443.out) hb)
     have n1_:=Aside0.mk (blk_below (g:=gb444) (o:=.cells #[.string a1_0,.int .u16 a1_1,.int .u16 a1_2,.bool a1_3] 28 (0,0)) (by (with_reducible repeat first|apply qqa|apply qqb|apply qqc);exact BK444.out) hb)
     have n2_:=Aside0.mk (below_step (by repeat (first|(with_reducible first|exact HB.out|apply qqf|apply qqd|apply qqe|refine qqg ?_ GE443.out|refine qqg ?_ GE444.out)|exact HB.out)) hb)
     clear BK443
     clear BK444
     clear HB
     have BK443:=n0_
     have BK444:=n1_
     have HB:=n2_
     clear n0_ n1_ n2_
     (try clear hb)
     (try clear hb2)
     (try clear hk)
     (try clear hi)
     refine hK.out _ _ ⟨(qqh BK443.out 0).trans rfl,(qqh BK443.out 1).trans rfl,(qqh BK443.out 2).trans rfl,(qqh BK443.out 3).trans rfl,(qqh BK444.out 0).trans rfl,(qqh BK444.out 1).trans rfl,(qqh BK444.out 2).trans rfl,(qqh BK444.out 3).trans rfl⟩ (fun hHeld => ?_)
     clear hK K
     refine norm_ (a':=?_) ?_ ?_
     rotate_left
     ·
      show Act.put _ (some 19) _ = _
      simp only [Act.put,qqj,qqk,qql,i64_w,i32_w]
      rfl
     refine pure_ (i:=3) (N:=some 20) (v:=?_) (a':=?_) #[true,true,true,true,false,false,false,false,false,false,false,false,false,false,false,false,false,false,false,false,false,false,false] rfl rfl (any_of HT_.out (by kernel_rfl)) (fun _ _ _ h => h) (Or.inl ⟨by rfl,?_⟩) ?_ ?_
     rotate_left
     ·
      intro w'
      go_simp
      with_reducible rfl
     rotate_left
     ·
      simp only [Act.put,qqj,qqk,qql,i64_w,i32_w]
      rfl
     refine pure_ (i:=4) (N:=some 21) (v:=?_) (a':=?_) #[true,true,true,true,true,false,false,false,false,false,false,false,false,false,false,false,false,false,false,false,false,false,false] rfl rfl (any_of HT_.out (by kernel_rfl)) (fun _ _ _ h => h) (Or.inl ⟨by rfl,?_⟩) ?_ ?_
     rotate_left
     ·
      intro w'
      go_simp
      with_reducible rfl
     rotate_left
     ·
      simp only [Act.put,qqj,qqk,qql,i64_w,i32_w]
      rfl
     refine pure_ (i:=5) (N:=some 22) (v:=?_) (a':=?_) #[true,true,true,true,true,true,false,false,false,false,false,false,false,false,false,false,false,false,false,false,false,false,false] rfl rfl (any_of HT_.out (by kernel_rfl)) (fun _ _ _ h => h) (Or.inl ⟨by rfl,?_⟩) ?_ ?_
     rotate_left
     ·
      intro w'
      go_simp
      with_reducible rfl
     rotate_left
     ·
      simp only [Act.put,qqj,qqk,qql,i64_w,i32_w]
      rfl
     refine pure_ (i:=8) (N:=some 25) (v:=?_) (a':=?_) #[true,true,true,true,true,true,false,false,true,false,false,false,false,false,false,false,false,false,false,false,false,false,false] rfl rfl (any_of HT_.out (by kernel_rfl)) (fun _ _ _ h => h) (Or.inl ⟨by rfl,?_⟩) ?_ ?_
     rotate_left
     ·
      intro w'
      go_simp
      with_reducible rfl
     rotate_left
     ·
      simp only [Act.put,qqj,qqk,qql,i64_w,i32_w]
      rfl
     refine take_ (i:=6) (N:=some 23) (v:=?_) (a':=?_) #[true,true,true,true,true,true,true,false,true,false,false,false,false,false,false,false,false,false,false,false,false,false,false] rfl rfl (take_ofW HT_.out HW_.out (by kernel_rfl)) (fun _ _ _ h => h) (Or.inl ⟨by rfl,?_⟩) hHeld ?_ ?_
     rotate_left
     ·
      rintro w' ⟨s0,s1,s2,s3,s4,s5,s6,s7⟩
      go_simp
      with_reducible rfl
     rotate_left
     ·
      simp only [Act.put,qqj,qqk,qql,i64_w,i32_w]
      rfl
     refine take_ (i:=9) (N:=some 26) (v:=?_) (a':=?_) #[true,true,true,true,true,true,true,false,true,true,false,false,false,false,false,false,false,false,false,false,false,false,false] rfl rfl (take_ofW HT_.out HW_.out (by kernel_rfl)) (fun _ _ _ h => h) (Or.inl ⟨by rfl,?_⟩) hHeld ?_ ?_
     rotate_left
     ·
      rintro w' ⟨s0,s1,s2,s3,s4,s5,s6,s7⟩
      go_simp
      with_reducible rfl
     rotate_left
     ·
      simp only [Act.put,qqj,qqk,qql,i64_w,i32_w]
      rfl
     refine one_ (i:=7) (N:=some 24) #[true,true,true,true,true,true,true,true,true,true,false,false,false,false,false,false,false,false,false,false,false,false,false] rfl rfl (one_of HT_.out (by kernel_rfl)) (by decide) (fun K hK => ?_)
     refine goes_ Try.func30 (by kernel_rfl) rfl #[.string a0_0] (by rfl) rfl rfl (by (try simp only [List.map_toArray,List.map_cons,List.map_nil]);first|done|rfl|(simp only [List.length_drop,List.length_take];rfl)) ?_
     with_reducible refine (nuncioref04_Fold.calls k a0_0 t447 _ A14.out).mono ?_
     rintro e w22 ⟨rfl,hb⟩
     refine ⟨_,rfl,?_⟩
     have n0_:=Aside0.mk (blk_below (g:=gb443) (o:=.cells #[.string a0_0,.int .u16 a0_1,.int .u16 a0_2,.bool a0_3] 28 (0,0)) (by (with_reducible repeat first|apply qqa|apply qqb|apply qqc);exact BK443.out) hb)
     have n1_:=Aside0.mk (blk_below (g:=gb444) (o:=.cells #[.string a1_0,.int .u16 a1_1,.int .u16 a1_2,.bool a1_3] 28 (0,0)) (by (with_reducible repeat first|apply qqa|apply qqb|apply qqc);exact BK444.out) hb)
     have n2_:=Aside0.mk (below_step (by repeat (first|(with_reducible first|exact HB.out|apply qqf|apply qqd|apply qqe|refine qqg ?_ GE443.out|refine qqg ?_ GE444.out)|exact HB.out)) hb)
     clear BK443
     clear BK444
     clear HB
     have BK443:=n0_
     have BK444:=n1_
     have HB:=n2_
     clear n0_ n1_ n2_
     (try clear hb)
     (try clear hb2)
     (try clear hk)
     (try clear hi)
     refine hK.out _ _ ⟨(qqh BK443.out 0).trans rfl,(qqh BK443.out 1).trans rfl,(qqh BK443.out 2).trans rfl,(qqh BK443.out 3).trans rfl,(qqh BK444.out 0).trans rfl,(qqh BK444.out 1).trans rfl,(qqh BK444.out 2).trans rfl,(qqh BK444.out 3).trans rfl⟩ (fun hHeld => ?_)
     clear hK K
     refine norm_ (a':=?_) ?_ ?_
     rotate_left
     ·
      show Act.put _ (some 24) _ = _
      simp only [Act.put,qqj,qqk,qql,i64_w,i32_w]
      rfl
     refine pure_ (i:=10) (N:=some 27) (v:=?_) (a':=?_) #[true,true,true,true,true,true,true,true,true,true,true,false,false,false,false,false,false,false,false,false,false,false,false] rfl rfl (any_of HT_.out (by kernel_rfl)) (fun _ _ _ h => h) (Or.inl ⟨by rfl,?_⟩) ?_ ?_
     rotate_left
     ·
      intro w'
      go_simp
      with_reducible rfl
     rotate_left
     ·
      simp only [Act.put,qqj,qqk,qql,i64_w,i32_w]
      rfl
     refine pure_ (i:=11) (N:=some 28) (v:=?_) (a':=?_) #[true,true,true,true,true,true,true,true,true,true,true,true,false,false,false,false,false,false,false,false,false,false,false] rfl rfl (any_of HT_.out (by kernel_rfl)) (fun _ _ _ h => h) (Or.inl ⟨by rfl,?_⟩) ?_ ?_
     rotate_left
     ·
      intro w'
      go_simp
      with_reducible rfl
     rotate_left
     ·
      simp only [Act.put,qqj,qqk,qql,i64_w,i32_w]
      rfl
     refine pure_ (i:=12) (N:=some 29) (v:=?_) (a':=?_) #[true,true,true,true,true,true,true,true,true,true,true,true,true,false,false,false,false,false,false,false,false,false,false] rfl rfl (any_of HT_.out (by kernel_rfl)) (fun _ _ _ h => h) (Or.inl ⟨by rfl,?_⟩) ?_ ?_
     rotate_left
     ·
      intro w'
      go_simp
      with_reducible rfl
     rotate_left
     ·
      simp only [Act.put,qqj,qqk,qql,i64_w,i32_w]
      rfl
     refine pure_ (i:=13) (N:=some 30) (v:=?_) (a':=?_) #[true,true,true,true,true,true,true,true,true,true,true,true,true,true,false,false,false,false,false,false,false,false,false] rfl rfl (any_of HT_.out (by kernel_rfl)) (fun _ _ _ h => h) (Or.inl ⟨by rfl,?_⟩) ?_ ?_
     rotate_left
     ·
      intro w'
      go_simp
      with_reducible rfl
     rotate_left
     ·
      simp only [Act.put,qqj,qqk,qql,i64_w,i32_w]
      rfl
     refine take_ (i:=14) (N:=some 31) (v:=?_) (a':=?_) #[true,true,true,true,true,true,true,true,true,true,true,true,true,true,true,false,false,false,false,false,false,false,false] rfl rfl (take_ofW HT_.out HW_.out (by kernel_rfl)) (fun _ _ _ h => h) (Or.inl ⟨by rfl,?_⟩) hHeld ?_ ?_
     rotate_left
     ·
      rintro w' ⟨s0,s1,s2,s3,s4,s5,s6,s7⟩
      go_simp
      with_reducible rfl
     rotate_left
     ·
      simp only [Act.put,qqj,qqk,qql,i64_w,i32_w]
      rfl
     refine pure_ (i:=15) (N:=some 32) (v:=?_) (a':=?_) #[true,true,true,true,true,true,true,true,true,true,true,true,true,true,true,true,false,false,false,false,false,false,false] rfl rfl (any_of HT_.out (by kernel_rfl)) (fun _ _ _ h => h) (Or.inl ⟨by rfl,?_⟩) ?_ ?_
     rotate_left
     ·
      intro w'
      go_simp
      with_reducible rfl
     rotate_left
     ·
      simp only [Act.put,qqj,qqk,qql,i64_w,i32_w]
      rfl
     refine pure_ (i:=16) (N:=some 33) (v:=?_) (a':=?_) #[true,true,true,true,true,true,true,true,true,true,true,true,true,true,true,true,true,false,false,false,false,false,false] rfl rfl (any_of HT_.out (by kernel_rfl)) (fun _ _ _ h => h) (Or.inl ⟨by rfl,?_⟩) ?_ ?_
     rotate_left
     ·
      intro w'
      go_simp
      with_reducible rfl
     rotate_left
     ·
      simp only [Act.put,qqj,qqk,qql,i64_w,i32_w]
      rfl
     refine pure_ (i:=17) (N:=some 34) (v:=?_) (a':=?_) #[true,true,true,true,true,true,true,true,true,true,true,true,true,true,true,true,true,true,false,false,false,false,false] rfl rfl (any_of HT_.out (by kernel_rfl)) (fun _ _ _ h => h) (Or.inl ⟨by rfl,?_⟩) ?_ ?_
     rotate_left
     ·
      intro w'
      go_simp
      with_reducible rfl
     rotate_left
     ·
      simp only [Act.put,qqj,qqk,qql,i64_w,i32_w]
      rfl
     refine pure_ (i:=18) (N:=some 35) (v:=?_) (a':=?_) #[true,true,true,true,true,true,true,true,true,true,true,true,true,true,true,true,true,true,true,false,false,false,false] rfl rfl (any_of HT_.out (by kernel_rfl)) (fun _ _ _ h => h) (Or.inl ⟨by rfl,?_⟩) ?_ ?_
     rotate_left
     ·
      intro w'
      go_simp
      with_reducible rfl
     rotate_left
     ·
      simp only [Act.put,qqj,qqk,qql,i64_w,i32_w]
      rfl
     refine take_ (i:=19) (N:=some 36) (v:=?_) (a':=?_) #[true,true,true,true,true,true,true,true,true,true,true,true,true,true,true,true,true,true,true,true,false,false,false] rfl rfl (take_ofW HT_.out HW_.out (by kernel_rfl)) (fun _ _ _ h => h) (Or.inl ⟨by rfl,?_⟩) hHeld ?_ ?_
     rotate_left
     ·
      rintro w' ⟨s0,s1,s2,s3,s4,s5,s6,s7⟩
      go_simp
      with_reducible rfl
     rotate_left
     ·
      simp only [Act.put,qqj,qqk,qql,i64_w,i32_w]
      rfl
     refine pure_ (i:=20) (N:=some 37) (v:=?_) (a':=?_) #[true,true,true,true,true,true,true,true,true,true,true,true,true,true,true,true,true,true,true,true,true,false,false] rfl rfl (any_of HT_.out (by kernel_rfl)) (fun _ _ _ h => h) (Or.inl ⟨by rfl,?_⟩) ?_ ?_
     rotate_left
     ·
      intro w'
      go_simp
      with_reducible rfl
     rotate_left
     ·
      simp only [Act.put,qqj,qqk,qql,i64_w,i32_w]
      rfl
     refine pure_ (i:=21) (N:=some 38) (v:=?_) (a':=?_) #[true,true,true,true,true,true,true,true,true,true,true,true,true,true,true,true,true,true,true,true,true,true,false] rfl rfl (any_of HT_.out (by kernel_rfl)) (fun _ _ _ h => h) (Or.inl ⟨by rfl,?_⟩) ?_ ?_
     rotate_left
     ·
      intro w'
      go_simp
      with_reducible rfl
     rotate_left
     ·
      simp only [Act.put,qqj,qqk,qql,i64_w,i32_w]
      rfl
     refine pure_ (i:=22) (N:=some 39) (v:=?_) (a':=?_) #[true,true,true,true,true,true,true,true,true,true,true,true,true,true,true,true,true,true,true,true,true,true,true] rfl rfl (any_of HT_.out (by kernel_rfl)) (fun _ _ _ h => h) (Or.inl ⟨by rfl,?_⟩) ?_ ?_
     rotate_left
     ·
      intro w'
      go_simp
      with_reducible rfl
     rotate_left
     ·
      simp only [Act.put,qqj,qqk,qql,i64_w,i32_w]
      rfl
     refine done_ (done_of HT_.out (by kernel_rfl)) ?_
     try go_wp2
     go_meet
     case rel => exact ⟨_,(decide ((a1_0.size : Int) > 5000)),(by first|rfl|(simp;done)|(simp [*];done)),H',⟨by first|omega|exact Nat.le_refl _⟩,⟨by (with_reducible repeat first|apply qqa|apply qqb|apply qqc);exact BK443.out⟩,⟨by (with_reducible repeat first|apply qqa|apply qqb|apply qqc);exact BK444.out⟩,⟨by repeat (first|(with_reducible first|exact HB.out|apply qqf|apply qqd|apply qqe|refine qqg ?_ GE443.out|refine qqg ?_ GE444.out)|exact HB.out)⟩⟩
   ·
    rw [if_neg c15] at H
    have c15b0 : (t447.toList == a0_0.toList) = false:=beq_eq_false_iff_ne.mpr c15
    have c15b1 : (t447.toList != a0_0.toList) = true:=bne_iff_ne.mpr c15
    (first|rw [c15b0]|rw [c15b1]|(simp only [i64_w,i32_w];rw [c15b0])|skip)
    have H':=Aside0.mk H
    clear H
    try go_wp2
    have n0_:=Aside0.mk (qqb BK443.out)
    have n1_:=Aside0.mk (qqb BK444.out)
    have n2_:=Aside0.mk (qqe HB.out)
    clear BK443
    clear BK444
    clear HB
    have BK443:=n0_
    have BK444:=n1_
    have HB:=n2_
    clear n0_ n1_ n2_
    refine start_ (n:=23) (S:=fun w' => w'.cell? ⟨gb443,0,none⟩ = some (.string a0_0)∧w'.cell? ⟨gb443,1,none⟩ = some (.int .u16 a0_1)∧w'.cell? ⟨gb443,2,none⟩ = some (.int .u16 a0_2)∧w'.cell? ⟨gb443,3,none⟩ = some (.bool a0_3)) (ds:=[]) #[false,false,false,false,false,false,false,false,false,false,false,false,false,false,false,false,false,false,false,false,false,false,false] (by kernel_rfl) rfl rfl ⟨(qqh BK443.out 0).trans rfl,(qqh BK443.out 1).trans rfl,(qqh BK443.out 2).trans rfl,(qqh BK443.out 3).trans rfl⟩ (fun hHeld => ?_);refine with_tabW nunciolaw08_QueryBack.tab3 nunciolaw08_QueryBack.bits3 (fun HT_ HW_ => ?_)
    generalize w11.drew = w23 at BK443 BK444 HB hHeld ⊢
    refine pure_ (i:=0) (N:=some 17) (v:=?_) (a':=?_) #[true,false,false,false,false,false,false,false,false,false,false,false,false,false,false,false,false,false,false,false,false,false,false] rfl rfl (any_of HT_.out (by kernel_rfl)) (fun _ _ _ h => h) (Or.inl ⟨by rfl,?_⟩) ?_ ?_
    rotate_left
    ·
     intro w'
     go_simp
     with_reducible rfl
    rotate_left
    ·
     simp only [Act.put,qqj,qqk,qql,i64_w,i32_w]
     rfl
    refine take_ (i:=1) (N:=some 18) (v:=?_) (a':=?_) #[true,true,false,false,false,false,false,false,false,false,false,false,false,false,false,false,false,false,false,false,false,false,false] rfl rfl (take_ofW HT_.out HW_.out (by kernel_rfl)) (fun _ _ _ h => h) (Or.inl ⟨by rfl,?_⟩) hHeld ?_ ?_
    rotate_left
    ·
     rintro w' ⟨s0,s1,s2,s3⟩
     go_simp
     with_reducible rfl
    rotate_left
    ·
     simp only [Act.put,qqj,qqk,qql,i64_w,i32_w]
     rfl
    refine one_ (i:=2) (N:=some 19) #[true,true,true,false,false,false,false,false,false,false,false,false,false,false,false,false,false,false,false,false,false,false,false] rfl rfl (one_of HT_.out (by kernel_rfl)) (by decide) (fun K hK => ?_)
    refine goes_ Try.func29 (by kernel_rfl) rfl #[.string a0_0] (by rfl) rfl rfl (by (try simp only [List.map_toArray,List.map_cons,List.map_nil]);first|done|rfl|(simp only [List.length_drop,List.length_take];rfl)) ?_
    with_reducible refine (nuncioref04_Is.calls k a0_0 true _ A12.out).mono ?_
    rintro e w24 ⟨rfl,hb⟩
    refine ⟨_,rfl,?_⟩
    have n0_:=Aside0.mk (blk_below (g:=gb443) (o:=.cells #[.string a0_0,.int .u16 a0_1,.int .u16 a0_2,.bool a0_3] 28 (0,0)) (by (with_reducible repeat first|apply qqa|apply qqb|apply qqc);exact BK443.out) hb)
    have n1_:=Aside0.mk (blk_below (g:=gb444) (o:=.cells #[.string a1_0,.int .u16 a1_1,.int .u16 a1_2,.bool a1_3] 28 (0,0)) (by (with_reducible repeat first|apply qqa|apply qqb|apply qqc);exact BK444.out) hb)
    have n2_:=Aside0.mk (below_step (by repeat (first|(with_reducible first|exact HB.out|apply qqf|apply qqd|apply qqe|refine qqg ?_ GE443.out|refine qqg ?_ GE444.out)|exact HB.out)) hb)
    clear BK443
    clear BK444
    clear HB
    have BK443:=n0_
    have BK444:=n1_
    have HB:=n2_
    clear n0_ n1_ n2_
    (try clear hb)
    (try clear hb2)
    (try clear hk)
    (try clear hi)
    refine hK.out _ _ ⟨(qqh BK443.out 0).trans rfl,(qqh BK443.out 1).trans rfl,(qqh BK443.out 2).trans rfl,(qqh BK443.out 3).trans rfl⟩ (fun hHeld => ?_)
    clear hK K
    refine norm_ (a':=?_) ?_ ?_
    rotate_left
    ·
     show Act.put _ (some 19) _ = _
     simp only [Act.put,qqj,qqk,qql,i64_w,i32_w]
     rfl
    refine pure_ (i:=3) (N:=some 20) (v:=?_) (a':=?_) #[true,true,true,true,false,false,false,false,false,false,false,false,false,false,false,false,false,false,false,false,false,false,false] rfl rfl (any_of HT_.out (by kernel_rfl)) (fun _ _ _ h => h) (Or.inl ⟨by rfl,?_⟩) ?_ ?_
    rotate_left
    ·
     intro w'
     go_simp
     with_reducible rfl
    rotate_left
    ·
     simp only [Act.put,qqj,qqk,qql,i64_w,i32_w]
     rfl
    refine pure_ (i:=4) (N:=some 21) (v:=?_) (a':=?_) #[true,true,true,true,true,false,false,false,false,false,false,false,false,false,false,false,false,false,false,false,false,false,false] rfl rfl (any_of HT_.out (by kernel_rfl)) (fun _ _ _ h => h) (Or.inl ⟨by rfl,?_⟩) ?_ ?_
    rotate_left
    ·
     intro w'
     go_simp
     with_reducible rfl
    rotate_left
    ·
     simp only [Act.put,qqj,qqk,qql,i64_w,i32_w]
     rfl
    refine pure_ (i:=5) (N:=some 22) (v:=?_) (a':=?_) #[true,true,true,true,true,true,false,false,false,false,false,false,false,false,false,false,false,false,false,false,false,false,false] rfl rfl (any_of HT_.out (by kernel_rfl)) (fun _ _ _ h => h) (Or.inl ⟨by rfl,?_⟩) ?_ ?_
    rotate_left
    ·
     intro w'
     go_simp
     with_reducible rfl
    rotate_left
    ·
     simp only [Act.put,qqj,qqk,qql,i64_w,i32_w]
     rfl
    refine pure_ (i:=8) (N:=some 25) (v:=?_) (a':=?_) #[true,true,true,true,true,true,false,false,true,false,false,false,false,false,false,false,false,false,false,false,false,false,false] rfl rfl (any_of HT_.out (by kernel_rfl)) (fun _ _ _ h => h) (Or.inl ⟨by rfl,?_⟩) ?_ ?_
    rotate_left
    ·
     intro w'
     go_simp
     with_reducible rfl
    rotate_left
    ·
     simp only [Act.put,qqj,qqk,qql,i64_w,i32_w]
     rfl
    refine take_ (i:=6) (N:=some 23) (v:=?_) (a':=?_) #[true,true,true,true,true,true,true,false,true,false,false,false,false,false,false,false,false,false,false,false,false,false,false] rfl rfl (take_ofW HT_.out HW_.out (by kernel_rfl)) (fun _ _ _ h => h) (Or.inl ⟨by rfl,?_⟩) hHeld ?_ ?_
    rotate_left
    ·
     rintro w' ⟨s0,s1,s2,s3⟩
     go_simp
     with_reducible rfl
    rotate_left
    ·
     simp only [Act.put,qqj,qqk,qql,i64_w,i32_w]
     rfl
    refine take_ (i:=9) (N:=some 26) (v:=?_) (a':=?_) #[true,true,true,true,true,true,true,false,true,true,false,false,false,false,false,false,false,false,false,false,false,false,false] rfl rfl (take_ofW HT_.out HW_.out (by kernel_rfl)) (fun _ _ _ h => h) (Or.inl ⟨by rfl,?_⟩) hHeld ?_ ?_
    rotate_left
    ·
     rintro w' ⟨s0,s1,s2,s3⟩
     go_simp
     with_reducible rfl
    rotate_left
    ·
     simp only [Act.put,qqj,qqk,qql,i64_w,i32_w]
     rfl
    refine one_ (i:=7) (N:=some 24) #[true,true,true,true,true,true,true,true,true,true,false,false,false,false,false,false,false,false,false,false,false,false,false] rfl rfl (one_of HT_.out (by kernel_rfl)) (by decide) (fun K hK => ?_)
    refine goes_ Try.func30 (by kernel_rfl) rfl #[.string a0_0] (by rfl) rfl rfl (by (try simp only [List.map_toArray,List.map_cons,List.map_nil]);first|done|rfl|(simp only [List.length_drop,List.length_take];rfl)) ?_
    with_reducible refine (nuncioref04_Fold.calls k a0_0 t447 _ A14.out).mono ?_
    rintro e w25 ⟨rfl,hb⟩
    refine ⟨_,rfl,?_⟩
    have n0_:=Aside0.mk (blk_below (g:=gb443) (o:=.cells #[.string a0_0,.int .u16 a0_1,.int .u16 a0_2,.bool a0_3] 28 (0,0)) (by (with_reducible repeat first|apply qqa|apply qqb|apply qqc);exact BK443.out) hb)
    have n1_:=Aside0.mk (blk_below (g:=gb444) (o:=.cells #[.string a1_0,.int .u16 a1_1,.int .u16 a1_2,.bool a1_3] 28 (0,0)) (by (with_reducible repeat first|apply qqa|apply qqb|apply qqc);exact BK444.out) hb)
    have n2_:=Aside0.mk (below_step (by repeat (first|(with_reducible first|exact HB.out|apply qqf|apply qqd|apply qqe|refine qqg ?_ GE443.out|refine qqg ?_ GE444.out)|exact HB.out)) hb)
    clear BK443
    clear BK444
    clear HB
    have BK443:=n0_
    have BK444:=n1_
    have HB:=n2_
    clear n0_ n1_ n2_
    (try clear hb)
    (try clear hb2)
    (try clear hk)
    (try clear hi)
    refine hK.out _ _ ⟨(qqh BK443.out 0).trans rfl,(qqh BK443.out 1).trans rfl,(qqh BK443.out 2).trans rfl,(qqh BK443.out 3).trans rfl⟩ (fun hHeld => ?_)
    clear hK K
    refine norm_ (a':=?_) ?_ ?_
    rotate_left
    ·
     show Act.put _ (some 24) _ = _
     simp only [Act.put,qqj,qqk,qql,i64_w,i32_w]
     rfl
    refine pure_ (i:=10) (N:=some 27) (v:=?_) (a':=?_) #[true,true,true,true,true,true,true,true,true,true,true,false,false,false,false,false,false,false,false,false,false,false,false] rfl rfl (any_of HT_.out (by kernel_rfl)) (fun _ _ _ h => h) (Or.inl ⟨by rfl,?_⟩) ?_ ?_
    rotate_left
    ·
     intro w'
     go_simp
     with_reducible rfl
    rotate_left
    ·
     simp only [Act.put,qqj,qqk,qql,i64_w,i32_w]
     rfl
    refine pure_ (i:=11) (N:=some 28) (v:=?_) (a':=?_) #[true,true,true,true,true,true,true,true,true,true,true,true,false,false,false,false,false,false,false,false,false,false,false] rfl rfl (any_of HT_.out (by kernel_rfl)) (fun _ _ _ h => h) (Or.inl ⟨by rfl,?_⟩) ?_ ?_
    rotate_left
    ·
     intro w'
     go_simp
     with_reducible rfl
    rotate_left
    ·
     simp only [Act.put,qqj,qqk,qql,i64_w,i32_w]
     rfl
    refine pure_ (i:=12) (N:=some 29) (v:=?_) (a':=?_) #[true,true,true,true,true,true,true,true,true,true,true,true,true,false,false,false,false,false,false,false,false,false,false] rfl rfl (any_of HT_.out (by kernel_rfl)) (fun _ _ _ h => h) (Or.inl ⟨by rfl,?_⟩) ?_ ?_
    rotate_left
    ·
     intro w'
     go_simp
     with_reducible rfl
    rotate_left
    ·
     simp only [Act.put,qqj,qqk,qql,i64_w,i32_w]
     rfl
    refine pure_ (i:=13) (N:=some 30) (v:=undef) (a':=?_) #[true,true,true,true,true,true,true,true,true,true,true,true,true,true,false,false,false,false,false,false,false,false,false] rfl rfl (any_of HT_.out (by kernel_rfl)) (fun _ _ _ h => h) (Or.inr ⟨by rfl,rfl⟩) ?_ ?_
    rotate_left
    ·
     simp only [Act.put,qqj,qqk,qql,i64_w,i32_w]
     rfl
    refine pure_ (i:=14) (N:=some 31) (v:=undef) (a':=?_) #[true,true,true,true,true,true,true,true,true,true,true,true,true,true,true,false,false,false,false,false,false,false,false] rfl rfl (any_of HT_.out (by kernel_rfl)) (fun _ _ _ h => h) (Or.inr ⟨by rfl,rfl⟩) ?_ ?_
    rotate_left
    ·
     simp only [Act.put,qqj,qqk,qql,i64_w,i32_w]
     rfl
    refine pure_ (i:=15) (N:=some 32) (v:=undef) (a':=?_) #[true,true,true,true,true,true,true,true,true,true,true,true,true,true,true,true,false,false,false,false,false,false,false] rfl rfl (any_of HT_.out (by kernel_rfl)) (fun _ _ _ h => h) (Or.inr ⟨by rfl,rfl⟩) ?_ ?_
    rotate_left
    ·
     simp only [Act.put,qqj,qqk,qql,i64_w,i32_w]
     rfl
    refine pure_ (i:=16) (N:=some 33) (v:=?_) (a':=?_) #[true,true,true,true,true,true,true,true,true,true,true,true,true,true,true,true,true,false,false,false,false,false,false] rfl rfl (any_of HT_.out (by kernel_rfl)) (fun _ _ _ h => h) (Or.inl ⟨by rfl,?_⟩) ?_ ?_
    rotate_left
    ·
     intro w'
     go_simp
     with_reducible rfl
    rotate_left
    ·
     simp only [Act.put,qqj,qqk,qql,i64_w,i32_w]
     rfl
    refine pure_ (i:=17) (N:=some 34) (v:=?_) (a':=?_) #[true,true,true,true,true,true,true,true,true,true,true,true,true,true,true,true,true,true,false,false,false,false,false] rfl rfl (any_of HT_.out (by kernel_rfl)) (fun _ _ _ h => h) (Or.inl ⟨by rfl,?_⟩) ?_ ?_
    rotate_left
    ·
     intro w'
     go_simp
     with_reducible rfl
    rotate_left
    ·
     simp only [Act.put,qqj,qqk,qql,i64_w,i32_w]
     rfl
    refine pure_ (i:=18) (N:=some 35) (v:=undef) (a':=?_) #[true,true,true,true,true,true,true,true,true,true,true,true,true,true,true,true,true,true,true,false,false,false,false] rfl rfl (any_of HT_.out (by kernel_rfl)) (fun _ _ _ h => h) (Or.inr ⟨by rfl,rfl⟩) ?_ ?_
    rotate_left
    ·
     simp only [Act.put,qqj,qqk,qql,i64_w,i32_w]
     rfl
    refine pure_ (i:=19) (N:=some 36) (v:=undef) (a':=?_) #[true,true,true,true,true,true,true,true,true,true,true,true,true,true,true,true,true,true,true,true,false,false,false] rfl rfl (any_of HT_.out (by kernel_rfl)) (fun _ _ _ h => h) (Or.inr ⟨by rfl,rfl⟩) ?_ ?_
    rotate_left
    ·
     simp only [Act.put,qqj,qqk,qql,i64_w,i32_w]
     rfl
    refine pure_ (i:=20) (N:=some 37) (v:=undef) (a':=?_) #[true,true,true,true,true,true,true,true,true,true,true,true,true,true,true,true,true,true,true,true,true,false,false] rfl rfl (any_of HT_.out (by kernel_rfl)) (fun _ _ _ h => h) (Or.inr ⟨by rfl,rfl⟩) ?_ ?_
    rotate_left
    ·
     simp only [Act.put,qqj,qqk,qql,i64_w,i32_w]
     rfl
    refine pure_ (i:=21) (N:=some 38) (v:=undef) (a':=?_) #[true,true,true,true,true,true,true,true,true,true,true,true,true,true,true,true,true,true,true,true,true,true,false] rfl rfl (any_of HT_.out (by kernel_rfl)) (fun _ _ _ h => h) (Or.inr ⟨by rfl,rfl⟩) ?_ ?_
    rotate_left
    ·
     simp only [Act.put,qqj,qqk,qql,i64_w,i32_w]
     rfl
    refine pure_ (i:=22) (N:=some 39) (v:=?_) (a':=?_) #[true,true,true,true,true,true,true,true,true,true,true,true,true,true,true,true,true,true,true,true,true,true,true] rfl rfl (any_of HT_.out (by kernel_rfl)) (fun _ _ _ h => h) (Or.inl ⟨by rfl,?_⟩) ?_ ?_
    rotate_left
    ·
     intro w'
     go_simp
     with_reducible rfl
    rotate_left
    ·
     simp only [Act.put,qqj,qqk,qql,i64_w,i32_w]
     rfl
    refine done_ (done_of HT_.out (by kernel_rfl)) ?_
    try go_wp2
    go_meet
    case rel => exact ⟨_,(true),(by first|rfl|(simp;done)|(simp [*];done)),H',⟨by first|omega|exact Nat.le_refl _⟩,⟨by (with_reducible repeat first|apply qqa|apply qqb|apply qqc);exact BK443.out⟩,⟨by (with_reducible repeat first|apply qqa|apply qqb|apply qqc);exact BK444.out⟩,⟨by repeat (first|(with_reducible first|exact HB.out|apply qqf|apply qqd|apply qqe|refine qqg ?_ GE443.out|refine qqg ?_ GE444.out)|exact HB.out)⟩⟩
  ·
   replace c13:=Bool.eq_false_iff.mpr c13
   subst c13
   have H1 : (nunciolaw08_QueryBack.j0 k a2 a3 a4 true a0_0 a0_1 a0_2 a0_3 a1_0 a1_1 a1_2 a1_3) = some r:=by rw [if_neg (show ¬ (false = true) by decide)] at H;exact H
   clear H
   have H:=H1
   clear H1
   have H':=Aside0.mk H
   clear H
   try go_wp2
   have n0_:=Aside0.mk (qqb BK443.out)
   have n1_:=Aside0.mk (qqb BK444.out)
   have n2_:=Aside0.mk (qqe HB.out)
   clear BK443
   clear BK444
   clear HB
   have BK443:=n0_
   have BK444:=n1_
   have HB:=n2_
   clear n0_ n1_ n2_
   refine start_ (n:=23) (S:=fun w' => w'.cell? ⟨gb443,0,none⟩ = some (.string a0_0)∧w'.cell? ⟨gb443,1,none⟩ = some (.int .u16 a0_1)∧w'.cell? ⟨gb443,2,none⟩ = some (.int .u16 a0_2)∧w'.cell? ⟨gb443,3,none⟩ = some (.bool a0_3)) (ds:=[]) #[false,false,false,false,false,false,false,false,false,false,false,false,false,false,false,false,false,false,false,false,false,false,false] (by kernel_rfl) rfl rfl ⟨(qqh BK443.out 0).trans rfl,(qqh BK443.out 1).trans rfl,(qqh BK443.out 2).trans rfl,(qqh BK443.out 3).trans rfl⟩ (fun hHeld => ?_);refine with_tabW nunciolaw08_QueryBack.tab3 nunciolaw08_QueryBack.bits3 (fun HT_ HW_ => ?_)
   generalize w11.drew = w26 at BK443 BK444 HB hHeld ⊢
   refine pure_ (i:=0) (N:=some 17) (v:=?_) (a':=?_) #[true,false,false,false,false,false,false,false,false,false,false,false,false,false,false,false,false,false,false,false,false,false,false] rfl rfl (any_of HT_.out (by kernel_rfl)) (fun _ _ _ h => h) (Or.inl ⟨by rfl,?_⟩) ?_ ?_
   rotate_left
   ·
    intro w'
    go_simp
    with_reducible rfl
   rotate_left
   ·
    simp only [Act.put,qqj,qqk,qql,i64_w,i32_w]
    rfl
   refine take_ (i:=1) (N:=some 18) (v:=?_) (a':=?_) #[true,true,false,false,false,false,false,false,false,false,false,false,false,false,false,false,false,false,false,false,false,false,false] rfl rfl (take_ofW HT_.out HW_.out (by kernel_rfl)) (fun _ _ _ h => h) (Or.inl ⟨by rfl,?_⟩) hHeld ?_ ?_
   rotate_left
   ·
    rintro w' ⟨s0,s1,s2,s3⟩
    go_simp
    with_reducible rfl
   rotate_left
   ·
    simp only [Act.put,qqj,qqk,qql,i64_w,i32_w]
    rfl
   refine one_ (i:=2) (N:=some 19) #[true,true,true,false,false,false,false,false,false,false,false,false,false,false,false,false,false,false,false,false,false,false,false] rfl rfl (one_of HT_.out (by kernel_rfl)) (by decide) (fun K hK => ?_)
   refine goes_ Try.func29 (by kernel_rfl) rfl #[.string a0_0] (by rfl) rfl rfl (by (try simp only [List.map_toArray,List.map_cons,List.map_nil]);first|done|rfl|(simp only [List.length_drop,List.length_take];rfl)) ?_
   with_reducible refine (nuncioref04_Is.calls k a0_0 false _ A12.out).mono ?_
   rintro e w27 ⟨rfl,hb⟩
   refine ⟨_,rfl,?_⟩
   have n0_:=Aside0.mk (blk_below (g:=gb443) (o:=.cells #[.string a0_0,.int .u16 a0_1,.int .u16 a0_2,.bool a0_3] 28 (0,0)) (by (with_reducible repeat first|apply qqa|apply qqb|apply qqc);exact BK443.out) hb)
   have n1_:=Aside0.mk (blk_below (g:=gb444) (o:=.cells #[.string a1_0,.int .u16 a1_1,.int .u16 a1_2,.bool a1_3] 28 (0,0)) (by (with_reducible repeat first|apply qqa|apply qqb|apply qqc);exact BK444.out) hb)
   have n2_:=Aside0.mk (below_step (by repeat (first|(with_reducible first|exact HB.out|apply qqf|apply qqd|apply qqe|refine qqg ?_ GE443.out|refine qqg ?_ GE444.out)|exact HB.out)) hb)
   clear BK443
   clear BK444
   clear HB
   have BK443:=n0_
   have BK444:=n1_
   have HB:=n2_
   clear n0_ n1_ n2_
   (try clear hb)
   (try clear hb2)
   (try clear hk)
   (try clear hi)
   refine hK.out _ _ ⟨(qqh BK443.out 0).trans rfl,(qqh BK443.out 1).trans rfl,(qqh BK443.out 2).trans rfl,(qqh BK443.out 3).trans rfl⟩ (fun hHeld => ?_)
   clear hK K
   refine norm_ (a':=?_) ?_ ?_
   rotate_left
   ·
    show Act.put _ (some 19) _ = _
    simp only [Act.put,qqj,qqk,qql,i64_w,i32_w]
    rfl
   refine pure_ (i:=3) (N:=some 20) (v:=?_) (a':=?_) #[true,true,true,true,false,false,false,false,false,false,false,false,false,false,false,false,false,false,false,false,false,false,false] rfl rfl (any_of HT_.out (by kernel_rfl)) (fun _ _ _ h => h) (Or.inl ⟨by rfl,?_⟩) ?_ ?_
   rotate_left
   ·
    intro w'
    go_simp
    with_reducible rfl
   rotate_left
   ·
    simp only [Act.put,qqj,qqk,qql,i64_w,i32_w]
    rfl
   refine pure_ (i:=4) (N:=some 21) (v:=?_) (a':=?_) #[true,true,true,true,true,false,false,false,false,false,false,false,false,false,false,false,false,false,false,false,false,false,false] rfl rfl (any_of HT_.out (by kernel_rfl)) (fun _ _ _ h => h) (Or.inl ⟨by rfl,?_⟩) ?_ ?_
   rotate_left
   ·
    intro w'
    go_simp
    with_reducible rfl
   rotate_left
   ·
    simp only [Act.put,qqj,qqk,qql,i64_w,i32_w]
    rfl
   refine pure_ (i:=5) (N:=some 22) (v:=undef) (a':=?_) #[true,true,true,true,true,true,false,false,false,false,false,false,false,false,false,false,false,false,false,false,false,false,false] rfl rfl (any_of HT_.out (by kernel_rfl)) (fun _ _ _ h => h) (Or.inr ⟨by rfl,rfl⟩) ?_ ?_
   rotate_left
   ·
    simp only [Act.put,qqj,qqk,qql,i64_w,i32_w]
    rfl
   refine pure_ (i:=6) (N:=some 23) (v:=undef) (a':=?_) #[true,true,true,true,true,true,true,false,false,false,false,false,false,false,false,false,false,false,false,false,false,false,false] rfl rfl (any_of HT_.out (by kernel_rfl)) (fun _ _ _ h => h) (Or.inr ⟨by rfl,rfl⟩) ?_ ?_
   rotate_left
   ·
    simp only [Act.put,qqj,qqk,qql,i64_w,i32_w]
    rfl
   refine pure_ (i:=7) (N:=some 24) (v:=undef) (a':=?_) #[true,true,true,true,true,true,true,true,false,false,false,false,false,false,false,false,false,false,false,false,false,false,false] rfl rfl (any_of HT_.out (by kernel_rfl)) (fun _ _ _ h => h) (Or.inr ⟨by rfl,rfl⟩) ?_ ?_
   rotate_left
   ·
    simp only [Act.put,qqj,qqk,qql,i64_w,i32_w]
    rfl
   refine pure_ (i:=8) (N:=some 25) (v:=undef) (a':=?_) #[true,true,true,true,true,true,true,true,true,false,false,false,false,false,false,false,false,false,false,false,false,false,false] rfl rfl (any_of HT_.out (by kernel_rfl)) (fun _ _ _ h => h) (Or.inr ⟨by rfl,rfl⟩) ?_ ?_
   rotate_left
   ·
    simp only [Act.put,qqj,qqk,qql,i64_w,i32_w]
    rfl
   refine pure_ (i:=9) (N:=some 26) (v:=undef) (a':=?_) #[true,true,true,true,true,true,true,true,true,true,false,false,false,false,false,false,false,false,false,false,false,false,false] rfl rfl (any_of HT_.out (by kernel_rfl)) (fun _ _ _ h => h) (Or.inr ⟨by rfl,rfl⟩) ?_ ?_
   rotate_left
   ·
    simp only [Act.put,qqj,qqk,qql,i64_w,i32_w]
    rfl
   refine pure_ (i:=10) (N:=some 27) (v:=undef) (a':=?_) #[true,true,true,true,true,true,true,true,true,true,true,false,false,false,false,false,false,false,false,false,false,false,false] rfl rfl (any_of HT_.out (by kernel_rfl)) (fun _ _ _ h => h) (Or.inr ⟨by rfl,rfl⟩) ?_ ?_
   rotate_left
   ·
    simp only [Act.put,qqj,qqk,qql,i64_w,i32_w]
    rfl
   refine pure_ (i:=11) (N:=some 28) (v:=?_) (a':=?_) #[true,true,true,true,true,true,true,true,true,true,true,true,false,false,false,false,false,false,false,false,false,false,false] rfl rfl (any_of HT_.out (by kernel_rfl)) (fun _ _ _ h => h) (Or.inl ⟨by rfl,?_⟩) ?_ ?_
   rotate_left
   ·
    intro w'
    go_simp
    with_reducible rfl
   rotate_left
   ·
    simp only [Act.put,qqj,qqk,qql,i64_w,i32_w]
    rfl
   refine pure_ (i:=12) (N:=some 29) (v:=?_) (a':=?_) #[true,true,true,true,true,true,true,true,true,true,true,true,true,false,false,false,false,false,false,false,false,false,false] rfl rfl (any_of HT_.out (by kernel_rfl)) (fun _ _ _ h => h) (Or.inl ⟨by rfl,?_⟩) ?_ ?_
   rotate_left
   ·
    intro w'
    go_simp
    with_reducible rfl
   rotate_left
   ·
    simp only [Act.put,qqj,qqk,qql,i64_w,i32_w]
    rfl
   refine pure_ (i:=13) (N:=some 30) (v:=undef) (a':=?_) #[true,true,true,true,true,true,true,true,true,true,true,true,true,true,false,false,false,false,false,false,false,false,false] rfl rfl (any_of HT_.out (by kernel_rfl)) (fun _ _ _ h => h) (Or.inr ⟨by rfl,rfl⟩) ?_ ?_
   rotate_left
   ·
    simp only [Act.put,qqj,qqk,qql,i64_w,i32_w]
    rfl
   refine pure_ (i:=14) (N:=some 31) (v:=undef) (a':=?_) #[true,true,true,true,true,true,true,true,true,true,true,true,true,true,true,false,false,false,false,false,false,false,false] rfl rfl (any_of HT_.out (by kernel_rfl)) (fun _ _ _ h => h) (Or.inr ⟨by rfl,rfl⟩) ?_ ?_
   rotate_left
   ·
    simp only [Act.put,qqj,qqk,qql,i64_w,i32_w]
    rfl
   refine pure_ (i:=15) (N:=some 32) (v:=undef) (a':=?_) #[true,true,true,true,true,true,true,true,true,true,true,true,true,true,true,true,false,false,false,false,false,false,false] rfl rfl (any_of HT_.out (by kernel_rfl)) (fun _ _ _ h => h) (Or.inr ⟨by rfl,rfl⟩) ?_ ?_
   rotate_left
   ·
    simp only [Act.put,qqj,qqk,qql,i64_w,i32_w]
    rfl
   refine pure_ (i:=16) (N:=some 33) (v:=?_) (a':=?_) #[true,true,true,true,true,true,true,true,true,true,true,true,true,true,true,true,true,false,false,false,false,false,false] rfl rfl (any_of HT_.out (by kernel_rfl)) (fun _ _ _ h => h) (Or.inl ⟨by rfl,?_⟩) ?_ ?_
   rotate_left
   ·
    intro w'
    go_simp
    with_reducible rfl
   rotate_left
   ·
    simp only [Act.put,qqj,qqk,qql,i64_w,i32_w]
    rfl
   refine pure_ (i:=17) (N:=some 34) (v:=?_) (a':=?_) #[true,true,true,true,true,true,true,true,true,true,true,true,true,true,true,true,true,true,false,false,false,false,false] rfl rfl (any_of HT_.out (by kernel_rfl)) (fun _ _ _ h => h) (Or.inl ⟨by rfl,?_⟩) ?_ ?_
   rotate_left
   ·
    intro w'
    go_simp
    with_reducible rfl
   rotate_left
   ·
    simp only [Act.put,qqj,qqk,qql,i64_w,i32_w]
    rfl
   refine pure_ (i:=18) (N:=some 35) (v:=undef) (a':=?_) #[true,true,true,true,true,true,true,true,true,true,true,true,true,true,true,true,true,true,true,false,false,false,false] rfl rfl (any_of HT_.out (by kernel_rfl)) (fun _ _ _ h => h) (Or.inr ⟨by rfl,rfl⟩) ?_ ?_
   rotate_left
   ·
    simp only [Act.put,qqj,qqk,qql,i64_w,i32_w]
    rfl
   refine pure_ (i:=19) (N:=some 36) (v:=undef) (a':=?_) #[true,true,true,true,true,true,true,true,true,true,true,true,true,true,true,true,true,true,true,true,false,false,false] rfl rfl (any_of HT_.out (by kernel_rfl)) (fun _ _ _ h => h) (Or.inr ⟨by rfl,rfl⟩) ?_ ?_
   rotate_left
   ·
    simp only [Act.put,qqj,qqk,qql,i64_w,i32_w]
    rfl
   refine pure_ (i:=20) (N:=some 37) (v:=undef) (a':=?_) #[true,true,true,true,true,true,true,true,true,true,true,true,true,true,true,true,true,true,true,true,true,false,false] rfl rfl (any_of HT_.out (by kernel_rfl)) (fun _ _ _ h => h) (Or.inr ⟨by rfl,rfl⟩) ?_ ?_
   rotate_left
   ·
    simp only [Act.put,qqj,qqk,qql,i64_w,i32_w]
    rfl
   refine pure_ (i:=21) (N:=some 38) (v:=undef) (a':=?_) #[true,true,true,true,true,true,true,true,true,true,true,true,true,true,true,true,true,true,true,true,true,true,false] rfl rfl (any_of HT_.out (by kernel_rfl)) (fun _ _ _ h => h) (Or.inr ⟨by rfl,rfl⟩) ?_ ?_
   rotate_left
   ·
    simp only [Act.put,qqj,qqk,qql,i64_w,i32_w]
    rfl
   refine pure_ (i:=22) (N:=some 39) (v:=?_) (a':=?_) #[true,true,true,true,true,true,true,true,true,true,true,true,true,true,true,true,true,true,true,true,true,true,true] rfl rfl (any_of HT_.out (by kernel_rfl)) (fun _ _ _ h => h) (Or.inl ⟨by rfl,?_⟩) ?_ ?_
   rotate_left
   ·
    intro w'
    go_simp
    with_reducible rfl
   rotate_left
   ·
    simp only [Act.put,qqj,qqk,qql,i64_w,i32_w]
    rfl
   refine done_ (done_of HT_.out (by kernel_rfl)) ?_
   try go_wp2
   go_meet
   case rel => exact ⟨_,(true),(by first|rfl|(simp;done)|(simp [*];done)),H',⟨by first|omega|exact Nat.le_refl _⟩,⟨by (with_reducible repeat first|apply qqa|apply qqb|apply qqc);exact BK443.out⟩,⟨by (with_reducible repeat first|apply qqa|apply qqb|apply qqc);exact BK444.out⟩,⟨by repeat (first|(with_reducible first|exact HB.out|apply qqf|apply qqd|apply qqe|refine qqg ?_ GE443.out|refine qqg ?_ GE444.out)|exact HB.out)⟩⟩
 case rest =>
  clear HC8
  try clear c1
  try clear c2
  try clear p2
  try clear c3
  try clear c13
  try clear c15
  try clear c15b0
  try clear c15b1
  obtain ⟨kq,x39_7,rfl,HA,HJ7,BK443,BK444,HB⟩:=hcut
  cases kq with
  | zero => exact absurd HA.out (by simp [nunciolaw08_QueryBack.j0])
  | succ kj7 =>
   have H:=HA.out
   clear HA
   simp only [nunciolaw08_QueryBack.j0] at H
   by_cases c28 : x39_7 = true
   ·
    subst c28
    have H1 : (some true) = some r:=by rw [if_pos rfl] at H;exact H
    clear H
    have H:=H1
    clear H1
    obtain rfl:=Option.some.inj H
    go_wp2
    go_ret
    exact ⟨by first|rfl|(simp [errW_none,errW_some] <;> rfl)|(simp [*,errW_none,errW_some] <;> rfl),by repeat (first|(with_reducible first|exact HB.out|apply qqf|apply qqd|apply qqe|refine qqg ?_ GE443.out|refine qqg ?_ GE444.out)|exact HB.out)⟩
   ·
    replace c28:=Bool.eq_false_iff.mpr c28
    subst c28
    have H1 : ((query_Make.f a2 a0_0 a0_1 a0_2 a0_3).bind fun bt448 => ((query_Ask.f kj7 bt448.1 bt448.2.1 bt448.2.2.1 bt448.2.2.2.1 bt448.2.2.2.2.1 bt448.2.2.2.2.2).bind fun bt463 => (if bt463.2.2.2.2 = 0 then (if (!(bt463.1.toList == a0_0.toList) || (!(bt463.2.1 == a0_1) || (!(bt463.2.2.1 == a0_2) || (!(bt463.2.2.2.1 == a0_3))))) = true then (nunciolaw08_QueryBack.j1 kj7 a2 a3 a4 true a0_0 a0_1 a0_2 a0_3 a1_0 a1_1 a1_2 a1_3 bt448.1 bt448.2.1 bt448.2.2.1 bt448.2.2.2.1 bt448.2.2.2.2.1 bt448.2.2.2.2.2) else (nunciolaw08_QueryBack.j1 kj7 a2 a3 a4 (bt448.1 != a2) a0_0 a0_1 a0_2 a0_3 a1_0 a1_1 a1_2 a1_3 bt448.1 bt448.2.1 bt448.2.2.1 bt448.2.2.2.1 bt448.2.2.2.2.1 bt448.2.2.2.2.2)) else (nunciolaw08_QueryBack.j1 kj7 a2 a3 a4 true a0_0 a0_1 a0_2 a0_3 a1_0 a1_1 a1_2 a1_3 bt448.1 bt448.2.1 bt448.2.2.1 bt448.2.2.2.1 bt448.2.2.2.2.1 bt448.2.2.2.2.2)))) = some r:=by rw [if_neg (show ¬ (false = true) by decide)] at H;exact H
    clear H
    have H:=H1
    clear H1
    replace H:=Option.bind_eq_some_iff.mp H
    obtain ⟨⟨t448,t449,t450,t453,t456,t459⟩,A290,H⟩:=H
    replace H : ((query_Ask.f kj7 t448 t449 t450 t453 t456 t459).bind fun bt463 => (if bt463.2.2.2.2 = 0 then (if (!(bt463.1.toList == a0_0.toList) || (!(bt463.2.1 == a0_1) || (!(bt463.2.2.1 == a0_2) || (!(bt463.2.2.2.1 == a0_3))))) = true then (nunciolaw08_QueryBack.j1 kj7 a2 a3 a4 true a0_0 a0_1 a0_2 a0_3 a1_0 a1_1 a1_2 a1_3 t448 t449 t450 t453 t456 t459) else (nunciolaw08_QueryBack.j1 kj7 a2 a3 a4 (t448 != a2) a0_0 a0_1 a0_2 a0_3 a1_0 a1_1 a1_2 a1_3 t448 t449 t450 t453 t456 t459)) else (nunciolaw08_QueryBack.j1 kj7 a2 a3 a4 true a0_0 a0_1 a0_2 a0_3 a1_0 a1_1 a1_2 a1_3 t448 t449 t450 t453 t456 t459))) = some r:=H
    have A29:=Aside0.mk A290
    clear A290
    replace H:=Option.bind_eq_some_iff.mp H
    obtain ⟨⟨t463,t464,t465,t466,t467⟩,A300,H⟩:=H
    replace H : (if t467 = 0 then (if (!(t463.toList == a0_0.toList) || (!(t464 == a0_1) || (!(t465 == a0_2) || (!(t466 == a0_3))))) = true then (nunciolaw08_QueryBack.j1 kj7 a2 a3 a4 true a0_0 a0_1 a0_2 a0_3 a1_0 a1_1 a1_2 a1_3 t448 t449 t450 t453 t456 t459) else (nunciolaw08_QueryBack.j1 kj7 a2 a3 a4 (t448 != a2) a0_0 a0_1 a0_2 a0_3 a1_0 a1_1 a1_2 a1_3 t448 t449 t450 t453 t456 t459)) else (nunciolaw08_QueryBack.j1 kj7 a2 a3 a4 true a0_0 a0_1 a0_2 a0_3 a1_0 a1_1 a1_2 a1_3 t448 t449 t450 t453 t456 t459)) = some r:=H
    have A30:=Aside0.mk A300
    clear A300
    have HC31:=Aside0.mk H
    clear H
    have hnb32:=NB443_444.out
    have hnc32:=NB444_443.out
    have hcz33_0 : wc.cell? ⟨gb443,0,none⟩ = some (.string a0_0):=(qqh BK443.out 0).trans rfl
    have hcz33_1 : wc.cell? ⟨gb443,1,none⟩ = some (.int .u16 a0_1):=(qqh BK443.out 1).trans rfl
    have hcz33_2 : wc.cell? ⟨gb443,2,none⟩ = some (.int .u16 a0_2):=(qqh BK443.out 2).trans rfl
    have hcz33_3 : wc.cell? ⟨gb443,3,none⟩ = some (.bool a0_3):=(qqh BK443.out 3).trans rfl
    have hfz33_0:=qqi BK443.out 0
    have hfz33_1:=qqi BK443.out 1
    have hfz33_2:=qqi BK443.out 2
    have hfz33_3:=qqi BK443.out 3
    go_upto_region 7 with (first|((with_reducible refine gate_callee (f:=14) rfl ?_);refine goesL_ (some 42) rfl rfl Try.func14 (by kernel_rfl) rfl #[.int .u16 a2,.agg #[.string a0_0,.int .u16 a0_1,.int .u16 a0_2,.bool a0_3]] rfl (by (try simp only [List.map_toArray,List.map_cons,List.map_nil]);first|done|rfl|(simp only [List.length_drop,List.length_take];rfl)) ?_;(with_reducible refine (query_Make.calls a2 a0_0 a0_1 a0_2 a0_3 t448 t449 t450 t453 t456 t459 _ A29.out).mono ?_);rintro e w34 ⟨v451,v454,v457,v460,rfl,ho0,ho1,ho2,ho3,hb⟩;refine ⟨_,rfl,?_⟩;have n0_:=Aside0.mk (Kd.R_lower (Kd.R_mono (ok':=fun k_ => True) ho0 (fun _ hk_ => trivial)) (below_size (by repeat (first|(with_reducible first|exact HB.out|apply qqf|apply qqd|apply qqe|refine qqg ?_ GE443.out|refine qqg ?_ GE444.out)|exact HB.out))));have n1_:=Aside0.mk (Kd.N_lower (Kd.N_mono (ok':=fun k_ => some k_ ≠ (v451 : Value).ownBlock∧some k_ ≠ (v457 : Value).ownBlock∧some k_ ≠ (v460 : Value).ownBlock∧k_ ≠ gb443∧k_ ≠ gb444) ho1 (fun k_ hk_ => ⟨hk_.2.1,hk_.2.2.1,hk_.2.2.2,(Kd.freshB (g:=gb443) (o:=.cells #[.string a0_0,.int .u16 a0_1,.int .u16 a0_2,.bool a0_3] 28 (0,0)) (by (with_reducible repeat first|apply qqa|apply qqb|apply qqc);exact BK443.out) k_ hk_.1),(Kd.freshB (g:=gb444) (o:=.cells #[.string a1_0,.int .u16 a1_1,.int .u16 a1_2,.bool a1_3] 28 (0,0)) (by (with_reducible repeat first|apply qqa|apply qqb|apply qqc);exact BK444.out) k_ hk_.1)⟩)) (below_size (by repeat (first|(with_reducible first|exact HB.out|apply qqf|apply qqd|apply qqe|refine qqg ?_ GE443.out|refine qqg ?_ GE444.out)|exact HB.out))));have n2_:=Aside0.mk (Kd.N_lower (Kd.N_mono (ok':=fun k_ => some k_ ≠ (v451 : Value).ownBlock∧some k_ ≠ (v454 : Value).ownBlock∧some k_ ≠ (v460 : Value).ownBlock∧k_ ≠ gb443∧k_ ≠ gb444) ho2 (fun k_ hk_ => ⟨hk_.2.1,hk_.2.2.1,hk_.2.2.2,(Kd.freshB (g:=gb443) (o:=.cells #[.string a0_0,.int .u16 a0_1,.int .u16 a0_2,.bool a0_3] 28 (0,0)) (by (with_reducible repeat first|apply qqa|apply qqb|apply qqc);exact BK443.out) k_ hk_.1),(Kd.freshB (g:=gb444) (o:=.cells #[.string a1_0,.int .u16 a1_1,.int .u16 a1_2,.bool a1_3] 28 (0,0)) (by (with_reducible repeat first|apply qqa|apply qqb|apply qqc);exact BK444.out) k_ hk_.1)⟩)) (below_size (by repeat (first|(with_reducible first|exact HB.out|apply qqf|apply qqd|apply qqe|refine qqg ?_ GE443.out|refine qqg ?_ GE444.out)|exact HB.out))));have n3_:=Aside0.mk (Kd.N_lower (Kd.N_mono (ok':=fun k_ => some k_ ≠ (v451 : Value).ownBlock∧some k_ ≠ (v454 : Value).ownBlock∧some k_ ≠ (v457 : Value).ownBlock∧k_ ≠ gb443∧k_ ≠ gb444) ho3 (fun k_ hk_ => ⟨hk_.2.1,hk_.2.2.1,hk_.2.2.2,(Kd.freshB (g:=gb443) (o:=.cells #[.string a0_0,.int .u16 a0_1,.int .u16 a0_2,.bool a0_3] 28 (0,0)) (by (with_reducible repeat first|apply qqa|apply qqb|apply qqc);exact BK443.out) k_ hk_.1),(Kd.freshB (g:=gb444) (o:=.cells #[.string a1_0,.int .u16 a1_1,.int .u16 a1_2,.bool a1_3] 28 (0,0)) (by (with_reducible repeat first|apply qqa|apply qqb|apply qqc);exact BK444.out) k_ hk_.1)⟩)) (below_size (by repeat (first|(with_reducible first|exact HB.out|apply qqf|apply qqd|apply qqe|refine qqg ?_ GE443.out|refine qqg ?_ GE444.out)|exact HB.out))));have n4_:=Aside0.mk (blk_below (g:=gb443) (o:=.cells #[.string a0_0,.int .u16 a0_1,.int .u16 a0_2,.bool a0_3] 28 (0,0)) (by (with_reducible repeat first|apply qqa|apply qqb|apply qqc);exact BK443.out) hb);have n5_:=Aside0.mk (blk_below (g:=gb444) (o:=.cells #[.string a1_0,.int .u16 a1_1,.int .u16 a1_2,.bool a1_3] 28 (0,0)) (by (with_reducible repeat first|apply qqa|apply qqb|apply qqc);exact BK444.out) hb);have n6_:=Aside0.mk (below_step (by repeat (first|(with_reducible first|exact HB.out|apply qqf|apply qqd|apply qqe|refine qqg ?_ GE443.out|refine qqg ?_ GE444.out)|exact HB.out)) hb);clear BK443;clear BK444;clear HB;have HO452:=n0_;have HO455:=n1_;have HO458:=n2_;have HO461:=n3_;have BK443:=n4_;have BK444:=n5_;have HB:=n6_;clear n0_ n1_ n2_ n3_ n4_ n5_ n6_;(try clear hb);(try clear hb2);(try clear hk);(try clear hi);(try clear ho0);(try clear ho1);(try clear ho2);(try clear ho3))|((with_reducible refine gate_dst (N:=11) rfl ?_);(try (refine gate_guard (by rfl) ?_;dsimp only));refine box_event ?hg (N:=11) ?hd (cs:=#[.int .u16 0,.int .u16 0,.slice none 0 0,.slice none 0 0,.slice none 0 0,.slice none 0 0]) (t:=26) ?hr ?_;(case hd => rfl);(case hg => rfl);(case hr => first|(go_simp;done)|(go_simp;rfl));intro gb462 hg w35 hbox hb;have n0_:=Aside0.mk (Kd.R_below (by (with_reducible repeat (first|apply Kd.R_alloc|apply Kd.R_drewN|apply Kd.R_drew));exact HO452.out) hb);have n1_:=Aside0.mk (Kd.N_below (Kd.N_elderB (by (with_reducible repeat (first|apply Kd.N_alloc|apply Kd.N_drewN|apply Kd.N_drew));exact HO455.out) gb462 (Nat.le_of_eq hg.symm)) hb);have n2_:=Aside0.mk (Kd.N_below (Kd.N_elderB (by (with_reducible repeat (first|apply Kd.N_alloc|apply Kd.N_drewN|apply Kd.N_drew));exact HO458.out) gb462 (Nat.le_of_eq hg.symm)) hb);have n3_:=Aside0.mk (Kd.N_below (Kd.N_elderB (by (with_reducible repeat (first|apply Kd.N_alloc|apply Kd.N_drewN|apply Kd.N_drew));exact HO461.out) gb462 (Nat.le_of_eq hg.symm)) hb);have n4_:=Aside0.mk (blk_below (g:=gb443) (o:=.cells #[.string a0_0,.int .u16 a0_1,.int .u16 a0_2,.bool a0_3] 28 (0,0)) (by (with_reducible repeat first|apply qqa|apply qqb|apply qqc);exact BK443.out) hb);have n5_:=Aside0.mk (blk_below (g:=gb444) (o:=.cells #[.string a1_0,.int .u16 a1_1,.int .u16 a1_2,.bool a1_3] 28 (0,0)) (by (with_reducible repeat first|apply qqa|apply qqb|apply qqc);exact BK444.out) hb);have n6_:=Aside0.mk (below_step (by repeat (first|(with_reducible first|exact HB.out|apply qqf|apply qqd|apply qqe|refine qqg ?_ GE443.out|refine qqg ?_ GE444.out)|exact HB.out)) hb);have n7_:=Aside0.mk (hbox);have n8_:=Aside0.mk ((by rw [hg];exact (below_size (by repeat (first|(with_reducible first|exact HB.out|apply qqf|apply qqd|apply qqe|refine qqg ?_ GE443.out|refine qqg ?_ GE444.out)|exact HB.out))) : w.heap.size ≤ gb462));have n9_:=Aside0.mk ((by rw [hg];exact (below_size (by repeat (first|(with_reducible first|exact HB.out|apply qqf|apply qqd|apply qqe|refine qqg ?_ GE443.out|refine qqg ?_ GE444.out)|exact HB.out))) : w.heap.size ≤ gb462));have n10_:=Aside0.mk ((by rw [hg];exact Nat.ne_of_lt (blk_lt (g:=gb443) (o:=.cells #[.string a0_0,.int .u16 a0_1,.int .u16 a0_2,.bool a0_3] 28 (0,0)) (by (with_reducible repeat first|apply qqa|apply qqb|apply qqc);exact BK443.out)) : gb443 ≠ gb462));have n11_:=Aside0.mk ((by rw [hg];exact Nat.ne_of_gt (blk_lt (g:=gb443) (o:=.cells #[.string a0_0,.int .u16 a0_1,.int .u16 a0_2,.bool a0_3] 28 (0,0)) (by (with_reducible repeat first|apply qqa|apply qqb|apply qqc);exact BK443.out)) : gb462 ≠ gb443));have n12_:=Aside0.mk ((by rw [hg];exact Nat.ne_of_lt (blk_lt (g:=gb444) (o:=.cells #[.string a1_0,.int .u16 a1_1,.int .u16 a1_2,.bool a1_3] 28 (0,0)) (by (with_reducible repeat first|apply qqa|apply qqb|apply qqc);exact BK444.out)) : gb444 ≠ gb462));have n13_:=Aside0.mk ((by rw [hg];exact Nat.ne_of_gt (blk_lt (g:=gb444) (o:=.cells #[.string a1_0,.int .u16 a1_1,.int .u16 a1_2,.bool a1_3] 28 (0,0)) (by (with_reducible repeat first|apply qqa|apply qqb|apply qqc);exact BK444.out)) : gb462 ≠ gb444));clear HO452;clear HO455;clear HO458;clear HO461;clear BK443;clear BK444;clear HB;have HO452:=n0_;have HO455:=n1_;have HO458:=n2_;have HO461:=n3_;have BK443:=n4_;have BK444:=n5_;have HB:=n6_;have BK462:=n7_;have GW462:=n8_;have GE462:=n9_;have NB443_462:=n10_;have NB462_443:=n11_;have NB444_462:=n12_;have NB462_444:=n13_;clear n0_ n1_ n2_ n3_ n4_ n5_ n6_ n7_ n8_ n9_ n10_ n11_ n12_ n13_;clear hb hbox hg;have hnb36:=NB462_443.out;have hnc36:=NB443_462.out;have hnb37:=NB462_444.out;have hnc37:=NB444_462.out;have hcz38_0 : w35.cell? ⟨gb462,0,none⟩ = some (.int .u16 0):=(qqh BK462.out 0).trans rfl;have hcz38_1 : w35.cell? ⟨gb462,1,none⟩ = some (.int .u16 0):=(qqh BK462.out 1).trans rfl;have hcz38_2 : w35.cell? ⟨gb462,2,none⟩ = some (.slice none 0 0):=(qqh BK462.out 2).trans rfl;have hcz38_3 : w35.cell? ⟨gb462,3,none⟩ = some (.slice none 0 0):=(qqh BK462.out 3).trans rfl;have hcz38_4 : w35.cell? ⟨gb462,4,none⟩ = some (.slice none 0 0):=(qqh BK462.out 4).trans rfl;have hcz38_5 : w35.cell? ⟨gb462,5,none⟩ = some (.slice none 0 0):=(qqh BK462.out 5).trans rfl;have hfz38_0:=qqi BK462.out 0;have hfz38_1:=qqi BK462.out 1;have hfz38_2:=qqi BK462.out 2;have hfz38_3:=qqi BK462.out 3;have hfz38_4:=qqi BK462.out 4;have hfz38_5:=qqi BK462.out 5;obtain ⟨Ao39,co39,eo39⟩:=Kd.R_slice HO452.out;subst eo39;obtain ⟨Ao40,co40,eo40⟩:=Kd.N_slice HO455.out;subst eo40;obtain ⟨Ao41,co41,eo41⟩:=Kd.N_slice HO458.out;subst eo41;obtain ⟨Ao42,co42,eo42⟩:=Kd.N_slice HO461.out;subst eo42)|((with_reducible refine gate_callee (f:=11) rfl ?_);refine goesL_ (some 45) rfl rfl Try.func11 (by kernel_rfl) rfl #[.agg #[.int .u16 t448,.int .u16 t449,.slice Ao39 t450.length co39,.slice Ao40 t453.length co40,.slice Ao41 t456.length co41,.slice Ao42 t459.length co42]] rfl (by (try simp only [List.map_toArray,List.map_cons,List.map_nil]);first|done|rfl|(simp only [List.length_drop,List.length_take];rfl)) ?_;(with_reducible refine (query_Ask.calls kj7 t448 t449 _ _ t450 _ _ t453 _ _ t456 _ _ t459 t463 t464 t465 t466 t467 _ ?side1 ?side2 ?side3 ?side4 ?side5 ?side6 ?side7 ?side8 A30.out).mono ?_);(case side1 => refine (Kd.R_reads' (e:=53) (base:=w.heap.size) (ok:=fun k_ => True) (n:=t450.length) (c:=co39) ?_).2.2;exact (by (with_reducible repeat (first|apply Kd.R_alloc|apply Kd.R_drewN|apply Kd.R_drew));exact (Kd.R_mono (Kd.R_far (p:=⟨gb462,5,none⟩) (Kd.R_far (p:=⟨gb462,4,none⟩) (Kd.R_far (p:=⟨gb462,3,none⟩) (Kd.R_far (p:=⟨gb462,2,none⟩) (Kd.R_far (p:=⟨gb462,1,none⟩) (Kd.R_far (p:=⟨gb462,0,none⟩) (Kd.R_types HO452.out BK462.out (by decide)) (fun _ hk => hk.2) (.int .u16 t448)) (fun _ hk => hk.2) (.int .u16 t449)) (fun _ hk => hk.2) (.slice Ao39 t450.length co39)) (fun _ hk => hk.2) (.slice Ao40 t453.length co40)) (fun _ hk => hk.2) (.slice Ao41 t456.length co41)) (fun _ hk => hk.2) (.slice Ao42 t459.length co42)) (fun _ h_ => h_.1))));(case side2 => exact (Kd.R_reads' HO452.out).2.1);(case side3 => refine (Kd.N_reads' (e:=51) (base:=w.heap.size) (ok:=fun k_ => ((some k_ ≠ (.slice Ao39 t450.length co39 : Value).ownBlock∧(some k_ ≠ (.slice Ao41 t456.length co41 : Value).ownBlock∧(some k_ ≠ (.slice Ao42 t459.length co42 : Value).ownBlock∧(k_ ≠ gb443∧k_ ≠ gb444))))∧k_ ≠ gb462)) (n:=t453.length) (c:=co40) ?_).2.2;exact (by (with_reducible repeat (first|apply Kd.N_alloc|apply Kd.N_drewN|apply Kd.N_drew));exact (Kd.N_mono (Kd.N_far (p:=⟨gb462,5,none⟩) (Kd.N_far (p:=⟨gb462,4,none⟩) (Kd.N_far (p:=⟨gb462,3,none⟩) (Kd.N_far (p:=⟨gb462,2,none⟩) (Kd.N_far (p:=⟨gb462,1,none⟩) (Kd.N_far (p:=⟨gb462,0,none⟩) (Kd.N_mono HO455.out (fun k_ hk => (⟨hk,hk.2⟩ : _∧k_ ≠ gb462))) (fun _ hk => hk.2) (.int .u16 t448)) (fun _ hk => hk.2) (.int .u16 t449)) (fun _ hk => hk.2) (.slice Ao39 t450.length co39)) (fun _ hk => hk.2) (.slice Ao40 t453.length co40)) (fun _ hk => hk.2) (.slice Ao41 t456.length co41)) (fun _ hk => hk.2) (.slice Ao42 t459.length co42)) (fun _ h_ => h_.1))));(case side4 => exact (Kd.N_reads' HO455.out).2.1);(case side5 => refine (Kd.N_reads' (e:=51) (base:=w.heap.size) (ok:=fun k_ => ((some k_ ≠ (.slice Ao39 t450.length co39 : Value).ownBlock∧(some k_ ≠ (.slice Ao40 t453.length co40 : Value).ownBlock∧(some k_ ≠ (.slice Ao42 t459.length co42 : Value).ownBlock∧(k_ ≠ gb443∧k_ ≠ gb444))))∧k_ ≠ gb462)) (n:=t456.length) (c:=co41) ?_).2.2;exact (by (with_reducible repeat (first|apply Kd.N_alloc|apply Kd.N_drewN|apply Kd.N_drew));exact (Kd.N_mono (Kd.N_far (p:=⟨gb462,5,none⟩) (Kd.N_far (p:=⟨gb462,4,none⟩) (Kd.N_far (p:=⟨gb462,3,none⟩) (Kd.N_far (p:=⟨gb462,2,none⟩) (Kd.N_far (p:=⟨gb462,1,none⟩) (Kd.N_far (p:=⟨gb462,0,none⟩) (Kd.N_mono HO458.out (fun k_ hk => (⟨hk,hk.2⟩ : _∧k_ ≠ gb462))) (fun _ hk => hk.2) (.int .u16 t448)) (fun _ hk => hk.2) (.int .u16 t449)) (fun _ hk => hk.2) (.slice Ao39 t450.length co39)) (fun _ hk => hk.2) (.slice Ao40 t453.length co40)) (fun _ hk => hk.2) (.slice Ao41 t456.length co41)) (fun _ hk => hk.2) (.slice Ao42 t459.length co42)) (fun _ h_ => h_.1))));(case side6 => exact (Kd.N_reads' HO458.out).2.1);(case side7 => refine (Kd.N_reads' (e:=51) (base:=w.heap.size) (ok:=fun k_ => ((some k_ ≠ (.slice Ao39 t450.length co39 : Value).ownBlock∧(some k_ ≠ (.slice Ao40 t453.length co40 : Value).ownBlock∧(some k_ ≠ (.slice Ao41 t456.length co41 : Value).ownBlock∧(k_ ≠ gb443∧k_ ≠ gb444))))∧k_ ≠ gb462)) (n:=t459.length) (c:=co42) ?_).2.2;exact (by (with_reducible repeat (first|apply Kd.N_alloc|apply Kd.N_drewN|apply Kd.N_drew));exact (Kd.N_mono (Kd.N_far (p:=⟨gb462,5,none⟩) (Kd.N_far (p:=⟨gb462,4,none⟩) (Kd.N_far (p:=⟨gb462,3,none⟩) (Kd.N_far (p:=⟨gb462,2,none⟩) (Kd.N_far (p:=⟨gb462,1,none⟩) (Kd.N_far (p:=⟨gb462,0,none⟩) (Kd.N_mono HO461.out (fun k_ hk => (⟨hk,hk.2⟩ : _∧k_ ≠ gb462))) (fun _ hk => hk.2) (.int .u16 t448)) (fun _ hk => hk.2) (.int .u16 t449)) (fun _ hk => hk.2) (.slice Ao39 t450.length co39)) (fun _ hk => hk.2) (.slice Ao40 t453.length co40)) (fun _ hk => hk.2) (.slice Ao41 t456.length co41)) (fun _ hk => hk.2) (.slice Ao42 t459.length co42)) (fun _ h_ => h_.1))));(case side8 => exact (Kd.N_reads' HO461.out).2.1);rintro e w43 ⟨rfl,hb⟩;refine ⟨_,rfl,?_⟩;have n0_:=Aside0.mk (Kd.R_below (by (with_reducible repeat (first|apply Kd.R_alloc|apply Kd.R_drewN|apply Kd.R_drew));exact (Kd.R_mono (Kd.R_far (p:=⟨gb462,5,none⟩) (Kd.R_far (p:=⟨gb462,4,none⟩) (Kd.R_far (p:=⟨gb462,3,none⟩) (Kd.R_far (p:=⟨gb462,2,none⟩) (Kd.R_far (p:=⟨gb462,1,none⟩) (Kd.R_far (p:=⟨gb462,0,none⟩) (Kd.R_types HO452.out BK462.out (by decide)) (fun _ hk => hk.2) (.int .u16 t448)) (fun _ hk => hk.2) (.int .u16 t449)) (fun _ hk => hk.2) (.slice Ao39 t450.length co39)) (fun _ hk => hk.2) (.slice Ao40 t453.length co40)) (fun _ hk => hk.2) (.slice Ao41 t456.length co41)) (fun _ hk => hk.2) (.slice Ao42 t459.length co42)) (fun _ h_ => h_.1))) hb);have n1_:=Aside0.mk (Kd.N_below (by (with_reducible repeat (first|apply Kd.N_alloc|apply Kd.N_drewN|apply Kd.N_drew));exact (Kd.N_mono (Kd.N_far (p:=⟨gb462,5,none⟩) (Kd.N_far (p:=⟨gb462,4,none⟩) (Kd.N_far (p:=⟨gb462,3,none⟩) (Kd.N_far (p:=⟨gb462,2,none⟩) (Kd.N_far (p:=⟨gb462,1,none⟩) (Kd.N_far (p:=⟨gb462,0,none⟩) (Kd.N_mono HO455.out (fun k_ hk => (⟨hk,hk.2⟩ : _∧k_ ≠ gb462))) (fun _ hk => hk.2) (.int .u16 t448)) (fun _ hk => hk.2) (.int .u16 t449)) (fun _ hk => hk.2) (.slice Ao39 t450.length co39)) (fun _ hk => hk.2) (.slice Ao40 t453.length co40)) (fun _ hk => hk.2) (.slice Ao41 t456.length co41)) (fun _ hk => hk.2) (.slice Ao42 t459.length co42)) (fun _ h_ => h_.1))) hb);have n2_:=Aside0.mk (Kd.N_below (by (with_reducible repeat (first|apply Kd.N_alloc|apply Kd.N_drewN|apply Kd.N_drew));exact (Kd.N_mono (Kd.N_far (p:=⟨gb462,5,none⟩) (Kd.N_far (p:=⟨gb462,4,none⟩) (Kd.N_far (p:=⟨gb462,3,none⟩) (Kd.N_far (p:=⟨gb462,2,none⟩) (Kd.N_far (p:=⟨gb462,1,none⟩) (Kd.N_far (p:=⟨gb462,0,none⟩) (Kd.N_mono HO458.out (fun k_ hk => (⟨hk,hk.2⟩ : _∧k_ ≠ gb462))) (fun _ hk => hk.2) (.int .u16 t448)) (fun _ hk => hk.2) (.int .u16 t449)) (fun _ hk => hk.2) (.slice Ao39 t450.length co39)) (fun _ hk => hk.2) (.slice Ao40 t453.length co40)) (fun _ hk => hk.2) (.slice Ao41 t456.length co41)) (fun _ hk => hk.2) (.slice Ao42 t459.length co42)) (fun _ h_ => h_.1))) hb);have n3_:=Aside0.mk (Kd.N_below (by (with_reducible repeat (first|apply Kd.N_alloc|apply Kd.N_drewN|apply Kd.N_drew));exact (Kd.N_mono (Kd.N_far (p:=⟨gb462,5,none⟩) (Kd.N_far (p:=⟨gb462,4,none⟩) (Kd.N_far (p:=⟨gb462,3,none⟩) (Kd.N_far (p:=⟨gb462,2,none⟩) (Kd.N_far (p:=⟨gb462,1,none⟩) (Kd.N_far (p:=⟨gb462,0,none⟩) (Kd.N_mono HO461.out (fun k_ hk => (⟨hk,hk.2⟩ : _∧k_ ≠ gb462))) (fun _ hk => hk.2) (.int .u16 t448)) (fun _ hk => hk.2) (.int .u16 t449)) (fun _ hk => hk.2) (.slice Ao39 t450.length co39)) (fun _ hk => hk.2) (.slice Ao40 t453.length co40)) (fun _ hk => hk.2) (.slice Ao41 t456.length co41)) (fun _ hk => hk.2) (.slice Ao42 t459.length co42)) (fun _ h_ => h_.1))) hb);have n4_:=Aside0.mk (blk_below (g:=gb443) (o:=.cells #[.string a0_0,.int .u16 a0_1,.int .u16 a0_2,.bool a0_3] 28 (0,0)) (by (with_reducible repeat first|apply qqa|apply qqb|apply qqc);refine blk_far ?_ NB443_462.out _;(with_reducible repeat first|apply qqa|apply qqb|apply qqc);refine blk_far ?_ NB443_462.out _;(with_reducible repeat first|apply qqa|apply qqb|apply qqc);refine blk_far ?_ NB443_462.out _;(with_reducible repeat first|apply qqa|apply qqb|apply qqc);refine blk_far ?_ NB443_462.out _;(with_reducible repeat first|apply qqa|apply qqb|apply qqc);refine blk_far ?_ NB443_462.out _;(with_reducible repeat first|apply qqa|apply qqb|apply qqc);refine blk_far ?_ NB443_462.out _;(with_reducible repeat first|apply qqa|apply qqb|apply qqc);exact BK443.out) hb);have n5_:=Aside0.mk (blk_below (g:=gb444) (o:=.cells #[.string a1_0,.int .u16 a1_1,.int .u16 a1_2,.bool a1_3] 28 (0,0)) (by (with_reducible repeat first|apply qqa|apply qqb|apply qqc);refine blk_far ?_ NB444_462.out _;(with_reducible repeat first|apply qqa|apply qqb|apply qqc);refine blk_far ?_ NB444_462.out _;(with_reducible repeat first|apply qqa|apply qqb|apply qqc);refine blk_far ?_ NB444_462.out _;(with_reducible repeat first|apply qqa|apply qqb|apply qqc);refine blk_far ?_ NB444_462.out _;(with_reducible repeat first|apply qqa|apply qqb|apply qqc);refine blk_far ?_ NB444_462.out _;(with_reducible repeat first|apply qqa|apply qqb|apply qqc);refine blk_far ?_ NB444_462.out _;(with_reducible repeat first|apply qqa|apply qqb|apply qqc);exact BK444.out) hb);have n6_:=Aside0.mk (blk_below (g:=gb462) (o:=.cells #[.int .u16 t448,.int .u16 t449,.slice Ao39 t450.length co39,.slice Ao40 t453.length co40,.slice Ao41 t456.length co41,.slice Ao42 t459.length co42] 26 (0,0)) (by (with_reducible repeat first|apply qqa|apply qqb|apply qqc);refine blk_put (cs:=#[.int .u16 t448,.int .u16 t449,.slice Ao39 t450.length co39,.slice Ao40 t453.length co40,.slice Ao41 t456.length co41,.slice none 0 0]) ?_ 5 _ rfl;(with_reducible repeat first|apply qqa|apply qqb|apply qqc);refine blk_put (cs:=#[.int .u16 t448,.int .u16 t449,.slice Ao39 t450.length co39,.slice Ao40 t453.length co40,.slice none 0 0,.slice none 0 0]) ?_ 4 _ rfl;(with_reducible repeat first|apply qqa|apply qqb|apply qqc);refine blk_put (cs:=#[.int .u16 t448,.int .u16 t449,.slice Ao39 t450.length co39,.slice none 0 0,.slice none 0 0,.slice none 0 0]) ?_ 3 _ rfl;(with_reducible repeat first|apply qqa|apply qqb|apply qqc);refine blk_put (cs:=#[.int .u16 t448,.int .u16 t449,.slice none 0 0,.slice none 0 0,.slice none 0 0,.slice none 0 0]) ?_ 2 _ rfl;(with_reducible repeat first|apply qqa|apply qqb|apply qqc);refine blk_put (cs:=#[.int .u16 t448,.int .u16 0,.slice none 0 0,.slice none 0 0,.slice none 0 0,.slice none 0 0]) ?_ 1 _ rfl;(with_reducible repeat first|apply qqa|apply qqb|apply qqc);refine blk_put (cs:=#[.int .u16 0,.int .u16 0,.slice none 0 0,.slice none 0 0,.slice none 0 0,.slice none 0 0]) ?_ 0 _ rfl;(with_reducible repeat first|apply qqa|apply qqb|apply qqc);exact BK462.out) hb);have n7_:=Aside0.mk (below_step (by repeat (first|(with_reducible first|exact HB.out|apply qqf|apply qqd|apply qqe|refine qqg ?_ GE443.out|refine qqg ?_ GE444.out|refine qqg ?_ GE462.out)|exact HB.out)) hb);clear HO452;clear HO455;clear HO458;clear HO461;clear BK443;clear BK444;clear BK462;clear HB;have HO452:=n0_;have HO455:=n1_;have HO458:=n2_;have HO461:=n3_;have BK443:=n4_;have BK444:=n5_;have BK462:=n6_;have HB:=n7_;clear n0_ n1_ n2_ n3_ n4_ n5_ n6_ n7_;(try clear hb);(try clear hb2);(try clear hk);(try clear hi))|((with_reducible refine gate_dst (N:=12) rfl ?_);(try (refine gate_guard (by rfl) ?_;dsimp only));refine box_event ?hg (N:=12) ?hd (cs:=#[.string (⟨#[]⟩ : ByteArray),.int .u16 0,.int .u16 0,.bool false]) (t:=28) ?hr ?_;(case hd => rfl);(case hg => rfl);(case hr => first|(go_simp;done)|(go_simp;rfl));intro gb468 hg w44 hbox hb;have n0_:=Aside0.mk (Kd.R_below (by (with_reducible repeat (first|apply Kd.R_alloc|apply Kd.R_drewN|apply Kd.R_drew));exact HO452.out) hb);have n1_:=Aside0.mk (Kd.N_below (Kd.N_elderB (by (with_reducible repeat (first|apply Kd.N_alloc|apply Kd.N_drewN|apply Kd.N_drew));exact HO455.out) gb468 (Nat.le_of_eq hg.symm)) hb);have n2_:=Aside0.mk (Kd.N_below (Kd.N_elderB (by (with_reducible repeat (first|apply Kd.N_alloc|apply Kd.N_drewN|apply Kd.N_drew));exact HO458.out) gb468 (Nat.le_of_eq hg.symm)) hb);have n3_:=Aside0.mk (Kd.N_below (Kd.N_elderB (by (with_reducible repeat (first|apply Kd.N_alloc|apply Kd.N_drewN|apply Kd.N_drew));exact HO461.out) gb468 (Nat.le_of_eq hg.symm)) hb);have n4_:=Aside0.mk (blk_below (g:=gb443) (o:=.cells #[.string a0_0,.int .u16 a0_1,.int .u16 a0_2,.bool a0_3] 28 (0,0)) (by (with_reducible repeat first|apply qqa|apply qqb|apply qqc);exact BK443.out) hb);have n5_:=Aside0.mk (blk_below (g:=gb444) (o:=.cells #[.string a1_0,.int .u16 a1_1,.int .u16 a1_2,.bool a1_3] 28 (0,0)) (by (with_reducible repeat first|apply qqa|apply qqb|apply qqc);exact BK444.out) hb);have n6_:=Aside0.mk (blk_below (g:=gb462) (o:=.cells #[.int .u16 t448,.int .u16 t449,.slice Ao39 t450.length co39,.slice Ao40 t453.length co40,.slice Ao41 t456.length co41,.slice Ao42 t459.length co42] 26 (0,0)) (by (with_reducible repeat first|apply qqa|apply qqb|apply qqc);exact BK462.out) hb);have n7_:=Aside0.mk (below_step (by repeat (first|(with_reducible first|exact HB.out|apply qqf|apply qqd|apply qqe|refine qqg ?_ GE443.out|refine qqg ?_ GE444.out|refine qqg ?_ GE462.out)|exact HB.out)) hb);have n8_:=Aside0.mk (hbox);have n9_:=Aside0.mk ((by rw [hg];exact (below_size (by repeat (first|(with_reducible first|exact HB.out|apply qqf|apply qqd|apply qqe|refine qqg ?_ GE443.out|refine qqg ?_ GE444.out|refine qqg ?_ GE462.out)|exact HB.out))) : w.heap.size ≤ gb468));have n10_:=Aside0.mk ((by rw [hg];exact (below_size (by repeat (first|(with_reducible first|exact HB.out|apply qqf|apply qqd|apply qqe|refine qqg ?_ GE443.out|refine qqg ?_ GE444.out|refine qqg ?_ GE462.out)|exact HB.out))) : w.heap.size ≤ gb468));have n11_:=Aside0.mk ((by rw [hg];exact Nat.ne_of_lt (blk_lt (g:=gb443) (o:=.cells #[.string a0_0,.int .u16 a0_1,.int .u16 a0_2,.bool a0_3] 28 (0,0)) (by (with_reducible repeat first|apply qqa|apply qqb|apply qqc);exact BK443.out)) : gb443 ≠ gb468));have n12_:=Aside0.mk ((by rw [hg];exact Nat.ne_of_gt (blk_lt (g:=gb443) (o:=.cells #[.string a0_0,.int .u16 a0_1,.int .u16 a0_2,.bool a0_3] 28 (0,0)) (by (with_reducible repeat first|apply qqa|apply qqb|apply qqc);exact BK443.out)) : gb468 ≠ gb443));have n13_:=Aside0.mk ((by rw [hg];exact Nat.ne_of_lt (blk_lt (g:=gb444) (o:=.cells #[.string a1_0,.int .u16 a1_1,.int .u16 a1_2,.bool a1_3] 28 (0,0)) (by (with_reducible repeat first|apply qqa|apply qqb|apply qqc);exact BK444.out)) : gb444 ≠ gb468));have n14_:=Aside0.mk ((by rw [hg];exact Nat.ne_of_gt (blk_lt (g:=gb444) (o:=.cells #[.string a1_0,.int .u16 a1_1,.int .u16 a1_2,.bool a1_3] 28 (0,0)) (by (with_reducible repeat first|apply qqa|apply qqb|apply qqc);exact BK444.out)) : gb468 ≠ gb444));have n15_:=Aside0.mk ((by rw [hg];exact Nat.ne_of_lt (blk_lt (g:=gb462) (o:=.cells #[.int .u16 t448,.int .u16 t449,.slice Ao39 t450.length co39,.slice Ao40 t453.length co40,.slice Ao41 t456.length co41,.slice Ao42 t459.length co42] 26 (0,0)) (by (with_reducible repeat first|apply qqa|apply qqb|apply qqc);exact BK462.out)) : gb462 ≠ gb468));have n16_:=Aside0.mk ((by rw [hg];exact Nat.ne_of_gt (blk_lt (g:=gb462) (o:=.cells #[.int .u16 t448,.int .u16 t449,.slice Ao39 t450.length co39,.slice Ao40 t453.length co40,.slice Ao41 t456.length co41,.slice Ao42 t459.length co42] 26 (0,0)) (by (with_reducible repeat first|apply qqa|apply qqb|apply qqc);exact BK462.out)) : gb468 ≠ gb462));clear HO452;clear HO455;clear HO458;clear HO461;clear BK443;clear BK444;clear BK462;clear HB;have HO452:=n0_;have HO455:=n1_;have HO458:=n2_;have HO461:=n3_;have BK443:=n4_;have BK444:=n5_;have BK462:=n6_;have HB:=n7_;have BK468:=n8_;have GW468:=n9_;have GE468:=n10_;have NB443_468:=n11_;have NB468_443:=n12_;have NB444_468:=n13_;have NB468_444:=n14_;have NB462_468:=n15_;have NB468_462:=n16_;clear n0_ n1_ n2_ n3_ n4_ n5_ n6_ n7_ n8_ n9_ n10_ n11_ n12_ n13_ n14_ n15_ n16_;clear hb hbox hg;have hnb45:=NB468_443.out;have hnc45:=NB443_468.out;have hnb46:=NB468_444.out;have hnc46:=NB444_468.out;have hnb47:=NB468_462.out;have hnc47:=NB462_468.out;have hcz48_0 : w44.cell? ⟨gb468,0,none⟩ = some (.string (⟨#[]⟩ : ByteArray)):=(qqh BK468.out 0).trans rfl;have hcz48_1 : w44.cell? ⟨gb468,1,none⟩ = some (.int .u16 0):=(qqh BK468.out 1).trans rfl;have hcz48_2 : w44.cell? ⟨gb468,2,none⟩ = some (.int .u16 0):=(qqh BK468.out 2).trans rfl;have hcz48_3 : w44.cell? ⟨gb468,3,none⟩ = some (.bool false):=(qqh BK468.out 3).trans rfl;have hfz48_0:=qqi BK468.out 0;have hfz48_1:=qqi BK468.out 1;have hfz48_2:=qqi BK468.out 2;have hfz48_3:=qqi BK468.out 3))
    (try simp only [Act.put,qqj,qqk,qql])
    go_cut [60] (fun v60 wc => ∃ (kq : Nat) (x60_30 : Bool),v60 = .bool x60_30∧Aside0 (nunciolaw08_QueryBack.j1 kq a2 a3 a4 x60_30 a0_0 a0_1 a0_2 a0_3 a1_0 a1_1 a1_2 a1_3 t448 t449 t450 t453 t456 t459 = some r)∧Aside0 (kq ≤ kj7)∧Aside0 (Kd.R k53 53 wc w.heap.size (fun _ => True) (.slice Ao39 t450.length co39) t450)∧Aside0 (Kd.N k51 51 wc w.heap.size (fun k_ => some k_ ≠ ((.slice Ao39 t450.length co39) : Value).ownBlock∧some k_ ≠ ((.slice Ao41 t456.length co41) : Value).ownBlock∧some k_ ≠ ((.slice Ao42 t459.length co42) : Value).ownBlock∧k_ ≠ gb443∧k_ ≠ gb444∧k_ ≠ gb462∧k_ ≠ gb468) (.slice Ao40 t453.length co40) t453)∧Aside0 (Kd.N k51 51 wc w.heap.size (fun k_ => some k_ ≠ ((.slice Ao39 t450.length co39) : Value).ownBlock∧some k_ ≠ ((.slice Ao40 t453.length co40) : Value).ownBlock∧some k_ ≠ ((.slice Ao42 t459.length co42) : Value).ownBlock∧k_ ≠ gb443∧k_ ≠ gb444∧k_ ≠ gb462∧k_ ≠ gb468) (.slice Ao41 t456.length co41) t456)∧Aside0 (Kd.N k51 51 wc w.heap.size (fun k_ => some k_ ≠ ((.slice Ao39 t450.length co39) : Value).ownBlock∧some k_ ≠ ((.slice Ao40 t453.length co40) : Value).ownBlock∧some k_ ≠ ((.slice Ao41 t456.length co41) : Value).ownBlock∧k_ ≠ gb443∧k_ ≠ gb444∧k_ ≠ gb462∧k_ ≠ gb468) (.slice Ao42 t459.length co42) t459)∧Aside0 (wc.heap[gb443]? = some (.cells #[.string a0_0,.int .u16 a0_1,.int .u16 a0_2,.bool a0_3] 28 (0,0)))∧Aside0 (wc.heap[gb444]? = some (.cells #[.string a1_0,.int .u16 a1_1,.int .u16 a1_2,.bool a1_3] 28 (0,0)))∧Aside0 (wc.heap[gb462]? = some (.cells #[.int .u16 t448,.int .u16 t449,(.slice Ao39 t450.length co39),(.slice Ao40 t453.length co40),(.slice Ao41 t456.length co41),(.slice Ao42 t459.length co42)] 26 (0,0)))∧Aside0 (wc.heap[gb468]? = some (.cells #[.string t463,.int .u16 t464,.int .u16 t465,.bool t466] 28 (0,0)))∧Aside0 (Below w.heap.size w wc))
    case first =>
     have H:=HC31.out
     clear HC31
     by_cases c49 : t467 = 0
     ·
      rw [if_pos c49] at H
      have c49b0 : (t467 == 0) = true:=beq_iff_eq.mpr c49
      have c49b1 : (t467 != 0) = false:=bne_eq_false_iff_eq.mpr c49
      clear c49
      (first|rw [c49b0]|rw [c49b1]|(simp only [i64_w,i32_w];rw [c49b0])|skip)
      by_cases c50 : (!(t463.toList == a0_0.toList) || (!(t464 == a0_1) || (!(t465 == a0_2) || (!(t466 == a0_3))))) = true
      ·
       rw [if_pos c50] at H
       have c50b0 : (!(t463.toList == a0_0.toList) || (!(t464 == a0_1) || (!(t465 == a0_2) || (!(t466 == a0_3))))) = true:=c50
       clear c50
       (try (have c50b9:=c50b0;simp only [beq_true,beq_false] at c50b9))
       have H':=Aside0.mk H
       clear H
       have hnb51:=NB468_443.out
       have hnc51:=NB443_468.out
       have hnb52:=NB468_444.out
       have hnc52:=NB444_468.out
       have hnb53:=NB468_462.out
       have hnc53:=NB462_468.out
       have hcz54_0 : w44.cell? ⟨gb468,0,none⟩ = some (.string (⟨#[]⟩ : ByteArray)):=(qqh BK468.out 0).trans rfl
       have hcz54_1 : w44.cell? ⟨gb468,1,none⟩ = some (.int .u16 0):=(qqh BK468.out 1).trans rfl
       have hcz54_2 : w44.cell? ⟨gb468,2,none⟩ = some (.int .u16 0):=(qqh BK468.out 2).trans rfl
       have hcz54_3 : w44.cell? ⟨gb468,3,none⟩ = some (.bool false):=(qqh BK468.out 3).trans rfl
       have hfz54_0:=qqi BK468.out 0
       have hfz54_1:=qqi BK468.out 1
       have hfz54_2:=qqi BK468.out 2
       have hfz54_3:=qqi BK468.out 3
       have hnb55:=NB443_444.out
       have hnc55:=NB444_443.out
       have hnb56:=NB443_462.out
       have hnc56:=NB462_443.out
       have hcz57_0 : w44.cell? ⟨gb443,0,none⟩ = some (.string a0_0):=(qqh BK443.out 0).trans rfl
       have hcz57_1 : w44.cell? ⟨gb443,1,none⟩ = some (.int .u16 a0_1):=(qqh BK443.out 1).trans rfl
       have hcz57_2 : w44.cell? ⟨gb443,2,none⟩ = some (.int .u16 a0_2):=(qqh BK443.out 2).trans rfl
       have hcz57_3 : w44.cell? ⟨gb443,3,none⟩ = some (.bool a0_3):=(qqh BK443.out 3).trans rfl
       have hfz57_0:=qqi BK443.out 0
       have hfz57_1:=qqi BK443.out 1
       have hfz57_2:=qqi BK443.out 2
       have hfz57_3:=qqi BK443.out 3
       go_wp2
       go_meet
       case rel => exact ⟨_,(true),(by first|rfl|(simp;done)|(simp [*];done)),H',⟨by have:=HJ7.out;first|omega|exact Nat.le_refl _⟩,⟨by (with_reducible repeat (first|apply Kd.R_alloc|apply Kd.R_drewN|apply Kd.R_drew));exact Kd.R_mono (Kd.R_far (p:=⟨gb468,3,none⟩) (Kd.R_far (p:=⟨gb468,2,none⟩) (Kd.R_far (p:=⟨gb468,1,none⟩) (Kd.R_far (p:=⟨gb468,0,none⟩) (Kd.R_types HO452.out BK468.out (by decide)) (fun _ hk => hk.2) (.string t463)) (fun _ hk => hk.2) (.int .u16 t464)) (fun _ hk => hk.2) (.int .u16 t465)) (fun _ hk => hk.2) (.bool t466)) (fun _ hk => trivial)⟩,⟨by (with_reducible repeat (first|apply Kd.N_alloc|apply Kd.N_drewN|apply Kd.N_drew));exact Kd.N_mono (Kd.N_far (p:=⟨gb468,3,none⟩) (Kd.N_far (p:=⟨gb468,2,none⟩) (Kd.N_far (p:=⟨gb468,1,none⟩) (Kd.N_far (p:=⟨gb468,0,none⟩) (Kd.N_mono HO455.out (fun k_ hk => (⟨hk,hk.2⟩ : _∧k_ ≠ gb468))) (fun _ hk => hk.2) (.string t463)) (fun _ hk => hk.2) (.int .u16 t464)) (fun _ hk => hk.2) (.int .u16 t465)) (fun _ hk => hk.2) (.bool t466)) (fun _ hk => ⟨hk.1.1.1.1,⟨hk.1.1.1.2.1,⟨hk.1.1.1.2.2.1,⟨hk.1.1.1.2.2.2.1,⟨hk.1.1.1.2.2.2.2,⟨hk.1.1.2,hk.1.2⟩⟩⟩⟩⟩⟩)⟩,⟨by (with_reducible repeat (first|apply Kd.N_alloc|apply Kd.N_drewN|apply Kd.N_drew));exact Kd.N_mono (Kd.N_far (p:=⟨gb468,3,none⟩) (Kd.N_far (p:=⟨gb468,2,none⟩) (Kd.N_far (p:=⟨gb468,1,none⟩) (Kd.N_far (p:=⟨gb468,0,none⟩) (Kd.N_mono HO458.out (fun k_ hk => (⟨hk,hk.2⟩ : _∧k_ ≠ gb468))) (fun _ hk => hk.2) (.string t463)) (fun _ hk => hk.2) (.int .u16 t464)) (fun _ hk => hk.2) (.int .u16 t465)) (fun _ hk => hk.2) (.bool t466)) (fun _ hk => ⟨hk.1.1.1.1,⟨hk.1.1.1.2.1,⟨hk.1.1.1.2.2.1,⟨hk.1.1.1.2.2.2.1,⟨hk.1.1.1.2.2.2.2,⟨hk.1.1.2,hk.1.2⟩⟩⟩⟩⟩⟩)⟩,⟨by (with_reducible repeat (first|apply Kd.N_alloc|apply Kd.N_drewN|apply Kd.N_drew));exact Kd.N_mono (Kd.N_far (p:=⟨gb468,3,none⟩) (Kd.N_far (p:=⟨gb468,2,none⟩) (Kd.N_far (p:=⟨gb468,1,none⟩) (Kd.N_far (p:=⟨gb468,0,none⟩) (Kd.N_mono HO461.out (fun k_ hk => (⟨hk,hk.2⟩ : _∧k_ ≠ gb468))) (fun _ hk => hk.2) (.string t463)) (fun _ hk => hk.2) (.int .u16 t464)) (fun _ hk => hk.2) (.int .u16 t465)) (fun _ hk => hk.2) (.bool t466)) (fun _ hk => ⟨hk.1.1.1.1,⟨hk.1.1.1.2.1,⟨hk.1.1.1.2.2.1,⟨hk.1.1.1.2.2.2.1,⟨hk.1.1.1.2.2.2.2,⟨hk.1.1.2,hk.1.2⟩⟩⟩⟩⟩⟩)⟩,⟨by (with_reducible repeat first|apply qqa|apply qqb|apply qqc);refine blk_far ?_ NB443_468.out _;(with_reducible repeat first|apply qqa|apply qqb|apply qqc);refine blk_far ?_ NB443_468.out _;(with_reducible repeat first|apply qqa|apply qqb|apply qqc);refine blk_far ?_ NB443_468.out _;(with_reducible repeat first|apply qqa|apply qqb|apply qqc);refine blk_far ?_ NB443_468.out _;(with_reducible repeat first|apply qqa|apply qqb|apply qqc);exact BK443.out⟩,⟨by (with_reducible repeat first|apply qqa|apply qqb|apply qqc);refine blk_far ?_ NB444_468.out _;(with_reducible repeat first|apply qqa|apply qqb|apply qqc);refine blk_far ?_ NB444_468.out _;(with_reducible repeat first|apply qqa|apply qqb|apply qqc);refine blk_far ?_ NB444_468.out _;(with_reducible repeat first|apply qqa|apply qqb|apply qqc);refine blk_far ?_ NB444_468.out _;(with_reducible repeat first|apply qqa|apply qqb|apply qqc);exact BK444.out⟩,⟨by (with_reducible repeat first|apply qqa|apply qqb|apply qqc);refine blk_far ?_ NB462_468.out _;(with_reducible repeat first|apply qqa|apply qqb|apply qqc);refine blk_far ?_ NB462_468.out _;(with_reducible repeat first|apply qqa|apply qqb|apply qqc);refine blk_far ?_ NB462_468.out _;(with_reducible repeat first|apply qqa|apply qqb|apply qqc);refine blk_far ?_ NB462_468.out _;(with_reducible repeat first|apply qqa|apply qqb|apply qqc);exact BK462.out⟩,⟨by (with_reducible repeat first|apply qqa|apply qqb|apply qqc);refine blk_put (cs:=#[.string t463,.int .u16 t464,.int .u16 t465,.bool false]) ?_ 3 _ rfl;(with_reducible repeat first|apply qqa|apply qqb|apply qqc);refine blk_put (cs:=#[.string t463,.int .u16 t464,.int .u16 0,.bool false]) ?_ 2 _ rfl;(with_reducible repeat first|apply qqa|apply qqb|apply qqc);refine blk_put (cs:=#[.string t463,.int .u16 0,.int .u16 0,.bool false]) ?_ 1 _ rfl;(with_reducible repeat first|apply qqa|apply qqb|apply qqc);refine blk_put (cs:=#[.string (⟨#[]⟩ : ByteArray),.int .u16 0,.int .u16 0,.bool false]) ?_ 0 _ rfl;(with_reducible repeat first|apply qqa|apply qqb|apply qqc);exact BK468.out⟩,⟨by repeat (first|(with_reducible first|exact HB.out|apply qqf|apply qqd|apply qqe|refine qqg ?_ GE443.out|refine qqg ?_ GE444.out|refine qqg ?_ GE462.out|refine qqg ?_ GE468.out)|exact HB.out)⟩⟩
      ·
       rw [if_neg c50] at H
       have c50b0 : (!(t463.toList == a0_0.toList) || (!(t464 == a0_1) || (!(t465 == a0_2) || (!(t466 == a0_3))))) = false:=by simpa using c50
       clear c50
       (try (have c50b9:=c50b0;simp only [beq_true,beq_false] at c50b9))
       have H':=Aside0.mk H
       clear H
       have hnb58:=NB468_443.out
       have hnc58:=NB443_468.out
       have hnb59:=NB468_444.out
       have hnc59:=NB444_468.out
       have hnb60:=NB468_462.out
       have hnc60:=NB462_468.out
       have hcz61_0 : w44.cell? ⟨gb468,0,none⟩ = some (.string (⟨#[]⟩ : ByteArray)):=(qqh BK468.out 0).trans rfl
       have hcz61_1 : w44.cell? ⟨gb468,1,none⟩ = some (.int .u16 0):=(qqh BK468.out 1).trans rfl
       have hcz61_2 : w44.cell? ⟨gb468,2,none⟩ = some (.int .u16 0):=(qqh BK468.out 2).trans rfl
       have hcz61_3 : w44.cell? ⟨gb468,3,none⟩ = some (.bool false):=(qqh BK468.out 3).trans rfl
       have hfz61_0:=qqi BK468.out 0
       have hfz61_1:=qqi BK468.out 1
       have hfz61_2:=qqi BK468.out 2
       have hfz61_3:=qqi BK468.out 3
       have hnb62:=NB443_444.out
       have hnc62:=NB444_443.out
       have hnb63:=NB443_462.out
       have hnc63:=NB462_443.out
       have hcz64_0 : w44.cell? ⟨gb443,0,none⟩ = some (.string a0_0):=(qqh BK443.out 0).trans rfl
       have hcz64_1 : w44.cell? ⟨gb443,1,none⟩ = some (.int .u16 a0_1):=(qqh BK443.out 1).trans rfl
       have hcz64_2 : w44.cell? ⟨gb443,2,none⟩ = some (.int .u16 a0_2):=(qqh BK443.out 2).trans rfl
       have hcz64_3 : w44.cell? ⟨gb443,3,none⟩ = some (.bool a0_3):=(qqh BK443.out 3).trans rfl
       have hfz64_0:=qqi BK443.out 0
       have hfz64_1:=qqi BK443.out 1
       have hfz64_2:=qqi BK443.out 2
       have hfz64_3:=qqi BK443.out 3
       have hnb65:=NB462_444.out
       have hnc65:=NB444_462.out
       have hcz66_0 : w44.cell? ⟨gb462,0,none⟩ = some (.int .u16 t448):=(qqh BK462.out 0).trans rfl
       have hcz66_1 : w44.cell? ⟨gb462,1,none⟩ = some (.int .u16 t449):=(qqh BK462.out 1).trans rfl
       have hcz66_2 : w44.cell? ⟨gb462,2,none⟩ = some (.slice Ao39 t450.length co39):=(qqh BK462.out 2).trans rfl
       have hcz66_3 : w44.cell? ⟨gb462,3,none⟩ = some (.slice Ao40 t453.length co40):=(qqh BK462.out 3).trans rfl
       have hcz66_4 : w44.cell? ⟨gb462,4,none⟩ = some (.slice Ao41 t456.length co41):=(qqh BK462.out 4).trans rfl
       have hcz66_5 : w44.cell? ⟨gb462,5,none⟩ = some (.slice Ao42 t459.length co42):=(qqh BK462.out 5).trans rfl
       have hfz66_0:=qqi BK462.out 0
       have hfz66_1:=qqi BK462.out 1
       have hfz66_2:=qqi BK462.out 2
       have hfz66_3:=qqi BK462.out 3
       have hfz66_4:=qqi BK462.out 4
       have hfz66_5:=qqi BK462.out 5
       go_wp2
       go_meet
       case rel => exact ⟨_,((t448 != a2)),(by first|rfl|(simp;done)|(simp [*];done)),H',⟨by have:=HJ7.out;first|omega|exact Nat.le_refl _⟩,⟨by (with_reducible repeat (first|apply Kd.R_alloc|apply Kd.R_drewN|apply Kd.R_drew));exact Kd.R_mono (Kd.R_far (p:=⟨gb468,3,none⟩) (Kd.R_far (p:=⟨gb468,2,none⟩) (Kd.R_far (p:=⟨gb468,1,none⟩) (Kd.R_far (p:=⟨gb468,0,none⟩) (Kd.R_types HO452.out BK468.out (by decide)) (fun _ hk => hk.2) (.string t463)) (fun _ hk => hk.2) (.int .u16 t464)) (fun _ hk => hk.2) (.int .u16 t465)) (fun _ hk => hk.2) (.bool t466)) (fun _ hk => trivial)⟩,⟨by (with_reducible repeat (first|apply Kd.N_alloc|apply Kd.N_drewN|apply Kd.N_drew));exact Kd.N_mono (Kd.N_far (p:=⟨gb468,3,none⟩) (Kd.N_far (p:=⟨gb468,2,none⟩) (Kd.N_far (p:=⟨gb468,1,none⟩) (Kd.N_far (p:=⟨gb468,0,none⟩) (Kd.N_mono HO455.out (fun k_ hk => (⟨hk,hk.2⟩ : _∧k_ ≠ gb468))) (fun _ hk => hk.2) (.string t463)) (fun _ hk => hk.2) (.int .u16 t464)) (fun _ hk => hk.2) (.int .u16 t465)) (fun _ hk => hk.2) (.bool t466)) (fun _ hk => ⟨hk.1.1.1.1,⟨hk.1.1.1.2.1,⟨hk.1.1.1.2.2.1,⟨hk.1.1.1.2.2.2.1,⟨hk.1.1.1.2.2.2.2,⟨hk.1.1.2,hk.1.2⟩⟩⟩⟩⟩⟩)⟩,⟨by (with_reducible repeat (first|apply Kd.N_alloc|apply Kd.N_drewN|apply Kd.N_drew));exact Kd.N_mono (Kd.N_far (p:=⟨gb468,3,none⟩) (Kd.N_far (p:=⟨gb468,2,none⟩) (Kd.N_far (p:=⟨gb468,1,none⟩) (Kd.N_far (p:=⟨gb468,0,none⟩) (Kd.N_mono HO458.out (fun k_ hk => (⟨hk,hk.2⟩ : _∧k_ ≠ gb468))) (fun _ hk => hk.2) (.string t463)) (fun _ hk => hk.2) (.int .u16 t464)) (fun _ hk => hk.2) (.int .u16 t465)) (fun _ hk => hk.2) (.bool t466)) (fun _ hk => ⟨hk.1.1.1.1,⟨hk.1.1.1.2.1,⟨hk.1.1.1.2.2.1,⟨hk.1.1.1.2.2.2.1,⟨hk.1.1.1.2.2.2.2,⟨hk.1.1.2,hk.1.2⟩⟩⟩⟩⟩⟩)⟩,⟨by (with_reducible repeat (first|apply Kd.N_alloc|apply Kd.N_drewN|apply Kd.N_drew));exact Kd.N_mono (Kd.N_far (p:=⟨gb468,3,none⟩) (Kd.N_far (p:=⟨gb468,2,none⟩) (Kd.N_far (p:=⟨gb468,1,none⟩) (Kd.N_far (p:=⟨gb468,0,none⟩) (Kd.N_mono HO461.out (fun k_ hk => (⟨hk,hk.2⟩ : _∧k_ ≠ gb468))) (fun _ hk => hk.2) (.string t463)) (fun _ hk => hk.2) (.int .u16 t464)) (fun _ hk => hk.2) (.int .u16 t465)) (fun _ hk => hk.2) (.bool t466)) (fun _ hk => ⟨hk.1.1.1.1,⟨hk.1.1.1.2.1,⟨hk.1.1.1.2.2.1,⟨hk.1.1.1.2.2.2.1,⟨hk.1.1.1.2.2.2.2,⟨hk.1.1.2,hk.1.2⟩⟩⟩⟩⟩⟩)⟩,⟨by (with_reducible repeat first|apply qqa|apply qqb|apply qqc);refine blk_far ?_ NB443_468.out _;(with_reducible repeat first|apply qqa|apply qqb|apply qqc);refine blk_far ?_ NB443_468.out _;(with_reducible repeat first|apply qqa|apply qqb|apply qqc);refine blk_far ?_ NB443_468.out _;(with_reducible repeat first|apply qqa|apply qqb|apply qqc);refine blk_far ?_ NB443_468.out _;(with_reducible repeat first|apply qqa|apply qqb|apply qqc);exact BK443.out⟩,⟨by (with_reducible repeat first|apply qqa|apply qqb|apply qqc);refine blk_far ?_ NB444_468.out _;(with_reducible repeat first|apply qqa|apply qqb|apply qqc);refine blk_far ?_ NB444_468.out _;(with_reducible repeat first|apply qqa|apply qqb|apply qqc);refine blk_far ?_ NB444_468.out _;(with_reducible repeat first|apply qqa|apply qqb|apply qqc);refine blk_far ?_ NB444_468.out _;(with_reducible repeat first|apply qqa|apply qqb|apply qqc);exact BK444.out⟩,⟨by (with_reducible repeat first|apply qqa|apply qqb|apply qqc);refine blk_far ?_ NB462_468.out _;(with_reducible repeat first|apply qqa|apply qqb|apply qqc);refine blk_far ?_ NB462_468.out _;(with_reducible repeat first|apply qqa|apply qqb|apply qqc);refine blk_far ?_ NB462_468.out _;(with_reducible repeat first|apply qqa|apply qqb|apply qqc);refine blk_far ?_ NB462_468.out _;(with_reducible repeat first|apply qqa|apply qqb|apply qqc);exact BK462.out⟩,⟨by (with_reducible repeat first|apply qqa|apply qqb|apply qqc);refine blk_put (cs:=#[.string t463,.int .u16 t464,.int .u16 t465,.bool false]) ?_ 3 _ rfl;(with_reducible repeat first|apply qqa|apply qqb|apply qqc);refine blk_put (cs:=#[.string t463,.int .u16 t464,.int .u16 0,.bool false]) ?_ 2 _ rfl;(with_reducible repeat first|apply qqa|apply qqb|apply qqc);refine blk_put (cs:=#[.string t463,.int .u16 0,.int .u16 0,.bool false]) ?_ 1 _ rfl;(with_reducible repeat first|apply qqa|apply qqb|apply qqc);refine blk_put (cs:=#[.string (⟨#[]⟩ : ByteArray),.int .u16 0,.int .u16 0,.bool false]) ?_ 0 _ rfl;(with_reducible repeat first|apply qqa|apply qqb|apply qqc);exact BK468.out⟩,⟨by repeat (first|(with_reducible first|exact HB.out|apply qqf|apply qqd|apply qqe|refine qqg ?_ GE443.out|refine qqg ?_ GE444.out|refine qqg ?_ GE462.out|refine qqg ?_ GE468.out)|exact HB.out)⟩⟩
     ·
      rw [if_neg c49] at H
      have c49b0 : (t467 == 0) = false:=beq_eq_false_iff_ne.mpr c49
      have c49b1 : (t467 != 0) = true:=bne_iff_ne.mpr c49
      (first|rw [c49b0]|rw [c49b1]|(simp only [i64_w,i32_w];rw [c49b0])|skip)
      have H':=Aside0.mk H
      clear H
      go_wp2
      go_meet
      case rel => exact ⟨_,(true),(by first|rfl|(simp;done)|(simp [*];done)),H',⟨by have:=HJ7.out;first|omega|exact Nat.le_refl _⟩,⟨by (with_reducible repeat (first|apply Kd.R_alloc|apply Kd.R_drewN|apply Kd.R_drew));exact Kd.R_mono (Kd.R_far (p:=⟨gb468,3,none⟩) (Kd.R_far (p:=⟨gb468,2,none⟩) (Kd.R_far (p:=⟨gb468,1,none⟩) (Kd.R_far (p:=⟨gb468,0,none⟩) (Kd.R_types HO452.out BK468.out (by decide)) (fun _ hk => hk.2) (.string t463)) (fun _ hk => hk.2) (.int .u16 t464)) (fun _ hk => hk.2) (.int .u16 t465)) (fun _ hk => hk.2) (.bool t466)) (fun _ hk => trivial)⟩,⟨by (with_reducible repeat (first|apply Kd.N_alloc|apply Kd.N_drewN|apply Kd.N_drew));exact Kd.N_mono (Kd.N_far (p:=⟨gb468,3,none⟩) (Kd.N_far (p:=⟨gb468,2,none⟩) (Kd.N_far (p:=⟨gb468,1,none⟩) (Kd.N_far (p:=⟨gb468,0,none⟩) (Kd.N_mono HO455.out (fun k_ hk => (⟨hk,hk.2⟩ : _∧k_ ≠ gb468))) (fun _ hk => hk.2) (.string t463)) (fun _ hk => hk.2) (.int .u16 t464)) (fun _ hk => hk.2) (.int .u16 t465)) (fun _ hk => hk.2) (.bool t466)) (fun _ hk => ⟨hk.1.1.1.1,⟨hk.1.1.1.2.1,⟨hk.1.1.1.2.2.1,⟨hk.1.1.1.2.2.2.1,⟨hk.1.1.1.2.2.2.2,⟨hk.1.1.2,hk.1.2⟩⟩⟩⟩⟩⟩)⟩,⟨by (with_reducible repeat (first|apply Kd.N_alloc|apply Kd.N_drewN|apply Kd.N_drew));exact Kd.N_mono (Kd.N_far (p:=⟨gb468,3,none⟩) (Kd.N_far (p:=⟨gb468,2,none⟩) (Kd.N_far (p:=⟨gb468,1,none⟩) (Kd.N_far (p:=⟨gb468,0,none⟩) (Kd.N_mono HO458.out (fun k_ hk => (⟨hk,hk.2⟩ : _∧k_ ≠ gb468))) (fun _ hk => hk.2) (.string t463)) (fun _ hk => hk.2) (.int .u16 t464)) (fun _ hk => hk.2) (.int .u16 t465)) (fun _ hk => hk.2) (.bool t466)) (fun _ hk => ⟨hk.1.1.1.1,⟨hk.1.1.1.2.1,⟨hk.1.1.1.2.2.1,⟨hk.1.1.1.2.2.2.1,⟨hk.1.1.1.2.2.2.2,⟨hk.1.1.2,hk.1.2⟩⟩⟩⟩⟩⟩)⟩,⟨by (with_reducible repeat (first|apply Kd.N_alloc|apply Kd.N_drewN|apply Kd.N_drew));exact Kd.N_mono (Kd.N_far (p:=⟨gb468,3,none⟩) (Kd.N_far (p:=⟨gb468,2,none⟩) (Kd.N_far (p:=⟨gb468,1,none⟩) (Kd.N_far (p:=⟨gb468,0,none⟩) (Kd.N_mono HO461.out (fun k_ hk => (⟨hk,hk.2⟩ : _∧k_ ≠ gb468))) (fun _ hk => hk.2) (.string t463)) (fun _ hk => hk.2) (.int .u16 t464)) (fun _ hk => hk.2) (.int .u16 t465)) (fun _ hk => hk.2) (.bool t466)) (fun _ hk => ⟨hk.1.1.1.1,⟨hk.1.1.1.2.1,⟨hk.1.1.1.2.2.1,⟨hk.1.1.1.2.2.2.1,⟨hk.1.1.1.2.2.2.2,⟨hk.1.1.2,hk.1.2⟩⟩⟩⟩⟩⟩)⟩,⟨by (with_reducible repeat first|apply qqa|apply qqb|apply qqc);refine blk_far ?_ NB443_468.out _;(with_reducible repeat first|apply qqa|apply qqb|apply qqc);refine blk_far ?_ NB443_468.out _;(with_reducible repeat first|apply qqa|apply qqb|apply qqc);refine blk_far ?_ NB443_468.out _;(with_reducible repeat first|apply qqa|apply qqb|apply qqc);refine blk_far ?_ NB443_468.out _;(with_reducible repeat first|apply qqa|apply qqb|apply qqc);exact BK443.out⟩,⟨by (with_reducible repeat first|apply qqa|apply qqb|apply qqc);refine blk_far ?_ NB444_468.out _;(with_reducible repeat first|apply qqa|apply qqb|apply qqc);refine blk_far ?_ NB444_468.out _;(with_reducible repeat first|apply qqa|apply qqb|apply qqc);refine blk_far ?_ NB444_468.out _;(with_reducible repeat first|apply qqa|apply qqb|apply qqc);refine blk_far ?_ NB444_468.out _;(with_reducible repeat first|apply qqa|apply qqb|apply qqc);exact BK444.out⟩,⟨by (with_reducible repeat first|apply qqa|apply qqb|apply qqc);refine blk_far ?_ NB462_468.out _;(with_reducible repeat first|apply qqa|apply qqb|apply qqc);refine blk_far ?_ NB462_468.out _;(with_reducible repeat first|apply qqa|apply qqb|apply qqc);refine blk_far ?_ NB462_468.out _;(with_reducible repeat first|apply qqa|apply qqb|apply qqc);refine blk_far ?_ NB462_468.out _;(with_reducible repeat first|apply qqa|apply qqb|apply qqc);exact BK462.out⟩,⟨by (with_reducible repeat first|apply qqa|apply qqb|apply qqc);refine blk_put (cs:=#[.string t463,.int .u16 t464,.int .u16 t465,.bool false]) ?_ 3 _ rfl;(with_reducible repeat first|apply qqa|apply qqb|apply qqc);refine blk_put (cs:=#[.string t463,.int .u16 t464,.int .u16 0,.bool false]) ?_ 2 _ rfl;(with_reducible repeat first|apply qqa|apply qqb|apply qqc);refine blk_put (cs:=#[.string t463,.int .u16 0,.int .u16 0,.bool false]) ?_ 1 _ rfl;(with_reducible repeat first|apply qqa|apply qqb|apply qqc);refine blk_put (cs:=#[.string (⟨#[]⟩ : ByteArray),.int .u16 0,.int .u16 0,.bool false]) ?_ 0 _ rfl;(with_reducible repeat first|apply qqa|apply qqb|apply qqc);exact BK468.out⟩,⟨by repeat (first|(with_reducible first|exact HB.out|apply qqf|apply qqd|apply qqe|refine qqg ?_ GE443.out|refine qqg ?_ GE444.out|refine qqg ?_ GE462.out|refine qqg ?_ GE468.out)|exact HB.out)⟩⟩
    case rest =>
     clear HC31
     try clear c1
     try clear c2
     try clear p2
     try clear c3
     try clear c4
     try clear c5
     try clear c6
     try clear c11
     try clear c13
     try clear c14
     try clear c15
     try clear c15b0
     try clear c15b1
     try clear c28
     try clear c29
     try clear c30
     try clear c32
     try clear c36
     try clear c37
     try clear c45
     try clear c46
     try clear c47
     try clear c49
     try clear c49b0
     try clear c49b1
     try clear c50
     try clear c50b0
     try clear c51
     try clear c52
     try clear c53
     try clear c55
     try clear c56
     try clear c58
     try clear c59
     try clear c60
     try clear c62
     try clear c63
     try clear c65
     try clear hcz33_0
     try clear hcz33_1
     try clear hcz33_2
     try clear hcz33_3
     try clear hcz38_0
     try clear hcz38_1
     try clear hcz38_2
     try clear hcz38_3
     try clear hcz38_4
     try clear hcz38_5
     try clear hcz48_0
     try clear hcz48_1
     try clear hcz48_2
     try clear hcz48_3
     try clear hcz54_0
     try clear hcz54_1
     try clear hcz54_2
     try clear hcz54_3
     try clear hcz57_0
     try clear hcz57_1
     try clear hcz57_2
     try clear hcz57_3
     try clear hcz61_0
     try clear hcz61_1
     try clear hcz61_2
     try clear hcz61_3
     try clear hcz64_0
     try clear hcz64_1
     try clear hcz64_2
     try clear hcz64_3
     try clear hcz66_0
     try clear hcz66_1
     try clear hcz66_2
     try clear hcz66_3
     try clear hcz66_4
     try clear hcz66_5
     try clear hfz33_0
     try clear hfz33_1
     try clear hfz33_2
     try clear hfz33_3
     try clear hfz38_0
     try clear hfz38_1
     try clear hfz38_2
     try clear hfz38_3
     try clear hfz38_4
     try clear hfz38_5
     try clear hfz48_0
     try clear hfz48_1
     try clear hfz48_2
     try clear hfz48_3
     try clear hfz54_0
     try clear hfz54_1
     try clear hfz54_2
     try clear hfz54_3
     try clear hfz57_0
     try clear hfz57_1
     try clear hfz57_2
     try clear hfz57_3
     try clear hfz61_0
     try clear hfz61_1
     try clear hfz61_2
     try clear hfz61_3
     try clear hfz64_0
     try clear hfz64_1
     try clear hfz64_2
     try clear hfz64_3
     try clear hfz66_0
     try clear hfz66_1
     try clear hfz66_2
     try clear hfz66_3
     try clear hfz66_4
     try clear hfz66_5
     try clear p2
     obtain ⟨kq,x60_30,rfl,HA,HJ30,HO_463002,HO_463003,HO_463004,HO_463005,BK443,BK444,BK462,BK468,HB⟩:=hcut
     cases kq with
     | zero => exact absurd HA.out (by simp [nunciolaw08_QueryBack.j1])
     | succ kj30 =>
      have H:=HA.out
      clear HA
      simp only [nunciolaw08_QueryBack.j1] at H
      by_cases c67 : x60_30 = true
      ·
       subst c67
       have H1 : (some false) = some r:=by rw [if_pos rfl] at H;exact H
       clear H
       have H:=H1
       clear H1
       exact absurd ((Option.some.inj H).trans HT.out) (by decide)
      ·
       replace c67:=Bool.eq_false_iff.mpr c67
       subst c67
       have H1 : ((query_Fits.f kj30 a0_0 a0_1 a0_2 a0_3 a2 t448 (IntKind.u16.wrap (32768 + (Int.tmod a4 512))) t450 t453 t456 t459).bind fun t470 => (if t470 = true then ((query_Fits.f kj30 a0_0 a0_1 a0_2 a0_3 a3 t448 (IntKind.u16.wrap (32768 + (Int.tmod a4 512))) t450 t453 t456 t459).bind fun t471 => (if (t471 == (a3 == a2)) = true then ((query_Fits.f kj30 a1_0 a1_1 a1_2 a0_3 a2 t448 (IntKind.u16.wrap (32768 + (Int.tmod a4 512))) t450 t453 t456 t459).bind fun t472 => (if (t472 == (a1_0.toList == a0_0.toList && (a1_1 == a0_1 && (a1_2 == a0_2)))) = true then ((query_Fits.f kj30 a0_0 a0_1 a0_2 a0_3 a2 t448 t449 t450 t453 t456 t459).bind fun t473 => (some (!t473))) else (some false))) else (some false))) else (some false))) = some r:=by rw [if_neg (show ¬ (false = true) by decide)] at H;exact H
       clear H
       have H:=H1
       clear H1
       replace H:=Option.bind_eq_some_iff.mp H
       obtain ⟨t470,A680,H⟩:=H
       replace H : (if t470 = true then ((query_Fits.f kj30 a0_0 a0_1 a0_2 a0_3 a3 t448 (IntKind.u16.wrap (32768 + (Int.tmod a4 512))) t450 t453 t456 t459).bind fun t471 => (if (t471 == (a3 == a2)) = true then ((query_Fits.f kj30 a1_0 a1_1 a1_2 a0_3 a2 t448 (IntKind.u16.wrap (32768 + (Int.tmod a4 512))) t450 t453 t456 t459).bind fun t472 => (if (t472 == (a1_0.toList == a0_0.toList && (a1_1 == a0_1 && (a1_2 == a0_2)))) = true then ((query_Fits.f kj30 a0_0 a0_1 a0_2 a0_3 a2 t448 t449 t450 t453 t456 t459).bind fun t473 => (some (!t473))) else (some false))) else (some false))) else (some false)) = some r:=H
       have A68:=Aside0.mk A680
       clear A680
       by_cases c69 : t470 = true
       ·
        subst c69
        have H1 : ((query_Fits.f kj30 a0_0 a0_1 a0_2 a0_3 a3 t448 (IntKind.u16.wrap (32768 + (Int.tmod a4 512))) t450 t453 t456 t459).bind fun t471 => (if (t471 == (a3 == a2)) = true then ((query_Fits.f kj30 a1_0 a1_1 a1_2 a0_3 a2 t448 (IntKind.u16.wrap (32768 + (Int.tmod a4 512))) t450 t453 t456 t459).bind fun t472 => (if (t472 == (a1_0.toList == a0_0.toList && (a1_1 == a0_1 && (a1_2 == a0_2)))) = true then ((query_Fits.f kj30 a0_0 a0_1 a0_2 a0_3 a2 t448 t449 t450 t453 t456 t459).bind fun t473 => (some (!t473))) else (some false))) else (some false))) = some r:=by rw [if_pos rfl] at H;exact H
        clear H
        have H:=H1
        clear H1
        replace H:=Option.bind_eq_some_iff.mp H
        obtain ⟨t471,A700,H⟩:=H
        replace H : (if (t471 == (a3 == a2)) = true then ((query_Fits.f kj30 a1_0 a1_1 a1_2 a0_3 a2 t448 (IntKind.u16.wrap (32768 + (Int.tmod a4 512))) t450 t453 t456 t459).bind fun t472 => (if (t472 == (a1_0.toList == a0_0.toList && (a1_1 == a0_1 && (a1_2 == a0_2)))) = true then ((query_Fits.f kj30 a0_0 a0_1 a0_2 a0_3 a2 t448 t449 t450 t453 t456 t459).bind fun t473 => (some (!t473))) else (some false))) else (some false)) = some r:=H
        have A70:=Aside0.mk A700
        clear A700
        by_cases c71 : (t471 == (a3 == a2)) = true
        ·
         rw [if_pos c71] at H
         have c71b0 : (t471 == (a3 == a2)) = true:=c71
         (try (have c71b1 : decide (t471 = (a3 == a2)) = true:=by simpa using c71))
         (try (have c71b2 : (t471 == (a3 == a2)) = true:=by simpa using c71))
         clear c71
         replace H:=Option.bind_eq_some_iff.mp H
         obtain ⟨t472,A720,H⟩:=H
         replace H : (if (t472 == (a1_0.toList == a0_0.toList && (a1_1 == a0_1 && (a1_2 == a0_2)))) = true then ((query_Fits.f kj30 a0_0 a0_1 a0_2 a0_3 a2 t448 t449 t450 t453 t456 t459).bind fun t473 => (some (!t473))) else (some false)) = some r:=H
         have A72:=Aside0.mk A720
         clear A720
         by_cases c73 : (t472 == (a1_0.toList == a0_0.toList && (a1_1 == a0_1 && (a1_2 == a0_2)))) = true
         ·
          rw [if_pos c73] at H
          have c73b0 : (t472 == (a1_0.toList == a0_0.toList && (a1_1 == a0_1 && (a1_2 == a0_2)))) = true:=c73
          (try (have c73b1 : decide (t472 = (a1_0.toList == a0_0.toList && (a1_1 == a0_1 && (a1_2 == a0_2)))) = true:=by simpa using c73))
          (try (have c73b2 : (t472 == (a1_0.toList == a0_0.toList && (a1_1 == a0_1 && (a1_2 == a0_2)))) = true:=by simpa using c73))
          clear c73
          (try (have c73b9:=c73b0;simp only [beq_true,beq_false] at c73b9))
          replace H:=Option.bind_eq_some_iff.mp H
          obtain ⟨t473,A740,H⟩:=H
          replace H : (some (!t473)) = some r:=H
          have A74:=Aside0.mk A740
          clear A740
          obtain rfl:=Option.some.inj H
          have hnb75:=NB462_443.out
          have hnc75:=NB443_462.out
          have hnb76:=NB462_444.out
          have hnc76:=NB444_462.out
          have hnb77:=NB462_468.out
          have hnc77:=NB468_462.out
          have hcz78_0 : wc.cell? ⟨gb462,0,none⟩ = some (.int .u16 t448):=(qqh BK462.out 0).trans rfl
          have hcz78_1 : wc.cell? ⟨gb462,1,none⟩ = some (.int .u16 t449):=(qqh BK462.out 1).trans rfl
          have hcz78_2 : wc.cell? ⟨gb462,2,none⟩ = some (.slice Ao39 t450.length co39):=(qqh BK462.out 2).trans rfl
          have hcz78_3 : wc.cell? ⟨gb462,3,none⟩ = some (.slice Ao40 t453.length co40):=(qqh BK462.out 3).trans rfl
          have hcz78_4 : wc.cell? ⟨gb462,4,none⟩ = some (.slice Ao41 t456.length co41):=(qqh BK462.out 4).trans rfl
          have hcz78_5 : wc.cell? ⟨gb462,5,none⟩ = some (.slice Ao42 t459.length co42):=(qqh BK462.out 5).trans rfl
          have hfz78_0:=qqi BK462.out 0
          have hfz78_1:=qqi BK462.out 1
          have hfz78_2:=qqi BK462.out 2
          have hfz78_3:=qqi BK462.out 3
          have hfz78_4:=qqi BK462.out 4
          have hfz78_5:=qqi BK462.out 5
          try go_wp2_with (first|((with_reducible refine gate_dst (N:=14) rfl ?_);(try (refine gate_guard (by rfl) ?_;dsimp only));refine box_event ?hg (N:=14) ?hd (cs:=#[.int .u16 0,.int .u16 0,.slice none 0 0,.slice none 0 0,.slice none 0 0,.slice none 0 0]) (t:=26) ?hr ?_;(case hd => rfl);(case hg => rfl);(case hr => first|(go_simp;done)|(go_simp;rfl));intro gb469 hg w79 hbox hb;have n0_:=Aside0.mk (Kd.R_below (by (with_reducible repeat (first|apply Kd.R_alloc|apply Kd.R_drewN|apply Kd.R_drew));exact HO_463002.out) hb);have n1_:=Aside0.mk (Kd.N_below (Kd.N_elderB (by (with_reducible repeat (first|apply Kd.N_alloc|apply Kd.N_drewN|apply Kd.N_drew));exact HO_463003.out) gb469 (Nat.le_of_eq hg.symm)) hb);have n2_:=Aside0.mk (Kd.N_below (Kd.N_elderB (by (with_reducible repeat (first|apply Kd.N_alloc|apply Kd.N_drewN|apply Kd.N_drew));exact HO_463004.out) gb469 (Nat.le_of_eq hg.symm)) hb);have n3_:=Aside0.mk (Kd.N_below (Kd.N_elderB (by (with_reducible repeat (first|apply Kd.N_alloc|apply Kd.N_drewN|apply Kd.N_drew));exact HO_463005.out) gb469 (Nat.le_of_eq hg.symm)) hb);have n4_:=Aside0.mk (blk_below (g:=gb443) (o:=.cells #[.string a0_0,.int .u16 a0_1,.int .u16 a0_2,.bool a0_3] 28 (0,0)) (by (with_reducible repeat first|apply qqa|apply qqb|apply qqc);exact BK443.out) hb);have n5_:=Aside0.mk (blk_below (g:=gb444) (o:=.cells #[.string a1_0,.int .u16 a1_1,.int .u16 a1_2,.bool a1_3] 28 (0,0)) (by (with_reducible repeat first|apply qqa|apply qqb|apply qqc);exact BK444.out) hb);have n6_:=Aside0.mk (blk_below (g:=gb462) (o:=.cells #[.int .u16 t448,.int .u16 t449,.slice Ao39 t450.length co39,.slice Ao40 t453.length co40,.slice Ao41 t456.length co41,.slice Ao42 t459.length co42] 26 (0,0)) (by (with_reducible repeat first|apply qqa|apply qqb|apply qqc);exact BK462.out) hb);have n7_:=Aside0.mk (blk_below (g:=gb468) (o:=.cells #[.string t463,.int .u16 t464,.int .u16 t465,.bool t466] 28 (0,0)) (by (with_reducible repeat first|apply qqa|apply qqb|apply qqc);exact BK468.out) hb);have n8_:=Aside0.mk (below_step (by repeat (first|(with_reducible first|exact HB.out|apply qqf|apply qqd|apply qqe|refine qqg ?_ GE443.out|refine qqg ?_ GE444.out|refine qqg ?_ GE462.out|refine qqg ?_ GE468.out)|exact HB.out)) hb);have n9_:=Aside0.mk (hbox);have n10_:=Aside0.mk ((by rw [hg];exact (below_size (by repeat (first|(with_reducible first|exact HB.out|apply qqf|apply qqd|apply qqe|refine qqg ?_ GE443.out|refine qqg ?_ GE444.out|refine qqg ?_ GE462.out|refine qqg ?_ GE468.out)|exact HB.out))) : w.heap.size ≤ gb469));have n11_:=Aside0.mk ((by rw [hg];exact (below_size (by repeat (first|(with_reducible first|exact HB.out|apply qqf|apply qqd|apply qqe|refine qqg ?_ GE443.out|refine qqg ?_ GE444.out|refine qqg ?_ GE462.out|refine qqg ?_ GE468.out)|exact HB.out))) : w.heap.size ≤ gb469));have n12_:=Aside0.mk ((by rw [hg];exact Nat.ne_of_lt (blk_lt (g:=gb443) (o:=.cells #[.string a0_0,.int .u16 a0_1,.int .u16 a0_2,.bool a0_3] 28 (0,0)) (by (with_reducible repeat first|apply qqa|apply qqb|apply qqc);exact BK443.out)) : gb443 ≠ gb469));have n13_:=Aside0.mk ((by rw [hg];exact Nat.ne_of_gt (blk_lt (g:=gb443) (o:=.cells #[.string a0_0,.int .u16 a0_1,.int .u16 a0_2,.bool a0_3] 28 (0,0)) (by (with_reducible repeat first|apply qqa|apply qqb|apply qqc);exact BK443.out)) : gb469 ≠ gb443));have n14_:=Aside0.mk ((by rw [hg];exact Nat.ne_of_lt (blk_lt (g:=gb444) (o:=.cells #[.string a1_0,.int .u16 a1_1,.int .u16 a1_2,.bool a1_3] 28 (0,0)) (by (with_reducible repeat first|apply qqa|apply qqb|apply qqc);exact BK444.out)) : gb444 ≠ gb469));have n15_:=Aside0.mk ((by rw [hg];exact Nat.ne_of_gt (blk_lt (g:=gb444) (o:=.cells #[.string a1_0,.int .u16 a1_1,.int .u16 a1_2,.bool a1_3] 28 (0,0)) (by (with_reducible repeat first|apply qqa|apply qqb|apply qqc);exact BK444.out)) : gb469 ≠ gb444));have n16_:=Aside0.mk ((by rw [hg];exact Nat.ne_of_lt (blk_lt (g:=gb462) (o:=.cells #[.int .u16 t448,.int .u16 t449,.slice Ao39 t450.length co39,.slice Ao40 t453.length co40,.slice Ao41 t456.length co41,.slice Ao42 t459.length co42] 26 (0,0)) (by (with_reducible repeat first|apply qqa|apply qqb|apply qqc);exact BK462.out)) : gb462 ≠ gb469));have n17_:=Aside0.mk ((by rw [hg];exact Nat.ne_of_gt (blk_lt (g:=gb462) (o:=.cells #[.int .u16 t448,.int .u16 t449,.slice Ao39 t450.length co39,.slice Ao40 t453.length co40,.slice Ao41 t456.length co41,.slice Ao42 t459.length co42] 26 (0,0)) (by (with_reducible repeat first|apply qqa|apply qqb|apply qqc);exact BK462.out)) : gb469 ≠ gb462));have n18_:=Aside0.mk ((by rw [hg];exact Nat.ne_of_lt (blk_lt (g:=gb468) (o:=.cells #[.string t463,.int .u16 t464,.int .u16 t465,.bool t466] 28 (0,0)) (by (with_reducible repeat first|apply qqa|apply qqb|apply qqc);exact BK468.out)) : gb468 ≠ gb469));have n19_:=Aside0.mk ((by rw [hg];exact Nat.ne_of_gt (blk_lt (g:=gb468) (o:=.cells #[.string t463,.int .u16 t464,.int .u16 t465,.bool t466] 28 (0,0)) (by (with_reducible repeat first|apply qqa|apply qqb|apply qqc);exact BK468.out)) : gb469 ≠ gb468));clear HO_463002;clear HO_463003;clear HO_463004;clear HO_463005;clear BK443;clear BK444;clear BK462;clear BK468;clear HB;have HO_463002:=n0_;have HO_463003:=n1_;have HO_463004:=n2_;have HO_463005:=n3_;have BK443:=n4_;have BK444:=n5_;have BK462:=n6_;have BK468:=n7_;have HB:=n8_;have BK469:=n9_;have GW469:=n10_;have GE469:=n11_;have NB443_469:=n12_;have NB469_443:=n13_;have NB444_469:=n14_;have NB469_444:=n15_;have NB462_469:=n16_;have NB469_462:=n17_;have NB468_469:=n18_;have NB469_468:=n19_;clear n0_ n1_ n2_ n3_ n4_ n5_ n6_ n7_ n8_ n9_ n10_ n11_ n12_ n13_ n14_ n15_ n16_ n17_ n18_ n19_;clear hb hbox hg;have hnb80:=NB469_443.out;have hnc80:=NB443_469.out;have hnb81:=NB469_444.out;have hnc81:=NB444_469.out;have hnb82:=NB469_462.out;have hnc82:=NB462_469.out;have hnb83:=NB469_468.out;have hnc83:=NB468_469.out;have hcz84_0 : w79.cell? ⟨gb469,0,none⟩ = some (.int .u16 0):=(qqh BK469.out 0).trans rfl;have hcz84_1 : w79.cell? ⟨gb469,1,none⟩ = some (.int .u16 0):=(qqh BK469.out 1).trans rfl;have hcz84_2 : w79.cell? ⟨gb469,2,none⟩ = some (.slice none 0 0):=(qqh BK469.out 2).trans rfl;have hcz84_3 : w79.cell? ⟨gb469,3,none⟩ = some (.slice none 0 0):=(qqh BK469.out 3).trans rfl;have hcz84_4 : w79.cell? ⟨gb469,4,none⟩ = some (.slice none 0 0):=(qqh BK469.out 4).trans rfl;have hcz84_5 : w79.cell? ⟨gb469,5,none⟩ = some (.slice none 0 0):=(qqh BK469.out 5).trans rfl;have hfz84_0:=qqi BK469.out 0;have hfz84_1:=qqi BK469.out 1;have hfz84_2:=qqi BK469.out 2;have hfz84_3:=qqi BK469.out 3;have hfz84_4:=qqi BK469.out 4;have hfz84_5:=qqi BK469.out 5;have hnb85:=NB443_444.out;have hnc85:=NB444_443.out;have hnb86:=NB443_468.out;have hnc86:=NB468_443.out;have hcz87_0 : w79.cell? ⟨gb443,0,none⟩ = some (.string a0_0):=(qqh BK443.out 0).trans rfl;have hcz87_1 : w79.cell? ⟨gb443,1,none⟩ = some (.int .u16 a0_1):=(qqh BK443.out 1).trans rfl;have hcz87_2 : w79.cell? ⟨gb443,2,none⟩ = some (.int .u16 a0_2):=(qqh BK443.out 2).trans rfl;have hcz87_3 : w79.cell? ⟨gb443,3,none⟩ = some (.bool a0_3):=(qqh BK443.out 3).trans rfl;have hfz87_0:=qqi BK443.out 0;have hfz87_1:=qqi BK443.out 1;have hfz87_2:=qqi BK443.out 2;have hfz87_3:=qqi BK443.out 3;have hnb88:=NB444_468.out;have hnc88:=NB468_444.out;have hcz89_0 : w79.cell? ⟨gb444,0,none⟩ = some (.string a1_0):=(qqh BK444.out 0).trans rfl;have hcz89_1 : w79.cell? ⟨gb444,1,none⟩ = some (.int .u16 a1_1):=(qqh BK444.out 1).trans rfl;have hcz89_2 : w79.cell? ⟨gb444,2,none⟩ = some (.int .u16 a1_2):=(qqh BK444.out 2).trans rfl;have hcz89_3 : w79.cell? ⟨gb444,3,none⟩ = some (.bool a1_3):=(qqh BK444.out 3).trans rfl;have hfz89_0:=qqi BK444.out 0;have hfz89_1:=qqi BK444.out 1;have hfz89_2:=qqi BK444.out 2;have hfz89_3:=qqi BK444.out 3))
          have n0_ : Aside0 (Kd.R k53 53 ((((((((w79.setCell ⟨gb469,0,none⟩ (.int .u16 t448)).setCell ⟨gb469,1,none⟩ (.int .u16 t449)).setCell ⟨gb469,2,none⟩ (.slice Ao39 t450.length co39)).setCell ⟨gb469,3,none⟩ (.slice Ao40 t453.length co40)).setCell ⟨gb469,4,none⟩ (.slice Ao41 t456.length co41)).setCell ⟨gb469,5,none⟩ (.slice Ao42 t459.length co42)).setCell ⟨gb469,1,none⟩ (.int .u16 (IntKind.u16.wrap (32768 + (Int.tmod a4 512))))).setCell ⟨gb444,3,none⟩ (.bool a0_3)) w.heap.size (fun _ => True) (.slice Ao39 t450.length co39) t450):=⟨by (with_reducible repeat (first|apply Kd.R_alloc|apply Kd.R_drewN|apply Kd.R_drew));exact Kd.R_mono (Kd.R_far (p:=⟨gb444,3,none⟩) (Kd.R_far (p:=⟨gb469,1,none⟩) (Kd.R_far (p:=⟨gb469,5,none⟩) (Kd.R_far (p:=⟨gb469,4,none⟩) (Kd.R_far (p:=⟨gb469,3,none⟩) (Kd.R_far (p:=⟨gb469,2,none⟩) (Kd.R_far (p:=⟨gb469,1,none⟩) (Kd.R_far (p:=⟨gb469,0,none⟩) (Kd.R_types (Kd.R_types HO_463002.out BK469.out (by decide)) BK444.out (by decide)) (fun _ hk => hk.1.2) (.int .u16 t448)) (fun _ hk => hk.1.2) (.int .u16 t449)) (fun _ hk => hk.1.2) (.slice Ao39 t450.length co39)) (fun _ hk => hk.1.2) (.slice Ao40 t453.length co40)) (fun _ hk => hk.1.2) (.slice Ao41 t456.length co41)) (fun _ hk => hk.1.2) (.slice Ao42 t459.length co42)) (fun _ hk => hk.1.2) (.int .u16 (IntKind.u16.wrap (32768 + (Int.tmod a4 512))))) (fun _ hk => hk.2) (.bool a0_3)) (fun _ hk => trivial)⟩
          have n1_ : Aside0 (Kd.N k51 51 ((((((((w79.setCell ⟨gb469,0,none⟩ (.int .u16 t448)).setCell ⟨gb469,1,none⟩ (.int .u16 t449)).setCell ⟨gb469,2,none⟩ (.slice Ao39 t450.length co39)).setCell ⟨gb469,3,none⟩ (.slice Ao40 t453.length co40)).setCell ⟨gb469,4,none⟩ (.slice Ao41 t456.length co41)).setCell ⟨gb469,5,none⟩ (.slice Ao42 t459.length co42)).setCell ⟨gb469,1,none⟩ (.int .u16 (IntKind.u16.wrap (32768 + (Int.tmod a4 512))))).setCell ⟨gb444,3,none⟩ (.bool a0_3)) w.heap.size (fun k_ => some k_ ≠ (.slice Ao39 t450.length co39 : Value).ownBlock∧some k_ ≠ (.slice Ao41 t456.length co41 : Value).ownBlock∧some k_ ≠ (.slice Ao42 t459.length co42 : Value).ownBlock∧k_ ≠ gb443∧k_ ≠ gb444∧k_ ≠ gb462∧k_ ≠ gb468∧k_ ≠ gb469) (.slice Ao40 t453.length co40) t453):=⟨by (with_reducible repeat (first|apply Kd.N_alloc|apply Kd.N_drewN|apply Kd.N_drew));exact Kd.N_mono (Kd.N_far (p:=⟨gb444,3,none⟩) (Kd.N_far (p:=⟨gb469,1,none⟩) (Kd.N_far (p:=⟨gb469,5,none⟩) (Kd.N_far (p:=⟨gb469,4,none⟩) (Kd.N_far (p:=⟨gb469,3,none⟩) (Kd.N_far (p:=⟨gb469,2,none⟩) (Kd.N_far (p:=⟨gb469,1,none⟩) (Kd.N_far (p:=⟨gb469,0,none⟩) (Kd.N_mono (Kd.N_mono HO_463003.out (fun k_ hk => (⟨hk,hk.2⟩ : _∧k_ ≠ gb469))) (fun k_ hk => (⟨hk,hk.1.1.2.2.2.2.1⟩ : _∧k_ ≠ gb444))) (fun _ hk => hk.1.2) (.int .u16 t448)) (fun _ hk => hk.1.2) (.int .u16 t449)) (fun _ hk => hk.1.2) (.slice Ao39 t450.length co39)) (fun _ hk => hk.1.2) (.slice Ao40 t453.length co40)) (fun _ hk => hk.1.2) (.slice Ao41 t456.length co41)) (fun _ hk => hk.1.2) (.slice Ao42 t459.length co42)) (fun _ hk => hk.1.2) (.int .u16 (IntKind.u16.wrap (32768 + (Int.tmod a4 512))))) (fun _ hk => hk.2) (.bool a0_3)) (fun _ hk => ⟨hk.1.1.1.1,⟨hk.1.1.1.2.1,⟨hk.1.1.1.2.2.1,⟨hk.1.1.1.2.2.2.1,⟨hk.1.1.1.2.2.2.2.1,⟨hk.1.1.1.2.2.2.2.2.1,⟨hk.1.1.1.2.2.2.2.2.2,hk.1.1.2⟩⟩⟩⟩⟩⟩⟩)⟩
          have n2_ : Aside0 (Kd.N k51 51 ((((((((w79.setCell ⟨gb469,0,none⟩ (.int .u16 t448)).setCell ⟨gb469,1,none⟩ (.int .u16 t449)).setCell ⟨gb469,2,none⟩ (.slice Ao39 t450.length co39)).setCell ⟨gb469,3,none⟩ (.slice Ao40 t453.length co40)).setCell ⟨gb469,4,none⟩ (.slice Ao41 t456.length co41)).setCell ⟨gb469,5,none⟩ (.slice Ao42 t459.length co42)).setCell ⟨gb469,1,none⟩ (.int .u16 (IntKind.u16.wrap (32768 + (Int.tmod a4 512))))).setCell ⟨gb444,3,none⟩ (.bool a0_3)) w.heap.size (fun k_ => some k_ ≠ (.slice Ao39 t450.length co39 : Value).ownBlock∧some k_ ≠ (.slice Ao40 t453.length co40 : Value).ownBlock∧some k_ ≠ (.slice Ao42 t459.length co42 : Value).ownBlock∧k_ ≠ gb443∧k_ ≠ gb444∧k_ ≠ gb462∧k_ ≠ gb468∧k_ ≠ gb469) (.slice Ao41 t456.length co41) t456):=⟨by (with_reducible repeat (first|apply Kd.N_alloc|apply Kd.N_drewN|apply Kd.N_drew));exact Kd.N_mono (Kd.N_far (p:=⟨gb444,3,none⟩) (Kd.N_far (p:=⟨gb469,1,none⟩) (Kd.N_far (p:=⟨gb469,5,none⟩) (Kd.N_far (p:=⟨gb469,4,none⟩) (Kd.N_far (p:=⟨gb469,3,none⟩) (Kd.N_far (p:=⟨gb469,2,none⟩) (Kd.N_far (p:=⟨gb469,1,none⟩) (Kd.N_far (p:=⟨gb469,0,none⟩) (Kd.N_mono (Kd.N_mono HO_463004.out (fun k_ hk => (⟨hk,hk.2⟩ : _∧k_ ≠ gb469))) (fun k_ hk => (⟨hk,hk.1.1.2.2.2.2.1⟩ : _∧k_ ≠ gb444))) (fun _ hk => hk.1.2) (.int .u16 t448)) (fun _ hk => hk.1.2) (.int .u16 t449)) (fun _ hk => hk.1.2) (.slice Ao39 t450.length co39)) (fun _ hk => hk.1.2) (.slice Ao40 t453.length co40)) (fun _ hk => hk.1.2) (.slice Ao41 t456.length co41)) (fun _ hk => hk.1.2) (.slice Ao42 t459.length co42)) (fun _ hk => hk.1.2) (.int .u16 (IntKind.u16.wrap (32768 + (Int.tmod a4 512))))) (fun _ hk => hk.2) (.bool a0_3)) (fun _ hk => ⟨hk.1.1.1.1,⟨hk.1.1.1.2.1,⟨hk.1.1.1.2.2.1,⟨hk.1.1.1.2.2.2.1,⟨hk.1.1.1.2.2.2.2.1,⟨hk.1.1.1.2.2.2.2.2.1,⟨hk.1.1.1.2.2.2.2.2.2,hk.1.1.2⟩⟩⟩⟩⟩⟩⟩)⟩
          have n3_ : Aside0 (Kd.N k51 51 ((((((((w79.setCell ⟨gb469,0,none⟩ (.int .u16 t448)).setCell ⟨gb469,1,none⟩ (.int .u16 t449)).setCell ⟨gb469,2,none⟩ (.slice Ao39 t450.length co39)).setCell ⟨gb469,3,none⟩ (.slice Ao40 t453.length co40)).setCell ⟨gb469,4,none⟩ (.slice Ao41 t456.length co41)).setCell ⟨gb469,5,none⟩ (.slice Ao42 t459.length co42)).setCell ⟨gb469,1,none⟩ (.int .u16 (IntKind.u16.wrap (32768 + (Int.tmod a4 512))))).setCell ⟨gb444,3,none⟩ (.bool a0_3)) w.heap.size (fun k_ => some k_ ≠ (.slice Ao39 t450.length co39 : Value).ownBlock∧some k_ ≠ (.slice Ao40 t453.length co40 : Value).ownBlock∧some k_ ≠ (.slice Ao41 t456.length co41 : Value).ownBlock∧k_ ≠ gb443∧k_ ≠ gb444∧k_ ≠ gb462∧k_ ≠ gb468∧k_ ≠ gb469) (.slice Ao42 t459.length co42) t459):=⟨by (with_reducible repeat (first|apply Kd.N_alloc|apply Kd.N_drewN|apply Kd.N_drew));exact Kd.N_mono (Kd.N_far (p:=⟨gb444,3,none⟩) (Kd.N_far (p:=⟨gb469,1,none⟩) (Kd.N_far (p:=⟨gb469,5,none⟩) (Kd.N_far (p:=⟨gb469,4,none⟩) (Kd.N_far (p:=⟨gb469,3,none⟩) (Kd.N_far (p:=⟨gb469,2,none⟩) (Kd.N_far (p:=⟨gb469,1,none⟩) (Kd.N_far (p:=⟨gb469,0,none⟩) (Kd.N_mono (Kd.N_mono HO_463005.out (fun k_ hk => (⟨hk,hk.2⟩ : _∧k_ ≠ gb469))) (fun k_ hk => (⟨hk,hk.1.1.2.2.2.2.1⟩ : _∧k_ ≠ gb444))) (fun _ hk => hk.1.2) (.int .u16 t448)) (fun _ hk => hk.1.2) (.int .u16 t449)) (fun _ hk => hk.1.2) (.slice Ao39 t450.length co39)) (fun _ hk => hk.1.2) (.slice Ao40 t453.length co40)) (fun _ hk => hk.1.2) (.slice Ao41 t456.length co41)) (fun _ hk => hk.1.2) (.slice Ao42 t459.length co42)) (fun _ hk => hk.1.2) (.int .u16 (IntKind.u16.wrap (32768 + (Int.tmod a4 512))))) (fun _ hk => hk.2) (.bool a0_3)) (fun _ hk => ⟨hk.1.1.1.1,⟨hk.1.1.1.2.1,⟨hk.1.1.1.2.2.1,⟨hk.1.1.1.2.2.2.1,⟨hk.1.1.1.2.2.2.2.1,⟨hk.1.1.1.2.2.2.2.2.1,⟨hk.1.1.1.2.2.2.2.2.2,hk.1.1.2⟩⟩⟩⟩⟩⟩⟩)⟩
          have n4_ : Aside0 (((((((((w79.setCell ⟨gb469,0,none⟩ (.int .u16 t448)).setCell ⟨gb469,1,none⟩ (.int .u16 t449)).setCell ⟨gb469,2,none⟩ (.slice Ao39 t450.length co39)).setCell ⟨gb469,3,none⟩ (.slice Ao40 t453.length co40)).setCell ⟨gb469,4,none⟩ (.slice Ao41 t456.length co41)).setCell ⟨gb469,5,none⟩ (.slice Ao42 t459.length co42)).setCell ⟨gb469,1,none⟩ (.int .u16 (IntKind.u16.wrap (32768 + (Int.tmod a4 512))))).setCell ⟨gb444,3,none⟩ (.bool a0_3)).heap[gb443]? = some (.cells #[.string a0_0,.int .u16 a0_1,.int .u16 a0_2,.bool a0_3] 28 (0,0))):=⟨by (with_reducible repeat first|apply qqa|apply qqb|apply qqc);refine blk_far ?_ NB443_444.out _;(with_reducible repeat first|apply qqa|apply qqb|apply qqc);refine blk_far ?_ NB443_469.out _;(with_reducible repeat first|apply qqa|apply qqb|apply qqc);refine blk_far ?_ NB443_469.out _;(with_reducible repeat first|apply qqa|apply qqb|apply qqc);refine blk_far ?_ NB443_469.out _;(with_reducible repeat first|apply qqa|apply qqb|apply qqc);refine blk_far ?_ NB443_469.out _;(with_reducible repeat first|apply qqa|apply qqb|apply qqc);refine blk_far ?_ NB443_469.out _;(with_reducible repeat first|apply qqa|apply qqb|apply qqc);refine blk_far ?_ NB443_469.out _;(with_reducible repeat first|apply qqa|apply qqb|apply qqc);refine blk_far ?_ NB443_469.out _;(with_reducible repeat first|apply qqa|apply qqb|apply qqc);exact BK443.out⟩
          have n5_ : Aside0 (((((((((w79.setCell ⟨gb469,0,none⟩ (.int .u16 t448)).setCell ⟨gb469,1,none⟩ (.int .u16 t449)).setCell ⟨gb469,2,none⟩ (.slice Ao39 t450.length co39)).setCell ⟨gb469,3,none⟩ (.slice Ao40 t453.length co40)).setCell ⟨gb469,4,none⟩ (.slice Ao41 t456.length co41)).setCell ⟨gb469,5,none⟩ (.slice Ao42 t459.length co42)).setCell ⟨gb469,1,none⟩ (.int .u16 (IntKind.u16.wrap (32768 + (Int.tmod a4 512))))).setCell ⟨gb444,3,none⟩ (.bool a0_3)).heap[gb444]? = some (.cells #[.string a1_0,.int .u16 a1_1,.int .u16 a1_2,.bool a0_3] 28 (0,0))):=⟨by (with_reducible repeat first|apply qqa|apply qqb|apply qqc);refine blk_put (cs:=#[.string a1_0,.int .u16 a1_1,.int .u16 a1_2,.bool a1_3]) ?_ 3 _ rfl;(with_reducible repeat first|apply qqa|apply qqb|apply qqc);refine blk_far ?_ NB444_469.out _;(with_reducible repeat first|apply qqa|apply qqb|apply qqc);refine blk_far ?_ NB444_469.out _;(with_reducible repeat first|apply qqa|apply qqb|apply qqc);refine blk_far ?_ NB444_469.out _;(with_reducible repeat first|apply qqa|apply qqb|apply qqc);refine blk_far ?_ NB444_469.out _;(with_reducible repeat first|apply qqa|apply qqb|apply qqc);refine blk_far ?_ NB444_469.out _;(with_reducible repeat first|apply qqa|apply qqb|apply qqc);refine blk_far ?_ NB444_469.out _;(with_reducible repeat first|apply qqa|apply qqb|apply qqc);refine blk_far ?_ NB444_469.out _;(with_reducible repeat first|apply qqa|apply qqb|apply qqc);exact BK444.out⟩
          have n6_ : Aside0 (((((((((w79.setCell ⟨gb469,0,none⟩ (.int .u16 t448)).setCell ⟨gb469,1,none⟩ (.int .u16 t449)).setCell ⟨gb469,2,none⟩ (.slice Ao39 t450.length co39)).setCell ⟨gb469,3,none⟩ (.slice Ao40 t453.length co40)).setCell ⟨gb469,4,none⟩ (.slice Ao41 t456.length co41)).setCell ⟨gb469,5,none⟩ (.slice Ao42 t459.length co42)).setCell ⟨gb469,1,none⟩ (.int .u16 (IntKind.u16.wrap (32768 + (Int.tmod a4 512))))).setCell ⟨gb444,3,none⟩ (.bool a0_3)).heap[gb462]? = some (.cells #[.int .u16 t448,.int .u16 t449,.slice Ao39 t450.length co39,.slice Ao40 t453.length co40,.slice Ao41 t456.length co41,.slice Ao42 t459.length co42] 26 (0,0))):=⟨by (with_reducible repeat first|apply qqa|apply qqb|apply qqc);refine blk_far ?_ NB462_444.out _;(with_reducible repeat first|apply qqa|apply qqb|apply qqc);refine blk_far ?_ NB462_469.out _;(with_reducible repeat first|apply qqa|apply qqb|apply qqc);refine blk_far ?_ NB462_469.out _;(with_reducible repeat first|apply qqa|apply qqb|apply qqc);refine blk_far ?_ NB462_469.out _;(with_reducible repeat first|apply qqa|apply qqb|apply qqc);refine blk_far ?_ NB462_469.out _;(with_reducible repeat first|apply qqa|apply qqb|apply qqc);refine blk_far ?_ NB462_469.out _;(with_reducible repeat first|apply qqa|apply qqb|apply qqc);refine blk_far ?_ NB462_469.out _;(with_reducible repeat first|apply qqa|apply qqb|apply qqc);refine blk_far ?_ NB462_469.out _;(with_reducible repeat first|apply qqa|apply qqb|apply qqc);exact BK462.out⟩
          have n7_ : Aside0 (((((((((w79.setCell ⟨gb469,0,none⟩ (.int .u16 t448)).setCell ⟨gb469,1,none⟩ (.int .u16 t449)).setCell ⟨gb469,2,none⟩ (.slice Ao39 t450.length co39)).setCell ⟨gb469,3,none⟩ (.slice Ao40 t453.length co40)).setCell ⟨gb469,4,none⟩ (.slice Ao41 t456.length co41)).setCell ⟨gb469,5,none⟩ (.slice Ao42 t459.length co42)).setCell ⟨gb469,1,none⟩ (.int .u16 (IntKind.u16.wrap (32768 + (Int.tmod a4 512))))).setCell ⟨gb444,3,none⟩ (.bool a0_3)).heap[gb468]? = some (.cells #[.string t463,.int .u16 t464,.int .u16 t465,.bool t466] 28 (0,0))):=⟨by (with_reducible repeat first|apply qqa|apply qqb|apply qqc);refine blk_far ?_ NB468_444.out _;(with_reducible repeat first|apply qqa|apply qqb|apply qqc);refine blk_far ?_ NB468_469.out _;(with_reducible repeat first|apply qqa|apply qqb|apply qqc);refine blk_far ?_ NB468_469.out _;(with_reducible repeat first|apply qqa|apply qqb|apply qqc);refine blk_far ?_ NB468_469.out _;(with_reducible repeat first|apply qqa|apply qqb|apply qqc);refine blk_far ?_ NB468_469.out _;(with_reducible repeat first|apply qqa|apply qqb|apply qqc);refine blk_far ?_ NB468_469.out _;(with_reducible repeat first|apply qqa|apply qqb|apply qqc);refine blk_far ?_ NB468_469.out _;(with_reducible repeat first|apply qqa|apply qqb|apply qqc);refine blk_far ?_ NB468_469.out _;(with_reducible repeat first|apply qqa|apply qqb|apply qqc);exact BK468.out⟩
          have n8_ : Aside0 (((((((((w79.setCell ⟨gb469,0,none⟩ (.int .u16 t448)).setCell ⟨gb469,1,none⟩ (.int .u16 t449)).setCell ⟨gb469,2,none⟩ (.slice Ao39 t450.length co39)).setCell ⟨gb469,3,none⟩ (.slice Ao40 t453.length co40)).setCell ⟨gb469,4,none⟩ (.slice Ao41 t456.length co41)).setCell ⟨gb469,5,none⟩ (.slice Ao42 t459.length co42)).setCell ⟨gb469,1,none⟩ (.int .u16 (IntKind.u16.wrap (32768 + (Int.tmod a4 512))))).setCell ⟨gb444,3,none⟩ (.bool a0_3)).heap[gb469]? = some (.cells #[.int .u16 t448,.int .u16 (IntKind.u16.wrap (32768 + (Int.tmod a4 512))),.slice Ao39 t450.length co39,.slice Ao40 t453.length co40,.slice Ao41 t456.length co41,.slice Ao42 t459.length co42] 26 (0,0))):=⟨by (with_reducible repeat first|apply qqa|apply qqb|apply qqc);refine blk_far ?_ NB469_444.out _;(with_reducible repeat first|apply qqa|apply qqb|apply qqc);refine blk_put (cs:=#[.int .u16 t448,.int .u16 t449,.slice Ao39 t450.length co39,.slice Ao40 t453.length co40,.slice Ao41 t456.length co41,.slice Ao42 t459.length co42]) ?_ 1 _ rfl;(with_reducible repeat first|apply qqa|apply qqb|apply qqc);refine blk_put (cs:=#[.int .u16 t448,.int .u16 t449,.slice Ao39 t450.length co39,.slice Ao40 t453.length co40,.slice Ao41 t456.length co41,.slice none 0 0]) ?_ 5 _ rfl;(with_reducible repeat first|apply qqa|apply qqb|apply qqc);refine blk_put (cs:=#[.int .u16 t448,.int .u16 t449,.slice Ao39 t450.length co39,.slice Ao40 t453.length co40,.slice none 0 0,.slice none 0 0]) ?_ 4 _ rfl;(with_reducible repeat first|apply qqa|apply qqb|apply qqc);refine blk_put (cs:=#[.int .u16 t448,.int .u16 t449,.slice Ao39 t450.length co39,.slice none 0 0,.slice none 0 0,.slice none 0 0]) ?_ 3 _ rfl;(with_reducible repeat first|apply qqa|apply qqb|apply qqc);refine blk_put (cs:=#[.int .u16 t448,.int .u16 t449,.slice none 0 0,.slice none 0 0,.slice none 0 0,.slice none 0 0]) ?_ 2 _ rfl;(with_reducible repeat first|apply qqa|apply qqb|apply qqc);refine blk_put (cs:=#[.int .u16 t448,.int .u16 0,.slice none 0 0,.slice none 0 0,.slice none 0 0,.slice none 0 0]) ?_ 1 _ rfl;(with_reducible repeat first|apply qqa|apply qqb|apply qqc);refine blk_put (cs:=#[.int .u16 0,.int .u16 0,.slice none 0 0,.slice none 0 0,.slice none 0 0,.slice none 0 0]) ?_ 0 _ rfl;(with_reducible repeat first|apply qqa|apply qqb|apply qqc);exact BK469.out⟩
          have n9_ : Aside0 (Below w.heap.size w ((((((((w79.setCell ⟨gb469,0,none⟩ (.int .u16 t448)).setCell ⟨gb469,1,none⟩ (.int .u16 t449)).setCell ⟨gb469,2,none⟩ (.slice Ao39 t450.length co39)).setCell ⟨gb469,3,none⟩ (.slice Ao40 t453.length co40)).setCell ⟨gb469,4,none⟩ (.slice Ao41 t456.length co41)).setCell ⟨gb469,5,none⟩ (.slice Ao42 t459.length co42)).setCell ⟨gb469,1,none⟩ (.int .u16 (IntKind.u16.wrap (32768 + (Int.tmod a4 512))))).setCell ⟨gb444,3,none⟩ (.bool a0_3))):=⟨by repeat (first|(with_reducible first|exact HB.out|apply qqf|apply qqd|apply qqe|refine qqg ?_ GE443.out|refine qqg ?_ GE444.out|refine qqg ?_ GE462.out|refine qqg ?_ GE468.out|refine qqg ?_ GE469.out)|exact HB.out)⟩
          (try clear HO_463002)
          (try clear HO_463003)
          (try clear HO_463004)
          (try clear HO_463005)
          (try clear BK443)
          (try clear BK444)
          (try clear BK462)
          (try clear BK468)
          (try clear BK469)
          (try clear HB)
          generalize ((((((((w79.setCell ⟨gb469,0,none⟩ (.int .u16 t448)).setCell ⟨gb469,1,none⟩ (.int .u16 t449)).setCell ⟨gb469,2,none⟩ (.slice Ao39 t450.length co39)).setCell ⟨gb469,3,none⟩ (.slice Ao40 t453.length co40)).setCell ⟨gb469,4,none⟩ (.slice Ao41 t456.length co41)).setCell ⟨gb469,5,none⟩ (.slice Ao42 t459.length co42)).setCell ⟨gb469,1,none⟩ (.int .u16 (IntKind.u16.wrap (32768 + (Int.tmod a4 512))))).setCell ⟨gb444,3,none⟩ (.bool a0_3)) = w90 at n0_ n1_ n2_ n3_ n4_ n5_ n6_ n7_ n8_ n9_ ⊢
          have HO_463002:=n0_
          have HO_463003:=n1_
          have HO_463004:=n2_
          have HO_463005:=n3_
          have BK443:=n4_
          have BK444:=n5_
          have BK462:=n6_
          have BK468:=n7_
          have BK469:=n8_
          have HB:=n9_
          clear n0_ n1_ n2_ n3_ n4_ n5_ n6_ n7_ n8_ n9_
          have n0_:=Aside0.mk (Kd.R_drew HO_463002.out)
          have n1_:=Aside0.mk (Kd.N_drew HO_463003.out)
          have n2_:=Aside0.mk (Kd.N_drew HO_463004.out)
          have n3_:=Aside0.mk (Kd.N_drew HO_463005.out)
          have n4_:=Aside0.mk (qqb BK443.out)
          have n5_:=Aside0.mk (qqb BK444.out)
          have n6_:=Aside0.mk (qqb BK462.out)
          have n7_:=Aside0.mk (qqb BK468.out)
          have n8_:=Aside0.mk (qqb BK469.out)
          have n9_:=Aside0.mk (qqe HB.out)
          clear HO_463002
          clear HO_463003
          clear HO_463004
          clear HO_463005
          clear BK443
          clear BK444
          clear BK462
          clear BK468
          clear BK469
          clear HB
          have HO_463002:=n0_
          have HO_463003:=n1_
          have HO_463004:=n2_
          have HO_463005:=n3_
          have BK443:=n4_
          have BK444:=n5_
          have BK462:=n6_
          have BK468:=n7_
          have BK469:=n8_
          have HB:=n9_
          clear n0_ n1_ n2_ n3_ n4_ n5_ n6_ n7_ n8_ n9_
          refine start_ (n:=32) (S:=fun w' => w'.cell? ⟨gb443,0,none⟩ = some (.string a0_0)∧w'.cell? ⟨gb443,1,none⟩ = some (.int .u16 a0_1)∧w'.cell? ⟨gb443,2,none⟩ = some (.int .u16 a0_2)∧w'.cell? ⟨gb443,3,none⟩ = some (.bool a0_3)∧w'.cell? ⟨gb469,0,none⟩ = some (.int .u16 t448)∧w'.cell? ⟨gb469,1,none⟩ = some (.int .u16 (IntKind.u16.wrap (32768 + (Int.tmod a4 512))))∧w'.cell? ⟨gb469,2,none⟩ = some (.slice Ao39 t450.length co39)∧w'.cell? ⟨gb469,3,none⟩ = some (.slice Ao40 t453.length co40)∧w'.cell? ⟨gb469,4,none⟩ = some (.slice Ao41 t456.length co41)∧w'.cell? ⟨gb469,5,none⟩ = some (.slice Ao42 t459.length co42)∧w'.cell? ⟨gb444,0,none⟩ = some (.string a1_0)∧w'.cell? ⟨gb444,1,none⟩ = some (.int .u16 a1_1)∧w'.cell? ⟨gb444,2,none⟩ = some (.int .u16 a1_2)∧w'.cell? ⟨gb444,3,none⟩ = some (.bool a0_3)∧w'.cell? ⟨gb462,0,none⟩ = some (.int .u16 t448)∧w'.cell? ⟨gb462,1,none⟩ = some (.int .u16 t449)∧w'.cell? ⟨gb462,2,none⟩ = some (.slice Ao39 t450.length co39)∧w'.cell? ⟨gb462,3,none⟩ = some (.slice Ao40 t453.length co40)∧w'.cell? ⟨gb462,4,none⟩ = some (.slice Ao41 t456.length co41)∧w'.cell? ⟨gb462,5,none⟩ = some (.slice Ao42 t459.length co42)) (ds:=[]) #[false,false,false,false,false,false,false,false,false,false,false,false,false,false,false,false,false,false,false,false,false,false,false,false,false,false,false,false,false,false,false,false] (by kernel_rfl) rfl rfl ⟨(qqh BK443.out 0).trans rfl,(qqh BK443.out 1).trans rfl,(qqh BK443.out 2).trans rfl,(qqh BK443.out 3).trans rfl,(qqh BK469.out 0).trans rfl,(qqh BK469.out 1).trans rfl,(qqh BK469.out 2).trans rfl,(qqh BK469.out 3).trans rfl,(qqh BK469.out 4).trans rfl,(qqh BK469.out 5).trans rfl,(qqh BK444.out 0).trans rfl,(qqh BK444.out 1).trans rfl,(qqh BK444.out 2).trans rfl,(qqh BK444.out 3).trans rfl,(qqh BK462.out 0).trans rfl,(qqh BK462.out 1).trans rfl,(qqh BK462.out 2).trans rfl,(qqh BK462.out 3).trans rfl,(qqh BK462.out 4).trans rfl,(qqh BK462.out 5).trans rfl⟩ (fun hHeld => ?_);refine with_tabW nunciolaw08_QueryBack.tab12 nunciolaw08_QueryBack.bits12 (fun HT_ HW_ => ?_)
          generalize w90.drew = w91 at HO_463002 HO_463003 HO_463004 HO_463005 BK443 BK444 BK462 BK468 BK469 HB hHeld ⊢
          refine pure_ (i:=1) (N:=some 70) (v:=?_) (a':=?_) #[false,true,false,false,false,false,false,false,false,false,false,false,false,false,false,false,false,false,false,false,false,false,false,false,false,false,false,false,false,false,false,false] rfl rfl (any_of HT_.out (by kernel_rfl)) (fun _ _ _ h => h) (Or.inl ⟨by rfl,?_⟩) ?_ ?_
          rotate_left
          ·
           intro w'
           go_simp
           with_reducible rfl
          rotate_left
          ·
           simp only [Act.put,qqj,qqk,qql,i64_w,i32_w]
           rfl
          refine take_ (i:=0) (N:=some 69) (v:=?_) (a':=?_) #[true,true,false,false,false,false,false,false,false,false,false,false,false,false,false,false,false,false,false,false,false,false,false,false,false,false,false,false,false,false,false,false] rfl rfl (take_ofW HT_.out HW_.out (by kernel_rfl)) (fun _ _ _ h => h) (Or.inl ⟨by rfl,?_⟩) hHeld ?_ ?_
          rotate_left
          ·
           rintro w' ⟨s0,s1,s2,s3,s4,s5,s6,s7,s8,s9,s10,s11,s12,s13,s14,s15,s16,s17,s18,s19⟩
           go_simp
           with_reducible rfl
          rotate_left
          ·
           simp only [Act.put,qqj,qqk,qql,i64_w,i32_w]
           rfl
          refine take_ (i:=2) (N:=some 71) (v:=?_) (a':=?_) #[true,true,true,false,false,false,false,false,false,false,false,false,false,false,false,false,false,false,false,false,false,false,false,false,false,false,false,false,false,false,false,false] rfl rfl (take_ofW HT_.out HW_.out (by kernel_rfl)) (fun _ _ _ h => h) (Or.inl ⟨by rfl,?_⟩) hHeld ?_ ?_
          rotate_left
          ·
           rintro w' ⟨s0,s1,s2,s3,s4,s5,s6,s7,s8,s9,s10,s11,s12,s13,s14,s15,s16,s17,s18,s19⟩
           go_simp
           with_reducible rfl
          rotate_left
          ·
           simp only [Act.put,qqj,qqk,qql,i64_w,i32_w]
           rfl
          refine one_ (i:=3) (N:=some 72) #[true,true,true,true,false,false,false,false,false,false,false,false,false,false,false,false,false,false,false,false,false,false,false,false,false,false,false,false,false,false,false,false] rfl rfl (one_of HT_.out (by kernel_rfl)) (by decide) (fun K hK => ?_)
          refine goes_ Try.func16 (by kernel_rfl) rfl #[.agg #[.string a0_0,.int .u16 a0_1,.int .u16 a0_2,.bool a0_3],.int .u16 a2,.agg #[.int .u16 t448,.int .u16 (IntKind.u16.wrap (32768 + (Int.tmod a4 512))),.slice Ao39 t450.length co39,.slice Ao40 t453.length co40,.slice Ao41 t456.length co41,.slice Ao42 t459.length co42]] (by rfl) rfl rfl (by (try simp only [List.map_toArray,List.map_cons,List.map_nil]);first|done|rfl|(simp only [List.length_drop,List.length_take];rfl)) ?_
          with_reducible refine (query_Fits.calls kj30 a0_0 a0_1 a0_2 a0_3 a2 t448 (IntKind.u16.wrap (32768 + (Int.tmod a4 512))) _ _ t450 _ _ t453 _ _ t456 _ _ t459 true _ ?side1 ?side2 ?side3 ?side4 ?side5 ?side6 ?side7 ?side8 A68.out).mono ?_
          (case side1 => repeat (first|exact (Kd.R_reads' HO_463002.out).2.2|(with_reducible refine Kd.C_alloc ?_ _)|(with_reducible refine Kd.C_drewN ?_ _)|(with_reducible refine Kd.C_drew ?_)))
          (case side2 => exact (Kd.R_reads' HO_463002.out).2.1)
          (case side3 => repeat (first|exact (Kd.N_reads' HO_463003.out).2.2|(with_reducible refine Kd.C_alloc ?_ _)|(with_reducible refine Kd.C_drewN ?_ _)|(with_reducible refine Kd.C_drew ?_)))
          (case side4 => exact (Kd.N_reads' HO_463003.out).2.1)
          (case side5 => repeat (first|exact (Kd.N_reads' HO_463004.out).2.2|(with_reducible refine Kd.C_alloc ?_ _)|(with_reducible refine Kd.C_drewN ?_ _)|(with_reducible refine Kd.C_drew ?_)))
          (case side6 => exact (Kd.N_reads' HO_463004.out).2.1)
          (case side7 => repeat (first|exact (Kd.N_reads' HO_463005.out).2.2|(with_reducible refine Kd.C_alloc ?_ _)|(with_reducible refine Kd.C_drewN ?_ _)|(with_reducible refine Kd.C_drew ?_)))
          (case side8 => exact (Kd.N_reads' HO_463005.out).2.1)
          rintro e w92 ⟨rfl,hb⟩
          refine ⟨_,rfl,?_⟩
          have n0_:=Aside0.mk (Kd.R_below (by (with_reducible repeat (first|apply Kd.R_alloc|apply Kd.R_drewN|apply Kd.R_drew));exact HO_463002.out) hb)
          have n1_:=Aside0.mk (Kd.N_below (by (with_reducible repeat (first|apply Kd.N_alloc|apply Kd.N_drewN|apply Kd.N_drew));exact HO_463003.out) hb)
          have n2_:=Aside0.mk (Kd.N_below (by (with_reducible repeat (first|apply Kd.N_alloc|apply Kd.N_drewN|apply Kd.N_drew));exact HO_463004.out) hb)
          have n3_:=Aside0.mk (Kd.N_below (by (with_reducible repeat (first|apply Kd.N_alloc|apply Kd.N_drewN|apply Kd.N_drew));exact HO_463005.out) hb)
          have n4_:=Aside0.mk (blk_below (g:=gb443) (o:=.cells #[.string a0_0,.int .u16 a0_1,.int .u16 a0_2,.bool a0_3] 28 (0,0)) (by (with_reducible repeat first|apply qqa|apply qqb|apply qqc);exact BK443.out) hb)
          have n5_:=Aside0.mk (blk_below (g:=gb444) (o:=.cells #[.string a1_0,.int .u16 a1_1,.int .u16 a1_2,.bool a0_3] 28 (0,0)) (by (with_reducible repeat first|apply qqa|apply qqb|apply qqc);exact BK444.out) hb)
          have n6_:=Aside0.mk (blk_below (g:=gb462) (o:=.cells #[.int .u16 t448,.int .u16 t449,.slice Ao39 t450.length co39,.slice Ao40 t453.length co40,.slice Ao41 t456.length co41,.slice Ao42 t459.length co42] 26 (0,0)) (by (with_reducible repeat first|apply qqa|apply qqb|apply qqc);exact BK462.out) hb)
          have n7_:=Aside0.mk (blk_below (g:=gb468) (o:=.cells #[.string t463,.int .u16 t464,.int .u16 t465,.bool t466] 28 (0,0)) (by (with_reducible repeat first|apply qqa|apply qqb|apply qqc);exact BK468.out) hb)
          have n8_:=Aside0.mk (blk_below (g:=gb469) (o:=.cells #[.int .u16 t448,.int .u16 (IntKind.u16.wrap (32768 + (Int.tmod a4 512))),.slice Ao39 t450.length co39,.slice Ao40 t453.length co40,.slice Ao41 t456.length co41,.slice Ao42 t459.length co42] 26 (0,0)) (by (with_reducible repeat first|apply qqa|apply qqb|apply qqc);exact BK469.out) hb)
          have n9_:=Aside0.mk (below_step (by repeat (first|(with_reducible first|exact HB.out|apply qqf|apply qqd|apply qqe|refine qqg ?_ GE443.out|refine qqg ?_ GE444.out|refine qqg ?_ GE462.out|refine qqg ?_ GE468.out|refine qqg ?_ GE469.out)|exact HB.out)) hb)
          clear HO_463002
          clear HO_463003
          clear HO_463004
          clear HO_463005
          clear BK443
          clear BK444
          clear BK462
          clear BK468
          clear BK469
          clear HB
          have HO_463002:=n0_
          have HO_463003:=n1_
          have HO_463004:=n2_
          have HO_463005:=n3_
          have BK443:=n4_
          have BK444:=n5_
          have BK462:=n6_
          have BK468:=n7_
          have BK469:=n8_
          have HB:=n9_
          clear n0_ n1_ n2_ n3_ n4_ n5_ n6_ n7_ n8_ n9_
          (try clear hb)
          (try clear hb2)
          (try clear hk)
          (try clear hi)
          refine hK.out _ _ ⟨(qqh BK443.out 0).trans rfl,(qqh BK443.out 1).trans rfl,(qqh BK443.out 2).trans rfl,(qqh BK443.out 3).trans rfl,(qqh BK469.out 0).trans rfl,(qqh BK469.out 1).trans rfl,(qqh BK469.out 2).trans rfl,(qqh BK469.out 3).trans rfl,(qqh BK469.out 4).trans rfl,(qqh BK469.out 5).trans rfl,(qqh BK444.out 0).trans rfl,(qqh BK444.out 1).trans rfl,(qqh BK444.out 2).trans rfl,(qqh BK444.out 3).trans rfl,(qqh BK462.out 0).trans rfl,(qqh BK462.out 1).trans rfl,(qqh BK462.out 2).trans rfl,(qqh BK462.out 3).trans rfl,(qqh BK462.out 4).trans rfl,(qqh BK462.out 5).trans rfl⟩ (fun hHeld => ?_)
          clear hK K
          refine norm_ (a':=?_) ?_ ?_
          rotate_left
          ·
           show Act.put _ (some 72) _ = _
           simp only [Act.put,qqj,qqk,qql,i64_w,i32_w]
           rfl
          refine pure_ (i:=4) (N:=some 73) (v:=?_) (a':=?_) #[true,true,true,true,true,false,false,false,false,false,false,false,false,false,false,false,false,false,false,false,false,false,false,false,false,false,false,false,false,false,false,false] rfl rfl (any_of HT_.out (by kernel_rfl)) (fun _ _ _ h => h) (Or.inl ⟨by rfl,?_⟩) ?_ ?_
          rotate_left
          ·
           intro w'
           go_simp
           with_reducible rfl
          rotate_left
          ·
           simp only [Act.put,qqj,qqk,qql,i64_w,i32_w]
           rfl
          refine pure_ (i:=6) (N:=some 75) (v:=?_) (a':=?_) #[true,true,true,true,true,false,true,false,false,false,false,false,false,false,false,false,false,false,false,false,false,false,false,false,false,false,false,false,false,false,false,false] rfl rfl (any_of HT_.out (by kernel_rfl)) (fun _ _ _ h => h) (Or.inl ⟨by rfl,?_⟩) ?_ ?_
          rotate_left
          ·
           intro w'
           go_simp
           with_reducible rfl
          rotate_left
          ·
           simp only [Act.put,qqj,qqk,qql,i64_w,i32_w]
           rfl
          refine pure_ (i:=9) (N:=some 78) (v:=?_) (a':=?_) #[true,true,true,true,true,false,true,false,false,true,false,false,false,false,false,false,false,false,false,false,false,false,false,false,false,false,false,false,false,false,false,false] rfl rfl (any_of HT_.out (by kernel_rfl)) (fun _ _ _ h => h) (Or.inl ⟨by rfl,?_⟩) ?_ ?_
          rotate_left
          ·
           intro w'
           go_simp
           with_reducible rfl
          rotate_left
          ·
           simp only [Act.put,qqj,qqk,qql,i64_w,i32_w]
           rfl
          refine pure_ (i:=10) (N:=some 79) (v:=?_) (a':=?_) #[true,true,true,true,true,false,true,false,false,true,true,false,false,false,false,false,false,false,false,false,false,false,false,false,false,false,false,false,false,false,false,false] rfl rfl (any_of HT_.out (by kernel_rfl)) (fun _ _ _ h => h) (Or.inl ⟨by rfl,?_⟩) ?_ ?_
          rotate_left
          ·
           intro w'
           go_simp
           with_reducible rfl
          rotate_left
          ·
           simp only [Act.put,qqj,qqk,qql,i64_w,i32_w]
           rfl
          refine pure_ (i:=11) (N:=some 80) (v:=?_) (a':=?_) #[true,true,true,true,true,false,true,false,false,true,true,true,false,false,false,false,false,false,false,false,false,false,false,false,false,false,false,false,false,false,false,false] rfl rfl (any_of HT_.out (by kernel_rfl)) (fun _ _ _ h => h) (Or.inl ⟨by rfl,?_⟩) ?_ ?_
          rotate_left
          ·
           intro w'
           go_simp
           with_reducible rfl
          rotate_left
          ·
           simp only [Act.put,qqj,qqk,qql,i64_w,i32_w]
           rfl
          refine take_ (i:=5) (N:=some 74) (v:=?_) (a':=?_) #[true,true,true,true,true,true,true,false,false,true,true,true,false,false,false,false,false,false,false,false,false,false,false,false,false,false,false,false,false,false,false,false] rfl rfl (take_ofW HT_.out HW_.out (by kernel_rfl)) (fun _ _ _ h => h) (Or.inl ⟨by rfl,?_⟩) hHeld ?_ ?_
          rotate_left
          ·
           rintro w' ⟨s0,s1,s2,s3,s4,s5,s6,s7,s8,s9,s10,s11,s12,s13,s14,s15,s16,s17,s18,s19⟩
           go_simp
           with_reducible rfl
          rotate_left
          ·
           simp only [Act.put,qqj,qqk,qql,i64_w,i32_w]
           rfl
          refine take_ (i:=7) (N:=some 76) (v:=?_) (a':=?_) #[true,true,true,true,true,true,true,true,false,true,true,true,false,false,false,false,false,false,false,false,false,false,false,false,false,false,false,false,false,false,false,false] rfl rfl (take_ofW HT_.out HW_.out (by kernel_rfl)) (fun _ _ _ h => h) (Or.inl ⟨by rfl,?_⟩) hHeld ?_ ?_
          rotate_left
          ·
           rintro w' ⟨s0,s1,s2,s3,s4,s5,s6,s7,s8,s9,s10,s11,s12,s13,s14,s15,s16,s17,s18,s19⟩
           go_simp
           with_reducible rfl
          rotate_left
          ·
           simp only [Act.put,qqj,qqk,qql,i64_w,i32_w]
           rfl
          refine one_ (i:=8) (N:=some 77) #[true,true,true,true,true,true,true,true,true,true,true,true,false,false,false,false,false,false,false,false,false,false,false,false,false,false,false,false,false,false,false,false] rfl rfl (one_of HT_.out (by kernel_rfl)) (by decide) (fun K hK => ?_)
          refine goes_ Try.func16 (by kernel_rfl) rfl #[.agg #[.string a0_0,.int .u16 a0_1,.int .u16 a0_2,.bool a0_3],.int .u16 a3,.agg #[.int .u16 t448,.int .u16 (IntKind.u16.wrap (32768 + (Int.tmod a4 512))),.slice Ao39 t450.length co39,.slice Ao40 t453.length co40,.slice Ao41 t456.length co41,.slice Ao42 t459.length co42]] (by rfl) rfl rfl (by (try simp only [List.map_toArray,List.map_cons,List.map_nil]);first|done|rfl|(simp only [List.length_drop,List.length_take];rfl)) ?_
          with_reducible refine (query_Fits.calls kj30 a0_0 a0_1 a0_2 a0_3 a3 t448 (IntKind.u16.wrap (32768 + (Int.tmod a4 512))) _ _ t450 _ _ t453 _ _ t456 _ _ t459 t471 _ ?side1 ?side2 ?side3 ?side4 ?side5 ?side6 ?side7 ?side8 A70.out).mono ?_
          (case side1 => repeat (first|exact (Kd.R_reads' HO_463002.out).2.2|(with_reducible refine Kd.C_alloc ?_ _)|(with_reducible refine Kd.C_drewN ?_ _)|(with_reducible refine Kd.C_drew ?_)))
          (case side2 => exact (Kd.R_reads' HO_463002.out).2.1)
          (case side3 => repeat (first|exact (Kd.N_reads' HO_463003.out).2.2|(with_reducible refine Kd.C_alloc ?_ _)|(with_reducible refine Kd.C_drewN ?_ _)|(with_reducible refine Kd.C_drew ?_)))
          (case side4 => exact (Kd.N_reads' HO_463003.out).2.1)
          (case side5 => repeat (first|exact (Kd.N_reads' HO_463004.out).2.2|(with_reducible refine Kd.C_alloc ?_ _)|(with_reducible refine Kd.C_drewN ?_ _)|(with_reducible refine Kd.C_drew ?_)))
          (case side6 => exact (Kd.N_reads' HO_463004.out).2.1)
          (case side7 => repeat (first|exact (Kd.N_reads' HO_463005.out).2.2|(with_reducible refine Kd.C_alloc ?_ _)|(with_reducible refine Kd.C_drewN ?_ _)|(with_reducible refine Kd.C_drew ?_)))
          (case side8 => exact (Kd.N_reads' HO_463005.out).2.1)
          rintro e w93 ⟨rfl,hb⟩
          refine ⟨_,rfl,?_⟩
          have n0_:=Aside0.mk (Kd.R_below (by (with_reducible repeat (first|apply Kd.R_alloc|apply Kd.R_drewN|apply Kd.R_drew));exact HO_463002.out) hb)
          have n1_:=Aside0.mk (Kd.N_below (by (with_reducible repeat (first|apply Kd.N_alloc|apply Kd.N_drewN|apply Kd.N_drew));exact HO_463003.out) hb)
          have n2_:=Aside0.mk (Kd.N_below (by (with_reducible repeat (first|apply Kd.N_alloc|apply Kd.N_drewN|apply Kd.N_drew));exact HO_463004.out) hb)
          have n3_:=Aside0.mk (Kd.N_below (by (with_reducible repeat (first|apply Kd.N_alloc|apply Kd.N_drewN|apply Kd.N_drew));exact HO_463005.out) hb)
          have n4_:=Aside0.mk (blk_below (g:=gb443) (o:=.cells #[.string a0_0,.int .u16 a0_1,.int .u16 a0_2,.bool a0_3] 28 (0,0)) (by (with_reducible repeat first|apply qqa|apply qqb|apply qqc);exact BK443.out) hb)
          have n5_:=Aside0.mk (blk_below (g:=gb444) (o:=.cells #[.string a1_0,.int .u16 a1_1,.int .u16 a1_2,.bool a0_3] 28 (0,0)) (by (with_reducible repeat first|apply qqa|apply qqb|apply qqc);exact BK444.out) hb)
          have n6_:=Aside0.mk (blk_below (g:=gb462) (o:=.cells #[.int .u16 t448,.int .u16 t449,.slice Ao39 t450.length co39,.slice Ao40 t453.length co40,.slice Ao41 t456.length co41,.slice Ao42 t459.length co42] 26 (0,0)) (by (with_reducible repeat first|apply qqa|apply qqb|apply qqc);exact BK462.out) hb)
          have n7_:=Aside0.mk (blk_below (g:=gb468) (o:=.cells #[.string t463,.int .u16 t464,.int .u16 t465,.bool t466] 28 (0,0)) (by (with_reducible repeat first|apply qqa|apply qqb|apply qqc);exact BK468.out) hb)
          have n8_:=Aside0.mk (blk_below (g:=gb469) (o:=.cells #[.int .u16 t448,.int .u16 (IntKind.u16.wrap (32768 + (Int.tmod a4 512))),.slice Ao39 t450.length co39,.slice Ao40 t453.length co40,.slice Ao41 t456.length co41,.slice Ao42 t459.length co42] 26 (0,0)) (by (with_reducible repeat first|apply qqa|apply qqb|apply qqc);exact BK469.out) hb)
          have n9_:=Aside0.mk (below_step (by repeat (first|(with_reducible first|exact HB.out|apply qqf|apply qqd|apply qqe|refine qqg ?_ GE443.out|refine qqg ?_ GE444.out|refine qqg ?_ GE462.out|refine qqg ?_ GE468.out|refine qqg ?_ GE469.out)|exact HB.out)) hb)
          clear HO_463002
          clear HO_463003
          clear HO_463004
          clear HO_463005
          clear BK443
          clear BK444
          clear BK462
          clear BK468
          clear BK469
          clear HB
          have HO_463002:=n0_
          have HO_463003:=n1_
          have HO_463004:=n2_
          have HO_463005:=n3_
          have BK443:=n4_
          have BK444:=n5_
          have BK462:=n6_
          have BK468:=n7_
          have BK469:=n8_
          have HB:=n9_
          clear n0_ n1_ n2_ n3_ n4_ n5_ n6_ n7_ n8_ n9_
          (try clear hb)
          (try clear hb2)
          (try clear hk)
          (try clear hi)
          refine hK.out _ _ ⟨(qqh BK443.out 0).trans rfl,(qqh BK443.out 1).trans rfl,(qqh BK443.out 2).trans rfl,(qqh BK443.out 3).trans rfl,(qqh BK469.out 0).trans rfl,(qqh BK469.out 1).trans rfl,(qqh BK469.out 2).trans rfl,(qqh BK469.out 3).trans rfl,(qqh BK469.out 4).trans rfl,(qqh BK469.out 5).trans rfl,(qqh BK444.out 0).trans rfl,(qqh BK444.out 1).trans rfl,(qqh BK444.out 2).trans rfl,(qqh BK444.out 3).trans rfl,(qqh BK462.out 0).trans rfl,(qqh BK462.out 1).trans rfl,(qqh BK462.out 2).trans rfl,(qqh BK462.out 3).trans rfl,(qqh BK462.out 4).trans rfl,(qqh BK462.out 5).trans rfl⟩ (fun hHeld => ?_)
          clear hK K
          refine norm_ (a':=?_) ?_ ?_
          rotate_left
          ·
           show Act.put _ (some 77) _ = _
           simp only [Act.put,qqj,qqk,qql,i64_w,i32_w]
           rfl
          refine pure_ (i:=12) (N:=some 81) (v:=?_) (a':=?_) #[true,true,true,true,true,true,true,true,true,true,true,true,true,false,false,false,false,false,false,false,false,false,false,false,false,false,false,false,false,false,false,false] rfl rfl (any_of HT_.out (by kernel_rfl)) (fun _ _ _ h => h) (Or.inl ⟨by rfl,?_⟩) ?_ ?_
          rotate_left
          ·
           intro w'
           go_simp
           with_reducible rfl
          rotate_left
          ·
           simp only [Act.put,qqj,qqk,qql,i64_w,i32_w]
           rfl
          refine pure_ (i:=13) (N:=some 82) (v:=?_) (a':=?_) #[true,true,true,true,true,true,true,true,true,true,true,true,true,true,false,false,false,false,false,false,false,false,false,false,false,false,false,false,false,false,false,false] rfl rfl (any_of HT_.out (by kernel_rfl)) (fun _ _ _ h => h) (Or.inl ⟨by rfl,?_⟩) ?_ ?_
          rotate_left
          ·
           intro w'
           go_simp
           with_reducible rfl
          rotate_left
          ·
           simp only [Act.put,qqj,qqk,qql,i64_w,i32_w]
           rfl
          refine pure_ (i:=14) (N:=some 83) (v:=?_) (a':=?_) #[true,true,true,true,true,true,true,true,true,true,true,true,true,true,true,false,false,false,false,false,false,false,false,false,false,false,false,false,false,false,false,false] rfl rfl (any_of HT_.out (by kernel_rfl)) (fun _ _ _ h => h) (Or.inl ⟨by rfl,?_⟩) ?_ ?_
          rotate_left
          ·
           intro w'
           go_simp
           with_reducible rfl
          rotate_left
          ·
           simp only [Act.put,qqj,qqk,qql,i64_w,i32_w]
           rfl
          refine pure_ (i:=16) (N:=some 85) (v:=?_) (a':=?_) #[true,true,true,true,true,true,true,true,true,true,true,true,true,true,true,false,true,false,false,false,false,false,false,false,false,false,false,false,false,false,false,false] rfl rfl (any_of HT_.out (by kernel_rfl)) (fun _ _ _ h => h) (Or.inl ⟨by rfl,?_⟩) ?_ ?_
          rotate_left
          ·
           intro w'
           go_simp
           with_reducible rfl
          rotate_left
          ·
           simp only [Act.put,qqj,qqk,qql,i64_w,i32_w]
           rfl
          refine take_ (i:=15) (N:=some 84) (v:=?_) (a':=?_) #[true,true,true,true,true,true,true,true,true,true,true,true,true,true,true,true,true,false,false,false,false,false,false,false,false,false,false,false,false,false,false,false] rfl rfl (take_ofW HT_.out HW_.out (by kernel_rfl)) (fun _ _ _ h => h) (Or.inl ⟨by rfl,?_⟩) hHeld ?_ ?_
          rotate_left
          ·
           rintro w' ⟨s0,s1,s2,s3,s4,s5,s6,s7,s8,s9,s10,s11,s12,s13,s14,s15,s16,s17,s18,s19⟩
           go_simp
           with_reducible rfl
          rotate_left
          ·
           simp only [Act.put,qqj,qqk,qql,i64_w,i32_w]
           rfl
          refine take_ (i:=17) (N:=some 86) (v:=?_) (a':=?_) #[true,true,true,true,true,true,true,true,true,true,true,true,true,true,true,true,true,true,false,false,false,false,false,false,false,false,false,false,false,false,false,false] rfl rfl (take_ofW HT_.out HW_.out (by kernel_rfl)) (fun _ _ _ h => h) (Or.inl ⟨by rfl,?_⟩) hHeld ?_ ?_
          rotate_left
          ·
           rintro w' ⟨s0,s1,s2,s3,s4,s5,s6,s7,s8,s9,s10,s11,s12,s13,s14,s15,s16,s17,s18,s19⟩
           go_simp
           with_reducible rfl
          rotate_left
          ·
           simp only [Act.put,qqj,qqk,qql,i64_w,i32_w]
           rfl
          refine take_ (i:=19) (N:=some 88) (v:=?_) (a':=?_) #[true,true,true,true,true,true,true,true,true,true,true,true,true,true,true,true,true,true,false,true,false,false,false,false,false,false,false,false,false,false,false,false] rfl rfl (take_ofW HT_.out HW_.out (by kernel_rfl)) (fun _ _ _ h => h) (Or.inl ⟨by rfl,?_⟩) hHeld ?_ ?_
          rotate_left
          ·
           rintro w' ⟨s0,s1,s2,s3,s4,s5,s6,s7,s8,s9,s10,s11,s12,s13,s14,s15,s16,s17,s18,s19⟩
           go_simp
           with_reducible rfl
          rotate_left
          ·
           simp only [Act.put,qqj,qqk,qql,i64_w,i32_w]
           rfl
          refine take_ (i:=20) (N:=some 89) (v:=?_) (a':=?_) #[true,true,true,true,true,true,true,true,true,true,true,true,true,true,true,true,true,true,false,true,true,false,false,false,false,false,false,false,false,false,false,false] rfl rfl (take_ofW HT_.out HW_.out (by kernel_rfl)) (fun _ _ _ h => h) (Or.inl ⟨by rfl,?_⟩) hHeld ?_ ?_
          rotate_left
          ·
           rintro w' ⟨s0,s1,s2,s3,s4,s5,s6,s7,s8,s9,s10,s11,s12,s13,s14,s15,s16,s17,s18,s19⟩
           go_simp
           with_reducible rfl
          rotate_left
          ·
           simp only [Act.put,qqj,qqk,qql,i64_w,i32_w]
           rfl
          refine pure_ (i:=21) (N:=some 90) (v:=?_) (a':=?_) #[true,true,true,true,true,true,true,true,true,true,true,true,true,true,true,true,true,true,false,true,true,true,false,false,false,false,false,false,false,false,false,false] rfl rfl (any_of HT_.out (by kernel_rfl)) (fun _ _ _ h => h) (Or.inl ⟨by rfl,?_⟩) ?_ ?_
          rotate_left
          ·
           intro w'
           go_simp
           with_reducible rfl
          rotate_left
          ·
           simp only [Act.put,qqj,qqk,qql,i64_w,i32_w]
           rfl
          refine one_ (i:=18) (N:=some 87) #[true,true,true,true,true,true,true,true,true,true,true,true,true,true,true,true,true,true,true,true,true,true,false,false,false,false,false,false,false,false,false,false] rfl rfl (one_of HT_.out (by kernel_rfl)) (by decide) (fun K hK => ?_)
          refine goes_ Try.func16 (by kernel_rfl) rfl #[.agg #[.string a1_0,.int .u16 a1_1,.int .u16 a1_2,.bool a0_3],.int .u16 a2,.agg #[.int .u16 t448,.int .u16 (IntKind.u16.wrap (32768 + (Int.tmod a4 512))),.slice Ao39 t450.length co39,.slice Ao40 t453.length co40,.slice Ao41 t456.length co41,.slice Ao42 t459.length co42]] (by rfl) rfl rfl (by (try simp only [List.map_toArray,List.map_cons,List.map_nil]);first|done|rfl|(simp only [List.length_drop,List.length_take];rfl)) ?_
          with_reducible refine (query_Fits.calls kj30 a1_0 a1_1 a1_2 a0_3 a2 t448 (IntKind.u16.wrap (32768 + (Int.tmod a4 512))) _ _ t450 _ _ t453 _ _ t456 _ _ t459 t472 _ ?side1 ?side2 ?side3 ?side4 ?side5 ?side6 ?side7 ?side8 A72.out).mono ?_
          (case side1 => repeat (first|exact (Kd.R_reads' HO_463002.out).2.2|(with_reducible refine Kd.C_alloc ?_ _)|(with_reducible refine Kd.C_drewN ?_ _)|(with_reducible refine Kd.C_drew ?_)))
          (case side2 => exact (Kd.R_reads' HO_463002.out).2.1)
          (case side3 => repeat (first|exact (Kd.N_reads' HO_463003.out).2.2|(with_reducible refine Kd.C_alloc ?_ _)|(with_reducible refine Kd.C_drewN ?_ _)|(with_reducible refine Kd.C_drew ?_)))
          (case side4 => exact (Kd.N_reads' HO_463003.out).2.1)
          (case side5 => repeat (first|exact (Kd.N_reads' HO_463004.out).2.2|(with_reducible refine Kd.C_alloc ?_ _)|(with_reducible refine Kd.C_drewN ?_ _)|(with_reducible refine Kd.C_drew ?_)))
          (case side6 => exact (Kd.N_reads' HO_463004.out).2.1)
          (case side7 => repeat (first|exact (Kd.N_reads' HO_463005.out).2.2|(with_reducible refine Kd.C_alloc ?_ _)|(with_reducible refine Kd.C_drewN ?_ _)|(with_reducible refine Kd.C_drew ?_)))
          (case side8 => exact (Kd.N_reads' HO_463005.out).2.1)
          rintro e w94 ⟨rfl,hb⟩
          refine ⟨_,rfl,?_⟩
          have n0_:=Aside0.mk (Kd.R_below (by (with_reducible repeat (first|apply Kd.R_alloc|apply Kd.R_drewN|apply Kd.R_drew));exact HO_463002.out) hb)
          have n1_:=Aside0.mk (Kd.N_below (by (with_reducible repeat (first|apply Kd.N_alloc|apply Kd.N_drewN|apply Kd.N_drew));exact HO_463003.out) hb)
          have n2_:=Aside0.mk (Kd.N_below (by (with_reducible repeat (first|apply Kd.N_alloc|apply Kd.N_drewN|apply Kd.N_drew));exact HO_463004.out) hb)
          have n3_:=Aside0.mk (Kd.N_below (by (with_reducible repeat (first|apply Kd.N_alloc|apply Kd.N_drewN|apply Kd.N_drew));exact HO_463005.out) hb)
          have n4_:=Aside0.mk (blk_below (g:=gb443) (o:=.cells #[.string a0_0,.int .u16 a0_1,.int .u16 a0_2,.bool a0_3] 28 (0,0)) (by (with_reducible repeat first|apply qqa|apply qqb|apply qqc);exact BK443.out) hb)
          have n5_:=Aside0.mk (blk_below (g:=gb444) (o:=.cells #[.string a1_0,.int .u16 a1_1,.int .u16 a1_2,.bool a0_3] 28 (0,0)) (by (with_reducible repeat first|apply qqa|apply qqb|apply qqc);exact BK444.out) hb)
          have n6_:=Aside0.mk (blk_below (g:=gb462) (o:=.cells #[.int .u16 t448,.int .u16 t449,.slice Ao39 t450.length co39,.slice Ao40 t453.length co40,.slice Ao41 t456.length co41,.slice Ao42 t459.length co42] 26 (0,0)) (by (with_reducible repeat first|apply qqa|apply qqb|apply qqc);exact BK462.out) hb)
          have n7_:=Aside0.mk (blk_below (g:=gb468) (o:=.cells #[.string t463,.int .u16 t464,.int .u16 t465,.bool t466] 28 (0,0)) (by (with_reducible repeat first|apply qqa|apply qqb|apply qqc);exact BK468.out) hb)
          have n8_:=Aside0.mk (blk_below (g:=gb469) (o:=.cells #[.int .u16 t448,.int .u16 (IntKind.u16.wrap (32768 + (Int.tmod a4 512))),.slice Ao39 t450.length co39,.slice Ao40 t453.length co40,.slice Ao41 t456.length co41,.slice Ao42 t459.length co42] 26 (0,0)) (by (with_reducible repeat first|apply qqa|apply qqb|apply qqc);exact BK469.out) hb)
          have n9_:=Aside0.mk (below_step (by repeat (first|(with_reducible first|exact HB.out|apply qqf|apply qqd|apply qqe|refine qqg ?_ GE443.out|refine qqg ?_ GE444.out|refine qqg ?_ GE462.out|refine qqg ?_ GE468.out|refine qqg ?_ GE469.out)|exact HB.out)) hb)
          clear HO_463002
          clear HO_463003
          clear HO_463004
          clear HO_463005
          clear BK443
          clear BK444
          clear BK462
          clear BK468
          clear BK469
          clear HB
          have HO_463002:=n0_
          have HO_463003:=n1_
          have HO_463004:=n2_
          have HO_463005:=n3_
          have BK443:=n4_
          have BK444:=n5_
          have BK462:=n6_
          have BK468:=n7_
          have BK469:=n8_
          have HB:=n9_
          clear n0_ n1_ n2_ n3_ n4_ n5_ n6_ n7_ n8_ n9_
          (try clear hb)
          (try clear hb2)
          (try clear hk)
          (try clear hi)
          refine hK.out _ _ ⟨(qqh BK443.out 0).trans rfl,(qqh BK443.out 1).trans rfl,(qqh BK443.out 2).trans rfl,(qqh BK443.out 3).trans rfl,(qqh BK469.out 0).trans rfl,(qqh BK469.out 1).trans rfl,(qqh BK469.out 2).trans rfl,(qqh BK469.out 3).trans rfl,(qqh BK469.out 4).trans rfl,(qqh BK469.out 5).trans rfl,(qqh BK444.out 0).trans rfl,(qqh BK444.out 1).trans rfl,(qqh BK444.out 2).trans rfl,(qqh BK444.out 3).trans rfl,(qqh BK462.out 0).trans rfl,(qqh BK462.out 1).trans rfl,(qqh BK462.out 2).trans rfl,(qqh BK462.out 3).trans rfl,(qqh BK462.out 4).trans rfl,(qqh BK462.out 5).trans rfl⟩ (fun hHeld => ?_)
          clear hK K
          refine norm_ (a':=?_) ?_ ?_
          rotate_left
          ·
           show Act.put _ (some 87) _ = _
           simp only [Act.put,qqj,qqk,qql,i64_w,i32_w]
           rfl
          refine pure_ (i:=22) (N:=some 91) (v:=?_) (a':=?_) #[true,true,true,true,true,true,true,true,true,true,true,true,true,true,true,true,true,true,true,true,true,true,true,false,false,false,false,false,false,false,false,false] rfl rfl (any_of HT_.out (by kernel_rfl)) (fun _ _ _ h => h) (Or.inl ⟨by rfl,?_⟩) ?_ ?_
          rotate_left
          ·
           intro w'
           go_simp
           with_reducible rfl
          rotate_left
          ·
           simp only [Act.put,qqj,qqk,qql,i64_w,i32_w]
           rfl
          refine pure_ (i:=23) (N:=some 92) (v:=?_) (a':=?_) #[true,true,true,true,true,true,true,true,true,true,true,true,true,true,true,true,true,true,true,true,true,true,true,true,false,false,false,false,false,false,false,false] rfl rfl (any_of HT_.out (by kernel_rfl)) (fun _ _ _ h => h) (Or.inl ⟨by rfl,?_⟩) ?_ ?_
          rotate_left
          ·
           intro w'
           go_simp
           with_reducible rfl
          rotate_left
          ·
           simp only [Act.put,qqj,qqk,qql,i64_w,i32_w]
           rfl
          refine pure_ (i:=24) (N:=some 93) (v:=?_) (a':=?_) #[true,true,true,true,true,true,true,true,true,true,true,true,true,true,true,true,true,true,true,true,true,true,true,true,true,false,false,false,false,false,false,false] rfl rfl (any_of HT_.out (by kernel_rfl)) (fun _ _ _ h => h) (Or.inl ⟨by rfl,?_⟩) ?_ ?_
          rotate_left
          ·
           intro w'
           go_simp
           with_reducible rfl
          rotate_left
          ·
           simp only [Act.put,qqj,qqk,qql,i64_w,i32_w]
           rfl
          refine pure_ (i:=26) (N:=some 95) (v:=?_) (a':=?_) #[true,true,true,true,true,true,true,true,true,true,true,true,true,true,true,true,true,true,true,true,true,true,true,true,true,false,true,false,false,false,false,false] rfl rfl (any_of HT_.out (by kernel_rfl)) (fun _ _ _ h => h) (Or.inl ⟨by rfl,?_⟩) ?_ ?_
          rotate_left
          ·
           intro w'
           go_simp
           with_reducible rfl
          rotate_left
          ·
           simp only [Act.put,qqj,qqk,qql,i64_w,i32_w]
           rfl
          refine take_ (i:=25) (N:=some 94) (v:=?_) (a':=?_) #[true,true,true,true,true,true,true,true,true,true,true,true,true,true,true,true,true,true,true,true,true,true,true,true,true,true,true,false,false,false,false,false] rfl rfl (take_ofW HT_.out HW_.out (by kernel_rfl)) (fun _ _ _ h => h) (Or.inl ⟨by rfl,?_⟩) hHeld ?_ ?_
          rotate_left
          ·
           rintro w' ⟨s0,s1,s2,s3,s4,s5,s6,s7,s8,s9,s10,s11,s12,s13,s14,s15,s16,s17,s18,s19⟩
           go_simp
           with_reducible rfl
          rotate_left
          ·
           simp only [Act.put,qqj,qqk,qql,i64_w,i32_w]
           rfl
          refine take_ (i:=27) (N:=some 96) (v:=?_) (a':=?_) #[true,true,true,true,true,true,true,true,true,true,true,true,true,true,true,true,true,true,true,true,true,true,true,true,true,true,true,true,false,false,false,false] rfl rfl (take_ofW HT_.out HW_.out (by kernel_rfl)) (fun _ _ _ h => h) (Or.inl ⟨by rfl,?_⟩) hHeld ?_ ?_
          rotate_left
          ·
           rintro w' ⟨s0,s1,s2,s3,s4,s5,s6,s7,s8,s9,s10,s11,s12,s13,s14,s15,s16,s17,s18,s19⟩
           go_simp
           with_reducible rfl
          rotate_left
          ·
           simp only [Act.put,qqj,qqk,qql,i64_w,i32_w]
           rfl
          refine one_ (i:=28) (N:=some 97) #[true,true,true,true,true,true,true,true,true,true,true,true,true,true,true,true,true,true,true,true,true,true,true,true,true,true,true,true,true,false,false,false] rfl rfl (one_of HT_.out (by kernel_rfl)) (by decide) (fun K hK => ?_)
          refine goes_ Try.func16 (by kernel_rfl) rfl #[.agg #[.string a0_0,.int .u16 a0_1,.int .u16 a0_2,.bool a0_3],.int .u16 a2,.agg #[.int .u16 t448,.int .u16 t449,.slice Ao39 t450.length co39,.slice Ao40 t453.length co40,.slice Ao41 t456.length co41,.slice Ao42 t459.length co42]] (by rfl) rfl rfl (by (try simp only [List.map_toArray,List.map_cons,List.map_nil]);first|done|rfl|(simp only [List.length_drop,List.length_take];rfl)) ?_
          with_reducible refine (query_Fits.calls kj30 a0_0 a0_1 a0_2 a0_3 a2 t448 t449 _ _ t450 _ _ t453 _ _ t456 _ _ t459 t473 _ ?side1 ?side2 ?side3 ?side4 ?side5 ?side6 ?side7 ?side8 A74.out).mono ?_
          (case side1 => repeat (first|exact (Kd.R_reads' HO_463002.out).2.2|(with_reducible refine Kd.C_alloc ?_ _)|(with_reducible refine Kd.C_drewN ?_ _)|(with_reducible refine Kd.C_drew ?_)))
          (case side2 => exact (Kd.R_reads' HO_463002.out).2.1)
          (case side3 => repeat (first|exact (Kd.N_reads' HO_463003.out).2.2|(with_reducible refine Kd.C_alloc ?_ _)|(with_reducible refine Kd.C_drewN ?_ _)|(with_reducible refine Kd.C_drew ?_)))
          (case side4 => exact (Kd.N_reads' HO_463003.out).2.1)
          (case side5 => repeat (first|exact (Kd.N_reads' HO_463004.out).2.2|(with_reducible refine Kd.C_alloc ?_ _)|(with_reducible refine Kd.C_drewN ?_ _)|(with_reducible refine Kd.C_drew ?_)))
          (case side6 => exact (Kd.N_reads' HO_463004.out).2.1)
          (case side7 => repeat (first|exact (Kd.N_reads' HO_463005.out).2.2|(with_reducible refine Kd.C_alloc ?_ _)|(with_reducible refine Kd.C_drewN ?_ _)|(with_reducible refine Kd.C_drew ?_)))
          (case side8 => exact (Kd.N_reads' HO_463005.out).2.1)
          rintro e w95 ⟨rfl,hb⟩
          refine ⟨_,rfl,?_⟩
          have n0_:=Aside0.mk (Kd.R_below (by (with_reducible repeat (first|apply Kd.R_alloc|apply Kd.R_drewN|apply Kd.R_drew));exact HO_463002.out) hb)
          have n1_:=Aside0.mk (Kd.N_below (by (with_reducible repeat (first|apply Kd.N_alloc|apply Kd.N_drewN|apply Kd.N_drew));exact HO_463003.out) hb)
          have n2_:=Aside0.mk (Kd.N_below (by (with_reducible repeat (first|apply Kd.N_alloc|apply Kd.N_drewN|apply Kd.N_drew));exact HO_463004.out) hb)
          have n3_:=Aside0.mk (Kd.N_below (by (with_reducible repeat (first|apply Kd.N_alloc|apply Kd.N_drewN|apply Kd.N_drew));exact HO_463005.out) hb)
          have n4_:=Aside0.mk (blk_below (g:=gb443) (o:=.cells #[.string a0_0,.int .u16 a0_1,.int .u16 a0_2,.bool a0_3] 28 (0,0)) (by (with_reducible repeat first|apply qqa|apply qqb|apply qqc);exact BK443.out) hb)
          have n5_:=Aside0.mk (blk_below (g:=gb444) (o:=.cells #[.string a1_0,.int .u16 a1_1,.int .u16 a1_2,.bool a0_3] 28 (0,0)) (by (with_reducible repeat first|apply qqa|apply qqb|apply qqc);exact BK444.out) hb)
          have n6_:=Aside0.mk (blk_below (g:=gb462) (o:=.cells #[.int .u16 t448,.int .u16 t449,.slice Ao39 t450.length co39,.slice Ao40 t453.length co40,.slice Ao41 t456.length co41,.slice Ao42 t459.length co42] 26 (0,0)) (by (with_reducible repeat first|apply qqa|apply qqb|apply qqc);exact BK462.out) hb)
          have n7_:=Aside0.mk (blk_below (g:=gb468) (o:=.cells #[.string t463,.int .u16 t464,.int .u16 t465,.bool t466] 28 (0,0)) (by (with_reducible repeat first|apply qqa|apply qqb|apply qqc);exact BK468.out) hb)
          have n8_:=Aside0.mk (blk_below (g:=gb469) (o:=.cells #[.int .u16 t448,.int .u16 (IntKind.u16.wrap (32768 + (Int.tmod a4 512))),.slice Ao39 t450.length co39,.slice Ao40 t453.length co40,.slice Ao41 t456.length co41,.slice Ao42 t459.length co42] 26 (0,0)) (by (with_reducible repeat first|apply qqa|apply qqb|apply qqc);exact BK469.out) hb)
          have n9_:=Aside0.mk (below_step (by repeat (first|(with_reducible first|exact HB.out|apply qqf|apply qqd|apply qqe|refine qqg ?_ GE443.out|refine qqg ?_ GE444.out|refine qqg ?_ GE462.out|refine qqg ?_ GE468.out|refine qqg ?_ GE469.out)|exact HB.out)) hb)
          clear HO_463002
          clear HO_463003
          clear HO_463004
          clear HO_463005
          clear BK443
          clear BK444
          clear BK462
          clear BK468
          clear BK469
          clear HB
          have HO_463002:=n0_
          have HO_463003:=n1_
          have HO_463004:=n2_
          have HO_463005:=n3_
          have BK443:=n4_
          have BK444:=n5_
          have BK462:=n6_
          have BK468:=n7_
          have BK469:=n8_
          have HB:=n9_
          clear n0_ n1_ n2_ n3_ n4_ n5_ n6_ n7_ n8_ n9_
          (try clear hb)
          (try clear hb2)
          (try clear hk)
          (try clear hi)
          refine hK.out _ _ ⟨(qqh BK443.out 0).trans rfl,(qqh BK443.out 1).trans rfl,(qqh BK443.out 2).trans rfl,(qqh BK443.out 3).trans rfl,(qqh BK469.out 0).trans rfl,(qqh BK469.out 1).trans rfl,(qqh BK469.out 2).trans rfl,(qqh BK469.out 3).trans rfl,(qqh BK469.out 4).trans rfl,(qqh BK469.out 5).trans rfl,(qqh BK444.out 0).trans rfl,(qqh BK444.out 1).trans rfl,(qqh BK444.out 2).trans rfl,(qqh BK444.out 3).trans rfl,(qqh BK462.out 0).trans rfl,(qqh BK462.out 1).trans rfl,(qqh BK462.out 2).trans rfl,(qqh BK462.out 3).trans rfl,(qqh BK462.out 4).trans rfl,(qqh BK462.out 5).trans rfl⟩ (fun hHeld => ?_)
          clear hK K
          refine norm_ (a':=?_) ?_ ?_
          rotate_left
          ·
           show Act.put _ (some 97) _ = _
           simp only [Act.put,qqj,qqk,qql,i64_w,i32_w]
           rfl
          refine pure_ (i:=29) (N:=some 98) (v:=?_) (a':=?_) #[true,true,true,true,true,true,true,true,true,true,true,true,true,true,true,true,true,true,true,true,true,true,true,true,true,true,true,true,true,true,false,false] rfl rfl (any_of HT_.out (by kernel_rfl)) (fun _ _ _ h => h) (Or.inl ⟨by rfl,?_⟩) ?_ ?_
          rotate_left
          ·
           intro w'
           go_simp
           with_reducible rfl
          rotate_left
          ·
           simp only [Act.put,qqj,qqk,qql,i64_w,i32_w]
           rfl
          refine pure_ (i:=30) (N:=some 99) (v:=?_) (a':=?_) #[true,true,true,true,true,true,true,true,true,true,true,true,true,true,true,true,true,true,true,true,true,true,true,true,true,true,true,true,true,true,true,false] rfl rfl (any_of HT_.out (by kernel_rfl)) (fun _ _ _ h => h) (Or.inl ⟨by rfl,?_⟩) ?_ ?_
          rotate_left
          ·
           intro w'
           go_simp
           with_reducible rfl
          rotate_left
          ·
           simp only [Act.put,qqj,qqk,qql,i64_w,i32_w]
           rfl
          refine pure_ (i:=31) (N:=some 10) (v:=?_) (a':=?_) #[true,true,true,true,true,true,true,true,true,true,true,true,true,true,true,true,true,true,true,true,true,true,true,true,true,true,true,true,true,true,true,true] rfl rfl (any_of HT_.out (by kernel_rfl)) (fun _ _ _ h => h) (Or.inl ⟨by rfl,?_⟩) ?_ ?_
          rotate_left
          ·
           intro w'
           go_simp
           with_reducible rfl
          rotate_left
          ·
           simp only [Act.put,qqj,qqk,qql,i64_w,i32_w]
           rfl
          refine done_ (done_of HT_.out (by kernel_rfl)) ?_
          try go_wp2
          go_ret
          exact ⟨by first|rfl|(simp [errW_none,errW_some] <;> rfl)|(simp [*,errW_none,errW_some] <;> rfl),by repeat (first|(with_reducible first|exact HB.out|apply qqf|apply qqd|apply qqe|refine qqg ?_ GE443.out|refine qqg ?_ GE444.out|refine qqg ?_ GE462.out|refine qqg ?_ GE468.out|refine qqg ?_ GE469.out)|exact HB.out)⟩
         ·
          rw [if_neg c73] at H
          have c73b0 : (t472 == (a1_0.toList == a0_0.toList && (a1_1 == a0_1 && (a1_2 == a0_2)))) = false:=by simpa using c73
          (try (have c73b1 : decide (t472 = (a1_0.toList == a0_0.toList && (a1_1 == a0_1 && (a1_2 == a0_2)))) = false:=by simpa using c73))
          (try (have c73b2 : (t472 == (a1_0.toList == a0_0.toList && (a1_1 == a0_1 && (a1_2 == a0_2)))) = false:=by simpa using c73))
          (try (have c73b3 : ¬ (t472 = (a1_0.toList == a0_0.toList && (a1_1 == a0_1 && (a1_2 == a0_2)))):=by simpa using c73))
          clear c73
          (try (have c73b9:=c73b0;simp only [beq_true,beq_false] at c73b9))
          exact absurd ((Option.some.inj H).trans HT.out) (by decide)
        ·
         rw [if_neg c71] at H
         have c71b0 : (t471 == (a3 == a2)) = false:=by simpa using c71
         (try (have c71b1 : decide (t471 = (a3 == a2)) = false:=by simpa using c71))
         (try (have c71b2 : (t471 == (a3 == a2)) = false:=by simpa using c71))
         (try (have c71b3 : ¬ (t471 = (a3 == a2)):=by simpa using c71))
         clear c71
         exact absurd ((Option.some.inj H).trans HT.out) (by decide)
       ·
        replace c69:=Bool.eq_false_iff.mpr c69
        subst c69
        have H1 : (some false) = some r:=by rw [if_neg (show ¬ (false = true) by decide)] at H;exact H
        clear H
        have H:=H1
        clear H1
        exact absurd ((Option.some.inj H).trans HT.out) (by decide)

/-- THE ONE PURE STATEMENT of nunciolaw08_QueryBack: yours. -/
def nunciolaw08_QueryBack.Pure : Prop := ∀ (a0_0 : ByteArray) (a0_1 : Int) (a0_2 : Int) (a0_3 : Bool) (a1_0 : ByteArray) (a1_1 : Int) (a1_2 : Int) (a1_3 : Bool) (a2 : Int) (a3 : Int) (a4 : Int), (a0_0.size ≤ 140737488351232) → ((Lit.int .u16 a0_1).wf = true) → ((Lit.int .u16 a0_2).wf = true) → (a1_0.size ≤ 140737488351232) → ((Lit.int .u16 a1_1).wf = true) → ((Lit.int .u16 a1_2).wf = true) → ((Lit.int .u16 a2).wf = true) → ((Lit.int .u16 a3).wf = true) → ((Lit.int .u16 a4).wf = true) → ∃ k, nunciolaw08_QueryBack.f k a0_0 a0_1 a0_2 a0_3 a1_0 a1_1 a1_2 a1_3 a2 a3 a4 = some true
theorem nunciolaw08_QueryBack.walk (P : nunciolaw08_QueryBack.Pure) (a0_0 : ByteArray) (a0_1 : Int) (a0_2 : Int) (a0_3 : Bool) (a1_0 : ByteArray) (a1_1 : Int) (a1_2 : Int) (a1_3 : Bool) (a2 : Int) (a3 : Int) (a4 : Int) (w : World) (w0_0 : a0_0.size ≤ 140737488351232) (w0_1 : (Lit.int .u16 a0_1).wf = true) (w0_2 : (Lit.int .u16 a0_2).wf = true) (w1_0 : a1_0.size ≤ 140737488351232) (w1_1 : (Lit.int .u16 a1_1).wf = true) (w1_2 : (Lit.int .u16 a1_2).wf = true) (w2 : (Lit.int .u16 a2).wf = true) (w3 : (Lit.int .u16 a3).wf = true) (w4 : (Lit.int .u16 a4).wf = true) :
  Calls Try.prog 6 #[.agg #[.string a0_0,.int .u16 a0_1,.int .u16 a0_2,.bool a0_3],.agg #[.string a1_0,.int .u16 a1_1,.int .u16 a1_2,.bool a1_3],.int .u16 a2,.int .u16 a3,.int .u16 a4] w fun e w' => e = .returned (.bool true)∧Below w.heap.size w w':=by
 obtain ⟨k,h⟩:=P a0_0 a0_1 a0_2 a0_3 a1_0 a1_1 a1_2 a1_3 a2 a3 a4 w0_0 w0_1 w0_2 w1_0 w1_1 w1_2 w2 w3 w4
 refine (nunciolaw08_QueryBack.calls k a0_0 a0_1 a0_2 a0_3 a1_0 a1_1 a1_2 a1_3 a2 a3 a4 true w h rfl).mono ?_
 rintro e w' ⟨rfl,hd⟩
 exact ⟨rfl,hd⟩

end Go.Proofs.Ythkdfnbhlinhiaa.Mine
