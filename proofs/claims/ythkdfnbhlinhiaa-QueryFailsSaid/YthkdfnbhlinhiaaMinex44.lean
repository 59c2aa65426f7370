-- Written by this repo's own printer (wip/print), which builds on the kit's.
import Derived.Test.YthkdfnbhlinhiaaMinex0
import Derived.Test.YthkdfnbhlinhiaaMinex7
import Derived.Test.YthkdfnbhlinhiaaMinex8
import Derived.Test.YthkdfnbhlinhiaaMinex9
import Derived.Test.YthkdfnbhlinhiaaMinex10
import Derived.Test.YthkdfnbhlinhiaaMinex11
import Derived.Test.YthkdfnbhlinhiaaMinex15
import Derived.Test.YthkdfnbhlinhiaaMinex16
import Derived.Test.YthkdfnbhlinhiaaMinex20
import Derived.Test.YthkdfnbhlinhiaaMinex22
import Derived.Test.YthkdfnbhlinhiaaMinex28
namespace Go.Proofs.Ythkdfnbhlinhiaa.Mine
open Go.RowKit Go.Proofs.YthkdfnbhlinhiaaW.PrintWords Go.Proofs.YthkdfnbhlinhiaaW.PrintLast Go.Proofs.YthkdfnbhlinhiaaW.PrintMore
attribute [local go_sem] max2_int min2_int max_two min_two max_three min_three max_four min_four   -- for this text's walks alone
set_option linter.unusedVariables false
set_option linter.unusedSimpArgs false

/-! ### nunciolaw08_QueryFails: function 8 -/
def nunciolaw08_QueryFails.j0 : Nat → Int → Bool → ByteArray → Int → Int → Bool → Option (Bool)
 | 0, _, _, _, _, _, _ => none
 | k + 1, x1, x26, x571000, x571001, x571002, x571003 => if x26 = true then (some true) else ((query_Make.f x1 x571000 x571001 x571002 x571003).bind fun bt574 => ((query_Fail.f x1 bt574.1 bt574.2.1 bt574.2.2.1 bt574.2.2.2.1 bt574.2.2.2.2.1 bt574.2.2.2.2.2).bind fun bt588 => ((query_Ask.f k bt588.1 bt588.2.1 bt588.2.2.1 bt588.2.2.2.1 bt588.2.2.2.2.1 bt588.2.2.2.2.2).bind fun bt603 => ((query_Fits.f k x571000 x571001 x571002 x571003 x1 bt588.1 bt588.2.1 bt588.2.2.1 bt588.2.2.2.1 bt588.2.2.2.2.1 bt588.2.2.2.2.2).bind fun t609 => (if t609 = true then ((query_Negative.f bt588.1 bt588.2.1 bt588.2.2.1 bt588.2.2.2.1 bt588.2.2.2.2.1 bt588.2.2.2.2.2).bind fun t610 => (if t610 = true then (some false) else ((query_Least.f bt588.1 bt588.2.1 bt588.2.2.1 bt588.2.2.2.1 bt588.2.2.2.2.1 bt588.2.2.2.2.2).bind fun t611 => (if t611 = 0 then (if bt603.2.2.2.2 = 107 then (if bt588.2.1 = 33154 then ((query_Age.f k bt588.1 bt588.2.1 bt588.2.2.1 bt588.2.2.2.1 bt588.2.2.2.2.1 bt588.2.2.2.2.2 9).bind fun bt612 => ((nuncioref06_Same.f k bt612.1 bt612.2.1 bt612.2.2.1 bt612.2.2.2.1 bt612.2.2.2.2.1 bt612.2.2.2.2.2 bt588.1 bt588.2.1 bt588.2.2.1 bt588.2.2.2.1 bt588.2.2.2.2.1 bt588.2.2.2.2.2).bind fun t626 => (some t626))) else (some false)) else (some false)) else (some false))))) else (some false))))))
def nunciolaw08_QueryFails.f (k : Nat) (a0_0 : ByteArray) (a0_1 : Int) (a0_2 : Int) (a0_3 : Bool) (a1 : Int) : Option (Bool) := (nunciolaw08_awake.f k).bind fun t571 => (if t571 = true then ((nuncioref04_Is.f k a0_0).bind fun t572 => (if t572 = true then ((nuncioref04_Fold.f k a0_0).bind fun t573 => (if t573.toList = a0_0.toList then (nunciolaw08_QueryFails.j0 k a1 (a0_1 == 41) a0_0 a0_1 a0_2 a0_3) else (nunciolaw08_QueryFails.j0 k a1 true a0_0 a0_1 a0_2 a0_3))) else (nunciolaw08_QueryFails.j0 k a1 true a0_0 a0_1 a0_2 a0_3))) else (some false))
theorem nunciolaw08_QueryFails.mono_l : ∀ k, (∀ y0 y1 y2 y3 y4 y5, LeO (nunciolaw08_QueryFails.j0 k y0 y1 y2 y3 y4 y5) (nunciolaw08_QueryFails.j0 (k + 1) y0 y1 y2 y3 y4 y5))
 | 0 => fun _ _ _ _ _ _ r h => by simp [nunciolaw08_QueryFails.j0] at h
 | k + 1 => by
  have ih0:=nunciolaw08_QueryFails.mono_l k
  ·
   intro y0 y1 y2 y3 y4 y5
   unfold nunciolaw08_QueryFails.j0
   repeat' first
   | (with_reducible exact ih0 _ _ _ _ _ _)
   | (with_reducible exact nunciolaw08_awake.mono _)
   | (with_reducible exact nuncioref04_Fold.mono _ _)
   | (with_reducible exact nuncioref04_Is.mono _ _)
   | (with_reducible exact nuncioref06_Same.mono _ _ _ _ _ _ _ _ _ _ _ _ _)
   | (with_reducible exact query_Age.mono _ _ _ _ _ _ _ _)
   | (with_reducible exact query_Ask.mono _ _ _ _ _ _ _)
   | (with_reducible exact query_Fits.mono _ _ _ _ _ _ _ _ _ _ _ _)
   | (with_reducible exact LeO.refl _)
   | (with_reducible exact LeO.none _)
   | (with_reducible refine LeO.ite ?_ ?_)
   | (with_reducible refine LeO.bind ?_ (fun _ => ?_))
   | exact ih0 _ _ _ _ _ _
   | exact nunciolaw08_awake.mono _
   | exact nuncioref04_Fold.mono _ _
   | exact nuncioref04_Is.mono _ _
   | exact nuncioref06_Same.mono _ _ _ _ _ _ _ _ _ _ _ _ _
   | exact query_Age.mono _ _ _ _ _ _ _ _
   | exact query_Ask.mono _ _ _ _ _ _ _
   | exact query_Fits.mono _ _ _ _ _ _ _ _ _ _ _ _
   | exact LeO.none _
   | refine LeO.ite ?_ ?_
   | refine LeO.bind ?_ (fun _ => ?_)
theorem nunciolaw08_QueryFails.mono : ∀ a0 a1 a2 a3 a4 k, LeO (nunciolaw08_QueryFails.f k a0 a1 a2 a3 a4) (nunciolaw08_QueryFails.f (k + 1) a0 a1 a2 a3 a4) := by
 intro a0 a1 a2 a3 a4 k
 have ih0:=nunciolaw08_QueryFails.mono_l k
 unfold nunciolaw08_QueryFails.f
 repeat' first
   | (with_reducible exact ih0 _ _ _ _ _ _)
   | (with_reducible exact nunciolaw08_awake.mono _)
   | (with_reducible exact nuncioref04_Fold.mono _ _)
   | (with_reducible exact nuncioref04_Is.mono _ _)
   | (with_reducible exact nuncioref06_Same.mono _ _ _ _ _ _ _ _ _ _ _ _ _)
   | (with_reducible exact query_Age.mono _ _ _ _ _ _ _ _)
   | (with_reducible exact query_Ask.mono _ _ _ _ _ _ _)
   | (with_reducible exact query_Fits.mono _ _ _ _ _ _ _ _ _ _ _ _)
   | (with_reducible exact LeO.refl _)
   | (with_reducible exact LeO.none _)
   | (with_reducible refine LeO.ite ?_ ?_)
   | (with_reducible refine LeO.bind ?_ (fun _ => ?_))
   | exact ih0 _ _ _ _ _ _
   | exact nunciolaw08_awake.mono _
   | exact nuncioref04_Fold.mono _ _
   | exact nuncioref04_Is.mono _ _
   | exact nuncioref06_Same.mono _ _ _ _ _ _ _ _ _ _ _ _ _
   | exact query_Age.mono _ _ _ _ _ _ _ _
   | exact query_Ask.mono _ _ _ _ _ _ _
   | exact query_Fits.mono _ _ _ _ _ _ _ _ _ _ _ _
   | exact LeO.none _
   | refine LeO.ite ?_ ?_
   | refine LeO.bind ?_ (fun _ => ?_)
def nunciolaw08_QueryFails.T3 : Bool × List (List Nat × List Nat) := (true, [([], []), ([0], [0]), ([1], [1]), ([2], [2]), ([3, 2], [3]), ([4], [4]), ([5, 4], [4, 5]), ([6, 4, 4], [4, 6]), ([4], [4]), ([8, 4], [4, 8]), ([7, 9, 4], [4, 7, 9]), ([4, 10], [4, 10]), ([11, 7], [11]), ([12], [12]), ([13, 12], [12, 13]), ([14, 12], [12, 14]), ([12, 15], [12, 15])])
def nunciolaw08_QueryFails.B3 : List Nat := [0, 1, 3, 7, 15, 31, 63, 127, 31, 287, 1023, 2047, 4095, 8191, 16383, 32767, 65535]
theorem nunciolaw08_QueryFails.tab3 : rtab .any (opsOf Try.f8 3) = nunciolaw08_QueryFails.T3 := by kernel_rfl
theorem nunciolaw08_QueryFails.bits3 : waitsOk nunciolaw08_QueryFails.T3.2 nunciolaw08_QueryFails.B3 = true := by kernel_rfl
def nunciolaw08_QueryFails.T7 : Bool × List (List Nat × List Nat) := (true, [([], []), ([], []), ([], []), ([0, 1, 2], [0, 1, 2]), ([3, 3], [3]), ([4], [4]), ([5, 4, 4], [4, 5]), ([6, 4], [4, 6]), ([4, 7], [4, 7]), ([8, 6], [8]), ([9], [9]), ([10, 9, 9], [9, 10]), ([11, 9], [9, 11]), ([9, 12], [9, 12]), ([13, 11], [13]), ([14], [14]), ([15, 14], [14, 15]), ([14, 16], [14, 16]), ([17, 14], [17]), ([18], [18]), ([19, 18], [18, 19]), ([20, 18], [18, 20]), ([18, 21], [18, 21]), ([22, 18], [22]), ([23], [23]), ([24, 23, 23], [23, 24]), ([23], [23]), ([25, 26, 25, 23], [23, 25, 26]), ([23, 27], [23, 27]), ([28, 27, 0, 1, 2, 3, 4, 5, 6, 7, 8, 9, 10, 11, 12, 13, 14, 15, 16, 17, 18, 19, 20, 21, 22, 23, 24, 25, 26, 27, 28], [28])])
def nunciolaw08_QueryFails.B7 : List Nat := [0, 0, 0, 7, 15, 31, 63, 127, 255, 511, 1023, 2047, 4095, 8191, 16383, 32767, 65535, 131071, 262143, 524287, 1048575, 2097151, 4194303, 8388607, 16777215, 33554431, 16777215, 134217727, 268435455, 536870911]
theorem nunciolaw08_QueryFails.tab7 : rtab .any (opsOf Try.f8 7) = nunciolaw08_QueryFails.T7 := by kernel_rfl
theorem nunciolaw08_QueryFails.bits7 : waitsOk nunciolaw08_QueryFails.T7.2 nunciolaw08_QueryFails.B7 = true := by kernel_rfl
set_option maxHeartbeats 8000000 in
set_option maxRecDepth 100000 in
theorem nunciolaw08_QueryFails.calls (k : Nat) (a0_0 : ByteArray) (a0_1 : Int) (a0_2 : Int) (a0_3 : Bool) (a1 : Int) (r : Bool) (w : World) (h : nunciolaw08_QueryFails.f k a0_0 a0_1 a0_2 a0_3 a1 = some r) (hT : r = true) :
  Calls Try.prog 8 #[.agg #[.string a0_0,.int .u16 a0_1,.int .u16 a0_2,.bool a0_3],.int .u16 a1] w fun e w' => e = .returned (.bool r)∧Below w.heap.size w w':=by
 have hu28:=Try.underlying28
 have hu26:=Try.underlying26
 have HB:=Aside0.mk (Below.refl w.heap.size w)
 have HT:=Aside0.mk hT
 clear hT
 have H : ((nunciolaw08_awake.f k).bind fun t571 => (if t571 = true then ((nuncioref04_Is.f k a0_0).bind fun t572 => (if t572 = true then ((nuncioref04_Fold.f k a0_0).bind fun t573 => (if t573.toList = a0_0.toList then (nunciolaw08_QueryFails.j0 k a1 (a0_1 == 41) a0_0 a0_1 a0_2 a0_3) else (nunciolaw08_QueryFails.j0 k a1 true a0_0 a0_1 a0_2 a0_3))) else (nunciolaw08_QueryFails.j0 k a1 true a0_0 a0_1 a0_2 a0_3))) else (some false))) = some r:=h
 clear h
 replace H:=Option.bind_eq_some_iff.mp H
 obtain ⟨t571,A30,H⟩:=H
 replace H : (if t571 = true then ((nuncioref04_Is.f k a0_0).bind fun t572 => (if t572 = true then ((nuncioref04_Fold.f k a0_0).bind fun t573 => (if t573.toList = a0_0.toList then (nunciolaw08_QueryFails.j0 k a1 (a0_1 == 41) a0_0 a0_1 a0_2 a0_3) else (nunciolaw08_QueryFails.j0 k a1 true a0_0 a0_1 a0_2 a0_3))) else (nunciolaw08_QueryFails.j0 k a1 true a0_0 a0_1 a0_2 a0_3))) else (some false)) = some r:=H
 have A3:=Aside0.mk A30
 clear A30
 by_cases c4 : t571 = true
 rotate_left
 ·
  replace c4:=Bool.eq_false_iff.mpr c4
  subst c4
  have H1 : (some false) = some r:=by rw [if_neg (show ¬ (false = true) by decide)] at H;exact H
  clear H
  have H:=H1
  clear H1
  exact absurd ((Option.some.inj H).trans HT.out) (by decide)
 subst c4
 have H1 : ((nuncioref04_Is.f k a0_0).bind fun t572 => (if t572 = true then ((nuncioref04_Fold.f k a0_0).bind fun t573 => (if t573.toList = a0_0.toList then (nunciolaw08_QueryFails.j0 k a1 (a0_1 == 41) a0_0 a0_1 a0_2 a0_3) else (nunciolaw08_QueryFails.j0 k a1 true a0_0 a0_1 a0_2 a0_3))) else (nunciolaw08_QueryFails.j0 k a1 true a0_0 a0_1 a0_2 a0_3))) = some r:=by rw [if_pos rfl] at H;exact H
 clear H
 have H:=H1
 clear H1
 have HC5:=Aside0.mk H
 clear H
 go_enter Try.func8,Try.ntmps8
 go_upto_region 3 with (first|((with_reducible refine gate_dst (N:=2) rfl ?_);refine box_event ?hg (N:=2) ?hd (cs:=#[.string a0_0,.int .u16 a0_1,.int .u16 a0_2,.bool a0_3]) (t:=28) ?hr ?_;(case hd => rfl);(case hg => rfl);(case hr => first|(go_simp;done)|(go_simp;rfl));intro gb570 hg w6 hbox hb;have n0_:=Aside0.mk (below_step (by repeat (first|(with_reducible first|exact HB.out|apply qqf|apply qqd|apply qqe)|exact HB.out)) hb);have n1_:=Aside0.mk (hbox);have n2_:=Aside0.mk ((by rw [hg];exact (below_size (by repeat (first|(with_reducible first|exact HB.out|apply qqf|apply qqd|apply qqe)|exact HB.out))) : w.heap.size ≤ gb570));have n3_:=Aside0.mk ((by rw [hg];exact (below_size (by repeat (first|(with_reducible first|exact HB.out|apply qqf|apply qqd|apply qqe)|exact HB.out))) : w.heap.size ≤ gb570));clear HB;have HB:=n0_;have BK570:=n1_;have GW570:=n2_;have GE570:=n3_;clear n0_ n1_ n2_ n3_;clear hb hbox hg)|((with_reducible refine gate_callee (f:=9) rfl ?_);refine goesL_ (some 8) rfl rfl Try.func9 (by kernel_rfl) rfl #[] rfl (by (try simp only [List.map_toArray,List.map_cons,List.map_nil]);first|done|rfl|(simp only [List.length_drop,List.length_take];rfl)) ?_;(with_reducible refine (nunciolaw08_awake.calls k  true _ A3.out).mono ?_);rintro e w7 ⟨rfl,hb⟩;refine ⟨_,rfl,?_⟩;have n0_:=Aside0.mk (blk_below (g:=gb570) (o:=.cells #[.string a0_0,.int .u16 a0_1,.int .u16 a0_2,.bool a0_3] 28 (0,0)) (by (with_reducible repeat first|apply qqa|apply qqb|apply qqc);exact BK570.out) hb);have n1_:=Aside0.mk (below_step (by repeat (first|(with_reducible first|exact HB.out|apply qqf|apply qqd|apply qqe|refine qqg ?_ GE570.out)|exact HB.out)) hb);clear BK570;clear HB;have BK570:=n0_;have HB:=n1_;clear n0_ n1_;(try clear hb);(try clear hb2);(try clear hk);(try clear hi)))
 (try simp only [Act.put,qqj,qqk,qql])
 go_cut [26] (fun v26 wc => ∃ (kq : Nat) (x26_4 : Bool),v26 = .bool x26_4∧Aside0 (nunciolaw08_QueryFails.j0 kq a1 x26_4 a0_0 a0_1 a0_2 a0_3 = some r)∧Aside0 (kq ≤ k)∧Aside0 (wc.heap[gb570]? = some (.cells #[.string a0_0,.int .u16 a0_1,.int .u16 a0_2,.bool a0_3] 28 (0,0)))∧Aside0 (Below w.heap.size w wc))
 case first =>
  have H:=HC5.out
  clear HC5
  replace H:=Option.bind_eq_some_iff.mp H
  obtain ⟨t572,A80,H⟩:=H
  replace H : (if t572 = true then ((nuncioref04_Fold.f k a0_0).bind fun t573 => (if t573.toList = a0_0.toList then (nunciolaw08_QueryFails.j0 k a1 (a0_1 == 41) a0_0 a0_1 a0_2 a0_3) else (nunciolaw08_QueryFails.j0 k a1 true a0_0 a0_1 a0_2 a0_3))) else (nunciolaw08_QueryFails.j0 k a1 true a0_0 a0_1 a0_2 a0_3)) = some r:=H
  have A8:=Aside0.mk A80
  clear A80
  by_cases c9 : t572 = true
  ·
   subst c9
   have H1 : ((nuncioref04_Fold.f k a0_0).bind fun t573 => (if t573.toList = a0_0.toList then (nunciolaw08_QueryFails.j0 k a1 (a0_1 == 41) a0_0 a0_1 a0_2 a0_3) else (nunciolaw08_QueryFails.j0 k a1 true a0_0 a0_1 a0_2 a0_3))) = some r:=by rw [if_pos rfl] at H;exact H
   clear H
   have H:=H1
   clear H1
   replace H:=Option.bind_eq_some_iff.mp H
   obtain ⟨t573,A100,H⟩:=H
   replace H : (if t573.toList = a0_0.toList then (nunciolaw08_QueryFails.j0 k a1 (a0_1 == 41) a0_0 a0_1 a0_2 a0_3) else (nunciolaw08_QueryFails.j0 k a1 true a0_0 a0_1 a0_2 a0_3)) = some r:=H
   have A10:=Aside0.mk A100
   clear A100
   by_cases c11 : t573.toList = a0_0.toList
   ·
    rw [if_pos c11] at H
    have c11b0 : (t573.toList == a0_0.toList) = true:=beq_iff_eq.mpr c11
    have c11b1 : (t573.toList != a0_0.toList) = false:=bne_eq_false_iff_eq.mpr c11
    clear c11
    (first|rw [c11b0]|rw [c11b1]|(simp only [i64_w,i32_w];rw [c11b0])|skip)
    have H':=Aside0.mk H
    clear H
    try go_wp2
    have n0_:=Aside0.mk (qqb BK570.out)
    have n1_:=Aside0.mk (qqe HB.out)
    clear BK570
    clear HB
    have BK570:=n0_
    have HB:=n1_
    clear n0_ n1_
    refine start_ (n:=17) (S:=fun w' => w'.cell? ⟨gb570,0,none⟩ = some (.string a0_0)∧w'.cell? ⟨gb570,1,none⟩ = some (.int .u16 a0_1)∧w'.cell? ⟨gb570,2,none⟩ = some (.int .u16 a0_2)∧w'.cell? ⟨gb570,3,none⟩ = some (.bool a0_3)) (ds:=[]) #[false,false,false,false,false,false,false,false,false,false,false,false,false,false,false,false,false] (by kernel_rfl) rfl rfl ⟨(qqh BK570.out 0).trans rfl,(qqh BK570.out 1).trans rfl,(qqh BK570.out 2).trans rfl,(qqh BK570.out 3).trans rfl⟩ (fun hHeld => ?_);refine with_tabW nunciolaw08_QueryFails.tab3 nunciolaw08_QueryFails.bits3 (fun HT_ HW_ => ?_)
    generalize w7.drew = w12 at BK570 HB hHeld ⊢
    refine pure_ (i:=0) (N:=some 10) (v:=?_) (a':=?_) #[true,false,false,false,false,false,false,false,false,false,false,false,false,false,false,false,false] rfl rfl (any_of HT_.out (by kernel_rfl)) (fun _ _ _ h => h) (Or.inl ⟨by rfl,?_⟩) ?_ ?_
    rotate_left
    ·
     intro w'
     go_simp
     with_reducible rfl
    rotate_left
    ·
     simp only [Act.put,qqj,qqk,qql,i64_w,i32_w]
     rfl
    refine take_ (i:=1) (N:=some 11) (v:=?_) (a':=?_) #[true,true,false,false,false,false,false,false,false,false,false,false,false,false,false,false,false] rfl rfl (take_ofW HT_.out HW_.out (by kernel_rfl)) (fun _ _ _ h => h) (Or.inl ⟨by rfl,?_⟩) hHeld ?_ ?_
    rotate_left
    ·
     rintro w' ⟨s0,s1,s2,s3⟩
     go_simp
     with_reducible rfl
    rotate_left
    ·
     simp only [Act.put,qqj,qqk,qql,i64_w,i32_w]
     rfl
    refine one_ (i:=2) (N:=some 12) #[true,true,true,false,false,false,false,false,false,false,false,false,false,false,false,false,false] rfl rfl (one_of HT_.out (by kernel_rfl)) (by decide) (fun K hK => ?_)
    refine goes_ Try.func29 (by kernel_rfl) rfl #[.string a0_0] (by rfl) rfl rfl (by (try simp only [List.map_toArray,List.map_cons,List.map_nil]);first|done|rfl|(simp only [List.length_drop,List.length_take];rfl)) ?_
    with_reducible refine (nuncioref04_Is.calls k a0_0 true _ A8.out).mono ?_
    rintro e w13 ⟨rfl,hb⟩
    refine ⟨_,rfl,?_⟩
    have n0_:=Aside0.mk (blk_below (g:=gb570) (o:=.cells #[.string a0_0,.int .u16 a0_1,.int .u16 a0_2,.bool a0_3] 28 (0,0)) (by (with_reducible repeat first|apply qqa|apply qqb|apply qqc);exact BK570.out) hb)
    have n1_:=Aside0.mk (below_step (by repeat (first|(with_reducible first|exact HB.out|apply qqf|apply qqd|apply qqe|refine qqg ?_ GE570.out)|exact HB.out)) hb)
    clear BK570
    clear HB
    have BK570:=n0_
    have HB:=n1_
    clear n0_ n1_
    (try clear hb)
    (try clear hb2)
    (try clear hk)
    (try clear hi)
    refine hK.out _ _ ⟨(qqh BK570.out 0).trans rfl,(qqh BK570.out 1).trans rfl,(qqh BK570.out 2).trans rfl,(qqh BK570.out 3).trans rfl⟩ (fun hHeld => ?_)
    clear hK K
    refine norm_ (a':=?_) ?_ ?_
    rotate_left
    ·
     show Act.put _ (some 12) _ = _
     simp only [Act.put,qqj,qqk,qql,i64_w,i32_w]
     rfl
    refine pure_ (i:=3) (N:=some 13) (v:=?_) (a':=?_) #[true,true,true,true,false,false,false,false,false,false,false,false,false,false,false,false,false] rfl rfl (any_of HT_.out (by kernel_rfl)) (fun _ _ _ h => h) (Or.inl ⟨by rfl,?_⟩) ?_ ?_
    rotate_left
    ·
     intro w'
     go_simp
     with_reducible rfl
    rotate_left
    ·
     simp only [Act.put,qqj,qqk,qql,i64_w,i32_w]
     rfl
    refine pure_ (i:=4) (N:=some 14) (v:=?_) (a':=?_) #[true,true,true,true,true,false,false,false,false,false,false,false,false,false,false,false,false] rfl rfl (any_of HT_.out (by kernel_rfl)) (fun _ _ _ h => h) (Or.inl ⟨by rfl,?_⟩) ?_ ?_
    rotate_left
    ·
     intro w'
     go_simp
     with_reducible rfl
    rotate_left
    ·
     simp only [Act.put,qqj,qqk,qql,i64_w,i32_w]
     rfl
    refine pure_ (i:=5) (N:=some 15) (v:=?_) (a':=?_) #[true,true,true,true,true,true,false,false,false,false,false,false,false,false,false,false,false] rfl rfl (any_of HT_.out (by kernel_rfl)) (fun _ _ _ h => h) (Or.inl ⟨by rfl,?_⟩) ?_ ?_
    rotate_left
    ·
     intro w'
     go_simp
     with_reducible rfl
    rotate_left
    ·
     simp only [Act.put,qqj,qqk,qql,i64_w,i32_w]
     rfl
    refine pure_ (i:=8) (N:=some 18) (v:=?_) (a':=?_) #[true,true,true,true,true,true,false,false,true,false,false,false,false,false,false,false,false] rfl rfl (any_of HT_.out (by kernel_rfl)) (fun _ _ _ h => h) (Or.inl ⟨by rfl,?_⟩) ?_ ?_
    rotate_left
    ·
     intro w'
     go_simp
     with_reducible rfl
    rotate_left
    ·
     simp only [Act.put,qqj,qqk,qql,i64_w,i32_w]
     rfl
    refine take_ (i:=6) (N:=some 16) (v:=?_) (a':=?_) #[true,true,true,true,true,true,true,false,true,false,false,false,false,false,false,false,false] rfl rfl (take_ofW HT_.out HW_.out (by kernel_rfl)) (fun _ _ _ h => h) (Or.inl ⟨by rfl,?_⟩) hHeld ?_ ?_
    rotate_left
    ·
     rintro w' ⟨s0,s1,s2,s3⟩
     go_simp
     with_reducible rfl
    rotate_left
    ·
     simp only [Act.put,qqj,qqk,qql,i64_w,i32_w]
     rfl
    refine take_ (i:=9) (N:=some 19) (v:=?_) (a':=?_) #[true,true,true,true,true,true,true,false,true,true,false,false,false,false,false,false,false] rfl rfl (take_ofW HT_.out HW_.out (by kernel_rfl)) (fun _ _ _ h => h) (Or.inl ⟨by rfl,?_⟩) hHeld ?_ ?_
    rotate_left
    ·
     rintro w' ⟨s0,s1,s2,s3⟩
     go_simp
     with_reducible rfl
    rotate_left
    ·
     simp only [Act.put,qqj,qqk,qql,i64_w,i32_w]
     rfl
    refine one_ (i:=7) (N:=some 17) #[true,true,true,true,true,true,true,true,true,true,false,false,false,false,false,false,false] rfl rfl (one_of HT_.out (by kernel_rfl)) (by decide) (fun K hK => ?_)
    refine goes_ Try.func30 (by kernel_rfl) rfl #[.string a0_0] (by rfl) rfl rfl (by (try simp only [List.map_toArray,List.map_cons,List.map_nil]);first|done|rfl|(simp only [List.length_drop,List.length_take];rfl)) ?_
    with_reducible refine (nuncioref04_Fold.calls k a0_0 t573 _ A10.out).mono ?_
    rintro e w14 ⟨rfl,hb⟩
    refine ⟨_,rfl,?_⟩
    have n0_:=Aside0.mk (blk_below (g:=gb570) (o:=.cells #[.string a0_0,.int .u16 a0_1,.int .u16 a0_2,.bool a0_3] 28 (0,0)) (by (with_reducible repeat first|apply qqa|apply qqb|apply qqc);exact BK570.out) hb)
    have n1_:=Aside0.mk (below_step (by repeat (first|(with_reducible first|exact HB.out|apply qqf|apply qqd|apply qqe|refine qqg ?_ GE570.out)|exact HB.out)) hb)
    clear BK570
    clear HB
    have BK570:=n0_
    have HB:=n1_
    clear n0_ n1_
    (try clear hb)
    (try clear hb2)
    (try clear hk)
    (try clear hi)
    refine hK.out _ _ ⟨(qqh BK570.out 0).trans rfl,(qqh BK570.out 1).trans rfl,(qqh BK570.out 2).trans rfl,(qqh BK570.out 3).trans rfl⟩ (fun hHeld => ?_)
    clear hK K
    refine norm_ (a':=?_) ?_ ?_
    rotate_left
    ·
     show Act.put _ (some 17) _ = _
     simp only [Act.put,qqj,qqk,qql,i64_w,i32_w]
     rfl
    refine pure_ (i:=10) (N:=some 20) (v:=?_) (a':=?_) #[true,true,true,true,true,true,true,true,true,true,true,false,false,false,false,false,false] rfl rfl (any_of HT_.out (by kernel_rfl)) (fun _ _ _ h => h) (Or.inl ⟨by rfl,?_⟩) ?_ ?_
    rotate_left
    ·
     intro w'
     go_simp
     with_reducible rfl
    rotate_left
    ·
     simp only [Act.put,qqj,qqk,qql,i64_w,i32_w]
     rfl
    refine pure_ (i:=11) (N:=some 21) (v:=?_) (a':=?_) #[true,true,true,true,true,true,true,true,true,true,true,true,false,false,false,false,false] rfl rfl (any_of HT_.out (by kernel_rfl)) (fun _ _ _ h => h) (Or.inl ⟨by rfl,?_⟩) ?_ ?_
    rotate_left
    ·
     intro w'
     go_simp
     with_reducible rfl
    rotate_left
    ·
     simp only [Act.put,qqj,qqk,qql,i64_w,i32_w]
     rfl
    refine pure_ (i:=12) (N:=some 22) (v:=?_) (a':=?_) #[true,true,true,true,true,true,true,true,true,true,true,true,true,false,false,false,false] rfl rfl (any_of HT_.out (by kernel_rfl)) (fun _ _ _ h => h) (Or.inl ⟨by rfl,?_⟩) ?_ ?_
    rotate_left
    ·
     intro w'
     go_simp
     with_reducible rfl
    rotate_left
    ·
     simp only [Act.put,qqj,qqk,qql,i64_w,i32_w]
     rfl
    refine pure_ (i:=13) (N:=some 23) (v:=?_) (a':=?_) #[true,true,true,true,true,true,true,true,true,true,true,true,true,true,false,false,false] rfl rfl (any_of HT_.out (by kernel_rfl)) (fun _ _ _ h => h) (Or.inl ⟨by rfl,?_⟩) ?_ ?_
    rotate_left
    ·
     intro w'
     go_simp
     with_reducible rfl
    rotate_left
    ·
     simp only [Act.put,qqj,qqk,qql,i64_w,i32_w]
     rfl
    refine take_ (i:=14) (N:=some 24) (v:=?_) (a':=?_) #[true,true,true,true,true,true,true,true,true,true,true,true,true,true,true,false,false] rfl rfl (take_ofW HT_.out HW_.out (by kernel_rfl)) (fun _ _ _ h => h) (Or.inl ⟨by rfl,?_⟩) hHeld ?_ ?_
    rotate_left
    ·
     rintro w' ⟨s0,s1,s2,s3⟩
     go_simp
     with_reducible rfl
    rotate_left
    ·
     simp only [Act.put,qqj,qqk,qql,i64_w,i32_w]
     rfl
    refine pure_ (i:=15) (N:=some 25) (v:=?_) (a':=?_) #[true,true,true,true,true,true,true,true,true,true,true,true,true,true,true,true,false] rfl rfl (any_of HT_.out (by kernel_rfl)) (fun _ _ _ h => h) (Or.inl ⟨by rfl,?_⟩) ?_ ?_
    rotate_left
    ·
     intro w'
     go_simp
     with_reducible rfl
    rotate_left
    ·
     simp only [Act.put,qqj,qqk,qql,i64_w,i32_w]
     rfl
    refine pure_ (i:=16) (N:=some 26) (v:=?_) (a':=?_) #[true,true,true,true,true,true,true,true,true,true,true,true,true,true,true,true,true] rfl rfl (any_of HT_.out (by kernel_rfl)) (fun _ _ _ h => h) (Or.inl ⟨by rfl,?_⟩) ?_ ?_
    rotate_left
    ·
     intro w'
     go_simp
     with_reducible rfl
    rotate_left
    ·
     simp only [Act.put,qqj,qqk,qql,i64_w,i32_w]
     rfl
    refine done_ (done_of HT_.out (by kernel_rfl)) ?_
    try go_wp2
    go_meet
    case rel => exact ⟨_,((a0_1 == 41)),(by first|rfl|(simp;done)|(simp [*];done)),H',⟨by first|omega|exact Nat.le_refl _⟩,⟨by (with_reducible repeat first|apply qqa|apply qqb|apply qqc);exact BK570.out⟩,⟨by repeat (first|(with_reducible first|exact HB.out|apply qqf|apply qqd|apply qqe|refine qqg ?_ GE570.out)|exact HB.out)⟩⟩
   ·
    rw [if_neg c11] at H
    have c11b0 : (t573.toList == a0_0.toList) = false:=beq_eq_false_iff_ne.mpr c11
    have c11b1 : (t573.toList != a0_0.toList) = true:=bne_iff_ne.mpr c11
    (first|rw [c11b0]|rw [c11b1]|(simp only [i64_w,i32_w];rw [c11b0])|skip)
    have H':=Aside0.mk H
    clear H
    try go_wp2
    have n0_:=Aside0.mk (qqb BK570.out)
    have n1_:=Aside0.mk (qqe HB.out)
    clear BK570
    clear HB
    have BK570:=n0_
    have HB:=n1_
    clear n0_ n1_
    refine start_ (n:=17) (S:=fun w' => w'.cell? ⟨gb570,0,none⟩ = some (.string a0_0)∧w'.cell? ⟨gb570,1,none⟩ = some (.int .u16 a0_1)∧w'.cell? ⟨gb570,2,none⟩ = some (.int .u16 a0_2)∧w'.cell? ⟨gb570,3,none⟩ = some (.bool a0_3)) (ds:=[]) #[false,false,false,false,false,false,false,false,false,false,false,false,false,false,false,false,false] (by kernel_rfl) rfl rfl ⟨(qqh BK570.out 0).trans rfl,(qqh BK570.out 1).trans rfl,(qqh BK570.out 2).trans rfl,(qqh BK570.out 3).trans rfl⟩ (fun hHeld => ?_);refine with_tabW nunciolaw08_QueryFails.tab3 nunciolaw08_QueryFails.bits3 (fun HT_ HW_ => ?_)
    generalize w7.drew = w15 at BK570 HB hHeld ⊢
    refine pure_ (i:=0) (N:=some 10) (v:=?_) (a':=?_) #[true,false,false,false,false,false,false,false,false,false,false,false,false,false,false,false,false] rfl rfl (any_of HT_.out (by kernel_rfl)) (fun _ _ _ h => h) (Or.inl ⟨by rfl,?_⟩) ?_ ?_
    rotate_left
    ·
     intro w'
     go_simp
     with_reducible rfl
    rotate_left
    ·
     simp only [Act.put,qqj,qqk,qql,i64_w,i32_w]
     rfl
    refine take_ (i:=1) (N:=some 11) (v:=?_) (a':=?_) #[true,true,false,false,false,false,false,false,false,false,false,false,false,false,false,false,false] rfl rfl (take_ofW HT_.out HW_.out (by kernel_rfl)) (fun _ _ _ h => h) (Or.inl ⟨by rfl,?_⟩) hHeld ?_ ?_
    rotate_left
    ·
     rintro w' ⟨s0,s1,s2,s3⟩
     go_simp
     with_reducible rfl
    rotate_left
    ·
     simp only [Act.put,qqj,qqk,qql,i64_w,i32_w]
     rfl
    refine one_ (i:=2) (N:=some 12) #[true,true,true,false,false,false,false,false,false,false,false,false,false,false,false,false,false] rfl rfl (one_of HT_.out (by kernel_rfl)) (by decide) (fun K hK => ?_)
    refine goes_ Try.func29 (by kernel_rfl) rfl #[.string a0_0] (by rfl) rfl rfl (by (try simp only [List.map_toArray,List.map_cons,List.map_nil]);first|done|rfl|(simp only [List.length_drop,List.length_take];rfl)) ?_
    with_reducible refine (nuncioref04_Is.calls k a0_0 true _ A8.out).mono ?_
    rintro e w16 ⟨rfl,hb⟩
    refine ⟨_,rfl,?_⟩
    have n0_:=Aside0.mk (blk_below (g:=gb570) (o:=.cells #[.string a0_0,.int .u16 a0_1,.int .u16 a0_2,.bool a0_3] 28 (0,0)) (by (with_reducible repeat first|apply qqa|apply qqb|apply qqc);exact BK570.out) hb)
    have n1_:=Aside0.mk (below_step (by repeat (first|(with_reducible first|exact HB.out|apply qqf|apply qqd|apply qqe|refine qqg ?_ GE570.out)|exact HB.out)) hb)
    clear BK570
    clear HB
    have BK570:=n0_
    have HB:=n1_
    clear n0_ n1_
    (try clear hb)
    (try clear hb2)
    (try clear hk)
    (try clear hi)
    refine hK.out _ _ ⟨(qqh BK570.out 0).trans rfl,(qqh BK570.out 1).trans rfl,(qqh BK570.out 2).trans rfl,(qqh BK570.out 3).trans rfl⟩ (fun hHeld => ?_)
    clear hK K
    refine norm_ (a':=?_) ?_ ?_
    rotate_left
    ·
     show Act.put _ (some 12) _ = _
     simp only [Act.put,qqj,qqk,qql,i64_w,i32_w]
     rfl
    refine pure_ (i:=3) (N:=some 13) (v:=?_) (a':=?_) #[true,true,true,true,false,false,false,false,false,false,false,false,false,false,false,false,false] rfl rfl (any_of HT_.out (by kernel_rfl)) (fun _ _ _ h => h) (Or.inl ⟨by rfl,?_⟩) ?_ ?_
    rotate_left
    ·
     intro w'
     go_simp
     with_reducible rfl
    rotate_left
    ·
     simp only [Act.put,qqj,qqk,qql,i64_w,i32_w]
     rfl
    refine pure_ (i:=4) (N:=some 14) (v:=?_) (a':=?_) #[true,true,true,true,true,false,false,false,false,false,false,false,false,false,false,false,false] rfl rfl (any_of HT_.out (by kernel_rfl)) (fun _ _ _ h => h) (Or.inl ⟨by rfl,?_⟩) ?_ ?_
    rotate_left
    ·
     intro w'
     go_simp
     with_reducible rfl
    rotate_left
    ·
     simp only [Act.put,qqj,qqk,qql,i64_w,i32_w]
     rfl
    refine pure_ (i:=5) (N:=some 15) (v:=?_) (a':=?_) #[true,true,true,true,true,true,false,false,false,false,false,false,false,false,false,false,false] rfl rfl (any_of HT_.out (by kernel_rfl)) (fun _ _ _ h => h) (Or.inl ⟨by rfl,?_⟩) ?_ ?_
    rotate_left
    ·
     intro w'
     go_simp
     with_reducible rfl
    rotate_left
    ·
     simp only [Act.put,qqj,qqk,qql,i64_w,i32_w]
     rfl
    refine pure_ (i:=8) (N:=some 18) (v:=?_) (a':=?_) #[true,true,true,true,true,true,false,false,true,false,false,false,false,false,false,false,false] rfl rfl (any_of HT_.out (by kernel_rfl)) (fun _ _ _ h => h) (Or.inl ⟨by rfl,?_⟩) ?_ ?_
    rotate_left
    ·
     intro w'
     go_simp
     with_reducible rfl
    rotate_left
    ·
     simp only [Act.put,qqj,qqk,qql,i64_w,i32_w]
     rfl
    refine take_ (i:=6) (N:=some 16) (v:=?_) (a':=?_) #[true,true,true,true,true,true,true,false,true,false,false,false,false,false,false,false,false] rfl rfl (take_ofW HT_.out HW_.out (by kernel_rfl)) (fun _ _ _ h => h) (Or.inl ⟨by rfl,?_⟩) hHeld ?_ ?_
    rotate_left
    ·
     rintro w' ⟨s0,s1,s2,s3⟩
     go_simp
     with_reducible rfl
    rotate_left
    ·
     simp only [Act.put,qqj,qqk,qql,i64_w,i32_w]
     rfl
    refine take_ (i:=9) (N:=some 19) (v:=?_) (a':=?_) #[true,true,true,true,true,true,true,false,true,true,false,false,false,false,false,false,false] rfl rfl (take_ofW HT_.out HW_.out (by kernel_rfl)) (fun _ _ _ h => h) (Or.inl ⟨by rfl,?_⟩) hHeld ?_ ?_
    rotate_left
    ·
     rintro w' ⟨s0,s1,s2,s3⟩
     go_simp
     with_reducible rfl
    rotate_left
    ·
     simp only [Act.put,qqj,qqk,qql,i64_w,i32_w]
     rfl
    refine one_ (i:=7) (N:=some 17) #[true,true,true,true,true,true,true,true,true,true,false,false,false,false,false,false,false] rfl rfl (one_of HT_.out (by kernel_rfl)) (by decide) (fun K hK => ?_)
    refine goes_ Try.func30 (by kernel_rfl) rfl #[.string a0_0] (by rfl) rfl rfl (by (try simp only [List.map_toArray,List.map_cons,List.map_nil]);first|done|rfl|(simp only [List.length_drop,List.length_take];rfl)) ?_
    with_reducible refine (nuncioref04_Fold.calls k a0_0 t573 _ A10.out).mono ?_
    rintro e w17 ⟨rfl,hb⟩
    refine ⟨_,rfl,?_⟩
    have n0_:=Aside0.mk (blk_below (g:=gb570) (o:=.cells #[.string a0_0,.int .u16 a0_1,.int .u16 a0_2,.bool a0_3] 28 (0,0)) (by (with_reducible repeat first|apply qqa|apply qqb|apply qqc);exact BK570.out) hb)
    have n1_:=Aside0.mk (below_step (by repeat (first|(with_reducible first|exact HB.out|apply qqf|apply qqd|apply qqe|refine qqg ?_ GE570.out)|exact HB.out)) hb)
    clear BK570
    clear HB
    have BK570:=n0_
    have HB:=n1_
    clear n0_ n1_
    (try clear hb)
    (try clear hb2)
    (try clear hk)
    (try clear hi)
    refine hK.out _ _ ⟨(qqh BK570.out 0).trans rfl,(qqh BK570.out 1).trans rfl,(qqh BK570.out 2).trans rfl,(qqh BK570.out 3).trans rfl⟩ (fun hHeld => ?_)
    clear hK K
    refine norm_ (a':=?_) ?_ ?_
    rotate_left
    ·
     show Act.put _ (some 17) _ = _
     simp only [Act.put,qqj,qqk,qql,i64_w,i32_w]
     rfl
    refine pure_ (i:=10) (N:=some 20) (v:=?_) (a':=?_) #[true,true,true,true,true,true,true,true,true,true,true,false,false,false,false,false,false] rfl rfl (any_of HT_.out (by kernel_rfl)) (fun _ _ _ h => h) (Or.inl ⟨by rfl,?_⟩) ?_ ?_
    rotate_left
    ·
     intro w'
     go_simp
     with_reducible rfl
    rotate_left
    ·
     simp only [Act.put,qqj,qqk,qql,i64_w,i32_w]
     rfl
    refine pure_ (i:=11) (N:=some 21) (v:=?_) (a':=?_) #[true,true,true,true,true,true,true,true,true,true,true,true,false,false,false,false,false] rfl rfl (any_of HT_.out (by kernel_rfl)) (fun _ _ _ h => h) (Or.inl ⟨by rfl,?_⟩) ?_ ?_
    rotate_left
    ·
     intro w'
     go_simp
     with_reducible rfl
    rotate_left
    ·
     simp only [Act.put,qqj,qqk,qql,i64_w,i32_w]
     rfl
    refine pure_ (i:=12) (N:=some 22) (v:=?_) (a':=?_) #[true,true,true,true,true,true,true,true,true,true,true,true,true,false,false,false,false] rfl rfl (any_of HT_.out (by kernel_rfl)) (fun _ _ _ h => h) (Or.inl ⟨by rfl,?_⟩) ?_ ?_
    rotate_left
    ·
     intro w'
     go_simp
     with_reducible rfl
    rotate_left
    ·
     simp only [Act.put,qqj,qqk,qql,i64_w,i32_w]
     rfl
    refine pure_ (i:=13) (N:=some 23) (v:=undef) (a':=?_) #[true,true,true,true,true,true,true,true,true,true,true,true,true,true,false,false,false] rfl rfl (any_of HT_.out (by kernel_rfl)) (fun _ _ _ h => h) (Or.inr ⟨by rfl,rfl⟩) ?_ ?_
    rotate_left
    ·
     simp only [Act.put,qqj,qqk,qql,i64_w,i32_w]
     rfl
    refine pure_ (i:=14) (N:=some 24) (v:=undef) (a':=?_) #[true,true,true,true,true,true,true,true,true,true,true,true,true,true,true,false,false] rfl rfl (any_of HT_.out (by kernel_rfl)) (fun _ _ _ h => h) (Or.inr ⟨by rfl,rfl⟩) ?_ ?_
    rotate_left
    ·
     simp only [Act.put,qqj,qqk,qql,i64_w,i32_w]
     rfl
    refine pure_ (i:=15) (N:=some 25) (v:=undef) (a':=?_) #[true,true,true,true,true,true,true,true,true,true,true,true,true,true,true,true,false] rfl rfl (any_of HT_.out (by kernel_rfl)) (fun _ _ _ h => h) (Or.inr ⟨by rfl,rfl⟩) ?_ ?_
    rotate_left
    ·
     simp only [Act.put,qqj,qqk,qql,i64_w,i32_w]
     rfl
    refine pure_ (i:=16) (N:=some 26) (v:=?_) (a':=?_) #[true,true,true,true,true,true,true,true,true,true,true,true,true,true,true,true,true] rfl rfl (any_of HT_.out (by kernel_rfl)) (fun _ _ _ h => h) (Or.inl ⟨by rfl,?_⟩) ?_ ?_
    rotate_left
    ·
     intro w'
     go_simp
     with_reducible rfl
    rotate_left
    ·
     simp only [Act.put,qqj,qqk,qql,i64_w,i32_w]
     rfl
    refine done_ (done_of HT_.out (by kernel_rfl)) ?_
    try go_wp2
    go_meet
    case rel => exact ⟨_,(true),(by first|rfl|(simp;done)|(simp [*];done)),H',⟨by first|omega|exact Nat.le_refl _⟩,⟨by (with_reducible repeat first|apply qqa|apply qqb|apply qqc);exact BK570.out⟩,⟨by repeat (first|(with_reducible first|exact HB.out|apply qqf|apply qqd|apply qqe|refine qqg ?_ GE570.out)|exact HB.out)⟩⟩
  ·
   replace c9:=Bool.eq_false_iff.mpr c9
   subst c9
   have H1 : (nunciolaw08_QueryFails.j0 k a1 true a0_0 a0_1 a0_2 a0_3) = some r:=by rw [if_neg (show ¬ (false = true) by decide)] at H;exact H
   clear H
   have H:=H1
   clear H1
   have H':=Aside0.mk H
   clear H
   try go_wp2
   have n0_:=Aside0.mk (qqb BK570.out)
   have n1_:=Aside0.mk (qqe HB.out)
   clear BK570
   clear HB
   have BK570:=n0_
   have HB:=n1_
   clear n0_ n1_
   refine start_ (n:=17) (S:=fun w' => w'.cell? ⟨gb570,0,none⟩ = some (.string a0_0)∧w'.cell? ⟨gb570,1,none⟩ = some (.int .u16 a0_1)∧w'.cell? ⟨gb570,2,none⟩ = some (.int .u16 a0_2)∧w'.cell? ⟨gb570,3,none⟩ = some (.bool a0_3)) (ds:=[]) #[false,false,false,false,false,false,false,false,false,false,false,false,false,false,false,false,false] (by kernel_rfl) rfl rfl ⟨(qqh BK570.out 0).trans rfl,(qqh BK570.out 1).trans rfl,(qqh BK570.out 2).trans rfl,(qqh BK570.out 3).trans rfl⟩ (fun hHeld => ?_);refine with_tabW nunciolaw08_QueryFails.tab3 nunciolaw08_QueryFails.bits3 (fun HT_ HW_ => ?_)
   generalize w7.drew = w18 at BK570 HB hHeld ⊢
   refine pure_ (i:=0) (N:=some 10) (v:=?_) (a':=?_) #[true,false,false,false,false,false,false,false,false,false,false,false,false,false,false,false,false] rfl rfl (any_of HT_.out (by kernel_rfl)) (fun _ _ _ h => h) (Or.inl ⟨by rfl,?_⟩) ?_ ?_
   rotate_left
   ·
    intro w'
    go_simp
    with_reducible rfl
   rotate_left
   ·
    simp only [Act.put,qqj,qqk,qql,i64_w,i32_w]
    rfl
   refine take_ (i:=1) (N:=some 11) (v:=?_) (a':=?_) #[true,true,false,false,false,false,false,false,false,false,false,false,false,false,false,false,false] rfl rfl (take_ofW HT_.out HW_.out (by kernel_rfl)) (fun _ _ _ h => h) (Or.inl ⟨by rfl,?_⟩) hHeld ?_ ?_
   rotate_left
   ·
    rintro w' ⟨s0,s1,s2,s3⟩
    go_simp
    with_reducible rfl
   rotate_left
   ·
    simp only [Act.put,qqj,qqk,qql,i64_w,i32_w]
    rfl
   refine one_ (i:=2) (N:=some 12) #[true,true,true,false,false,false,false,false,false,false,false,false,false,false,false,false,false] rfl rfl (one_of HT_.out (by kernel_rfl)) (by decide) (fun K hK => ?_)
   refine goes_ Try.func29 (by kernel_rfl) rfl #[.string a0_0] (by rfl) rfl rfl (by (try simp only [List.map_toArray,List.map_cons,List.map_nil]);first|done|rfl|(simp only [List.length_drop,List.length_take];rfl)) ?_
   with_reducible refine (nuncioref04_Is.calls k a0_0 false _ A8.out).mono ?_
   rintro e w19 ⟨rfl,hb⟩
   refine ⟨_,rfl,?_⟩
   have n0_:=Aside0.mk (blk_below (g:=gb570) (o:=.cells #[.string a0_0,.int .u16 a0_1,.int .u16 a0_2,.bool a0_3] 28 (0,0)) (by (with_reducible repeat first|apply qqa|apply qqb|apply qqc);exact BK570.out) hb)
   have n1_:=Aside0.mk (below_step (by repeat (first|(with_reducible first|exact HB.out|apply qqf|apply qqd|apply qqe|refine qqg ?_ GE570.out)|exact HB.out)) hb)
   clear BK570
   clear HB
   have BK570:=n0_
   have HB:=n1_
   clear n0_ n1_
   (try clear hb)
   (try clear hb2)
   (try clear hk)
   (try clear hi)
   refine hK.out _ _ ⟨(qqh BK570.out 0).trans rfl,(qqh BK570.out 1).trans rfl,(qqh BK570.out 2).trans rfl,(qqh BK570.out 3).trans rfl⟩ (fun hHeld => ?_)
   clear hK K
   refine norm_ (a':=?_) ?_ ?_
   rotate_left
   ·
    show Act.put _ (some 12) _ = _
    simp only [Act.put,qqj,qqk,qql,i64_w,i32_w]
    rfl
   refine pure_ (i:=3) (N:=some 13) (v:=?_) (a':=?_) #[true,true,true,true,false,false,false,false,false,false,false,false,false,false,false,false,false] rfl rfl (any_of HT_.out (by kernel_rfl)) (fun _ _ _ h => h) (Or.inl ⟨by rfl,?_⟩) ?_ ?_
   rotate_left
   ·
    intro w'
    go_simp
    with_reducible rfl
   rotate_left
   ·
    simp only [Act.put,qqj,qqk,qql,i64_w,i32_w]
    rfl
   refine pure_ (i:=4) (N:=some 14) (v:=?_) (a':=?_) #[true,true,true,true,true,false,false,false,false,false,false,false,false,false,false,false,false] rfl rfl (any_of HT_.out (by kernel_rfl)) (fun _ _ _ h => h) (Or.inl ⟨by rfl,?_⟩) ?_ ?_
   rotate_left
   ·
    intro w'
    go_simp
    with_reducible rfl
   rotate_left
   ·
    simp only [Act.put,qqj,qqk,qql,i64_w,i32_w]
    rfl
   refine pure_ (i:=5) (N:=some 15) (v:=undef) (a':=?_) #[true,true,true,true,true,true,false,false,false,false,false,false,false,false,false,false,false] rfl rfl (any_of HT_.out (by kernel_rfl)) (fun _ _ _ h => h) (Or.inr ⟨by rfl,rfl⟩) ?_ ?_
   rotate_left
   ·
    simp only [Act.put,qqj,qqk,qql,i64_w,i32_w]
    rfl
   refine pure_ (i:=6) (N:=some 16) (v:=undef) (a':=?_) #[true,true,true,true,true,true,true,false,false,false,false,false,false,false,false,false,false] rfl rfl (any_of HT_.out (by kernel_rfl)) (fun _ _ _ h => h) (Or.inr ⟨by rfl,rfl⟩) ?_ ?_
   rotate_left
   ·
    simp only [Act.put,qqj,qqk,qql,i64_w,i32_w]
    rfl
   refine pure_ (i:=7) (N:=some 17) (v:=undef) (a':=?_) #[true,true,true,true,true,true,true,true,false,false,false,false,false,false,false,false,false] rfl rfl (any_of HT_.out (by kernel_rfl)) (fun _ _ _ h => h) (Or.inr ⟨by rfl,rfl⟩) ?_ ?_
   rotate_left
   ·
    simp only [Act.put,qqj,qqk,qql,i64_w,i32_w]
    rfl
   refine pure_ (i:=8) (N:=some 18) (v:=undef) (a':=?_) #[true,true,true,true,true,true,true,true,true,false,false,false,false,false,false,false,false] rfl rfl (any_of HT_.out (by kernel_rfl)) (fun _ _ _ h => h) (Or.inr ⟨by rfl,rfl⟩) ?_ ?_
   rotate_left
   ·
    simp only [Act.put,qqj,qqk,qql,i64_w,i32_w]
    rfl
   refine pure_ (i:=9) (N:=some 19) (v:=undef) (a':=?_) #[true,true,true,true,true,true,true,true,true,true,false,false,false,false,false,false,false] rfl rfl (any_of HT_.out (by kernel_rfl)) (fun _ _ _ h => h) (Or.inr ⟨by rfl,rfl⟩) ?_ ?_
   rotate_left
   ·
    simp only [Act.put,qqj,qqk,qql,i64_w,i32_w]
    rfl
   refine pure_ (i:=10) (N:=some 20) (v:=undef) (a':=?_) #[true,true,true,true,true,true,true,true,true,true,true,false,false,false,false,false,false] rfl rfl (any_of HT_.out (by kernel_rfl)) (fun _ _ _ h => h) (Or.inr ⟨by rfl,rfl⟩) ?_ ?_
   rotate_left
   ·
    simp only [Act.put,qqj,qqk,qql,i64_w,i32_w]
    rfl
   refine pure_ (i:=11) (N:=some 21) (v:=?_) (a':=?_) #[true,true,true,true,true,true,true,true,true,true,true,true,false,false,false,false,false] rfl rfl (any_of HT_.out (by kernel_rfl)) (fun _ _ _ h => h) (Or.inl ⟨by rfl,?_⟩) ?_ ?_
   rotate_left
   ·
    intro w'
    go_simp
    with_reducible rfl
   rotate_left
   ·
    simp only [Act.put,qqj,qqk,qql,i64_w,i32_w]
    rfl
   refine pure_ (i:=12) (N:=some 22) (v:=?_) (a':=?_) #[true,true,true,true,true,true,true,true,true,true,true,true,true,false,false,false,false] rfl rfl (any_of HT_.out (by kernel_rfl)) (fun _ _ _ h => h) (Or.inl ⟨by rfl,?_⟩) ?_ ?_
   rotate_left
   ·
    intro w'
    go_simp
    with_reducible rfl
   rotate_left
   ·
    simp only [Act.put,qqj,qqk,qql,i64_w,i32_w]
    rfl
   refine pure_ (i:=13) (N:=some 23) (v:=undef) (a':=?_) #[true,true,true,true,true,true,true,true,true,true,true,true,true,true,false,false,false] rfl rfl (any_of HT_.out (by kernel_rfl)) (fun _ _ _ h => h) (Or.inr ⟨by rfl,rfl⟩) ?_ ?_
   rotate_left
   ·
    simp only [Act.put,qqj,qqk,qql,i64_w,i32_w]
    rfl
   refine pure_ (i:=14) (N:=some 24) (v:=undef) (a':=?_) #[true,true,true,true,true,true,true,true,true,true,true,true,true,true,true,false,false] rfl rfl (any_of HT_.out (by kernel_rfl)) (fun _ _ _ h => h) (Or.inr ⟨by rfl,rfl⟩) ?_ ?_
   rotate_left
   ·
    simp only [Act.put,qqj,qqk,qql,i64_w,i32_w]
    rfl
   refine pure_ (i:=15) (N:=some 25) (v:=undef) (a':=?_) #[true,true,true,true,true,true,true,true,true,true,true,true,true,true,true,true,false] rfl rfl (any_of HT_.out (by kernel_rfl)) (fun _ _ _ h => h) (Or.inr ⟨by rfl,rfl⟩) ?_ ?_
   rotate_left
   ·
    simp only [Act.put,qqj,qqk,qql,i64_w,i32_w]
    rfl
   refine pure_ (i:=16) (N:=some 26) (v:=?_) (a':=?_) #[true,true,true,true,true,true,true,true,true,true,true,true,true,true,true,true,true] rfl rfl (any_of HT_.out (by kernel_rfl)) (fun _ _ _ h => h) (Or.inl ⟨by rfl,?_⟩) ?_ ?_
   rotate_left
   ·
    intro w'
    go_simp
    with_reducible rfl
   rotate_left
   ·
    simp only [Act.put,qqj,qqk,qql,i64_w,i32_w]
    rfl
   refine done_ (done_of HT_.out (by kernel_rfl)) ?_
   try go_wp2
   go_meet
   case rel => exact ⟨_,(true),(by first|rfl|(simp;done)|(simp [*];done)),H',⟨by first|omega|exact Nat.le_refl _⟩,⟨by (with_reducible repeat first|apply qqa|apply qqb|apply qqc);exact BK570.out⟩,⟨by repeat (first|(with_reducible first|exact HB.out|apply qqf|apply qqd|apply qqe|refine qqg ?_ GE570.out)|exact HB.out)⟩⟩
 case rest =>
  clear HC5
  try clear c1
  try clear c2
  try clear p2
  try clear c3
  try clear c4
  try clear c8
  try clear c9
  try clear c11
  try clear c11b0
  try clear c11b1
  obtain ⟨kq,x26_4,rfl,HA,HJ4,BK570,HB⟩:=hcut
  cases kq with
  | zero => exact absurd HA.out (by simp [nunciolaw08_QueryFails.j0])
  | succ kj4 =>
   have H:=HA.out
   clear HA
   simp only [nunciolaw08_QueryFails.j0] at H
   by_cases c20 : x26_4 = true
   ·
    subst c20
    have H1 : (some true) = some r:=by rw [if_pos rfl] at H;exact H
    clear H
    have H:=H1
    clear H1
    obtain rfl:=Option.some.inj H
    go_wp2
    go_ret
    exact ⟨by first|rfl|(simp [errW_none,errW_some] <;> rfl)|(simp [*,errW_none,errW_some] <;> rfl),by repeat (first|(with_reducible first|exact HB.out|apply qqf|apply qqd|apply qqe|refine qqg ?_ GE570.out)|exact HB.out)⟩
   ·
    replace c20:=Bool.eq_false_iff.mpr c20
    subst c20
    have H1 : ((query_Make.f a1 a0_0 a0_1 a0_2 a0_3).bind fun bt574 => ((query_Fail.f a1 bt574.1 bt574.2.1 bt574.2.2.1 bt574.2.2.2.1 bt574.2.2.2.2.1 bt574.2.2.2.2.2).bind fun bt588 => ((query_Ask.f kj4 bt588.1 bt588.2.1 bt588.2.2.1 bt588.2.2.2.1 bt588.2.2.2.2.1 bt588.2.2.2.2.2).bind fun bt603 => ((query_Fits.f kj4 a0_0 a0_1 a0_2 a0_3 a1 bt588.1 bt588.2.1 bt588.2.2.1 bt588.2.2.2.1 bt588.2.2.2.2.1 bt588.2.2.2.2.2).bind fun t609 => (if t609 = true then ((query_Negative.f bt588.1 bt588.2.1 bt588.2.2.1 bt588.2.2.2.1 bt588.2.2.2.2.1 bt588.2.2.2.2.2).bind fun t610 => (if t610 = true then (some false) else ((query_Least.f bt588.1 bt588.2.1 bt588.2.2.1 bt588.2.2.2.1 bt588.2.2.2.2.1 bt588.2.2.2.2.2).bind fun t611 => (if t611 = 0 then (if bt603.2.2.2.2 = 107 then (if bt588.2.1 = 33154 then ((query_Age.f kj4 bt588.1 bt588.2.1 bt588.2.2.1 bt588.2.2.2.1 bt588.2.2.2.2.1 bt588.2.2.2.2.2 9).bind fun bt612 => ((nuncioref06_Same.f kj4 bt612.1 bt612.2.1 bt612.2.2.1 bt612.2.2.2.1 bt612.2.2.2.2.1 bt612.2.2.2.2.2 bt588.1 bt588.2.1 bt588.2.2.1 bt588.2.2.2.1 bt588.2.2.2.2.1 bt588.2.2.2.2.2).bind fun t626 => (some t626))) else (some false)) else (some false)) else (some false))))) else (some false)))))) = some r:=by rw [if_neg (show ¬ (false = true) by decide)] at H;exact H
    clear H
    have H:=H1
    clear H1
    replace H:=Option.bind_eq_some_iff.mp H
    obtain ⟨⟨t574,t575,t576,t579,t582,t585⟩,A210,H⟩:=H
    replace H : ((query_Fail.f a1 t574 t575 t576 t579 t582 t585).bind fun bt588 => ((query_Ask.f kj4 bt588.1 bt588.2.1 bt588.2.2.1 bt588.2.2.2.1 bt588.2.2.2.2.1 bt588.2.2.2.2.2).bind fun bt603 => ((query_Fits.f kj4 a0_0 a0_1 a0_2 a0_3 a1 bt588.1 bt588.2.1 bt588.2.2.1 bt588.2.2.2.1 bt588.2.2.2.2.1 bt588.2.2.2.2.2).bind fun t609 => (if t609 = true then ((query_Negative.f bt588.1 bt588.2.1 bt588.2.2.1 bt588.2.2.2.1 bt588.2.2.2.2.1 bt588.2.2.2.2.2).bind fun t610 => (if t610 = true then (some false) else ((query_Least.f bt588.1 bt588.2.1 bt588.2.2.1 bt588.2.2.2.1 bt588.2.2.2.2.1 bt588.2.2.2.2.2).bind fun t611 => (if t611 = 0 then (if bt603.2.2.2.2 = 107 then (if bt588.2.1 = 33154 then ((query_Age.f kj4 bt588.1 bt588.2.1 bt588.2.2.1 bt588.2.2.2.1 bt588.2.2.2.2.1 bt588.2.2.2.2.2 9).bind fun bt612 => ((nuncioref06_Same.f kj4 bt612.1 bt612.2.1 bt612.2.2.1 bt612.2.2.2.1 bt612.2.2.2.2.1 bt612.2.2.2.2.2 bt588.1 bt588.2.1 bt588.2.2.1 bt588.2.2.2.1 bt588.2.2.2.2.1 bt588.2.2.2.2.2).bind fun t626 => (some t626))) else (some false)) else (some false)) else (some false))))) else (some false))))) = some r:=H
    have A21:=Aside0.mk A210
    clear A210
    replace H:=Option.bind_eq_some_iff.mp H
    obtain ⟨⟨t588,t589,t590,t593,t596,t599⟩,A220,H⟩:=H
    replace H : ((query_Ask.f kj4 t588 t589 t590 t593 t596 t599).bind fun bt603 => ((query_Fits.f kj4 a0_0 a0_1 a0_2 a0_3 a1 t588 t589 t590 t593 t596 t599).bind fun t609 => (if t609 = true then ((query_Negative.f t588 t589 t590 t593 t596 t599).bind fun t610 => (if t610 = true then (some false) else ((query_Least.f t588 t589 t590 t593 t596 t599).bind fun t611 => (if t611 = 0 then (if bt603.2.2.2.2 = 107 then (if t589 = 33154 then ((query_Age.f kj4 t588 t589 t590 t593 t596 t599 9).bind fun bt612 => ((nuncioref06_Same.f kj4 bt612.1 bt612.2.1 bt612.2.2.1 bt612.2.2.2.1 bt612.2.2.2.2.1 bt612.2.2.2.2.2 t588 t589 t590 t593 t596 t599).bind fun t626 => (some t626))) else (some false)) else (some false)) else (some false))))) else (some false)))) = some r:=H
    have A22:=Aside0.mk A220
    clear A220
    replace H:=Option.bind_eq_some_iff.mp H
    obtain ⟨⟨t603,t604,t605,t606,t607⟩,A230,H⟩:=H
    replace H : ((query_Fits.f kj4 a0_0 a0_1 a0_2 a0_3 a1 t588 t589 t590 t593 t596 t599).bind fun t609 => (if t609 = true then ((query_Negative.f t588 t589 t590 t593 t596 t599).bind fun t610 => (if t610 = true then (some false) else ((query_Least.f t588 t589 t590 t593 t596 t599).bind fun t611 => (if t611 = 0 then (if t607 = 107 then (if t589 = 33154 then ((query_Age.f kj4 t588 t589 t590 t593 t596 t599 9).bind fun bt612 => ((nuncioref06_Same.f kj4 bt612.1 bt612.2.1 bt612.2.2.1 bt612.2.2.2.1 bt612.2.2.2.2.1 bt612.2.2.2.2.2 t588 t589 t590 t593 t596 t599).bind fun t626 => (some t626))) else (some false)) else (some false)) else (some false))))) else (some false))) = some r:=H
    have A23:=Aside0.mk A230
    clear A230
    replace H:=Option.bind_eq_some_iff.mp H
    obtain ⟨t609,A240,H⟩:=H
    replace H : (if t609 = true then ((query_Negative.f t588 t589 t590 t593 t596 t599).bind fun t610 => (if t610 = true then (some false) else ((query_Least.f t588 t589 t590 t593 t596 t599).bind fun t611 => (if t611 = 0 then (if t607 = 107 then (if t589 = 33154 then ((query_Age.f kj4 t588 t589 t590 t593 t596 t599 9).bind fun bt612 => ((nuncioref06_Same.f kj4 bt612.1 bt612.2.1 bt612.2.2.1 bt612.2.2.2.1 bt612.2.2.2.2.1 bt612.2.2.2.2.2 t588 t589 t590 t593 t596 t599).bind fun t626 => (some t626))) else (some false)) else (some false)) else (some false))))) else (some false)) = some r:=H
    have A24:=Aside0.mk A240
    clear A240
    by_cases c25 : t609 = true
    ·
     subst c25
     have H1 : ((query_Negative.f t588 t589 t590 t593 t596 t599).bind fun t610 => (if t610 = true then (some false) else ((query_Least.f t588 t589 t590 t593 t596 t599).bind fun t611 => (if t611 = 0 then (if t607 = 107 then (if t589 = 33154 then ((query_Age.f kj4 t588 t589 t590 t593 t596 t599 9).bind fun bt612 => ((nuncioref06_Same.f kj4 bt612.1 bt612.2.1 bt612.2.2.1 bt612.2.2.2.1 bt612.2.2.2.2.1 bt612.2.2.2.2.2 t588 t589 t590 t593 t596 t599).bind fun t626 => (some t626))) else (some false)) else (some false)) else (some false))))) = some r:=by rw [if_pos rfl] at H;exact H
     clear H
     have H:=H1
     clear H1
     replace H:=Option.bind_eq_some_iff.mp H
     obtain ⟨t610,A260,H⟩:=H
     replace H : (if t610 = true then (some false) else ((query_Least.f t588 t589 t590 t593 t596 t599).bind fun t611 => (if t611 = 0 then (if t607 = 107 then (if t589 = 33154 then ((query_Age.f kj4 t588 t589 t590 t593 t596 t599 9).bind fun bt612 => ((nuncioref06_Same.f kj4 bt612.1 bt612.2.1 bt612.2.2.1 bt612.2.2.2.1 bt612.2.2.2.2.1 bt612.2.2.2.2.2 t588 t589 t590 t593 t596 t599).bind fun t626 => (some t626))) else (some false)) else (some false)) else (some false)))) = some r:=H
     have A26:=Aside0.mk A260
     clear A260
     by_cases c27 : t610 = true
     ·
      subst c27
      have H1 : (some false) = some r:=by rw [if_pos rfl] at H;exact H
      clear H
      have H:=H1
      clear H1
      exact absurd ((Option.some.inj H).trans HT.out) (by decide)
     ·
      replace c27:=Bool.eq_false_iff.mpr c27
      subst c27
      have H1 : ((query_Least.f t588 t589 t590 t593 t596 t599).bind fun t611 => (if t611 = 0 then (if t607 = 107 then (if t589 = 33154 then ((query_Age.f kj4 t588 t589 t590 t593 t596 t599 9).bind fun bt612 => ((nuncioref06_Same.f kj4 bt612.1 bt612.2.1 bt612.2.2.1 bt612.2.2.2.1 bt612.2.2.2.2.1 bt612.2.2.2.2.2 t588 t589 t590 t593 t596 t599).bind fun t626 => (some t626))) else (some false)) else (some false)) else (some false))) = some r:=by rw [if_neg (show ¬ (false = true) by decide)] at H;exact H
      clear H
      have H:=H1
      clear H1
      replace H:=Option.bind_eq_some_iff.mp H
      obtain ⟨t611,A280,H⟩:=H
      replace H : (if t611 = 0 then (if t607 = 107 then (if t589 = 33154 then ((query_Age.f kj4 t588 t589 t590 t593 t596 t599 9).bind fun bt612 => ((nuncioref06_Same.f kj4 bt612.1 bt612.2.1 bt612.2.2.1 bt612.2.2.2.1 bt612.2.2.2.2.1 bt612.2.2.2.2.2 t588 t589 t590 t593 t596 t599).bind fun t626 => (some t626))) else (some false)) else (some false)) else (some false)) = some r:=H
      have A28:=Aside0.mk A280
      clear A280
      by_cases c29 : t611 = 0
      ·
       rw [if_pos c29] at H
       have c29b0 : (t611 == 0) = true:=beq_iff_eq.mpr c29
       have c29b1 : (t611 != 0) = false:=bne_eq_false_iff_eq.mpr c29
       clear c29
       by_cases c30 : t607 = 107
       ·
        rw [if_pos c30] at H
        have c30b0 : (t607 == 107) = true:=beq_iff_eq.mpr c30
        have c30b1 : (t607 != 107) = false:=bne_eq_false_iff_eq.mpr c30
        clear c30
        by_cases c31 : t589 = 33154
        ·
         rw [if_pos c31] at H
         have c31b0 : (t589 == 33154) = true:=beq_iff_eq.mpr c31
         have c31b1 : (t589 != 33154) = false:=bne_eq_false_iff_eq.mpr c31
         clear c31
         replace H:=Option.bind_eq_some_iff.mp H
         obtain ⟨⟨t612,t613,t614,t617,t620,t623⟩,A320,H⟩:=H
         replace H : ((nuncioref06_Same.f kj4 t612 t613 t614 t617 t620 t623 t588 t589 t590 t593 t596 t599).bind fun t626 => (some t626)) = some r:=H
         have A32:=Aside0.mk A320
         clear A320
         replace H:=Option.bind_eq_some_iff.mp H
         obtain ⟨t626,A330,H⟩:=H
         replace H : (some t626) = some r:=H
         have A33:=Aside0.mk A330
         clear A330
         obtain rfl:=Option.some.inj H
         have hcz34_0 : wc.cell? ⟨gb570,0,none⟩ = some (.string a0_0):=(qqh BK570.out 0).trans rfl
         have hcz34_1 : wc.cell? ⟨gb570,1,none⟩ = some (.int .u16 a0_1):=(qqh BK570.out 1).trans rfl
         have hcz34_2 : wc.cell? ⟨gb570,2,none⟩ = some (.int .u16 a0_2):=(qqh BK570.out 2).trans rfl
         have hcz34_3 : wc.cell? ⟨gb570,3,none⟩ = some (.bool a0_3):=(qqh BK570.out 3).trans rfl
         have hfz34_0:=qqi BK570.out 0
         have hfz34_1:=qqi BK570.out 1
         have hfz34_2:=qqi BK570.out 2
         have hfz34_3:=qqi BK570.out 3
         try go_wp2_with (first|((with_reducible refine gate_callee (f:=14) rfl ?_);refine goesL_ (some 30) rfl rfl Try.func14 (by kernel_rfl) rfl #[.int .u16 a1,.agg #[.string a0_0,.int .u16 a0_1,.int .u16 a0_2,.bool a0_3]] rfl (by (try simp only [List.map_toArray,List.map_cons,List.map_nil]);first|done|rfl|(simp only [List.length_drop,List.length_take];rfl)) ?_;(with_reducible refine (query_Make.calls a1 a0_0 a0_1 a0_2 a0_3 t574 t575 t576 t579 t582 t585 _ A21.out).mono ?_);rintro e w35 ⟨v577,v580,v583,v586,rfl,ho0,ho1,ho2,ho3,hb⟩;refine ⟨_,rfl,?_⟩;have n0_:=Aside0.mk (Kd.R_lower (Kd.R_mono (ok':=fun k_ => True) ho0 (fun _ hk_ => trivial)) (below_size (by repeat (first|(with_reducible first|exact HB.out|apply qqf|apply qqd|apply qqe|refine qqg ?_ GE570.out)|exact HB.out))));have n1_:=Aside0.mk (Kd.N_lower (Kd.N_mono (ok':=fun k_ => some k_ ≠ (v577 : Value).ownBlock∧some k_ ≠ (v583 : Value).ownBlock∧some k_ ≠ (v586 : Value).ownBlock∧k_ ≠ gb570) ho1 (fun k_ hk_ => ⟨hk_.2.1,hk_.2.2.1,hk_.2.2.2,(Kd.freshB (g:=gb570) (o:=.cells #[.string a0_0,.int .u16 a0_1,.int .u16 a0_2,.bool a0_3] 28 (0,0)) (by (with_reducible repeat first|apply qqa|apply qqb|apply qqc);exact BK570.out) k_ hk_.1)⟩)) (below_size (by repeat (first|(with_reducible first|exact HB.out|apply qqf|apply qqd|apply qqe|refine qqg ?_ GE570.out)|exact HB.out))));have n2_:=Aside0.mk (Kd.N_lower (Kd.N_mono (ok':=fun k_ => some k_ ≠ (v577 : Value).ownBlock∧some k_ ≠ (v580 : Value).ownBlock∧some k_ ≠ (v586 : Value).ownBlock∧k_ ≠ gb570) ho2 (fun k_ hk_ => ⟨hk_.2.1,hk_.2.2.1,hk_.2.2.2,(Kd.freshB (g:=gb570) (o:=.cells #[.string a0_0,.int .u16 a0_1,.int .u16 a0_2,.bool a0_3] 28 (0,0)) (by (with_reducible repeat first|apply qqa|apply qqb|apply qqc);exact BK570.out) k_ hk_.1)⟩)) (below_size (by repeat (first|(with_reducible first|exact HB.out|apply qqf|apply qqd|apply qqe|refine qqg ?_ GE570.out)|exact HB.out))));have n3_:=Aside0.mk (Kd.N_lower (Kd.N_mono (ok':=fun k_ => some k_ ≠ (v577 : Value).ownBlock∧some k_ ≠ (v580 : Value).ownBlock∧some k_ ≠ (v583 : Value).ownBlock∧k_ ≠ gb570) ho3 (fun k_ hk_ => ⟨hk_.2.1,hk_.2.2.1,hk_.2.2.2,(Kd.freshB (g:=gb570) (o:=.cells #[.string a0_0,.int .u16 a0_1,.int .u16 a0_2,.bool a0_3] 28 (0,0)) (by (with_reducible repeat first|apply qqa|apply qqb|apply qqc);exact BK570.out) k_ hk_.1)⟩)) (below_size (by repeat (first|(with_reducible first|exact HB.out|apply qqf|apply qqd|apply qqe|refine qqg ?_ GE570.out)|exact HB.out))));have n4_:=Aside0.mk (blk_below (g:=gb570) (o:=.cells #[.string a0_0,.int .u16 a0_1,.int .u16 a0_2,.bool a0_3] 28 (0,0)) (by (with_reducible repeat first|apply qqa|apply qqb|apply qqc);exact BK570.out) hb);have n5_:=Aside0.mk (below_step (by repeat (first|(with_reducible first|exact HB.out|apply qqf|apply qqd|apply qqe|refine qqg ?_ GE570.out)|exact HB.out)) hb);clear BK570;clear HB;have HO578:=n0_;have HO581:=n1_;have HO584:=n2_;have HO587:=n3_;have BK570:=n4_;have HB:=n5_;clear n0_ n1_ n2_ n3_ n4_ n5_;(try clear hb);(try clear hb2);(try clear hk);(try clear hi);(try clear ho0);(try clear ho1);(try clear ho2);(try clear ho3);obtain ⟨Ao36,co36,eo36⟩:=Kd.R_slice HO578.out;subst eo36;obtain ⟨Ao37,co37,eo37⟩:=Kd.N_slice HO581.out;subst eo37;obtain ⟨Ao38,co38,eo38⟩:=Kd.N_slice HO584.out;subst eo38;obtain ⟨Ao39,co39,eo39⟩:=Kd.N_slice HO587.out;subst eo39)|((with_reducible refine gate_callee (f:=24) rfl ?_);refine goesL_ (some 31) rfl rfl Try.func24 (by kernel_rfl) rfl #[.int .u16 a1,.agg #[.int .u16 t574,.int .u16 t575,.slice Ao36 t576.length co36,.slice Ao37 t579.length co37,.slice Ao38 t582.length co38,.slice Ao39 t585.length co39]] rfl (by (try simp only [List.map_toArray,List.map_cons,List.map_nil]);first|done|rfl|(simp only [List.length_drop,List.length_take];rfl)) ?_;(with_reducible refine (query_Fail.calls a1 t574 t575 _ _ t576 _ _ t579 _ _ t582 _ _ t585 t588 t589 t590 t593 t596 t599 _ ?side1 ?side2 ?side3 ?side4 ?side5 ?side6 ?side7 ?side8 A22.out).mono ?_);(case side1 => repeat (first|exact (Kd.R_reads' HO578.out).2.2|(with_reducible refine Kd.C_alloc ?_ _)|(with_reducible refine Kd.C_drewN ?_ _)|(with_reducible refine Kd.C_drew ?_)));(case side2 => exact (Kd.R_reads' HO578.out).2.1);(case side3 => repeat (first|exact (Kd.N_reads' HO581.out).2.2|(with_reducible refine Kd.C_alloc ?_ _)|(with_reducible refine Kd.C_drewN ?_ _)|(with_reducible refine Kd.C_drew ?_)));(case side4 => exact (Kd.N_reads' HO581.out).2.1);(case side5 => repeat (first|exact (Kd.N_reads' HO584.out).2.2|(with_reducible refine Kd.C_alloc ?_ _)|(with_reducible refine Kd.C_drewN ?_ _)|(with_reducible refine Kd.C_drew ?_)));(case side6 => exact (Kd.N_reads' HO584.out).2.1);(case side7 => repeat (first|exact (Kd.N_reads' HO587.out).2.2|(with_reducible refine Kd.C_alloc ?_ _)|(with_reducible refine Kd.C_drewN ?_ _)|(with_reducible refine Kd.C_drew ?_)));(case side8 => exact (Kd.N_reads' HO587.out).2.1);rintro e w40 ⟨v591,v594,v597,v600,rfl,ho0,ho1,ho2,ho3,hb⟩;refine ⟨_,rfl,?_⟩;have n0_:=Aside0.mk (Kd.R_elder' (by (with_reducible repeat (first|apply Kd.R_alloc|apply Kd.R_drewN|apply Kd.R_drew));exact HO578.out) (Kd.R_base ho0) hb);have n1_:=Aside0.mk (Kd.N_mono (Kd.N_told (Kd.N_told (Kd.N_told (Kd.N_told (Kd.N_old (by (with_reducible repeat (first|apply Kd.N_alloc|apply Kd.N_drewN|apply Kd.N_drew));exact HO581.out) hb) (Kd.R_base ho0)) (Kd.N_base (Kd.S_N ho1))) (Kd.N_base (Kd.S_N ho2))) (Kd.N_base (Kd.S_N ho3))) (fun _ h_ => h_.1));have n2_:=Aside0.mk (Kd.N_mono (Kd.N_told (Kd.N_told (Kd.N_told (Kd.N_told (Kd.N_old (by (with_reducible repeat (first|apply Kd.N_alloc|apply Kd.N_drewN|apply Kd.N_drew));exact HO584.out) hb) (Kd.R_base ho0)) (Kd.N_base (Kd.S_N ho1))) (Kd.N_base (Kd.S_N ho2))) (Kd.N_base (Kd.S_N ho3))) (fun _ h_ => h_.1));have n3_:=Aside0.mk (Kd.N_mono (Kd.N_told (Kd.N_told (Kd.N_told (Kd.N_told (Kd.N_old (by (with_reducible repeat (first|apply Kd.N_alloc|apply Kd.N_drewN|apply Kd.N_drew));exact HO587.out) hb) (Kd.R_base ho0)) (Kd.N_base (Kd.S_N ho1))) (Kd.N_base (Kd.S_N ho2))) (Kd.N_base (Kd.S_N ho3))) (fun _ h_ => h_.1));have n4_:=Aside0.mk (Kd.R_lower (Kd.R_new' ho0 (Kd.R_lt (by (with_reducible repeat (first|apply Kd.R_alloc|apply Kd.R_drewN|apply Kd.R_drew));exact HO578.out))) (below_size (by repeat (first|(with_reducible first|exact HB.out|apply qqf|apply qqd|apply qqe|refine qqg ?_ GE570.out)|exact HB.out))));have n5_:=Aside0.mk (Kd.N_lower (Kd.N_mono (ok':=fun k_ => some k_ ≠ (v591 : Value).ownBlock∧some k_ ≠ (v597 : Value).ownBlock∧some k_ ≠ (v600 : Value).ownBlock∧some k_ ≠ (.slice Ao36 t576.length co36 : Value).ownBlock∧some k_ ≠ (.slice Ao37 t579.length co37 : Value).ownBlock∧some k_ ≠ (.slice Ao38 t582.length co38 : Value).ownBlock∧some k_ ≠ (.slice Ao39 t585.length co39 : Value).ownBlock∧k_ ≠ gb570) (Kd.S_N (Kd.S_bound (Kd.S_apart' ho1 (Kd.R_typed ho0) (by decide)))) (fun k_ hk_ => ⟨hk_.1.2,hk_.1.1.1,hk_.1.1.2,(Kd.fresh' (Kd.R_lt (by (with_reducible repeat (first|apply Kd.R_alloc|apply Kd.R_drewN|apply Kd.R_drew));exact HO578.out)) k_ hk_.2.1),(Kd.fresh' (Kd.N_lt (by (with_reducible repeat (first|apply Kd.N_alloc|apply Kd.N_drewN|apply Kd.N_drew));exact HO581.out)) k_ hk_.2.1),(Kd.fresh' (Kd.N_lt (by (with_reducible repeat (first|apply Kd.N_alloc|apply Kd.N_drewN|apply Kd.N_drew));exact HO584.out)) k_ hk_.2.1),(Kd.fresh' (Kd.N_lt (by (with_reducible repeat (first|apply Kd.N_alloc|apply Kd.N_drewN|apply Kd.N_drew));exact HO587.out)) k_ hk_.2.1),(Kd.freshB (g:=gb570) (o:=.cells #[.string a0_0,.int .u16 a0_1,.int .u16 a0_2,.bool a0_3] 28 (0,0)) (by (with_reducible repeat first|apply qqa|apply qqb|apply qqc);exact BK570.out) k_ hk_.2.1)⟩)) (below_size (by repeat (first|(with_reducible first|exact HB.out|apply qqf|apply qqd|apply qqe|refine qqg ?_ GE570.out)|exact HB.out))));have n6_:=Aside0.mk (Kd.N_lower (Kd.N_mono (ok':=fun k_ => some k_ ≠ (v591 : Value).ownBlock∧some k_ ≠ (v594 : Value).ownBlock∧some k_ ≠ (v600 : Value).ownBlock∧some k_ ≠ (.slice Ao36 t576.length co36 : Value).ownBlock∧some k_ ≠ (.slice Ao37 t579.length co37 : Value).ownBlock∧some k_ ≠ (.slice Ao38 t582.length co38 : Value).ownBlock∧some k_ ≠ (.slice Ao39 t585.length co39 : Value).ownBlock∧k_ ≠ gb570) (Kd.S_N (Kd.S_bound (Kd.S_apart' ho2 (Kd.R_typed ho0) (by decide)))) (fun k_ hk_ => ⟨hk_.1.2,hk_.1.1.1,hk_.1.1.2,(Kd.fresh' (Kd.R_lt (by (with_reducible repeat (first|apply Kd.R_alloc|apply Kd.R_drewN|apply Kd.R_drew));exact HO578.out)) k_ hk_.2.1),(Kd.fresh' (Kd.N_lt (by (with_reducible repeat (first|apply Kd.N_alloc|apply Kd.N_drewN|apply Kd.N_drew));exact HO581.out)) k_ hk_.2.1),(Kd.fresh' (Kd.N_lt (by (with_reducible repeat (first|apply Kd.N_alloc|apply Kd.N_drewN|apply Kd.N_drew));exact HO584.out)) k_ hk_.2.1),(Kd.fresh' (Kd.N_lt (by (with_reducible repeat (first|apply Kd.N_alloc|apply Kd.N_drewN|apply Kd.N_drew));exact HO587.out)) k_ hk_.2.1),(Kd.freshB (g:=gb570) (o:=.cells #[.string a0_0,.int .u16 a0_1,.int .u16 a0_2,.bool a0_3] 28 (0,0)) (by (with_reducible repeat first|apply qqa|apply qqb|apply qqc);exact BK570.out) k_ hk_.2.1)⟩)) (below_size (by repeat (first|(with_reducible first|exact HB.out|apply qqf|apply qqd|apply qqe|refine qqg ?_ GE570.out)|exact HB.out))));have n7_:=Aside0.mk (Kd.N_lower (Kd.N_mono (ok':=fun k_ => some k_ ≠ (v591 : Value).ownBlock∧some k_ ≠ (v594 : Value).ownBlock∧some k_ ≠ (v597 : Value).ownBlock∧some k_ ≠ (.slice Ao36 t576.length co36 : Value).ownBlock∧some k_ ≠ (.slice Ao37 t579.length co37 : Value).ownBlock∧some k_ ≠ (.slice Ao38 t582.length co38 : Value).ownBlock∧some k_ ≠ (.slice Ao39 t585.length co39 : Value).ownBlock∧k_ ≠ gb570) (Kd.S_N (Kd.S_bound (Kd.S_apart' ho3 (Kd.R_typed ho0) (by decide)))) (fun k_ hk_ => ⟨hk_.1.2,hk_.1.1.1,hk_.1.1.2,(Kd.fresh' (Kd.R_lt (by (with_reducible repeat (first|apply Kd.R_alloc|apply Kd.R_drewN|apply Kd.R_drew));exact HO578.out)) k_ hk_.2.1),(Kd.fresh' (Kd.N_lt (by (with_reducible repeat (first|apply Kd.N_alloc|apply Kd.N_drewN|apply Kd.N_drew));exact HO581.out)) k_ hk_.2.1),(Kd.fresh' (Kd.N_lt (by (with_reducible repeat (first|apply Kd.N_alloc|apply Kd.N_drewN|apply Kd.N_drew));exact HO584.out)) k_ hk_.2.1),(Kd.fresh' (Kd.N_lt (by (with_reducible repeat (first|apply Kd.N_alloc|apply Kd.N_drewN|apply Kd.N_drew));exact HO587.out)) k_ hk_.2.1),(Kd.freshB (g:=gb570) (o:=.cells #[.string a0_0,.int .u16 a0_1,.int .u16 a0_2,.bool a0_3] 28 (0,0)) (by (with_reducible repeat first|apply qqa|apply qqb|apply qqc);exact BK570.out) k_ hk_.2.1)⟩)) (below_size (by repeat (first|(with_reducible first|exact HB.out|apply qqf|apply qqd|apply qqe|refine qqg ?_ GE570.out)|exact HB.out))));have n8_:=Aside0.mk (blk_below (g:=gb570) (o:=.cells #[.string a0_0,.int .u16 a0_1,.int .u16 a0_2,.bool a0_3] 28 (0,0)) (by (with_reducible repeat first|apply qqa|apply qqb|apply qqc);exact BK570.out) hb);have n9_:=Aside0.mk (below_step (by repeat (first|(with_reducible first|exact HB.out|apply qqf|apply qqd|apply qqe|refine qqg ?_ GE570.out)|exact HB.out)) hb);clear HO578;clear HO581;clear HO584;clear HO587;clear BK570;clear HB;have HO578:=n0_;have HO581:=n1_;have HO584:=n2_;have HO587:=n3_;have HO592:=n4_;have HO595:=n5_;have HO598:=n6_;have HO601:=n7_;have BK570:=n8_;have HB:=n9_;clear n0_ n1_ n2_ n3_ n4_ n5_ n6_ n7_ n8_ n9_;(try clear hb);(try clear hb2);(try clear hk);(try clear hi);(try clear ho0);(try clear ho1);(try clear ho2);(try clear ho3))|((with_reducible refine gate_dst (N:=5) rfl ?_);refine box_event ?hg (N:=5) ?hd (cs:=#[.int .u16 0,.int .u16 0,.slice none 0 0,.slice none 0 0,.slice none 0 0,.slice none 0 0]) (t:=26) ?hr ?_;(case hd => rfl);(case hg => rfl);(case hr => first|(go_simp;done)|(go_simp;rfl));intro gb602 hg w41 hbox hb;have n0_:=Aside0.mk (Kd.R_below (by (with_reducible repeat (first|apply Kd.R_alloc|apply Kd.R_drewN|apply Kd.R_drew));exact HO578.out) hb);have n1_:=Aside0.mk (Kd.N_below (Kd.N_elderB (by (with_reducible repeat (first|apply Kd.N_alloc|apply Kd.N_drewN|apply Kd.N_drew));exact HO581.out) gb602 (Nat.le_of_eq hg.symm)) hb);have n2_:=Aside0.mk (Kd.N_below (Kd.N_elderB (by (with_reducible repeat (first|apply Kd.N_alloc|apply Kd.N_drewN|apply Kd.N_drew));exact HO584.out) gb602 (Nat.le_of_eq hg.symm)) hb);have n3_:=Aside0.mk (Kd.N_below (Kd.N_elderB (by (with_reducible repeat (first|apply Kd.N_alloc|apply Kd.N_drewN|apply Kd.N_drew));exact HO587.out) gb602 (Nat.le_of_eq hg.symm)) hb);have n4_:=Aside0.mk (Kd.R_below (by (with_reducible repeat (first|apply Kd.R_alloc|apply Kd.R_drewN|apply Kd.R_drew));exact HO592.out) hb);have n5_:=Aside0.mk (Kd.N_below (Kd.N_elderB (by (with_reducible repeat (first|apply Kd.N_alloc|apply Kd.N_drewN|apply Kd.N_drew));exact HO595.out) gb602 (Nat.le_of_eq hg.symm)) hb);have n6_:=Aside0.mk (Kd.N_below (Kd.N_elderB (by (with_reducible repeat (first|apply Kd.N_alloc|apply Kd.N_drewN|apply Kd.N_drew));exact HO598.out) gb602 (Nat.le_of_eq hg.symm)) hb);have n7_:=Aside0.mk (Kd.N_below (Kd.N_elderB (by (with_reducible repeat (first|apply Kd.N_alloc|apply Kd.N_drewN|apply Kd.N_drew));exact HO601.out) gb602 (Nat.le_of_eq hg.symm)) hb);have n8_:=Aside0.mk (blk_below (g:=gb570) (o:=.cells #[.string a0_0,.int .u16 a0_1,.int .u16 a0_2,.bool a0_3] 28 (0,0)) (by (with_reducible repeat first|apply qqa|apply qqb|apply qqc);exact BK570.out) hb);have n9_:=Aside0.mk (below_step (by repeat (first|(with_reducible first|exact HB.out|apply qqf|apply qqd|apply qqe|refine qqg ?_ GE570.out)|exact HB.out)) hb);have n10_:=Aside0.mk (hbox);have n11_:=Aside0.mk ((by rw [hg];exact (below_size (by repeat (first|(with_reducible first|exact HB.out|apply qqf|apply qqd|apply qqe|refine qqg ?_ GE570.out)|exact HB.out))) : w.heap.size ≤ gb602));have n12_:=Aside0.mk ((by rw [hg];exact (below_size (by repeat (first|(with_reducible first|exact HB.out|apply qqf|apply qqd|apply qqe|refine qqg ?_ GE570.out)|exact HB.out))) : w.heap.size ≤ gb602));have n13_:=Aside0.mk ((by rw [hg];exact Nat.ne_of_lt (blk_lt (g:=gb570) (o:=.cells #[.string a0_0,.int .u16 a0_1,.int .u16 a0_2,.bool a0_3] 28 (0,0)) (by (with_reducible repeat first|apply qqa|apply qqb|apply qqc);exact BK570.out)) : gb570 ≠ gb602));have n14_:=Aside0.mk ((by rw [hg];exact Nat.ne_of_gt (blk_lt (g:=gb570) (o:=.cells #[.string a0_0,.int .u16 a0_1,.int .u16 a0_2,.bool a0_3] 28 (0,0)) (by (with_reducible repeat first|apply qqa|apply qqb|apply qqc);exact BK570.out)) : gb602 ≠ gb570));clear HO578;clear HO581;clear HO584;clear HO587;clear HO592;clear HO595;clear HO598;clear HO601;clear BK570;clear HB;have HO578:=n0_;have HO581:=n1_;have HO584:=n2_;have HO587:=n3_;have HO592:=n4_;have HO595:=n5_;have HO598:=n6_;have HO601:=n7_;have BK570:=n8_;have HB:=n9_;have BK602:=n10_;have GW602:=n11_;have GE602:=n12_;have NB570_602:=n13_;have NB602_570:=n14_;clear n0_ n1_ n2_ n3_ n4_ n5_ n6_ n7_ n8_ n9_ n10_ n11_ n12_ n13_ n14_;clear hb hbox hg;have hnb42:=NB602_570.out;have hnc42:=NB570_602.out;have hcz43_0 : w41.cell? ⟨gb602,0,none⟩ = some (.int .u16 0):=(qqh BK602.out 0).trans rfl;have hcz43_1 : w41.cell? ⟨gb602,1,none⟩ = some (.int .u16 0):=(qqh BK602.out 1).trans rfl;have hcz43_2 : w41.cell? ⟨gb602,2,none⟩ = some (.slice none 0 0):=(qqh BK602.out 2).trans rfl;have hcz43_3 : w41.cell? ⟨gb602,3,none⟩ = some (.slice none 0 0):=(qqh BK602.out 3).trans rfl;have hcz43_4 : w41.cell? ⟨gb602,4,none⟩ = some (.slice none 0 0):=(qqh BK602.out 4).trans rfl;have hcz43_5 : w41.cell? ⟨gb602,5,none⟩ = some (.slice none 0 0):=(qqh BK602.out 5).trans rfl;have hfz43_0:=qqi BK602.out 0;have hfz43_1:=qqi BK602.out 1;have hfz43_2:=qqi BK602.out 2;have hfz43_3:=qqi BK602.out 3;have hfz43_4:=qqi BK602.out 4;have hfz43_5:=qqi BK602.out 5;obtain ⟨Ao44,co44,eo44⟩:=Kd.R_slice HO592.out;subst eo44;obtain ⟨Ao45,co45,eo45⟩:=Kd.N_slice HO595.out;subst eo45;obtain ⟨Ao46,co46,eo46⟩:=Kd.N_slice HO598.out;subst eo46;obtain ⟨Ao47,co47,eo47⟩:=Kd.N_slice HO601.out;subst eo47)|((with_reducible refine gate_callee (f:=11) rfl ?_);refine goesL_ (some 34) rfl rfl Try.func11 (by kernel_rfl) rfl #[.agg #[.int .u16 t588,.int .u16 t589,.slice Ao44 t590.length co44,.slice Ao45 t593.length co45,.slice Ao46 t596.length co46,.slice Ao47 t599.length co47]] rfl (by (try simp only [List.map_toArray,List.map_cons,List.map_nil]);first|done|rfl|(simp only [List.length_drop,List.length_take];rfl)) ?_;(with_reducible refine (query_Ask.calls kj4 t588 t589 _ _ t590 _ _ t593 _ _ t596 _ _ t599 t603 t604 t605 t606 t607 _ ?side1 ?side2 ?side3 ?side4 ?side5 ?side6 ?side7 ?side8 A23.out).mono ?_);(case side1 => refine (Kd.R_reads' (e:=53) (base:=w.heap.size) (ok:=fun k_ => (True∧some k_ ≠ (.slice Ao36 t576.length co36 : Value).ownBlock)) (n:=t590.length) (c:=co44) ?_).2.2;exact (by (with_reducible repeat (first|apply Kd.R_alloc|apply Kd.R_drewN|apply Kd.R_drew));exact (Kd.R_mono (Kd.R_far (p:=⟨gb602,5,none⟩) (Kd.R_far (p:=⟨gb602,4,none⟩) (Kd.R_far (p:=⟨gb602,3,none⟩) (Kd.R_far (p:=⟨gb602,2,none⟩) (Kd.R_far (p:=⟨gb602,1,none⟩) (Kd.R_far (p:=⟨gb602,0,none⟩) (Kd.R_types HO592.out BK602.out (by decide)) (fun _ hk => hk.2) (.int .u16 t588)) (fun _ hk => hk.2) (.int .u16 t589)) (fun _ hk => hk.2) (.slice Ao44 t590.length co44)) (fun _ hk => hk.2) (.slice Ao45 t593.length co45)) (fun _ hk => hk.2) (.slice Ao46 t596.length co46)) (fun _ hk => hk.2) (.slice Ao47 t599.length co47)) (fun _ h_ => h_.1))));(case side2 => exact (Kd.R_reads' HO592.out).2.1);(case side3 => refine (Kd.N_reads' (e:=51) (base:=w.heap.size) (ok:=fun k_ => ((some k_ ≠ (.slice Ao44 t590.length co44 : Value).ownBlock∧(some k_ ≠ (.slice Ao46 t596.length co46 : Value).ownBlock∧(some k_ ≠ (.slice Ao47 t599.length co47 : Value).ownBlock∧(some k_ ≠ (.slice Ao36 t576.length co36 : Value).ownBlock∧(some k_ ≠ (.slice Ao37 t579.length co37 : Value).ownBlock∧(some k_ ≠ (.slice Ao38 t582.length co38 : Value).ownBlock∧(some k_ ≠ (.slice Ao39 t585.length co39 : Value).ownBlock∧k_ ≠ gb570)))))))∧k_ ≠ gb602)) (n:=t593.length) (c:=co45) ?_).2.2;exact (by (with_reducible repeat (first|apply Kd.N_alloc|apply Kd.N_drewN|apply Kd.N_drew));exact (Kd.N_mono (Kd.N_far (p:=⟨gb602,5,none⟩) (Kd.N_far (p:=⟨gb602,4,none⟩) (Kd.N_far (p:=⟨gb602,3,none⟩) (Kd.N_far (p:=⟨gb602,2,none⟩) (Kd.N_far (p:=⟨gb602,1,none⟩) (Kd.N_far (p:=⟨gb602,0,none⟩) (Kd.N_mono HO595.out (fun k_ hk => (⟨hk,hk.2⟩ : _∧k_ ≠ gb602))) (fun _ hk => hk.2) (.int .u16 t588)) (fun _ hk => hk.2) (.int .u16 t589)) (fun _ hk => hk.2) (.slice Ao44 t590.length co44)) (fun _ hk => hk.2) (.slice Ao45 t593.length co45)) (fun _ hk => hk.2) (.slice Ao46 t596.length co46)) (fun _ hk => hk.2) (.slice Ao47 t599.length co47)) (fun _ h_ => h_.1))));(case side4 => exact (Kd.N_reads' HO595.out).2.1);(case side5 => refine (Kd.N_reads' (e:=51) (base:=w.heap.size) (ok:=fun k_ => ((some k_ ≠ (.slice Ao44 t590.length co44 : Value).ownBlock∧(some k_ ≠ (.slice Ao45 t593.length co45 : Value).ownBlock∧(some k_ ≠ (.slice Ao47 t599.length co47 : Value).ownBlock∧(some k_ ≠ (.slice Ao36 t576.length co36 : Value).ownBlock∧(some k_ ≠ (.slice Ao37 t579.length co37 : Value).ownBlock∧(some k_ ≠ (.slice Ao38 t582.length co38 : Value).ownBlock∧(some k_ ≠ (.slice Ao39 t585.length co39 : Value).ownBlock∧k_ ≠ gb570)))))))∧k_ ≠ gb602)) (n:=t596.length) (c:=co46) ?_).2.2;exact (by (with_reducible repeat (first|apply Kd.N_alloc|apply Kd.N_drewN|apply Kd.N_drew));exact (Kd.N_mono (Kd.N_far (p:=⟨gb602,5,none⟩) (Kd.N_far (p:=⟨gb602,4,none⟩) (Kd.N_far (p:=⟨gb602,3,none⟩) (Kd.N_far (p:=⟨gb602,2,none⟩) (Kd.N_far (p:=⟨gb602,1,none⟩) (Kd.N_far (p:=⟨gb602,0,none⟩) (Kd.N_mono HO598.out (fun k_ hk => (⟨hk,hk.2⟩ : _∧k_ ≠ gb602))) (fun _ hk => hk.2) (.int .u16 t588)) (fun _ hk => hk.2) (.int .u16 t589)) (fun _ hk => hk.2) (.slice Ao44 t590.length co44)) (fun _ hk => hk.2) (.slice Ao45 t593.length co45)) (fun _ hk => hk.2) (.slice Ao46 t596.length co46)) (fun _ hk => hk.2) (.slice Ao47 t599.length co47)) (fun _ h_ => h_.1))));(case side6 => exact (Kd.N_reads' HO598.out).2.1);(case side7 => refine (Kd.N_reads' (e:=51) (base:=w.heap.size) (ok:=fun k_ => ((some k_ ≠ (.slice Ao44 t590.length co44 : Value).ownBlock∧(some k_ ≠ (.slice Ao45 t593.length co45 : Value).ownBlock∧(some k_ ≠ (.slice Ao46 t596.length co46 : Value).ownBlock∧(some k_ ≠ (.slice Ao36 t576.length co36 : Value).ownBlock∧(some k_ ≠ (.slice Ao37 t579.length co37 : Value).ownBlock∧(some k_ ≠ (.slice Ao38 t582.length co38 : Value).ownBlock∧(some k_ ≠ (.slice Ao39 t585.length co39 : Value).ownBlock∧k_ ≠ gb570)))))))∧k_ ≠ gb602)) (n:=t599.length) (c:=co47) ?_).2.2;exact (by (with_reducible repeat (first|apply Kd.N_alloc|apply Kd.N_drewN|apply Kd.N_drew));exact (Kd.N_mono (Kd.N_far (p:=⟨gb602,5,none⟩) (Kd.N_far (p:=⟨gb602,4,none⟩) (Kd.N_far (p:=⟨gb602,3,none⟩) (Kd.N_far (p:=⟨gb602,2,none⟩) (Kd.N_far (p:=⟨gb602,1,none⟩) (Kd.N_far (p:=⟨gb602,0,none⟩) (Kd.N_mono HO601.out (fun k_ hk => (⟨hk,hk.2⟩ : _∧k_ ≠ gb602))) (fun _ hk => hk.2) (.int .u16 t588)) (fun _ hk => hk.2) (.int .u16 t589)) (fun _ hk => hk.2) (.slice Ao44 t590.length co44)) (fun _ hk => hk.2) (.slice Ao45 t593.length co45)) (fun _ hk => hk.2) (.slice Ao46 t596.length co46)) (fun _ hk => hk.2) (.slice Ao47 t599.length co47)) (fun _ h_ => h_.1))));(case side8 => exact (Kd.N_reads' HO601.out).2.1);rintro e w48 ⟨rfl,hb⟩;refine ⟨_,rfl,?_⟩;have n0_:=Aside0.mk (Kd.R_below (by (with_reducible repeat (first|apply Kd.R_alloc|apply Kd.R_drewN|apply Kd.R_drew));exact (Kd.R_mono (Kd.R_far (p:=⟨gb602,5,none⟩) (Kd.R_far (p:=⟨gb602,4,none⟩) (Kd.R_far (p:=⟨gb602,3,none⟩) (Kd.R_far (p:=⟨gb602,2,none⟩) (Kd.R_far (p:=⟨gb602,1,none⟩) (Kd.R_far (p:=⟨gb602,0,none⟩) (Kd.R_types HO578.out BK602.out (by decide)) (fun _ hk => hk.2) (.int .u16 t588)) (fun _ hk => hk.2) (.int .u16 t589)) (fun _ hk => hk.2) (.slice Ao44 t590.length co44)) (fun _ hk => hk.2) (.slice Ao45 t593.length co45)) (fun _ hk => hk.2) (.slice Ao46 t596.length co46)) (fun _ hk => hk.2) (.slice Ao47 t599.length co47)) (fun _ h_ => h_.1))) hb);have n1_:=Aside0.mk (Kd.N_below (by (with_reducible repeat (first|apply Kd.N_alloc|apply Kd.N_drewN|apply Kd.N_drew));exact (Kd.N_mono (Kd.N_far (p:=⟨gb602,5,none⟩) (Kd.N_far (p:=⟨gb602,4,none⟩) (Kd.N_far (p:=⟨gb602,3,none⟩) (Kd.N_far (p:=⟨gb602,2,none⟩) (Kd.N_far (p:=⟨gb602,1,none⟩) (Kd.N_far (p:=⟨gb602,0,none⟩) (Kd.N_mono HO581.out (fun k_ hk => (⟨hk,hk.2⟩ : _∧k_ ≠ gb602))) (fun _ hk => hk.2) (.int .u16 t588)) (fun _ hk => hk.2) (.int .u16 t589)) (fun _ hk => hk.2) (.slice Ao44 t590.length co44)) (fun _ hk => hk.2) (.slice Ao45 t593.length co45)) (fun _ hk => hk.2) (.slice Ao46 t596.length co46)) (fun _ hk => hk.2) (.slice Ao47 t599.length co47)) (fun _ h_ => h_.1))) hb);have n2_:=Aside0.mk (Kd.N_below (by (with_reducible repeat (first|apply Kd.N_alloc|apply Kd.N_drewN|apply Kd.N_drew));exact (Kd.N_mono (Kd.N_far (p:=⟨gb602,5,none⟩) (Kd.N_far (p:=⟨gb602,4,none⟩) (Kd.N_far (p:=⟨gb602,3,none⟩) (Kd.N_far (p:=⟨gb602,2,none⟩) (Kd.N_far (p:=⟨gb602,1,none⟩) (Kd.N_far (p:=⟨gb602,0,none⟩) (Kd.N_mono HO584.out (fun k_ hk => (⟨hk,hk.2⟩ : _∧k_ ≠ gb602))) (fun _ hk => hk.2) (.int .u16 t588)) (fun _ hk => hk.2) (.int .u16 t589)) (fun _ hk => hk.2) (.slice Ao44 t590.length co44)) (fun _ hk => hk.2) (.slice Ao45 t593.length co45)) (fun _ hk => hk.2) (.slice Ao46 t596.length co46)) (fun _ hk => hk.2) (.slice Ao47 t599.length co47)) (fun _ h_ => h_.1))) hb);have n3_:=Aside0.mk (Kd.N_below (by (with_reducible repeat (first|apply Kd.N_alloc|apply Kd.N_drewN|apply Kd.N_drew));exact (Kd.N_mono (Kd.N_far (p:=⟨gb602,5,none⟩) (Kd.N_far (p:=⟨gb602,4,none⟩) (Kd.N_far (p:=⟨gb602,3,none⟩) (Kd.N_far (p:=⟨gb602,2,none⟩) (Kd.N_far (p:=⟨gb602,1,none⟩) (Kd.N_far (p:=⟨gb602,0,none⟩) (Kd.N_mono HO587.out (fun k_ hk => (⟨hk,hk.2⟩ : _∧k_ ≠ gb602))) (fun _ hk => hk.2) (.int .u16 t588)) (fun _ hk => hk.2) (.int .u16 t589)) (fun _ hk => hk.2) (.slice Ao44 t590.length co44)) (fun _ hk => hk.2) (.slice Ao45 t593.length co45)) (fun _ hk => hk.2) (.slice Ao46 t596.length co46)) (fun _ hk => hk.2) (.slice Ao47 t599.length co47)) (fun _ h_ => h_.1))) hb);have n4_:=Aside0.mk (Kd.R_below (by (with_reducible repeat (first|apply Kd.R_alloc|apply Kd.R_drewN|apply Kd.R_drew));exact (Kd.R_mono (Kd.R_far (p:=⟨gb602,5,none⟩) (Kd.R_far (p:=⟨gb602,4,none⟩) (Kd.R_far (p:=⟨gb602,3,none⟩) (Kd.R_far (p:=⟨gb602,2,none⟩) (Kd.R_far (p:=⟨gb602,1,none⟩) (Kd.R_far (p:=⟨gb602,0,none⟩) (Kd.R_types HO592.out BK602.out (by decide)) (fun _ hk => hk.2) (.int .u16 t588)) (fun _ hk => hk.2) (.int .u16 t589)) (fun _ hk => hk.2) (.slice Ao44 t590.length co44)) (fun _ hk => hk.2) (.slice Ao45 t593.length co45)) (fun _ hk => hk.2) (.slice Ao46 t596.length co46)) (fun _ hk => hk.2) (.slice Ao47 t599.length co47)) (fun _ h_ => h_.1))) hb);have n5_:=Aside0.mk (Kd.N_below (by (with_reducible repeat (first|apply Kd.N_alloc|apply Kd.N_drewN|apply Kd.N_drew));exact (Kd.N_mono (Kd.N_far (p:=⟨gb602,5,none⟩) (Kd.N_far (p:=⟨gb602,4,none⟩) (Kd.N_far (p:=⟨gb602,3,none⟩) (Kd.N_far (p:=⟨gb602,2,none⟩) (Kd.N_far (p:=⟨gb602,1,none⟩) (Kd.N_far (p:=⟨gb602,0,none⟩) (Kd.N_mono HO595.out (fun k_ hk => (⟨hk,hk.2⟩ : _∧k_ ≠ gb602))) (fun _ hk => hk.2) (.int .u16 t588)) (fun _ hk => hk.2) (.int .u16 t589)) (fun _ hk => hk.2) (.slice Ao44 t590.length co44)) (fun _ hk => hk.2) (.slice Ao45 t593.length co45)) (fun _ hk => hk.2) (.slice Ao46 t596.length co46)) (fun _ hk => hk.2) (.slice Ao47 t599.length co47)) (fun _ h_ => h_.1))) hb);have n6_:=Aside0.mk (Kd.N_below (by (with_reducible repeat (first|apply Kd.N_alloc|apply Kd.N_drewN|apply Kd.N_drew));exact (Kd.N_mono (Kd.N_far (p:=⟨gb602,5,none⟩) (Kd.N_far (p:=⟨gb602,4,none⟩) (Kd.N_far (p:=⟨gb602,3,none⟩) (Kd.N_far (p:=⟨gb602,2,none⟩) (Kd.N_far (p:=⟨gb602,1,none⟩) (Kd.N_far (p:=⟨gb602,0,none⟩) (Kd.N_mono HO598.out (fun k_ hk => (⟨hk,hk.2⟩ : _∧k_ ≠ gb602))) (fun _ hk => hk.2) (.int .u16 t588)) (fun _ hk => hk.2) (.int .u16 t589)) (fun _ hk => hk.2) (.slice Ao44 t590.length co44)) (fun _ hk => hk.2) (.slice Ao45 t593.length co45)) (fun _ hk => hk.2) (.slice Ao46 t596.length co46)) (fun _ hk => hk.2) (.slice Ao47 t599.length co47)) (fun _ h_ => h_.1))) hb);have n7_:=Aside0.mk (Kd.N_below (by (with_reducible repeat (first|apply Kd.N_alloc|apply Kd.N_drewN|apply Kd.N_drew));exact (Kd.N_mono (Kd.N_far (p:=⟨gb602,5,none⟩) (Kd.N_far (p:=⟨gb602,4,none⟩) (Kd.N_far (p:=⟨gb602,3,none⟩) (Kd.N_far (p:=⟨gb602,2,none⟩) (Kd.N_far (p:=⟨gb602,1,none⟩) (Kd.N_far (p:=⟨gb602,0,none⟩) (Kd.N_mono HO601.out (fun k_ hk => (⟨hk,hk.2⟩ : _∧k_ ≠ gb602))) (fun _ hk => hk.2) (.int .u16 t588)) (fun _ hk => hk.2) (.int .u16 t589)) (fun _ hk => hk.2) (.slice Ao44 t590.length co44)) (fun _ hk => hk.2) (.slice Ao45 t593.length co45)) (fun _ hk => hk.2) (.slice Ao46 t596.length co46)) (fun _ hk => hk.2) (.slice Ao47 t599.length co47)) (fun _ h_ => h_.1))) hb);have n8_:=Aside0.mk (blk_below (g:=gb570) (o:=.cells #[.string a0_0,.int .u16 a0_1,.int .u16 a0_2,.bool a0_3] 28 (0,0)) (by (with_reducible repeat first|apply qqa|apply qqb|apply qqc);refine blk_far ?_ NB570_602.out _;(with_reducible repeat first|apply qqa|apply qqb|apply qqc);refine blk_far ?_ NB570_602.out _;(with_reducible repeat first|apply qqa|apply qqb|apply qqc);refine blk_far ?_ NB570_602.out _;(with_reducible repeat first|apply qqa|apply qqb|apply qqc);refine blk_far ?_ NB570_602.out _;(with_reducible repeat first|apply qqa|apply qqb|apply qqc);refine blk_far ?_ NB570_602.out _;(with_reducible repeat first|apply qqa|apply qqb|apply qqc);refine blk_far ?_ NB570_602.out _;(with_reducible repeat first|apply qqa|apply qqb|apply qqc);exact BK570.out) hb);have n9_:=Aside0.mk (blk_below (g:=gb602) (o:=.cells #[.int .u16 t588,.int .u16 t589,.slice Ao44 t590.length co44,.slice Ao45 t593.length co45,.slice Ao46 t596.length co46,.slice Ao47 t599.length co47] 26 (0,0)) (by (with_reducible repeat first|apply qqa|apply qqb|apply qqc);refine blk_put (cs:=#[.int .u16 t588,.int .u16 t589,.slice Ao44 t590.length co44,.slice Ao45 t593.length co45,.slice Ao46 t596.length co46,.slice none 0 0]) ?_ 5 _ rfl;(with_reducible repeat first|apply qqa|apply qqb|apply qqc);refine blk_put (cs:=#[.int .u16 t588,.int .u16 t589,.slice Ao44 t590.length co44,.slice Ao45 t593.length co45,.slice none 0 0,.slice none 0 0]) ?_ 4 _ rfl;(with_reducible repeat first|apply qqa|apply qqb|apply qqc);refine blk_put (cs:=#[.int .u16 t588,.int .u16 t589,.slice Ao44 t590.length co44,.slice none 0 0,.slice none 0 0,.slice none 0 0]) ?_ 3 _ rfl;(with_reducible repeat first|apply qqa|apply qqb|apply qqc);refine blk_put (cs:=#[.int .u16 t588,.int .u16 t589,.slice none 0 0,.slice none 0 0,.slice none 0 0,.slice none 0 0]) ?_ 2 _ rfl;(with_reducible repeat first|apply qqa|apply qqb|apply qqc);refine blk_put (cs:=#[.int .u16 t588,.int .u16 0,.slice none 0 0,.slice none 0 0,.slice none 0 0,.slice none 0 0]) ?_ 1 _ rfl;(with_reducible repeat first|apply qqa|apply qqb|apply qqc);refine blk_put (cs:=#[.int .u16 0,.int .u16 0,.slice none 0 0,.slice none 0 0,.slice none 0 0,.slice none 0 0]) ?_ 0 _ rfl;(with_reducible repeat first|apply qqa|apply qqb|apply qqc);exact BK602.out) hb);have n10_:=Aside0.mk (below_step (by repeat (first|(with_reducible first|exact HB.out|apply qqf|apply qqd|apply qqe|refine qqg ?_ GE570.out|refine qqg ?_ GE602.out)|exact HB.out)) hb);clear HO578;clear HO581;clear HO584;clear HO587;clear HO592;clear HO595;clear HO598;clear HO601;clear BK570;clear BK602;clear HB;have HO578:=n0_;have HO581:=n1_;have HO584:=n2_;have HO587:=n3_;have HO592:=n4_;have HO595:=n5_;have HO598:=n6_;have HO601:=n7_;have BK570:=n8_;have BK602:=n9_;have HB:=n10_;clear n0_ n1_ n2_ n3_ n4_ n5_ n6_ n7_ n8_ n9_ n10_;(try clear hb);(try clear hb2);(try clear hk);(try clear hi))|((with_reducible refine gate_dst (N:=6) rfl ?_);refine box_event ?hg (N:=6) ?hd (cs:=#[.string (⟨#[]⟩ : ByteArray),.int .u16 0,.int .u16 0,.bool false]) (t:=28) ?hr ?_;(case hd => rfl);(case hg => rfl);(case hr => first|(go_simp;done)|(go_simp;rfl));intro gb608 hg w49 hbox hb;have n0_:=Aside0.mk (Kd.R_below (by (with_reducible repeat (first|apply Kd.R_alloc|apply Kd.R_drewN|apply Kd.R_drew));exact HO578.out) hb);have n1_:=Aside0.mk (Kd.N_below (Kd.N_elderB (by (with_reducible repeat (first|apply Kd.N_alloc|apply Kd.N_drewN|apply Kd.N_drew));exact HO581.out) gb608 (Nat.le_of_eq hg.symm)) hb);have n2_:=Aside0.mk (Kd.N_below (Kd.N_elderB (by (with_reducible repeat (first|apply Kd.N_alloc|apply Kd.N_drewN|apply Kd.N_drew));exact HO584.out) gb608 (Nat.le_of_eq hg.symm)) hb);have n3_:=Aside0.mk (Kd.N_below (Kd.N_elderB (by (with_reducible repeat (first|apply Kd.N_alloc|apply Kd.N_drewN|apply Kd.N_drew));exact HO587.out) gb608 (Nat.le_of_eq hg.symm)) hb);have n4_:=Aside0.mk (Kd.R_below (by (with_reducible repeat (first|apply Kd.R_alloc|apply Kd.R_drewN|apply Kd.R_drew));exact HO592.out) hb);have n5_:=Aside0.mk (Kd.N_below (Kd.N_elderB (by (with_reducible repeat (first|apply Kd.N_alloc|apply Kd.N_drewN|apply Kd.N_drew));exact HO595.out) gb608 (Nat.le_of_eq hg.symm)) hb);have n6_:=Aside0.mk (Kd.N_below (Kd.N_elderB (by (with_reducible repeat (first|apply Kd.N_alloc|apply Kd.N_drewN|apply Kd.N_drew));exact HO598.out) gb608 (Nat.le_of_eq hg.symm)) hb);have n7_:=Aside0.mk (Kd.N_below (Kd.N_elderB (by (with_reducible repeat (first|apply Kd.N_alloc|apply Kd.N_drewN|apply Kd.N_drew));exact HO601.out) gb608 (Nat.le_of_eq hg.symm)) hb);have n8_:=Aside0.mk (blk_below (g:=gb570) (o:=.cells #[.string a0_0,.int .u16 a0_1,.int .u16 a0_2,.bool a0_3] 28 (0,0)) (by (with_reducible repeat first|apply qqa|apply qqb|apply qqc);exact BK570.out) hb);have n9_:=Aside0.mk (blk_below (g:=gb602) (o:=.cells #[.int .u16 t588,.int .u16 t589,.slice Ao44 t590.length co44,.slice Ao45 t593.length co45,.slice Ao46 t596.length co46,.slice Ao47 t599.length co47] 26 (0,0)) (by (with_reducible repeat first|apply qqa|apply qqb|apply qqc);exact BK602.out) hb);have n10_:=Aside0.mk (below_step (by repeat (first|(with_reducible first|exact HB.out|apply qqf|apply qqd|apply qqe|refine qqg ?_ GE570.out|refine qqg ?_ GE602.out)|exact HB.out)) hb);have n11_:=Aside0.mk (hbox);have n12_:=Aside0.mk ((by rw [hg];exact (below_size (by repeat (first|(with_reducible first|exact HB.out|apply qqf|apply qqd|apply qqe|refine qqg ?_ GE570.out|refine qqg ?_ GE602.out)|exact HB.out))) : w.heap.size ≤ gb608));have n13_:=Aside0.mk ((by rw [hg];exact (below_size (by repeat (first|(with_reducible first|exact HB.out|apply qqf|apply qqd|apply qqe|refine qqg ?_ GE570.out|refine qqg ?_ GE602.out)|exact HB.out))) : w.heap.size ≤ gb608));have n14_:=Aside0.mk ((by rw [hg];exact Nat.ne_of_lt (blk_lt (g:=gb570) (o:=.cells #[.string a0_0,.int .u16 a0_1,.int .u16 a0_2,.bool a0_3] 28 (0,0)) (by (with_reducible repeat first|apply qqa|apply qqb|apply qqc);exact BK570.out)) : gb570 ≠ gb608));have n15_:=Aside0.mk ((by rw [hg];exact Nat.ne_of_gt (blk_lt (g:=gb570) (o:=.cells #[.string a0_0,.int .u16 a0_1,.int .u16 a0_2,.bool a0_3] 28 (0,0)) (by (with_reducible repeat first|apply qqa|apply qqb|apply qqc);exact BK570.out)) : gb608 ≠ gb570));have n16_:=Aside0.mk ((by rw [hg];exact Nat.ne_of_lt (blk_lt (g:=gb602) (o:=.cells #[.int .u16 t588,.int .u16 t589,.slice Ao44 t590.length co44,.slice Ao45 t593.length co45,.slice Ao46 t596.length co46,.slice Ao47 t599.length co47] 26 (0,0)) (by (with_reducible repeat first|apply qqa|apply qqb|apply qqc);exact BK602.out)) : gb602 ≠ gb608));have n17_:=Aside0.mk ((by rw [hg];exact Nat.ne_of_gt (blk_lt (g:=gb602) (o:=.cells #[.int .u16 t588,.int .u16 t589,.slice Ao44 t590.length co44,.slice Ao45 t593.length co45,.slice Ao46 t596.length co46,.slice Ao47 t599.length co47] 26 (0,0)) (by (with_reducible repeat first|apply qqa|apply qqb|apply qqc);exact BK602.out)) : gb608 ≠ gb602));clear HO578;clear HO581;clear HO584;clear HO587;clear HO592;clear HO595;clear HO598;clear HO601;clear BK570;clear BK602;clear HB;have HO578:=n0_;have HO581:=n1_;have HO584:=n2_;have HO587:=n3_;have HO592:=n4_;have HO595:=n5_;have HO598:=n6_;have HO601:=n7_;have BK570:=n8_;have BK602:=n9_;have HB:=n10_;have BK608:=n11_;have GW608:=n12_;have GE608:=n13_;have NB570_608:=n14_;have NB608_570:=n15_;have NB602_608:=n16_;have NB608_602:=n17_;clear n0_ n1_ n2_ n3_ n4_ n5_ n6_ n7_ n8_ n9_ n10_ n11_ n12_ n13_ n14_ n15_ n16_ n17_;clear hb hbox hg;have hnb50:=NB608_570.out;have hnc50:=NB570_608.out;have hnb51:=NB608_602.out;have hnc51:=NB602_608.out;have hcz52_0 : w49.cell? ⟨gb608,0,none⟩ = some (.string (⟨#[]⟩ : ByteArray)):=(qqh BK608.out 0).trans rfl;have hcz52_1 : w49.cell? ⟨gb608,1,none⟩ = some (.int .u16 0):=(qqh BK608.out 1).trans rfl;have hcz52_2 : w49.cell? ⟨gb608,2,none⟩ = some (.int .u16 0):=(qqh BK608.out 2).trans rfl;have hcz52_3 : w49.cell? ⟨gb608,3,none⟩ = some (.bool false):=(qqh BK608.out 3).trans rfl;have hfz52_0:=qqi BK608.out 0;have hfz52_1:=qqi BK608.out 1;have hfz52_2:=qqi BK608.out 2;have hfz52_3:=qqi BK608.out 3))
         have n0_ : Aside0 (Kd.R k53 53 ((((w49.setCell ⟨gb608,0,none⟩ (.string t603)).setCell ⟨gb608,1,none⟩ (.int .u16 t604)).setCell ⟨gb608,2,none⟩ (.int .u16 t605)).setCell ⟨gb608,3,none⟩ (.bool t606)) w.heap.size (fun k_ => some k_ ≠ (.slice Ao44 t590.length co44 : Value).ownBlock) (.slice Ao36 t576.length co36) t576):=⟨by (with_reducible repeat (first|apply Kd.R_alloc|apply Kd.R_drewN|apply Kd.R_drew));exact Kd.R_mono (Kd.R_far (p:=⟨gb608,3,none⟩) (Kd.R_far (p:=⟨gb608,2,none⟩) (Kd.R_far (p:=⟨gb608,1,none⟩) (Kd.R_far (p:=⟨gb608,0,none⟩) (Kd.R_types HO578.out BK608.out (by decide)) (fun _ hk => hk.2) (.string t603)) (fun _ hk => hk.2) (.int .u16 t604)) (fun _ hk => hk.2) (.int .u16 t605)) (fun _ hk => hk.2) (.bool t606)) (fun _ hk => hk.1.2)⟩
         have n1_ : Aside0 (Kd.N k51 51 ((((w49.setCell ⟨gb608,0,none⟩ (.string t603)).setCell ⟨gb608,1,none⟩ (.int .u16 t604)).setCell ⟨gb608,2,none⟩ (.int .u16 t605)).setCell ⟨gb608,3,none⟩ (.bool t606)) w.heap.size (fun k_ => some k_ ≠ (.slice Ao36 t576.length co36 : Value).ownBlock∧some k_ ≠ (.slice Ao38 t582.length co38 : Value).ownBlock∧some k_ ≠ (.slice Ao39 t585.length co39 : Value).ownBlock∧some k_ ≠ (.slice Ao44 t590.length co44 : Value).ownBlock∧some k_ ≠ (.slice Ao45 t593.length co45 : Value).ownBlock∧some k_ ≠ (.slice Ao46 t596.length co46 : Value).ownBlock∧some k_ ≠ (.slice Ao47 t599.length co47 : Value).ownBlock∧k_ ≠ gb570∧k_ ≠ gb602∧k_ ≠ gb608) (.slice Ao37 t579.length co37) t579):=⟨by (with_reducible repeat (first|apply Kd.N_alloc|apply Kd.N_drewN|apply Kd.N_drew));exact Kd.N_mono (Kd.N_far (p:=⟨gb608,3,none⟩) (Kd.N_far (p:=⟨gb608,2,none⟩) (Kd.N_far (p:=⟨gb608,1,none⟩) (Kd.N_far (p:=⟨gb608,0,none⟩) (Kd.N_mono HO581.out (fun k_ hk => (⟨hk,hk.2⟩ : _∧k_ ≠ gb608))) (fun _ hk => hk.2) (.string t603)) (fun _ hk => hk.2) (.int .u16 t604)) (fun _ hk => hk.2) (.int .u16 t605)) (fun _ hk => hk.2) (.bool t606)) (fun _ hk => ⟨hk.1.1.1.1.1.1.1.1,⟨hk.1.1.1.1.1.1.1.2.1,⟨hk.1.1.1.1.1.1.1.2.2.1,⟨hk.1.1.1.1.1.1.2,⟨hk.1.1.1.1.1.2,⟨hk.1.1.1.1.2,⟨hk.1.1.1.2,⟨hk.1.1.1.1.1.1.1.2.2.2,⟨hk.1.1.2,hk.1.2⟩⟩⟩⟩⟩⟩⟩⟩⟩)⟩
         have n2_ : Aside0 (Kd.N k51 51 ((((w49.setCell ⟨gb608,0,none⟩ (.string t603)).setCell ⟨gb608,1,none⟩ (.int .u16 t604)).setCell ⟨gb608,2,none⟩ (.int .u16 t605)).setCell ⟨gb608,3,none⟩ (.bool t606)) w.heap.size (fun k_ => some k_ ≠ (.slice Ao36 t576.length co36 : Value).ownBlock∧some k_ ≠ (.slice Ao37 t579.length co37 : Value).ownBlock∧some k_ ≠ (.slice Ao39 t585.length co39 : Value).ownBlock∧some k_ ≠ (.slice Ao44 t590.length co44 : Value).ownBlock∧some k_ ≠ (.slice Ao45 t593.length co45 : Value).ownBlock∧some k_ ≠ (.slice Ao46 t596.length co46 : Value).ownBlock∧some k_ ≠ (.slice Ao47 t599.length co47 : Value).ownBlock∧k_ ≠ gb570∧k_ ≠ gb602∧k_ ≠ gb608) (.slice Ao38 t582.length co38) t582):=⟨by (with_reducible repeat (first|apply Kd.N_alloc|apply Kd.N_drewN|apply Kd.N_drew));exact Kd.N_mono (Kd.N_far (p:=⟨gb608,3,none⟩) (Kd.N_far (p:=⟨gb608,2,none⟩) (Kd.N_far (p:=⟨gb608,1,none⟩) (Kd.N_far (p:=⟨gb608,0,none⟩) (Kd.N_mono HO584.out (fun k_ hk => (⟨hk,hk.2⟩ : _∧k_ ≠ gb608))) (fun _ hk => hk.2) (.string t603)) (fun _ hk => hk.2) (.int .u16 t604)) (fun _ hk => hk.2) (.int .u16 t605)) (fun _ hk => hk.2) (.bool t606)) (fun _ hk => ⟨hk.1.1.1.1.1.1.1.1,⟨hk.1.1.1.1.1.1.1.2.1,⟨hk.1.1.1.1.1.1.1.2.2.1,⟨hk.1.1.1.1.1.1.2,⟨hk.1.1.1.1.1.2,⟨hk.1.1.1.1.2,⟨hk.1.1.1.2,⟨hk.1.1.1.1.1.1.1.2.2.2,⟨hk.1.1.2,hk.1.2⟩⟩⟩⟩⟩⟩⟩⟩⟩)⟩
         have n3_ : Aside0 (Kd.N k51 51 ((((w49.setCell ⟨gb608,0,none⟩ (.string t603)).setCell ⟨gb608,1,none⟩ (.int .u16 t604)).setCell ⟨gb608,2,none⟩ (.int .u16 t605)).setCell ⟨gb608,3,none⟩ (.bool t606)) w.heap.size (fun k_ => some k_ ≠ (.slice Ao36 t576.length co36 : Value).ownBlock∧some k_ ≠ (.slice Ao37 t579.length co37 : Value).ownBlock∧some k_ ≠ (.slice Ao38 t582.length co38 : Value).ownBlock∧some k_ ≠ (.slice Ao44 t590.length co44 : Value).ownBlock∧some k_ ≠ (.slice Ao45 t593.length co45 : Value).ownBlock∧some k_ ≠ (.slice Ao46 t596.length co46 : Value).ownBlock∧some k_ ≠ (.slice Ao47 t599.length co47 : Value).ownBlock∧k_ ≠ gb570∧k_ ≠ gb602∧k_ ≠ gb608) (.slice Ao39 t585.length co39) t585):=⟨by (with_reducible repeat (first|apply Kd.N_alloc|apply Kd.N_drewN|apply Kd.N_drew));exact Kd.N_mono (Kd.N_far (p:=⟨gb608,3,none⟩) (Kd.N_far (p:=⟨gb608,2,none⟩) (Kd.N_far (p:=⟨gb608,1,none⟩) (Kd.N_far (p:=⟨gb608,0,none⟩) (Kd.N_mono HO587.out (fun k_ hk => (⟨hk,hk.2⟩ : _∧k_ ≠ gb608))) (fun _ hk => hk.2) (.string t603)) (fun _ hk => hk.2) (.int .u16 t604)) (fun _ hk => hk.2) (.int .u16 t605)) (fun _ hk => hk.2) (.bool t606)) (fun _ hk => ⟨hk.1.1.1.1.1.1.1.1,⟨hk.1.1.1.1.1.1.1.2.1,⟨hk.1.1.1.1.1.1.1.2.2.1,⟨hk.1.1.1.1.1.1.2,⟨hk.1.1.1.1.1.2,⟨hk.1.1.1.1.2,⟨hk.1.1.1.2,⟨hk.1.1.1.1.1.1.1.2.2.2,⟨hk.1.1.2,hk.1.2⟩⟩⟩⟩⟩⟩⟩⟩⟩)⟩
         have n4_ : Aside0 (Kd.R k53 53 ((((w49.setCell ⟨gb608,0,none⟩ (.string t603)).setCell ⟨gb608,1,none⟩ (.int .u16 t604)).setCell ⟨gb608,2,none⟩ (.int .u16 t605)).setCell ⟨gb608,3,none⟩ (.bool t606)) w.heap.size (fun k_ => some k_ ≠ (.slice Ao36 t576.length co36 : Value).ownBlock) (.slice Ao44 t590.length co44) t590):=⟨by (with_reducible repeat (first|apply Kd.R_alloc|apply Kd.R_drewN|apply Kd.R_drew));exact Kd.R_mono (Kd.R_far (p:=⟨gb608,3,none⟩) (Kd.R_far (p:=⟨gb608,2,none⟩) (Kd.R_far (p:=⟨gb608,1,none⟩) (Kd.R_far (p:=⟨gb608,0,none⟩) (Kd.R_types HO592.out BK608.out (by decide)) (fun _ hk => hk.2) (.string t603)) (fun _ hk => hk.2) (.int .u16 t604)) (fun _ hk => hk.2) (.int .u16 t605)) (fun _ hk => hk.2) (.bool t606)) (fun _ hk => hk.1.2)⟩
         have n5_ : Aside0 (Kd.N k51 51 ((((w49.setCell ⟨gb608,0,none⟩ (.string t603)).setCell ⟨gb608,1,none⟩ (.int .u16 t604)).setCell ⟨gb608,2,none⟩ (.int .u16 t605)).setCell ⟨gb608,3,none⟩ (.bool t606)) w.heap.size (fun k_ => some k_ ≠ (.slice Ao36 t576.length co36 : Value).ownBlock∧some k_ ≠ (.slice Ao37 t579.length co37 : Value).ownBlock∧some k_ ≠ (.slice Ao38 t582.length co38 : Value).ownBlock∧some k_ ≠ (.slice Ao39 t585.length co39 : Value).ownBlock∧some k_ ≠ (.slice Ao44 t590.length co44 : Value).ownBlock∧some k_ ≠ (.slice Ao46 t596.length co46 : Value).ownBlock∧some k_ ≠ (.slice Ao47 t599.length co47 : Value).ownBlock∧k_ ≠ gb570∧k_ ≠ gb602∧k_ ≠ gb608) (.slice Ao45 t593.length co45) t593):=⟨by (with_reducible repeat (first|apply Kd.N_alloc|apply Kd.N_drewN|apply Kd.N_drew));exact Kd.N_mono (Kd.N_far (p:=⟨gb608,3,none⟩) (Kd.N_far (p:=⟨gb608,2,none⟩) (Kd.N_far (p:=⟨gb608,1,none⟩) (Kd.N_far (p:=⟨gb608,0,none⟩) (Kd.N_mono HO595.out (fun k_ hk => (⟨hk,hk.2⟩ : _∧k_ ≠ gb608))) (fun _ hk => hk.2) (.string t603)) (fun _ hk => hk.2) (.int .u16 t604)) (fun _ hk => hk.2) (.int .u16 t605)) (fun _ hk => hk.2) (.bool t606)) (fun _ hk => ⟨hk.1.1.1.2.2.2.1,⟨hk.1.1.1.2.2.2.2.1,⟨hk.1.1.1.2.2.2.2.2.1,⟨hk.1.1.1.2.2.2.2.2.2.1,⟨hk.1.1.1.1,⟨hk.1.1.1.2.1,⟨hk.1.1.1.2.2.1,⟨hk.1.1.1.2.2.2.2.2.2.2,⟨hk.1.1.2,hk.1.2⟩⟩⟩⟩⟩⟩⟩⟩⟩)⟩
         have n6_ : Aside0 (Kd.N k51 51 ((((w49.setCell ⟨gb608,0,none⟩ (.string t603)).setCell ⟨gb608,1,none⟩ (.int .u16 t604)).setCell ⟨gb608,2,none⟩ (.int .u16 t605)).setCell ⟨gb608,3,none⟩ (.bool t606)) w.heap.size (fun k_ => some k_ ≠ (.slice Ao36 t576.length co36 : Value).ownBlock∧some k_ ≠ (.slice Ao37 t579.length co37 : Value).ownBlock∧some k_ ≠ (.slice Ao38 t582.length co38 : Value).ownBlock∧some k_ ≠ (.slice Ao39 t585.length co39 : Value).ownBlock∧some k_ ≠ (.slice Ao44 t590.length co44 : Value).ownBlock∧some k_ ≠ (.slice Ao45 t593.length co45 : Value).ownBlock∧some k_ ≠ (.slice Ao47 t599.length co47 : Value).ownBlock∧k_ ≠ gb570∧k_ ≠ gb602∧k_ ≠ gb608) (.slice Ao46 t596.length co46) t596):=⟨by (with_reducible repeat (first|apply Kd.N_alloc|apply Kd.N_drewN|apply Kd.N_drew));exact Kd.N_mono (Kd.N_far (p:=⟨gb608,3,none⟩) (Kd.N_far (p:=⟨gb608,2,none⟩) (Kd.N_far (p:=⟨gb608,1,none⟩) (Kd.N_far (p:=⟨gb608,0,none⟩) (Kd.N_mono HO598.out (fun k_ hk => (⟨hk,hk.2⟩ : _∧k_ ≠ gb608))) (fun _ hk => hk.2) (.string t603)) (fun _ hk => hk.2) (.int .u16 t604)) (fun _ hk => hk.2) (.int .u16 t605)) (fun _ hk => hk.2) (.bool t606)) (fun _ hk => ⟨hk.1.1.1.2.2.2.1,⟨hk.1.1.1.2.2.2.2.1,⟨hk.1.1.1.2.2.2.2.2.1,⟨hk.1.1.1.2.2.2.2.2.2.1,⟨hk.1.1.1.1,⟨hk.1.1.1.2.1,⟨hk.1.1.1.2.2.1,⟨hk.1.1.1.2.2.2.2.2.2.2,⟨hk.1.1.2,hk.1.2⟩⟩⟩⟩⟩⟩⟩⟩⟩)⟩
         have n7_ : Aside0 (Kd.N k51 51 ((((w49.setCell ⟨gb608,0,none⟩ (.string t603)).setCell ⟨gb608,1,none⟩ (.int .u16 t604)).setCell ⟨gb608,2,none⟩ (.int .u16 t605)).setCell ⟨gb608,3,none⟩ (.bool t606)) w.heap.size (fun k_ => some k_ ≠ (.slice Ao36 t576.length co36 : Value).ownBlock∧some k_ ≠ (.slice Ao37 t579.length co37 : Value).ownBlock∧some k_ ≠ (.slice Ao38 t582.length co38 : Value).ownBlock∧some k_ ≠ (.slice Ao39 t585.length co39 : Value).ownBlock∧some k_ ≠ (.slice Ao44 t590.length co44 : Value).ownBlock∧some k_ ≠ (.slice Ao45 t593.length co45 : Value).ownBlock∧some k_ ≠ (.slice Ao46 t596.length co46 : Value).ownBlock∧k_ ≠ gb570∧k_ ≠ gb602∧k_ ≠ gb608) (.slice Ao47 t599.length co47) t599):=⟨by (with_reducible repeat (first|apply Kd.N_alloc|apply Kd.N_drewN|apply Kd.N_drew));exact Kd.N_mono (Kd.N_far (p:=⟨gb608,3,none⟩) (Kd.N_far (p:=⟨gb608,2,none⟩) (Kd.N_far (p:=⟨gb608,1,none⟩) (Kd.N_far (p:=⟨gb608,0,none⟩) (Kd.N_mono HO601.out (fun k_ hk => (⟨hk,hk.2⟩ : _∧k_ ≠ gb608))) (fun _ hk => hk.2) (.string t603)) (fun _ hk => hk.2) (.int .u16 t604)) (fun _ hk => hk.2) (.int .u16 t605)) (fun _ hk => hk.2) (.bool t606)) (fun _ hk => ⟨hk.1.1.1.2.2.2.1,⟨hk.1.1.1.2.2.2.2.1,⟨hk.1.1.1.2.2.2.2.2.1,⟨hk.1.1.1.2.2.2.2.2.2.1,⟨hk.1.1.1.1,⟨hk.1.1.1.2.1,⟨hk.1.1.1.2.2.1,⟨hk.1.1.1.2.2.2.2.2.2.2,⟨hk.1.1.2,hk.1.2⟩⟩⟩⟩⟩⟩⟩⟩⟩)⟩
         have n8_ : Aside0 (((((w49.setCell ⟨gb608,0,none⟩ (.string t603)).setCell ⟨gb608,1,none⟩ (.int .u16 t604)).setCell ⟨gb608,2,none⟩ (.int .u16 t605)).setCell ⟨gb608,3,none⟩ (.bool t606)).heap[gb570]? = some (.cells #[.string a0_0,.int .u16 a0_1,.int .u16 a0_2,.bool a0_3] 28 (0,0))):=⟨by (with_reducible repeat first|apply qqa|apply qqb|apply qqc);refine blk_far ?_ NB570_608.out _;(with_reducible repeat first|apply qqa|apply qqb|apply qqc);refine blk_far ?_ NB570_608.out _;(with_reducible repeat first|apply qqa|apply qqb|apply qqc);refine blk_far ?_ NB570_608.out _;(with_reducible repeat first|apply qqa|apply qqb|apply qqc);refine blk_far ?_ NB570_608.out _;(with_reducible repeat first|apply qqa|apply qqb|apply qqc);exact BK570.out⟩
         have n9_ : Aside0 (((((w49.setCell ⟨gb608,0,none⟩ (.string t603)).setCell ⟨gb608,1,none⟩ (.int .u16 t604)).setCell ⟨gb608,2,none⟩ (.int .u16 t605)).setCell ⟨gb608,3,none⟩ (.bool t606)).heap[gb602]? = some (.cells #[.int .u16 t588,.int .u16 t589,.slice Ao44 t590.length co44,.slice Ao45 t593.length co45,.slice Ao46 t596.length co46,.slice Ao47 t599.length co47] 26 (0,0))):=⟨by (with_reducible repeat first|apply qqa|apply qqb|apply qqc);refine blk_far ?_ NB602_608.out _;(with_reducible repeat first|apply qqa|apply qqb|apply qqc);refine blk_far ?_ NB602_608.out _;(with_reducible repeat first|apply qqa|apply qqb|apply qqc);refine blk_far ?_ NB602_608.out _;(with_reducible repeat first|apply qqa|apply qqb|apply qqc);refine blk_far ?_ NB602_608.out _;(with_reducible repeat first|apply qqa|apply qqb|apply qqc);exact BK602.out⟩
         have n10_ : Aside0 (((((w49.setCell ⟨gb608,0,none⟩ (.string t603)).setCell ⟨gb608,1,none⟩ (.int .u16 t604)).setCell ⟨gb608,2,none⟩ (.int .u16 t605)).setCell ⟨gb608,3,none⟩ (.bool t606)).heap[gb608]? = some (.cells #[.string t603,.int .u16 t604,.int .u16 t605,.bool t606] 28 (0,0))):=⟨by (with_reducible repeat first|apply qqa|apply qqb|apply qqc);refine blk_put (cs:=#[.string t603,.int .u16 t604,.int .u16 t605,.bool false]) ?_ 3 _ rfl;(with_reducible repeat first|apply qqa|apply qqb|apply qqc);refine blk_put (cs:=#[.string t603,.int .u16 t604,.int .u16 0,.bool false]) ?_ 2 _ rfl;(with_reducible repeat first|apply qqa|apply qqb|apply qqc);refine blk_put (cs:=#[.string t603,.int .u16 0,.int .u16 0,.bool false]) ?_ 1 _ rfl;(with_reducible repeat first|apply qqa|apply qqb|apply qqc);refine blk_put (cs:=#[.string (⟨#[]⟩ : ByteArray),.int .u16 0,.int .u16 0,.bool false]) ?_ 0 _ rfl;(with_reducible repeat first|apply qqa|apply qqb|apply qqc);exact BK608.out⟩
         have n11_ : Aside0 (Below w.heap.size w ((((w49.setCell ⟨gb608,0,none⟩ (.string t603)).setCell ⟨gb608,1,none⟩ (.int .u16 t604)).setCell ⟨gb608,2,none⟩ (.int .u16 t605)).setCell ⟨gb608,3,none⟩ (.bool t606))):=⟨by repeat (first|(with_reducible first|exact HB.out|apply qqf|apply qqd|apply qqe|refine qqg ?_ GE570.out|refine qqg ?_ GE602.out|refine qqg ?_ GE608.out)|exact HB.out)⟩
         (try clear HO578)
         (try clear HO581)
         (try clear HO584)
         (try clear HO587)
         (try clear HO592)
         (try clear HO595)
         (try clear HO598)
         (try clear HO601)
         (try clear BK570)
         (try clear BK602)
         (try clear BK608)
         (try clear HB)
         generalize ((((w49.setCell ⟨gb608,0,none⟩ (.string t603)).setCell ⟨gb608,1,none⟩ (.int .u16 t604)).setCell ⟨gb608,2,none⟩ (.int .u16 t605)).setCell ⟨gb608,3,none⟩ (.bool t606)) = w53 at n0_ n1_ n2_ n3_ n4_ n5_ n6_ n7_ n8_ n9_ n10_ n11_ ⊢
         have HO578:=n0_
         have HO581:=n1_
         have HO584:=n2_
         have HO587:=n3_
         have HO592:=n4_
         have HO595:=n5_
         have HO598:=n6_
         have HO601:=n7_
         have BK570:=n8_
         have BK602:=n9_
         have BK608:=n10_
         have HB:=n11_
         clear n0_ n1_ n2_ n3_ n4_ n5_ n6_ n7_ n8_ n9_ n10_ n11_
         have n0_:=Aside0.mk (Kd.R_drew HO578.out)
         have n1_:=Aside0.mk (Kd.N_drew HO581.out)
         have n2_:=Aside0.mk (Kd.N_drew HO584.out)
         have n3_:=Aside0.mk (Kd.N_drew HO587.out)
         have n4_:=Aside0.mk (Kd.R_drew HO592.out)
         have n5_:=Aside0.mk (Kd.N_drew HO595.out)
         have n6_:=Aside0.mk (Kd.N_drew HO598.out)
         have n7_:=Aside0.mk (Kd.N_drew HO601.out)
         have n8_:=Aside0.mk (qqb BK570.out)
         have n9_:=Aside0.mk (qqb BK602.out)
         have n10_:=Aside0.mk (qqb BK608.out)
         have n11_:=Aside0.mk (qqe HB.out)
         clear HO578
         clear HO581
         clear HO584
         clear HO587
         clear HO592
         clear HO595
         clear HO598
         clear HO601
         clear BK570
         clear BK602
         clear BK608
         clear HB
         have HO578:=n0_
         have HO581:=n1_
         have HO584:=n2_
         have HO587:=n3_
         have HO592:=n4_
         have HO595:=n5_
         have HO598:=n6_
         have HO601:=n7_
         have BK570:=n8_
         have BK602:=n9_
         have BK608:=n10_
         have HB:=n11_
         clear n0_ n1_ n2_ n3_ n4_ n5_ n6_ n7_ n8_ n9_ n10_ n11_
         refine start_ (n:=30) (S:=fun w' => w'.cell? ⟨gb570,0,none⟩ = some (.string a0_0)∧w'.cell? ⟨gb570,1,none⟩ = some (.int .u16 a0_1)∧w'.cell? ⟨gb570,2,none⟩ = some (.int .u16 a0_2)∧w'.cell? ⟨gb570,3,none⟩ = some (.bool a0_3)∧w'.cell? ⟨gb602,0,none⟩ = some (.int .u16 t588)∧w'.cell? ⟨gb602,1,none⟩ = some (.int .u16 t589)∧w'.cell? ⟨gb602,2,none⟩ = some (.slice Ao44 t590.length co44)∧w'.cell? ⟨gb602,3,none⟩ = some (.slice Ao45 t593.length co45)∧w'.cell? ⟨gb602,4,none⟩ = some (.slice Ao46 t596.length co46)∧w'.cell? ⟨gb602,5,none⟩ = some (.slice Ao47 t599.length co47)) (ds:=[]) #[false,false,false,false,false,false,false,false,false,false,false,false,false,false,false,false,false,false,false,false,false,false,false,false,false,false,false,false,false,false] (by kernel_rfl) rfl rfl ⟨(qqh BK570.out 0).trans rfl,(qqh BK570.out 1).trans rfl,(qqh BK570.out 2).trans rfl,(qqh BK570.out 3).trans rfl,(qqh BK602.out 0).trans rfl,(qqh BK602.out 1).trans rfl,(qqh BK602.out 2).trans rfl,(qqh BK602.out 3).trans rfl,(qqh BK602.out 4).trans rfl,(qqh BK602.out 5).trans rfl⟩ (fun hHeld => ?_);refine with_tabW nunciolaw08_QueryFails.tab7 nunciolaw08_QueryFails.bits7 (fun HT_ HW_ => ?_)
         generalize w53.drew = w54 at HO578 HO581 HO584 HO587 HO592 HO595 HO598 HO601 BK570 BK602 BK608 HB hHeld ⊢
         refine pure_ (i:=1) (N:=some 38) (v:=?_) (a':=?_) #[false,true,false,false,false,false,false,false,false,false,false,false,false,false,false,false,false,false,false,false,false,false,false,false,false,false,false,false,false,false] rfl rfl (any_of HT_.out (by kernel_rfl)) (fun _ _ _ h => h) (Or.inl ⟨by rfl,?_⟩) ?_ ?_
         rotate_left
         ·
          intro w'
          go_simp
          with_reducible rfl
         rotate_left
         ·
          simp only [Act.put,qqj,qqk,qql,i64_w,i32_w]
          rfl
         refine take_ (i:=0) (N:=some 37) (v:=?_) (a':=?_) #[true,true,false,false,false,false,false,false,false,false,false,false,false,false,false,false,false,false,false,false,false,false,false,false,false,false,false,false,false,false] rfl rfl (take_ofW HT_.out HW_.out (by kernel_rfl)) (fun _ _ _ h => h) (Or.inl ⟨by rfl,?_⟩) hHeld ?_ ?_
         rotate_left
         ·
          rintro w' ⟨s0,s1,s2,s3,s4,s5,s6,s7,s8,s9⟩
          go_simp
          with_reducible rfl
         rotate_left
         ·
          simp only [Act.put,qqj,qqk,qql,i64_w,i32_w]
          rfl
         refine take_ (i:=2) (N:=some 39) (v:=?_) (a':=?_) #[true,true,true,false,false,false,false,false,false,false,false,false,false,false,false,false,false,false,false,false,false,false,false,false,false,false,false,false,false,false] rfl rfl (take_ofW HT_.out HW_.out (by kernel_rfl)) (fun _ _ _ h => h) (Or.inl ⟨by rfl,?_⟩) hHeld ?_ ?_
         rotate_left
         ·
          rintro w' ⟨s0,s1,s2,s3,s4,s5,s6,s7,s8,s9⟩
          go_simp
          with_reducible rfl
         rotate_left
         ·
          simp only [Act.put,qqj,qqk,qql,i64_w,i32_w]
          rfl
         refine one_ (i:=3) (N:=some 40) #[true,true,true,true,false,false,false,false,false,false,false,false,false,false,false,false,false,false,false,false,false,false,false,false,false,false,false,false,false,false] rfl rfl (one_of HT_.out (by kernel_rfl)) (by decide) (fun K hK => ?_)
         refine goes_ Try.func16 (by kernel_rfl) rfl #[.agg #[.string a0_0,.int .u16 a0_1,.int .u16 a0_2,.bool a0_3],.int .u16 a1,.agg #[.int .u16 t588,.int .u16 t589,.slice Ao44 t590.length co44,.slice Ao45 t593.length co45,.slice Ao46 t596.length co46,.slice Ao47 t599.length co47]] (by rfl) rfl rfl (by (try simp only [List.map_toArray,List.map_cons,List.map_nil]);first|done|rfl|(simp only [List.length_drop,List.length_take];rfl)) ?_
         with_reducible refine (query_Fits.calls kj4 a0_0 a0_1 a0_2 a0_3 a1 t588 t589 _ _ t590 _ _ t593 _ _ t596 _ _ t599 true _ ?side1 ?side2 ?side3 ?side4 ?side5 ?side6 ?side7 ?side8 A24.out).mono ?_
         (case side1 => repeat (first|exact (Kd.R_reads' HO592.out).2.2|(with_reducible refine Kd.C_alloc ?_ _)|(with_reducible refine Kd.C_drewN ?_ _)|(with_reducible refine Kd.C_drew ?_)))
         (case side2 => exact (Kd.R_reads' HO592.out).2.1)
         (case side3 => repeat (first|exact (Kd.N_reads' HO595.out).2.2|(with_reducible refine Kd.C_alloc ?_ _)|(with_reducible refine Kd.C_drewN ?_ _)|(with_reducible refine Kd.C_drew ?_)))
         (case side4 => exact (Kd.N_reads' HO595.out).2.1)
         (case side5 => repeat (first|exact (Kd.N_reads' HO598.out).2.2|(with_reducible refine Kd.C_alloc ?_ _)|(with_reducible refine Kd.C_drewN ?_ _)|(with_reducible refine Kd.C_drew ?_)))
         (case side6 => exact (Kd.N_reads' HO598.out).2.1)
         (case side7 => repeat (first|exact (Kd.N_reads' HO601.out).2.2|(with_reducible refine Kd.C_alloc ?_ _)|(with_reducible refine Kd.C_drewN ?_ _)|(with_reducible refine Kd.C_drew ?_)))
         (case side8 => exact (Kd.N_reads' HO601.out).2.1)
         rintro e w55 ⟨rfl,hb⟩
         refine ⟨_,rfl,?_⟩
         have n0_:=Aside0.mk (Kd.R_below (by (with_reducible repeat (first|apply Kd.R_alloc|apply Kd.R_drewN|apply Kd.R_drew));exact HO578.out) hb)
         have n1_:=Aside0.mk (Kd.N_below (by (with_reducible repeat (first|apply Kd.N_alloc|apply Kd.N_drewN|apply Kd.N_drew));exact HO581.out) hb)
         have n2_:=Aside0.mk (Kd.N_below (by (with_reducible repeat (first|apply Kd.N_alloc|apply Kd.N_drewN|apply Kd.N_drew));exact HO584.out) hb)
         have n3_:=Aside0.mk (Kd.N_below (by (with_reducible repeat (first|apply Kd.N_alloc|apply Kd.N_drewN|apply Kd.N_drew));exact HO587.out) hb)
         have n4_:=Aside0.mk (Kd.R_below (by (with_reducible repeat (first|apply Kd.R_alloc|apply Kd.R_drewN|apply Kd.R_drew));exact HO592.out) hb)
         have n5_:=Aside0.mk (Kd.N_below (by (with_reducible repeat (first|apply Kd.N_alloc|apply Kd.N_drewN|apply Kd.N_drew));exact HO595.out) hb)
         have n6_:=Aside0.mk (Kd.N_below (by (with_reducible repeat (first|apply Kd.N_alloc|apply Kd.N_drewN|apply Kd.N_drew));exact HO598.out) hb)
         have n7_:=Aside0.mk (Kd.N_below (by (with_reducible repeat (first|apply Kd.N_alloc|apply Kd.N_drewN|apply Kd.N_drew));exact HO601.out) hb)
         have n8_:=Aside0.mk (blk_below (g:=gb570) (o:=.cells #[.string a0_0,.int .u16 a0_1,.int .u16 a0_2,.bool a0_3] 28 (0,0)) (by (with_reducible repeat first|apply qqa|apply qqb|apply qqc);exact BK570.out) hb)
         have n9_:=Aside0.mk (blk_below (g:=gb602) (o:=.cells #[.int .u16 t588,.int .u16 t589,.slice Ao44 t590.length co44,.slice Ao45 t593.length co45,.slice Ao46 t596.length co46,.slice Ao47 t599.length co47] 26 (0,0)) (by (with_reducible repeat first|apply qqa|apply qqb|apply qqc);exact BK602.out) hb)
         have n10_:=Aside0.mk (blk_below (g:=gb608) (o:=.cells #[.string t603,.int .u16 t604,.int .u16 t605,.bool t606] 28 (0,0)) (by (with_reducible repeat first|apply qqa|apply qqb|apply qqc);exact BK608.out) hb)
         have n11_:=Aside0.mk (below_step (by repeat (first|(with_reducible first|exact HB.out|apply qqf|apply qqd|apply qqe|refine qqg ?_ GE570.out|refine qqg ?_ GE602.out|refine qqg ?_ GE608.out)|exact HB.out)) hb)
         clear HO578
         clear HO581
         clear HO584
         clear HO587
         clear HO592
         clear HO595
         clear HO598
         clear HO601
         clear BK570
         clear BK602
         clear BK608
         clear HB
         have HO578:=n0_
         have HO581:=n1_
         have HO584:=n2_
         have HO587:=n3_
         have HO592:=n4_
         have HO595:=n5_
         have HO598:=n6_
         have HO601:=n7_
         have BK570:=n8_
         have BK602:=n9_
         have BK608:=n10_
         have HB:=n11_
         clear n0_ n1_ n2_ n3_ n4_ n5_ n6_ n7_ n8_ n9_ n10_ n11_
         (try clear hb)
         (try clear hb2)
         (try clear hk)
         (try clear hi)
         refine hK.out _ _ ⟨(qqh BK570.out 0).trans rfl,(qqh BK570.out 1).trans rfl,(qqh BK570.out 2).trans rfl,(qqh BK570.out 3).trans rfl,(qqh BK602.out 0).trans rfl,(qqh BK602.out 1).trans rfl,(qqh BK602.out 2).trans rfl,(qqh BK602.out 3).trans rfl,(qqh BK602.out 4).trans rfl,(qqh BK602.out 5).trans rfl⟩ (fun hHeld => ?_)
         clear hK K
         refine norm_ (a':=?_) ?_ ?_
         rotate_left
         ·
          show Act.put _ (some 40) _ = _
          simp only [Act.put,qqj,qqk,qql,i64_w,i32_w]
          rfl
         refine pure_ (i:=4) (N:=some 41) (v:=?_) (a':=?_) #[true,true,true,true,true,false,false,false,false,false,false,false,false,false,false,false,false,false,false,false,false,false,false,false,false,false,false,false,false,false] rfl rfl (any_of HT_.out (by kernel_rfl)) (fun _ _ _ h => h) (Or.inl ⟨by rfl,?_⟩) ?_ ?_
         rotate_left
         ·
          intro w'
          go_simp
          with_reducible rfl
         rotate_left
         ·
          simp only [Act.put,qqj,qqk,qql,i64_w,i32_w]
          rfl
         refine take_ (i:=5) (N:=some 42) (v:=?_) (a':=?_) #[true,true,true,true,true,true,false,false,false,false,false,false,false,false,false,false,false,false,false,false,false,false,false,false,false,false,false,false,false,false] rfl rfl (take_ofW HT_.out HW_.out (by kernel_rfl)) (fun _ _ _ h => h) (Or.inl ⟨by rfl,?_⟩) hHeld ?_ ?_
         rotate_left
         ·
          rintro w' ⟨s0,s1,s2,s3,s4,s5,s6,s7,s8,s9⟩
          go_simp
          with_reducible rfl
         rotate_left
         ·
          simp only [Act.put,qqj,qqk,qql,i64_w,i32_w]
          rfl
         refine one_ (i:=6) (N:=some 43) #[true,true,true,true,true,true,true,false,false,false,false,false,false,false,false,false,false,false,false,false,false,false,false,false,false,false,false,false,false,false] rfl rfl (one_of HT_.out (by kernel_rfl)) (by decide) (fun K hK => ?_)
         refine goes_ Try.func18 (by kernel_rfl) rfl #[.agg #[.int .u16 t588,.int .u16 t589,.slice Ao44 t590.length co44,.slice Ao45 t593.length co45,.slice Ao46 t596.length co46,.slice Ao47 t599.length co47]] (by rfl) rfl rfl (by (try simp only [List.map_toArray,List.map_cons,List.map_nil]);first|done|rfl|(simp only [List.length_drop,List.length_take];rfl)) ?_
         with_reducible refine (query_Negative.calls t588 t589 _ _ t590 _ _ t593 _ _ t596 _ _ t599 false _ ?side1 ?side2 ?side3 ?side4 ?side5 ?side6 ?side7 ?side8 A26.out).mono ?_
         (case side1 => repeat (first|exact (Kd.R_reads' HO592.out).2.2|(with_reducible refine Kd.C_alloc ?_ _)|(with_reducible refine Kd.C_drewN ?_ _)|(with_reducible refine Kd.C_drew ?_)))
         (case side2 => exact (Kd.R_reads' HO592.out).2.1)
         (case side3 => repeat (first|exact (Kd.N_reads' HO595.out).2.2|(with_reducible refine Kd.C_alloc ?_ _)|(with_reducible refine Kd.C_drewN ?_ _)|(with_reducible refine Kd.C_drew ?_)))
         (case side4 => exact (Kd.N_reads' HO595.out).2.1)
         (case side5 => repeat (first|exact (Kd.N_reads' HO598.out).2.2|(with_reducible refine Kd.C_alloc ?_ _)|(with_reducible refine Kd.C_drewN ?_ _)|(with_reducible refine Kd.C_drew ?_)))
         (case side6 => exact (Kd.N_reads' HO598.out).2.1)
         (case side7 => repeat (first|exact (Kd.N_reads' HO601.out).2.2|(with_reducible refine Kd.C_alloc ?_ _)|(with_reducible refine Kd.C_drewN ?_ _)|(with_reducible refine Kd.C_drew ?_)))
         (case side8 => exact (Kd.N_reads' HO601.out).2.1)
         rintro e w56 ⟨rfl,hb⟩
         refine ⟨_,rfl,?_⟩
         have n0_:=Aside0.mk (Kd.R_below (by (with_reducible repeat (first|apply Kd.R_alloc|apply Kd.R_drewN|apply Kd.R_drew));exact HO578.out) hb)
         have n1_:=Aside0.mk (Kd.N_below (by (with_reducible repeat (first|apply Kd.N_alloc|apply Kd.N_drewN|apply Kd.N_drew));exact HO581.out) hb)
         have n2_:=Aside0.mk (Kd.N_below (by (with_reducible repeat (first|apply Kd.N_alloc|apply Kd.N_drewN|apply Kd.N_drew));exact HO584.out) hb)
         have n3_:=Aside0.mk (Kd.N_below (by (with_reducible repeat (first|apply Kd.N_alloc|apply Kd.N_drewN|apply Kd.N_drew));exact HO587.out) hb)
         have n4_:=Aside0.mk (Kd.R_below (by (with_reducible repeat (first|apply Kd.R_alloc|apply Kd.R_drewN|apply Kd.R_drew));exact HO592.out) hb)
         have n5_:=Aside0.mk (Kd.N_below (by (with_reducible repeat (first|apply Kd.N_alloc|apply Kd.N_drewN|apply Kd.N_drew));exact HO595.out) hb)
         have n6_:=Aside0.mk (Kd.N_below (by (with_reducible repeat (first|apply Kd.N_alloc|apply Kd.N_drewN|apply Kd.N_drew));exact HO598.out) hb)
         have n7_:=Aside0.mk (Kd.N_below (by (with_reducible repeat (first|apply Kd.N_alloc|apply Kd.N_drewN|apply Kd.N_drew));exact HO601.out) hb)
         have n8_:=Aside0.mk (blk_below (g:=gb570) (o:=.cells #[.string a0_0,.int .u16 a0_1,.int .u16 a0_2,.bool a0_3] 28 (0,0)) (by (with_reducible repeat first|apply qqa|apply qqb|apply qqc);exact BK570.out) hb)
         have n9_:=Aside0.mk (blk_below (g:=gb602) (o:=.cells #[.int .u16 t588,.int .u16 t589,.slice Ao44 t590.length co44,.slice Ao45 t593.length co45,.slice Ao46 t596.length co46,.slice Ao47 t599.length co47] 26 (0,0)) (by (with_reducible repeat first|apply qqa|apply qqb|apply qqc);exact BK602.out) hb)
         have n10_:=Aside0.mk (blk_below (g:=gb608) (o:=.cells #[.string t603,.int .u16 t604,.int .u16 t605,.bool t606] 28 (0,0)) (by (with_reducible repeat first|apply qqa|apply qqb|apply qqc);exact BK608.out) hb)
         have n11_:=Aside0.mk (below_step (by repeat (first|(with_reducible first|exact HB.out|apply qqf|apply qqd|apply qqe|refine qqg ?_ GE570.out|refine qqg ?_ GE602.out|refine qqg ?_ GE608.out)|exact HB.out)) hb)
         clear HO578
         clear HO581
         clear HO584
         clear HO587
         clear HO592
         clear HO595
         clear HO598
         clear HO601
         clear BK570
         clear BK602
         clear BK608
         clear HB
         have HO578:=n0_
         have HO581:=n1_
         have HO584:=n2_
         have HO587:=n3_
         have HO592:=n4_
         have HO595:=n5_
         have HO598:=n6_
         have HO601:=n7_
         have BK570:=n8_
         have BK602:=n9_
         have BK608:=n10_
         have HB:=n11_
         clear n0_ n1_ n2_ n3_ n4_ n5_ n6_ n7_ n8_ n9_ n10_ n11_
         (try clear hb)
         (try clear hb2)
         (try clear hk)
         (try clear hi)
         refine hK.out _ _ ⟨(qqh BK570.out 0).trans rfl,(qqh BK570.out 1).trans rfl,(qqh BK570.out 2).trans rfl,(qqh BK570.out 3).trans rfl,(qqh BK602.out 0).trans rfl,(qqh BK602.out 1).trans rfl,(qqh BK602.out 2).trans rfl,(qqh BK602.out 3).trans rfl,(qqh BK602.out 4).trans rfl,(qqh BK602.out 5).trans rfl⟩ (fun hHeld => ?_)
         clear hK K
         refine norm_ (a':=?_) ?_ ?_
         rotate_left
         ·
          show Act.put _ (some 43) _ = _
          simp only [Act.put,qqj,qqk,qql,i64_w,i32_w]
          rfl
         refine pure_ (i:=7) (N:=some 44) (v:=?_) (a':=?_) #[true,true,true,true,true,true,true,true,false,false,false,false,false,false,false,false,false,false,false,false,false,false,false,false,false,false,false,false,false,false] rfl rfl (any_of HT_.out (by kernel_rfl)) (fun _ _ _ h => h) (Or.inl ⟨by rfl,?_⟩) ?_ ?_
         rotate_left
         ·
          intro w'
          go_simp
          with_reducible rfl
         rotate_left
         ·
          simp only [Act.put,qqj,qqk,qql,i64_w,i32_w]
          rfl
         refine pure_ (i:=8) (N:=some 45) (v:=?_) (a':=?_) #[true,true,true,true,true,true,true,true,true,false,false,false,false,false,false,false,false,false,false,false,false,false,false,false,false,false,false,false,false,false] rfl rfl (any_of HT_.out (by kernel_rfl)) (fun _ _ _ h => h) (Or.inl ⟨by rfl,?_⟩) ?_ ?_
         rotate_left
         ·
          intro w'
          go_simp
          with_reducible rfl
         rotate_left
         ·
          simp only [Act.put,qqj,qqk,qql,i64_w,i32_w]
          rfl
         refine pure_ (i:=9) (N:=some 46) (v:=?_) (a':=?_) #[true,true,true,true,true,true,true,true,true,true,false,false,false,false,false,false,false,false,false,false,false,false,false,false,false,false,false,false,false,false] rfl rfl (any_of HT_.out (by kernel_rfl)) (fun _ _ _ h => h) (Or.inl ⟨by rfl,?_⟩) ?_ ?_
         rotate_left
         ·
          intro w'
          go_simp
          with_reducible rfl
         rotate_left
         ·
          simp only [Act.put,qqj,qqk,qql,i64_w,i32_w]
          rfl
         refine take_ (i:=10) (N:=some 47) (v:=?_) (a':=?_) #[true,true,true,true,true,true,true,true,true,true,true,false,false,false,false,false,false,false,false,false,false,false,false,false,false,false,false,false,false,false] rfl rfl (take_ofW HT_.out HW_.out (by kernel_rfl)) (fun _ _ _ h => h) (Or.inl ⟨by rfl,?_⟩) hHeld ?_ ?_
         rotate_left
         ·
          rintro w' ⟨s0,s1,s2,s3,s4,s5,s6,s7,s8,s9⟩
          go_simp
          with_reducible rfl
         rotate_left
         ·
          simp only [Act.put,qqj,qqk,qql,i64_w,i32_w]
          rfl
         refine one_ (i:=11) (N:=some 48) #[true,true,true,true,true,true,true,true,true,true,true,true,false,false,false,false,false,false,false,false,false,false,false,false,false,false,false,false,false,false] rfl rfl (one_of HT_.out (by kernel_rfl)) (by decide) (fun K hK => ?_)
         refine goes_ Try.func20 (by kernel_rfl) rfl #[.agg #[.int .u16 t588,.int .u16 t589,.slice Ao44 t590.length co44,.slice Ao45 t593.length co45,.slice Ao46 t596.length co46,.slice Ao47 t599.length co47]] (by rfl) rfl rfl (by (try simp only [List.map_toArray,List.map_cons,List.map_nil]);first|done|rfl|(simp only [List.length_drop,List.length_take];rfl)) ?_
         with_reducible refine (query_Least.calls t588 t589 _ _ t590 _ _ t593 _ _ t596 _ _ t599 t611 _ ?side1 ?side2 ?side3 ?side4 ?side5 ?side6 ?side7 ?side8 A28.out).mono ?_
         (case side1 => repeat (first|exact (Kd.R_reads' HO592.out).2.2|(with_reducible refine Kd.C_alloc ?_ _)|(with_reducible refine Kd.C_drewN ?_ _)|(with_reducible refine Kd.C_drew ?_)))
         (case side2 => exact (Kd.R_reads' HO592.out).2.1)
         (case side3 => repeat (first|exact (Kd.N_reads' HO595.out).2.2|(with_reducible refine Kd.C_alloc ?_ _)|(with_reducible refine Kd.C_drewN ?_ _)|(with_reducible refine Kd.C_drew ?_)))
         (case side4 => exact (Kd.N_reads' HO595.out).2.1)
         (case side5 => repeat (first|exact (Kd.N_reads' HO598.out).2.2|(with_reducible refine Kd.C_alloc ?_ _)|(with_reducible refine Kd.C_drewN ?_ _)|(with_reducible refine Kd.C_drew ?_)))
         (case side6 => exact (Kd.N_reads' HO598.out).2.1)
         (case side7 => repeat (first|exact (Kd.N_reads' HO601.out).2.2|(with_reducible refine Kd.C_alloc ?_ _)|(with_reducible refine Kd.C_drewN ?_ _)|(with_reducible refine Kd.C_drew ?_)))
         (case side8 => exact (Kd.N_reads' HO601.out).2.1)
         rintro e w57 ⟨rfl,hb⟩
         refine ⟨_,rfl,?_⟩
         have n0_:=Aside0.mk (Kd.R_below (by (with_reducible repeat (first|apply Kd.R_alloc|apply Kd.R_drewN|apply Kd.R_drew));exact HO578.out) hb)
         have n1_:=Aside0.mk (Kd.N_below (by (with_reducible repeat (first|apply Kd.N_alloc|apply Kd.N_drewN|apply Kd.N_drew));exact HO581.out) hb)
         have n2_:=Aside0.mk (Kd.N_below (by (with_reducible repeat (first|apply Kd.N_alloc|apply Kd.N_drewN|apply Kd.N_drew));exact HO584.out) hb)
         have n3_:=Aside0.mk (Kd.N_below (by (with_reducible repeat (first|apply Kd.N_alloc|apply Kd.N_drewN|apply Kd.N_drew));exact HO587.out) hb)
         have n4_:=Aside0.mk (Kd.R_below (by (with_reducible repeat (first|apply Kd.R_alloc|apply Kd.R_drewN|apply Kd.R_drew));exact HO592.out) hb)
         have n5_:=Aside0.mk (Kd.N_below (by (with_reducible repeat (first|apply Kd.N_alloc|apply Kd.N_drewN|apply Kd.N_drew));exact HO595.out) hb)
         have n6_:=Aside0.mk (Kd.N_below (by (with_reducible repeat (first|apply Kd.N_alloc|apply Kd.N_drewN|apply Kd.N_drew));exact HO598.out) hb)
         have n7_:=Aside0.mk (Kd.N_below (by (with_reducible repeat (first|apply Kd.N_alloc|apply Kd.N_drewN|apply Kd.N_drew));exact HO601.out) hb)
         have n8_:=Aside0.mk (blk_below (g:=gb570) (o:=.cells #[.string a0_0,.int .u16 a0_1,.int .u16 a0_2,.bool a0_3] 28 (0,0)) (by (with_reducible repeat first|apply qqa|apply qqb|apply qqc);exact BK570.out) hb)
         have n9_:=Aside0.mk (blk_below (g:=gb602) (o:=.cells #[.int .u16 t588,.int .u16 t589,.slice Ao44 t590.length co44,.slice Ao45 t593.length co45,.slice Ao46 t596.length co46,.slice Ao47 t599.length co47] 26 (0,0)) (by (with_reducible repeat first|apply qqa|apply qqb|apply qqc);exact BK602.out) hb)
         have n10_:=Aside0.mk (blk_below (g:=gb608) (o:=.cells #[.string t603,.int .u16 t604,.int .u16 t605,.bool t606] 28 (0,0)) (by (with_reducible repeat first|apply qqa|apply qqb|apply qqc);exact BK608.out) hb)
         have n11_:=Aside0.mk (below_step (by repeat (first|(with_reducible first|exact HB.out|apply qqf|apply qqd|apply qqe|refine qqg ?_ GE570.out|refine qqg ?_ GE602.out|refine qqg ?_ GE608.out)|exact HB.out)) hb)
         clear HO578
         clear HO581
         clear HO584
         clear HO587
         clear HO592
         clear HO595
         clear HO598
         clear HO601
         clear BK570
         clear BK602
         clear BK608
         clear HB
         have HO578:=n0_
         have HO581:=n1_
         have HO584:=n2_
         have HO587:=n3_
         have HO592:=n4_
         have HO595:=n5_
         have HO598:=n6_
         have HO601:=n7_
         have BK570:=n8_
         have BK602:=n9_
         have BK608:=n10_
         have HB:=n11_
         clear n0_ n1_ n2_ n3_ n4_ n5_ n6_ n7_ n8_ n9_ n10_ n11_
         (try clear hb)
         (try clear hb2)
         (try clear hk)
         (try clear hi)
         refine hK.out _ _ ⟨(qqh BK570.out 0).trans rfl,(qqh BK570.out 1).trans rfl,(qqh BK570.out 2).trans rfl,(qqh BK570.out 3).trans rfl,(qqh BK602.out 0).trans rfl,(qqh BK602.out 1).trans rfl,(qqh BK602.out 2).trans rfl,(qqh BK602.out 3).trans rfl,(qqh BK602.out 4).trans rfl,(qqh BK602.out 5).trans rfl⟩ (fun hHeld => ?_)
         clear hK K
         refine norm_ (a':=?_) ?_ ?_
         rotate_left
         ·
          show Act.put _ (some 48) _ = _
          simp only [Act.put,qqj,qqk,qql,i64_w,i32_w]
          rfl
         refine pure_ (i:=12) (N:=some 49) (v:=?_) (a':=?_) #[true,true,true,true,true,true,true,true,true,true,true,true,true,false,false,false,false,false,false,false,false,false,false,false,false,false,false,false,false,false] rfl rfl (any_of HT_.out (by kernel_rfl)) (fun _ _ _ h => h) (Or.inl ⟨by rfl,?_⟩) ?_ ?_
         rotate_left
         ·
          intro w'
          go_simp
          with_reducible rfl
         rotate_left
         ·
          simp only [Act.put,qqj,qqk,qql,i64_w,i32_w]
          rfl
         refine pure_ (i:=13) (N:=some 50) (v:=?_) (a':=?_) #[true,true,true,true,true,true,true,true,true,true,true,true,true,true,false,false,false,false,false,false,false,false,false,false,false,false,false,false,false,false] rfl rfl (any_of HT_.out (by kernel_rfl)) (fun _ _ _ h => h) (Or.inl ⟨by rfl,?_⟩) ?_ ?_
         rotate_left
         ·
          intro w'
          go_simp
          with_reducible rfl
         rotate_left
         ·
          simp only [Act.put,qqj,qqk,qql,i64_w,i32_w]
          rfl
         refine pure_ (i:=14) (N:=some 51) (v:=?_) (a':=?_) #[true,true,true,true,true,true,true,true,true,true,true,true,true,true,true,false,false,false,false,false,false,false,false,false,false,false,false,false,false,false] rfl rfl (any_of HT_.out (by kernel_rfl)) (fun _ _ _ h => h) (Or.inl ⟨by rfl,?_⟩) ?_ ?_
         rotate_left
         ·
          intro w'
          go_simp
          with_reducible rfl
         rotate_left
         ·
          simp only [Act.put,qqj,qqk,qql,i64_w,i32_w]
          rfl
         refine pure_ (i:=15) (N:=some 52) (v:=?_) (a':=?_) #[true,true,true,true,true,true,true,true,true,true,true,true,true,true,true,true,false,false,false,false,false,false,false,false,false,false,false,false,false,false] rfl rfl (any_of HT_.out (by kernel_rfl)) (fun _ _ _ h => h) (Or.inl ⟨by rfl,?_⟩) ?_ ?_
         rotate_left
         ·
          intro w'
          go_simp
          with_reducible rfl
         rotate_left
         ·
          simp only [Act.put,qqj,qqk,qql,i64_w,i32_w]
          rfl
         refine pure_ (i:=16) (N:=some 53) (v:=?_) (a':=?_) #[true,true,true,true,true,true,true,true,true,true,true,true,true,true,true,true,true,false,false,false,false,false,false,false,false,false,false,false,false,false] rfl rfl (any_of HT_.out (by kernel_rfl)) (fun _ _ _ h => h) (Or.inl ⟨by rfl,?_⟩) ?_ ?_
         rotate_left
         ·
          intro w'
          go_simp
          with_reducible rfl
         rotate_left
         ·
          simp only [Act.put,qqj,qqk,qql,i64_w,i32_w]
          rfl
         refine pure_ (i:=17) (N:=some 54) (v:=?_) (a':=?_) #[true,true,true,true,true,true,true,true,true,true,true,true,true,true,true,true,true,true,false,false,false,false,false,false,false,false,false,false,false,false] rfl rfl (any_of HT_.out (by kernel_rfl)) (fun _ _ _ h => h) (Or.inl ⟨by rfl,?_⟩) ?_ ?_
         rotate_left
         ·
          intro w'
          go_simp
          with_reducible rfl
         rotate_left
         ·
          simp only [Act.put,qqj,qqk,qql,i64_w,i32_w]
          rfl
         refine pure_ (i:=18) (N:=some 55) (v:=?_) (a':=?_) #[true,true,true,true,true,true,true,true,true,true,true,true,true,true,true,true,true,true,true,false,false,false,false,false,false,false,false,false,false,false] rfl rfl (any_of HT_.out (by kernel_rfl)) (fun _ _ _ h => h) (Or.inl ⟨by rfl,?_⟩) ?_ ?_
         rotate_left
         ·
          intro w'
          go_simp
          with_reducible rfl
         rotate_left
         ·
          simp only [Act.put,qqj,qqk,qql,i64_w,i32_w]
          rfl
         refine pure_ (i:=19) (N:=some 56) (v:=?_) (a':=?_) #[true,true,true,true,true,true,true,true,true,true,true,true,true,true,true,true,true,true,true,true,false,false,false,false,false,false,false,false,false,false] rfl rfl (any_of HT_.out (by kernel_rfl)) (fun _ _ _ h => h) (Or.inl ⟨by rfl,?_⟩) ?_ ?_
         rotate_left
         ·
          intro w'
          go_simp
          with_reducible rfl
         rotate_left
         ·
          simp only [Act.put,qqj,qqk,qql,i64_w,i32_w]
          rfl
         refine take_ (i:=20) (N:=some 57) (v:=?_) (a':=?_) #[true,true,true,true,true,true,true,true,true,true,true,true,true,true,true,true,true,true,true,true,true,false,false,false,false,false,false,false,false,false] rfl rfl (take_ofW HT_.out HW_.out (by kernel_rfl)) (fun _ _ _ h => h) (Or.inl ⟨by rfl,?_⟩) hHeld ?_ ?_
         rotate_left
         ·
          rintro w' ⟨s0,s1,s2,s3,s4,s5,s6,s7,s8,s9⟩
          go_simp
          with_reducible rfl
         rotate_left
         ·
          simp only [Act.put,qqj,qqk,qql,i64_w,i32_w]
          rfl
         refine pure_ (i:=21) (N:=some 58) (v:=?_) (a':=?_) #[true,true,true,true,true,true,true,true,true,true,true,true,true,true,true,true,true,true,true,true,true,true,false,false,false,false,false,false,false,false] rfl rfl (any_of HT_.out (by kernel_rfl)) (fun _ _ _ h => h) (Or.inl ⟨by rfl,?_⟩) ?_ ?_
         rotate_left
         ·
          intro w'
          go_simp
          with_reducible rfl
         rotate_left
         ·
          simp only [Act.put,qqj,qqk,qql,i64_w,i32_w]
          rfl
         refine pure_ (i:=22) (N:=some 59) (v:=?_) (a':=?_) #[true,true,true,true,true,true,true,true,true,true,true,true,true,true,true,true,true,true,true,true,true,true,true,false,false,false,false,false,false,false] rfl rfl (any_of HT_.out (by kernel_rfl)) (fun _ _ _ h => h) (Or.inl ⟨by rfl,?_⟩) ?_ ?_
         rotate_left
         ·
          intro w'
          go_simp
          with_reducible rfl
         rotate_left
         ·
          simp only [Act.put,qqj,qqk,qql,i64_w,i32_w]
          rfl
         refine pure_ (i:=23) (N:=some 60) (v:=?_) (a':=?_) #[true,true,true,true,true,true,true,true,true,true,true,true,true,true,true,true,true,true,true,true,true,true,true,true,false,false,false,false,false,false] rfl rfl (any_of HT_.out (by kernel_rfl)) (fun _ _ _ h => h) (Or.inl ⟨by rfl,?_⟩) ?_ ?_
         rotate_left
         ·
          intro w'
          go_simp
          with_reducible rfl
         rotate_left
         ·
          simp only [Act.put,qqj,qqk,qql,i64_w,i32_w]
          rfl
         refine take_ (i:=24) (N:=some 61) (v:=?_) (a':=?_) #[true,true,true,true,true,true,true,true,true,true,true,true,true,true,true,true,true,true,true,true,true,true,true,true,true,false,false,false,false,false] rfl rfl (take_ofW HT_.out HW_.out (by kernel_rfl)) (fun _ _ _ h => h) (Or.inl ⟨by rfl,?_⟩) hHeld ?_ ?_
         rotate_left
         ·
          rintro w' ⟨s0,s1,s2,s3,s4,s5,s6,s7,s8,s9⟩
          go_simp
          with_reducible rfl
         rotate_left
         ·
          simp only [Act.put,qqj,qqk,qql,i64_w,i32_w]
          rfl
         refine take_ (i:=26) (N:=some 63) (v:=?_) (a':=?_) #[true,true,true,true,true,true,true,true,true,true,true,true,true,true,true,true,true,true,true,true,true,true,true,true,true,false,true,false,false,false] rfl rfl (take_ofW HT_.out HW_.out (by kernel_rfl)) (fun _ _ _ h => h) (Or.inl ⟨by rfl,?_⟩) hHeld ?_ ?_
         rotate_left
         ·
          rintro w' ⟨s0,s1,s2,s3,s4,s5,s6,s7,s8,s9⟩
          go_simp
          with_reducible rfl
         rotate_left
         ·
          simp only [Act.put,qqj,qqk,qql,i64_w,i32_w]
          rfl
         refine one_ (i:=25) (N:=some 62) #[true,true,true,true,true,true,true,true,true,true,true,true,true,true,true,true,true,true,true,true,true,true,true,true,true,true,true,false,false,false] rfl rfl (one_of HT_.out (by kernel_rfl)) (by decide) (fun K hK => ?_)
         refine goes_ Try.func23 (by kernel_rfl) rfl #[.agg #[.int .u16 t588,.int .u16 t589,.slice Ao44 t590.length co44,.slice Ao45 t593.length co45,.slice Ao46 t596.length co46,.slice Ao47 t599.length co47],.int .u64 9] (by rfl) rfl rfl (by (try simp only [List.map_toArray,List.map_cons,List.map_nil]);first|done|rfl|(simp only [List.length_drop,List.length_take];rfl)) ?_
         with_reducible refine (query_Age.calls kj4 t588 t589 _ _ t590 _ _ t593 _ _ t596 _ _ t599 9 t612 t613 t614 t617 t620 t623 _ ?side1 ?side2 ?side3 ?side4 ?side5 ?side6 ?side7 ?side8 A32.out).mono ?_
         (case side1 => repeat (first|exact (Kd.R_reads' HO592.out).2.2|(with_reducible refine Kd.C_alloc ?_ _)|(with_reducible refine Kd.C_drewN ?_ _)|(with_reducible refine Kd.C_drew ?_)))
         (case side2 => exact (Kd.R_reads' HO592.out).2.1)
         (case side3 => repeat (first|exact (Kd.N_reads' HO595.out).2.2|(with_reducible refine Kd.C_alloc ?_ _)|(with_reducible refine Kd.C_drewN ?_ _)|(with_reducible refine Kd.C_drew ?_)))
         (case side4 => exact (Kd.N_reads' HO595.out).2.1)
         (case side5 => repeat (first|exact (Kd.N_reads' HO598.out).2.2|(with_reducible refine Kd.C_alloc ?_ _)|(with_reducible refine Kd.C_drewN ?_ _)|(with_reducible refine Kd.C_drew ?_)))
         (case side6 => exact (Kd.N_reads' HO598.out).2.1)
         (case side7 => repeat (first|exact (Kd.N_reads' HO601.out).2.2|(with_reducible refine Kd.C_alloc ?_ _)|(with_reducible refine Kd.C_drewN ?_ _)|(with_reducible refine Kd.C_drew ?_)))
         (case side8 => exact (Kd.N_reads' HO601.out).2.1)
         rintro e w58 ⟨v615,v618,v621,v624,rfl,ho0,ho1,ho2,ho3,hb⟩
         refine ⟨_,rfl,?_⟩
         have n0_:=Aside0.mk (Kd.R_elder' (by (with_reducible repeat (first|apply Kd.R_alloc|apply Kd.R_drewN|apply Kd.R_drew));exact HO578.out) (Kd.R_base ho0) hb)
         have n1_:=Aside0.mk (Kd.N_mono (Kd.N_told (Kd.N_told (Kd.N_told (Kd.N_told (Kd.N_old (by (with_reducible repeat (first|apply Kd.N_alloc|apply Kd.N_drewN|apply Kd.N_drew));exact HO581.out) hb) (Kd.R_base ho0)) (Kd.N_base (Kd.S_N ho1))) (Kd.N_base (Kd.S_N ho2))) (Kd.N_base (Kd.S_N ho3))) (fun _ h_ => h_.1))
         have n2_:=Aside0.mk (Kd.N_mono (Kd.N_told (Kd.N_told (Kd.N_told (Kd.N_told (Kd.N_old (by (with_reducible repeat (first|apply Kd.N_alloc|apply Kd.N_drewN|apply Kd.N_drew));exact HO584.out) hb) (Kd.R_base ho0)) (Kd.N_base (Kd.S_N ho1))) (Kd.N_base (Kd.S_N ho2))) (Kd.N_base (Kd.S_N ho3))) (fun _ h_ => h_.1))
         have n3_:=Aside0.mk (Kd.N_mono (Kd.N_told (Kd.N_told (Kd.N_told (Kd.N_told (Kd.N_old (by (with_reducible repeat (first|apply Kd.N_alloc|apply Kd.N_drewN|apply Kd.N_drew));exact HO587.out) hb) (Kd.R_base ho0)) (Kd.N_base (Kd.S_N ho1))) (Kd.N_base (Kd.S_N ho2))) (Kd.N_base (Kd.S_N ho3))) (fun _ h_ => h_.1))
         have n4_:=Aside0.mk (Kd.R_elder' (by (with_reducible repeat (first|apply Kd.R_alloc|apply Kd.R_drewN|apply Kd.R_drew));exact HO592.out) (Kd.R_base ho0) hb)
         have n5_:=Aside0.mk (Kd.N_mono (Kd.N_told (Kd.N_told (Kd.N_told (Kd.N_told (Kd.N_old (by (with_reducible repeat (first|apply Kd.N_alloc|apply Kd.N_drewN|apply Kd.N_drew));exact HO595.out) hb) (Kd.R_base ho0)) (Kd.N_base (Kd.S_N ho1))) (Kd.N_base (Kd.S_N ho2))) (Kd.N_base (Kd.S_N ho3))) (fun _ h_ => h_.1))
         have n6_:=Aside0.mk (Kd.N_mono (Kd.N_told (Kd.N_told (Kd.N_told (Kd.N_told (Kd.N_old (by (with_reducible repeat (first|apply Kd.N_alloc|apply Kd.N_drewN|apply Kd.N_drew));exact HO598.out) hb) (Kd.R_base ho0)) (Kd.N_base (Kd.S_N ho1))) (Kd.N_base (Kd.S_N ho2))) (Kd.N_base (Kd.S_N ho3))) (fun _ h_ => h_.1))
         have n7_:=Aside0.mk (Kd.N_mono (Kd.N_told (Kd.N_told (Kd.N_told (Kd.N_told (Kd.N_old (by (with_reducible repeat (first|apply Kd.N_alloc|apply Kd.N_drewN|apply Kd.N_drew));exact HO601.out) hb) (Kd.R_base ho0)) (Kd.N_base (Kd.S_N ho1))) (Kd.N_base (Kd.S_N ho2))) (Kd.N_base (Kd.S_N ho3))) (fun _ h_ => h_.1))
         have n8_:=Aside0.mk (Kd.R_lower (Kd.R_new' (Kd.R_new' ho0 (Kd.R_lt (by (with_reducible repeat (first|apply Kd.R_alloc|apply Kd.R_drewN|apply Kd.R_drew));exact HO578.out))) (Kd.R_lt (by (with_reducible repeat (first|apply Kd.R_alloc|apply Kd.R_drewN|apply Kd.R_drew));exact HO592.out))) (below_size (by repeat (first|(with_reducible first|exact HB.out|apply qqf|apply qqd|apply qqe|refine qqg ?_ GE570.out|refine qqg ?_ GE602.out|refine qqg ?_ GE608.out)|exact HB.out))))
         have n9_:=Aside0.mk (Kd.N_lower (Kd.N_mono (ok':=fun k_ => some k_ ≠ (v615 : Value).ownBlock∧some k_ ≠ (v621 : Value).ownBlock∧some k_ ≠ (v624 : Value).ownBlock∧some k_ ≠ (.slice Ao36 t576.length co36 : Value).ownBlock∧some k_ ≠ (.slice Ao37 t579.length co37 : Value).ownBlock∧some k_ ≠ (.slice Ao38 t582.length co38 : Value).ownBlock∧some k_ ≠ (.slice Ao39 t585.length co39 : Value).ownBlock∧some k_ ≠ (.slice Ao44 t590.length co44 : Value).ownBlock∧some k_ ≠ (.slice Ao45 t593.length co45 : Value).ownBlock∧some k_ ≠ (.slice Ao46 t596.length co46 : Value).ownBlock∧some k_ ≠ (.slice Ao47 t599.length co47 : Value).ownBlock∧k_ ≠ gb570∧k_ ≠ gb602∧k_ ≠ gb608) (Kd.S_N (Kd.S_bound (Kd.S_apart' ho1 (Kd.R_typed ho0) (by decide)))) (fun k_ hk_ => ⟨hk_.1.2,hk_.1.1.1,hk_.1.1.2,(Kd.fresh' (Kd.R_lt (by (with_reducible repeat (first|apply Kd.R_alloc|apply Kd.R_drewN|apply Kd.R_drew));exact HO578.out)) k_ hk_.2.1),(Kd.fresh' (Kd.N_lt (by (with_reducible repeat (first|apply Kd.N_alloc|apply Kd.N_drewN|apply Kd.N_drew));exact HO581.out)) k_ hk_.2.1),(Kd.fresh' (Kd.N_lt (by (with_reducible repeat (first|apply Kd.N_alloc|apply Kd.N_drewN|apply Kd.N_drew));exact HO584.out)) k_ hk_.2.1),(Kd.fresh' (Kd.N_lt (by (with_reducible repeat (first|apply Kd.N_alloc|apply Kd.N_drewN|apply Kd.N_drew));exact HO587.out)) k_ hk_.2.1),(Kd.fresh' (Kd.R_lt (by (with_reducible repeat (first|apply Kd.R_alloc|apply Kd.R_drewN|apply Kd.R_drew));exact HO592.out)) k_ hk_.2.1),(Kd.fresh' (Kd.N_lt (by (with_reducible repeat (first|apply Kd.N_alloc|apply Kd.N_drewN|apply Kd.N_drew));exact HO595.out)) k_ hk_.2.1),(Kd.fresh' (Kd.N_lt (by (with_reducible repeat (first|apply Kd.N_alloc|apply Kd.N_drewN|apply Kd.N_drew));exact HO598.out)) k_ hk_.2.1),(Kd.fresh' (Kd.N_lt (by (with_reducible repeat (first|apply Kd.N_alloc|apply Kd.N_drewN|apply Kd.N_drew));exact HO601.out)) k_ hk_.2.1),(Kd.freshB (g:=gb570) (o:=.cells #[.string a0_0,.int .u16 a0_1,.int .u16 a0_2,.bool a0_3] 28 (0,0)) (by (with_reducible repeat first|apply qqa|apply qqb|apply qqc);exact BK570.out) k_ hk_.2.1),(Kd.freshB (g:=gb602) (o:=.cells #[.int .u16 t588,.int .u16 t589,.slice Ao44 t590.length co44,.slice Ao45 t593.length co45,.slice Ao46 t596.length co46,.slice Ao47 t599.length co47] 26 (0,0)) (by (with_reducible repeat first|apply qqa|apply qqb|apply qqc);exact BK602.out) k_ hk_.2.1),(Kd.freshB (g:=gb608) (o:=.cells #[.string t603,.int .u16 t604,.int .u16 t605,.bool t606] 28 (0,0)) (by (with_reducible repeat first|apply qqa|apply qqb|apply qqc);exact BK608.out) k_ hk_.2.1)⟩)) (below_size (by repeat (first|(with_reducible first|exact HB.out|apply qqf|apply qqd|apply qqe|refine qqg ?_ GE570.out|refine qqg ?_ GE602.out|refine qqg ?_ GE608.out)|exact HB.out))))
         have n10_:=Aside0.mk (Kd.N_lower (Kd.N_mono (ok':=fun k_ => some k_ ≠ (v615 : Value).ownBlock∧some k_ ≠ (v618 : Value).ownBlock∧some k_ ≠ (v624 : Value).ownBlock∧some k_ ≠ (.slice Ao36 t576.length co36 : Value).ownBlock∧some k_ ≠ (.slice Ao37 t579.length co37 : Value).ownBlock∧some k_ ≠ (.slice Ao38 t582.length co38 : Value).ownBlock∧some k_ ≠ (.slice Ao39 t585.length co39 : Value).ownBlock∧some k_ ≠ (.slice Ao44 t590.length co44 : Value).ownBlock∧some k_ ≠ (.slice Ao45 t593.length co45 : Value).ownBlock∧some k_ ≠ (.slice Ao46 t596.length co46 : Value).ownBlock∧some k_ ≠ (.slice Ao47 t599.length co47 : Value).ownBlock∧k_ ≠ gb570∧k_ ≠ gb602∧k_ ≠ gb608) (Kd.S_N (Kd.S_bound (Kd.S_apart' ho2 (Kd.R_typed ho0) (by decide)))) (fun k_ hk_ => ⟨hk_.1.2,hk_.1.1.1,hk_.1.1.2,(Kd.fresh' (Kd.R_lt (by (with_reducible repeat (first|apply Kd.R_alloc|apply Kd.R_drewN|apply Kd.R_drew));exact HO578.out)) k_ hk_.2.1),(Kd.fresh' (Kd.N_lt (by (with_reducible repeat (first|apply Kd.N_alloc|apply Kd.N_drewN|apply Kd.N_drew));exact HO581.out)) k_ hk_.2.1),(Kd.fresh' (Kd.N_lt (by (with_reducible repeat (first|apply Kd.N_alloc|apply Kd.N_drewN|apply Kd.N_drew));exact HO584.out)) k_ hk_.2.1),(Kd.fresh' (Kd.N_lt (by (with_reducible repeat (first|apply Kd.N_alloc|apply Kd.N_drewN|apply Kd.N_drew));exact HO587.out)) k_ hk_.2.1),(Kd.fresh' (Kd.R_lt (by (with_reducible repeat (first|apply Kd.R_alloc|apply Kd.R_drewN|apply Kd.R_drew));exact HO592.out)) k_ hk_.2.1),(Kd.fresh' (Kd.N_lt (by (with_reducible repeat (first|apply Kd.N_alloc|apply Kd.N_drewN|apply Kd.N_drew));exact HO595.out)) k_ hk_.2.1),(Kd.fresh' (Kd.N_lt (by (with_reducible repeat (first|apply Kd.N_alloc|apply Kd.N_drewN|apply Kd.N_drew));exact HO598.out)) k_ hk_.2.1),(Kd.fresh' (Kd.N_lt (by (with_reducible repeat (first|apply Kd.N_alloc|apply Kd.N_drewN|apply Kd.N_drew));exact HO601.out)) k_ hk_.2.1),(Kd.freshB (g:=gb570) (o:=.cells #[.string a0_0,.int .u16 a0_1,.int .u16 a0_2,.bool a0_3] 28 (0,0)) (by (with_reducible repeat first|apply qqa|apply qqb|apply qqc);exact BK570.out) k_ hk_.2.1),(Kd.freshB (g:=gb602) (o:=.cells #[.int .u16 t588,.int .u16 t589,.slice Ao44 t590.length co44,.slice Ao45 t593.length co45,.slice Ao46 t596.length co46,.slice Ao47 t599.length co47] 26 (0,0)) (by (with_reducible repeat first|apply qqa|apply qqb|apply qqc);exact BK602.out) k_ hk_.2.1),(Kd.freshB (g:=gb608) (o:=.cells #[.string t603,.int .u16 t604,.int .u16 t605,.bool t606] 28 (0,0)) (by (with_reducible repeat first|apply qqa|apply qqb|apply qqc);exact BK608.out) k_ hk_.2.1)⟩)) (below_size (by repeat (first|(with_reducible first|exact HB.out|apply qqf|apply qqd|apply qqe|refine qqg ?_ GE570.out|refine qqg ?_ GE602.out|refine qqg ?_ GE608.out)|exact HB.out))))
         have n11_:=Aside0.mk (Kd.N_lower (Kd.N_mono (ok':=fun k_ => some k_ ≠ (v615 : Value).ownBlock∧some k_ ≠ (v618 : Value).ownBlock∧some k_ ≠ (v621 : Value).ownBlock∧some k_ ≠ (.slice Ao36 t576.length co36 : Value).ownBlock∧some k_ ≠ (.slice Ao37 t579.length co37 : Value).ownBlock∧some k_ ≠ (.slice Ao38 t582.length co38 : Value).ownBlock∧some k_ ≠ (.slice Ao39 t585.length co39 : Value).ownBlock∧some k_ ≠ (.slice Ao44 t590.length co44 : Value).ownBlock∧some k_ ≠ (.slice Ao45 t593.length co45 : Value).ownBlock∧some k_ ≠ (.slice Ao46 t596.length co46 : Value).ownBlock∧some k_ ≠ (.slice Ao47 t599.length co47 : Value).ownBlock∧k_ ≠ gb570∧k_ ≠ gb602∧k_ ≠ gb608) (Kd.S_N (Kd.S_bound (Kd.S_apart' ho3 (Kd.R_typed ho0) (by decide)))) (fun k_ hk_ => ⟨hk_.1.2,hk_.1.1.1,hk_.1.1.2,(Kd.fresh' (Kd.R_lt (by (with_reducible repeat (first|apply Kd.R_alloc|apply Kd.R_drewN|apply Kd.R_drew));exact HO578.out)) k_ hk_.2.1),(Kd.fresh' (Kd.N_lt (by (with_reducible repeat (first|apply Kd.N_alloc|apply Kd.N_drewN|apply Kd.N_drew));exact HO581.out)) k_ hk_.2.1),(Kd.fresh' (Kd.N_lt (by (with_reducible repeat (first|apply Kd.N_alloc|apply Kd.N_drewN|apply Kd.N_drew));exact HO584.out)) k_ hk_.2.1),(Kd.fresh' (Kd.N_lt (by (with_reducible repeat (first|apply Kd.N_alloc|apply Kd.N_drewN|apply Kd.N_drew));exact HO587.out)) k_ hk_.2.1),(Kd.fresh' (Kd.R_lt (by (with_reducible repeat (first|apply Kd.R_alloc|apply Kd.R_drewN|apply Kd.R_drew));exact HO592.out)) k_ hk_.2.1),(Kd.fresh' (Kd.N_lt (by (with_reducible repeat (first|apply Kd.N_alloc|apply Kd.N_drewN|apply Kd.N_drew));exact HO595.out)) k_ hk_.2.1),(Kd.fresh' (Kd.N_lt (by (with_reducible repeat (first|apply Kd.N_alloc|apply Kd.N_drewN|apply Kd.N_drew));exact HO598.out)) k_ hk_.2.1),(Kd.fresh' (Kd.N_lt (by (with_reducible repeat (first|apply Kd.N_alloc|apply Kd.N_drewN|apply Kd.N_drew));exact HO601.out)) k_ hk_.2.1),(Kd.freshB (g:=gb570) (o:=.cells #[.string a0_0,.int .u16 a0_1,.int .u16 a0_2,.bool a0_3] 28 (0,0)) (by (with_reducible repeat first|apply qqa|apply qqb|apply qqc);exact BK570.out) k_ hk_.2.1),(Kd.freshB (g:=gb602) (o:=.cells #[.int .u16 t588,.int .u16 t589,.slice Ao44 t590.length co44,.slice Ao45 t593.length co45,.slice Ao46 t596.length co46,.slice Ao47 t599.length co47] 26 (0,0)) (by (with_reducible repeat first|apply qqa|apply qqb|apply qqc);exact BK602.out) k_ hk_.2.1),(Kd.freshB (g:=gb608) (o:=.cells #[.string t603,.int .u16 t604,.int .u16 t605,.bool t606] 28 (0,0)) (by (with_reducible repeat first|apply qqa|apply qqb|apply qqc);exact BK608.out) k_ hk_.2.1)⟩)) (below_size (by repeat (first|(with_reducible first|exact HB.out|apply qqf|apply qqd|apply qqe|refine qqg ?_ GE570.out|refine qqg ?_ GE602.out|refine qqg ?_ GE608.out)|exact HB.out))))
         have n12_:=Aside0.mk (blk_below (g:=gb570) (o:=.cells #[.string a0_0,.int .u16 a0_1,.int .u16 a0_2,.bool a0_3] 28 (0,0)) (by (with_reducible repeat first|apply qqa|apply qqb|apply qqc);exact BK570.out) hb)
         have n13_:=Aside0.mk (blk_below (g:=gb602) (o:=.cells #[.int .u16 t588,.int .u16 t589,.slice Ao44 t590.length co44,.slice Ao45 t593.length co45,.slice Ao46 t596.length co46,.slice Ao47 t599.length co47] 26 (0,0)) (by (with_reducible repeat first|apply qqa|apply qqb|apply qqc);exact BK602.out) hb)
         have n14_:=Aside0.mk (blk_below (g:=gb608) (o:=.cells #[.string t603,.int .u16 t604,.int .u16 t605,.bool t606] 28 (0,0)) (by (with_reducible repeat first|apply qqa|apply qqb|apply qqc);exact BK608.out) hb)
         have n15_:=Aside0.mk (below_step (by repeat (first|(with_reducible first|exact HB.out|apply qqf|apply qqd|apply qqe|refine qqg ?_ GE570.out|refine qqg ?_ GE602.out|refine qqg ?_ GE608.out)|exact HB.out)) hb)
         clear HO578
         clear HO581
         clear HO584
         clear HO587
         clear HO592
         clear HO595
         clear HO598
         clear HO601
         clear BK570
         clear BK602
         clear BK608
         clear HB
         have HO578:=n0_
         have HO581:=n1_
         have HO584:=n2_
         have HO587:=n3_
         have HO592:=n4_
         have HO595:=n5_
         have HO598:=n6_
         have HO601:=n7_
         have HO616:=n8_
         have HO619:=n9_
         have HO622:=n10_
         have HO625:=n11_
         have BK570:=n12_
         have BK602:=n13_
         have BK608:=n14_
         have HB:=n15_
         clear n0_ n1_ n2_ n3_ n4_ n5_ n6_ n7_ n8_ n9_ n10_ n11_ n12_ n13_ n14_ n15_
         (try clear hb)
         (try clear hb2)
         (try clear hk)
         (try clear hi)
         (try clear ho0)
         (try clear ho1)
         (try clear ho2)
         (try clear ho3)
         obtain ⟨Ao59,co59,eo59⟩:=Kd.R_slice HO616.out
         (first|subst eo59|(injection eo59 with f1_ f2_ f3_;have f4_:=f1_.symm;have f5_:=f3_.symm;clear f1_ f2_ f3_;subst f4_;subst f5_))
         obtain ⟨Ao60,co60,eo60⟩:=Kd.N_slice HO619.out
         (first|subst eo60|(injection eo60 with f1_ f2_ f3_;have f4_:=f1_.symm;have f5_:=f3_.symm;clear f1_ f2_ f3_;subst f4_;subst f5_))
         obtain ⟨Ao61,co61,eo61⟩:=Kd.N_slice HO622.out
         (first|subst eo61|(injection eo61 with f1_ f2_ f3_;have f4_:=f1_.symm;have f5_:=f3_.symm;clear f1_ f2_ f3_;subst f4_;subst f5_))
         obtain ⟨Ao62,co62,eo62⟩:=Kd.N_slice HO625.out
         (first|subst eo62|(injection eo62 with f1_ f2_ f3_;have f4_:=f1_.symm;have f5_:=f3_.symm;clear f1_ f2_ f3_;subst f4_;subst f5_))
         refine hK.out _ _ ⟨(qqh BK570.out 0).trans rfl,(qqh BK570.out 1).trans rfl,(qqh BK570.out 2).trans rfl,(qqh BK570.out 3).trans rfl,(qqh BK602.out 0).trans rfl,(qqh BK602.out 1).trans rfl,(qqh BK602.out 2).trans rfl,(qqh BK602.out 3).trans rfl,(qqh BK602.out 4).trans rfl,(qqh BK602.out 5).trans rfl⟩ (fun hHeld => ?_)
         clear hK K
         refine norm_ (a':=?_) ?_ ?_
         rotate_left
         ·
          show Act.put _ (some 62) _ = _
          simp only [Act.put,qqj,qqk,qql,i64_w,i32_w]
          rfl
         refine one_ (i:=27) (N:=some 64) #[true,true,true,true,true,true,true,true,true,true,true,true,true,true,true,true,true,true,true,true,true,true,true,true,true,true,true,true,false,false] rfl rfl (one_of HT_.out (by kernel_rfl)) (by decide) (fun K hK => ?_)
         refine goes_ Try.func13 (by kernel_rfl) rfl #[.agg #[.int .u16 t612,.int .u16 t613,.slice Ao59 t614.length co59,.slice Ao60 t617.length co60,.slice Ao61 t620.length co61,.slice Ao62 t623.length co62],.agg #[.int .u16 t588,.int .u16 t589,.slice Ao44 t590.length co44,.slice Ao45 t593.length co45,.slice Ao46 t596.length co46,.slice Ao47 t599.length co47]] (by rfl) rfl rfl (by (try simp only [List.map_toArray,List.map_cons,List.map_nil]);first|done|rfl|(simp only [List.length_drop,List.length_take];rfl)) ?_
         with_reducible refine (nuncioref06_Same.calls kj4 t612 t613 _ _ t614 _ _ t617 _ _ t620 _ _ t623 t588 t589 _ _ t590 _ _ t593 _ _ t596 _ _ t599 t626 _ ?side1 ?side2 ?side3 ?side4 ?side5 ?side6 ?side7 ?side8 ?side9 ?side10 ?side11 ?side12 ?side13 ?side14 ?side15 ?side16 A33.out).mono ?_
         (case side1 => repeat (first|exact (Kd.R_reads' HO616.out).2.2|(with_reducible refine Kd.C_alloc ?_ _)|(with_reducible refine Kd.C_drewN ?_ _)|(with_reducible refine Kd.C_drew ?_)))
         (case side2 => exact (Kd.R_reads' HO616.out).2.1)
         (case side3 => repeat (first|exact (Kd.N_reads' HO619.out).2.2|(with_reducible refine Kd.C_alloc ?_ _)|(with_reducible refine Kd.C_drewN ?_ _)|(with_reducible refine Kd.C_drew ?_)))
         (case side4 => exact (Kd.N_reads' HO619.out).2.1)
         (case side5 => repeat (first|exact (Kd.N_reads' HO622.out).2.2|(with_reducible refine Kd.C_alloc ?_ _)|(with_reducible refine Kd.C_drewN ?_ _)|(with_reducible refine Kd.C_drew ?_)))
         (case side6 => exact (Kd.N_reads' HO622.out).2.1)
         (case side7 => repeat (first|exact (Kd.N_reads' HO625.out).2.2|(with_reducible refine Kd.C_alloc ?_ _)|(with_reducible refine Kd.C_drewN ?_ _)|(with_reducible refine Kd.C_drew ?_)))
         (case side8 => exact (Kd.N_reads' HO625.out).2.1)
         (case side9 => repeat (first|exact (Kd.R_reads' HO592.out).2.2|(with_reducible refine Kd.C_alloc ?_ _)|(with_reducible refine Kd.C_drewN ?_ _)|(with_reducible refine Kd.C_drew ?_)))
         (case side10 => exact (Kd.R_reads' HO592.out).2.1)
         (case side11 => repeat (first|exact (Kd.N_reads' HO595.out).2.2|(with_reducible refine Kd.C_alloc ?_ _)|(with_reducible refine Kd.C_drewN ?_ _)|(with_reducible refine Kd.C_drew ?_)))
         (case side12 => exact (Kd.N_reads' HO595.out).2.1)
         (case side13 => repeat (first|exact (Kd.N_reads' HO598.out).2.2|(with_reducible refine Kd.C_alloc ?_ _)|(with_reducible refine Kd.C_drewN ?_ _)|(with_reducible refine Kd.C_drew ?_)))
         (case side14 => exact (Kd.N_reads' HO598.out).2.1)
         (case side15 => repeat (first|exact (Kd.N_reads' HO601.out).2.2|(with_reducible refine Kd.C_alloc ?_ _)|(with_reducible refine Kd.C_drewN ?_ _)|(with_reducible refine Kd.C_drew ?_)))
         (case side16 => exact (Kd.N_reads' HO601.out).2.1)
         rintro e w63 ⟨rfl,hb⟩
         refine ⟨_,rfl,?_⟩
         have n0_:=Aside0.mk (Kd.R_below (by (with_reducible repeat (first|apply Kd.R_alloc|apply Kd.R_drewN|apply Kd.R_drew));exact HO578.out) hb)
         have n1_:=Aside0.mk (Kd.N_below (by (with_reducible repeat (first|apply Kd.N_alloc|apply Kd.N_drewN|apply Kd.N_drew));exact HO581.out) hb)
         have n2_:=Aside0.mk (Kd.N_below (by (with_reducible repeat (first|apply Kd.N_alloc|apply Kd.N_drewN|apply Kd.N_drew));exact HO584.out) hb)
         have n3_:=Aside0.mk (Kd.N_below (by (with_reducible repeat (first|apply Kd.N_alloc|apply Kd.N_drewN|apply Kd.N_drew));exact HO587.out) hb)
         have n4_:=Aside0.mk (Kd.R_below (by (with_reducible repeat (first|apply Kd.R_alloc|apply Kd.R_drewN|apply Kd.R_drew));exact HO592.out) hb)
         have n5_:=Aside0.mk (Kd.N_below (by (with_reducible repeat (first|apply Kd.N_alloc|apply Kd.N_drewN|apply Kd.N_drew));exact HO595.out) hb)
         have n6_:=Aside0.mk (Kd.N_below (by (with_reducible repeat (first|apply Kd.N_alloc|apply Kd.N_drewN|apply Kd.N_drew));exact HO598.out) hb)
         have n7_:=Aside0.mk (Kd.N_below (by (with_reducible repeat (first|apply Kd.N_alloc|apply Kd.N_drewN|apply Kd.N_drew));exact HO601.out) hb)
         have n8_:=Aside0.mk (Kd.R_below (by (with_reducible repeat (first|apply Kd.R_alloc|apply Kd.R_drewN|apply Kd.R_drew));exact HO616.out) hb)
         have n9_:=Aside0.mk (Kd.N_below (by (with_reducible repeat (first|apply Kd.N_alloc|apply Kd.N_drewN|apply Kd.N_drew));exact HO619.out) hb)
         have n10_:=Aside0.mk (Kd.N_below (by (with_reducible repeat (first|apply Kd.N_alloc|apply Kd.N_drewN|apply Kd.N_drew));exact HO622.out) hb)
         have n11_:=Aside0.mk (Kd.N_below (by (with_reducible repeat (first|apply Kd.N_alloc|apply Kd.N_drewN|apply Kd.N_drew));exact HO625.out) hb)
         have n12_:=Aside0.mk (blk_below (g:=gb570) (o:=.cells #[.string a0_0,.int .u16 a0_1,.int .u16 a0_2,.bool a0_3] 28 (0,0)) (by (with_reducible repeat first|apply qqa|apply qqb|apply qqc);exact BK570.out) hb)
         have n13_:=Aside0.mk (blk_below (g:=gb602) (o:=.cells #[.int .u16 t588,.int .u16 t589,.slice Ao44 t590.length co44,.slice Ao45 t593.length co45,.slice Ao46 t596.length co46,.slice Ao47 t599.length co47] 26 (0,0)) (by (with_reducible repeat first|apply qqa|apply qqb|apply qqc);exact BK602.out) hb)
         have n14_:=Aside0.mk (blk_below (g:=gb608) (o:=.cells #[.string t603,.int .u16 t604,.int .u16 t605,.bool t606] 28 (0,0)) (by (with_reducible repeat first|apply qqa|apply qqb|apply qqc);exact BK608.out) hb)
         have n15_:=Aside0.mk (below_step (by repeat (first|(with_reducible first|exact HB.out|apply qqf|apply qqd|apply qqe|refine qqg ?_ GE570.out|refine qqg ?_ GE602.out|refine qqg ?_ GE608.out)|exact HB.out)) hb)
         clear HO578
         clear HO581
         clear HO584
         clear HO587
         clear HO592
         clear HO595
         clear HO598
         clear HO601
         clear HO616
         clear HO619
         clear HO622
         clear HO625
         clear BK570
         clear BK602
         clear BK608
         clear HB
         have HO578:=n0_
         have HO581:=n1_
         have HO584:=n2_
         have HO587:=n3_
         have HO592:=n4_
         have HO595:=n5_
         have HO598:=n6_
         have HO601:=n7_
         have HO616:=n8_
         have HO619:=n9_
         have HO622:=n10_
         have HO625:=n11_
         have BK570:=n12_
         have BK602:=n13_
         have BK608:=n14_
         have HB:=n15_
         clear n0_ n1_ n2_ n3_ n4_ n5_ n6_ n7_ n8_ n9_ n10_ n11_ n12_ n13_ n14_ n15_
         (try clear hb)
         (try clear hb2)
         (try clear hk)
         (try clear hi)
         refine hK.out _ _ ⟨(qqh BK570.out 0).trans rfl,(qqh BK570.out 1).trans rfl,(qqh BK570.out 2).trans rfl,(qqh BK570.out 3).trans rfl,(qqh BK602.out 0).trans rfl,(qqh BK602.out 1).trans rfl,(qqh BK602.out 2).trans rfl,(qqh BK602.out 3).trans rfl,(qqh BK602.out 4).trans rfl,(qqh BK602.out 5).trans rfl⟩ (fun hHeld => ?_)
         clear hK K
         refine norm_ (a':=?_) ?_ ?_
         rotate_left
         ·
          show Act.put _ (some 64) _ = _
          simp only [Act.put,qqj,qqk,qql,i64_w,i32_w]
          rfl
         refine pure_ (i:=28) (N:=some 65) (v:=?_) (a':=?_) #[true,true,true,true,true,true,true,true,true,true,true,true,true,true,true,true,true,true,true,true,true,true,true,true,true,true,true,true,true,false] rfl rfl (any_of HT_.out (by kernel_rfl)) (fun _ _ _ h => h) (Or.inl ⟨by rfl,?_⟩) ?_ ?_
         rotate_left
         ·
          intro w'
          go_simp
          with_reducible rfl
         rotate_left
         ·
          simp only [Act.put,qqj,qqk,qql,i64_w,i32_w]
          rfl
         refine pure_ (i:=29) (N:=some 4) (v:=?_) (a':=?_) #[true,true,true,true,true,true,true,true,true,true,true,true,true,true,true,true,true,true,true,true,true,true,true,true,true,true,true,true,true,true] rfl rfl (any_of HT_.out (by kernel_rfl)) (fun _ _ _ h => h) (Or.inl ⟨by rfl,?_⟩) ?_ ?_
         rotate_left
         ·
          intro w'
          go_simp
          with_reducible rfl
         rotate_left
         ·
          simp only [Act.put,qqj,qqk,qql,i64_w,i32_w]
          rfl
         refine done_ (done_of HT_.out (by kernel_rfl)) ?_
         try go_wp2
         go_ret
         exact ⟨by first|rfl|(simp [errW_none,errW_some] <;> rfl)|(simp [*,errW_none,errW_some] <;> rfl),by repeat (first|(with_reducible first|exact HB.out|apply qqf|apply qqd|apply qqe|refine qqg ?_ GE570.out|refine qqg ?_ GE602.out|refine qqg ?_ GE608.out)|exact HB.out)⟩
        ·
         rw [if_neg c31] at H
         have c31b0 : (t589 == 33154) = false:=beq_eq_false_iff_ne.mpr c31
         have c31b1 : (t589 != 33154) = true:=bne_iff_ne.mpr c31
         exact absurd ((Option.some.inj H).trans HT.out) (by decide)
       ·
        rw [if_neg c30] at H
        have c30b0 : (t607 == 107) = false:=beq_eq_false_iff_ne.mpr c30
        have c30b1 : (t607 != 107) = true:=bne_iff_ne.mpr c30
        exact absurd ((Option.some.inj H).trans HT.out) (by decide)
      ·
       rw [if_neg c29] at H
       have c29b0 : (t611 == 0) = false:=beq_eq_false_iff_ne.mpr c29
       have c29b1 : (t611 != 0) = true:=bne_iff_ne.mpr c29
       exact absurd ((Option.some.inj H).trans HT.out) (by decide)
    ·
     replace c25:=Bool.eq_false_iff.mpr c25
     subst c25
     have H1 : (some false) = some r:=by rw [if_neg (show ¬ (false = true) by decide)] at H;exact H
     clear H
     have H:=H1
     clear H1
     exact absurd ((Option.some.inj H).trans HT.out) (by decide)

/-- THE ONE PURE STATEMENT of nunciolaw08_QueryFails: yours. -/
def nunciolaw08_QueryFails.Pure : Prop := ∀ (a0_0 : ByteArray) (a0_1 : Int) (a0_2 : Int) (a0_3 : Bool) (a1 : Int), (a0_0.size ≤ 140737488351232) → ((Lit.int .u16 a0_1).wf = true) → ((Lit.int .u16 a0_2).wf = true) → ((Lit.int .u16 a1).wf = true) → ∃ k, nunciolaw08_QueryFails.f k a0_0 a0_1 a0_2 a0_3 a1 = some true
theorem nunciolaw08_QueryFails.walk (P : nunciolaw08_QueryFails.Pure) (a0_0 : ByteArray) (a0_1 : Int) (a0_2 : Int) (a0_3 : Bool) (a1 : Int) (w : World) (w0_0 : a0_0.size ≤ 140737488351232) (w0_1 : (Lit.int .u16 a0_1).wf = true) (w0_2 : (Lit.int .u16 a0_2).wf = true) (w1 : (Lit.int .u16 a1).wf = true) :
  Calls Try.prog 8 #[.agg #[.string a0_0,.int .u16 a0_1,.int .u16 a0_2,.bool a0_3],.int .u16 a1] w fun e w' => e = .returned (.bool true)∧Below w.heap.size w w':=by
 obtain ⟨k,h⟩:=P a0_0 a0_1 a0_2 a0_3 a1 w0_0 w0_1 w0_2 w1
 refine (nunciolaw08_QueryFails.calls k a0_0 a0_1 a0_2 a0_3 a1 true w h rfl).mono ?_
 rintro e w' ⟨rfl,hd⟩
 exact ⟨rfl,hd⟩

end Go.Proofs.Ythkdfnbhlinhiaa.Mine
