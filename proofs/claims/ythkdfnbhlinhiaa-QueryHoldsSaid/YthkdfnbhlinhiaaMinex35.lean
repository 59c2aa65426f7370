-- Written by this repo's own printer (wip/print), which builds on the kit's.
import Derived.Test.YthkdfnbhlinhiaaWf
import Derived.Test.YthkdfnbhlinhiaaMinex0
import Derived.Test.YthkdfnbhlinhiaaMinex10
import Derived.Test.YthkdfnbhlinhiaaMinex11
import Derived.Test.YthkdfnbhlinhiaaMinex16
import Derived.Test.YthkdfnbhlinhiaaMinex19
import Derived.Test.YthkdfnbhlinhiaaMinex33
import Derived.Test.YthkdfnbhlinhiaaMinex34
namespace Go.Proofs.Ythkdfnbhlinhiaa.Mine
open Go.RowKit Go.Proofs.YthkdfnbhlinhiaaW.PrintWords Go.Proofs.YthkdfnbhlinhiaaW.PrintLast Go.Proofs.YthkdfnbhlinhiaaW.PrintMore
attribute [local go_sem] max2_int min2_int max_two min_two max_three min_three max_four min_four   -- for this text's walks alone
set_option linter.unusedVariables false
set_option linter.unusedSimpArgs false

/-! ### nunciolaw08_QueryHolds: function 4 -/
def nunciolaw08_QueryHolds.f (k : Nat) (a0_0 : Int) (a0_1 : Int) (l0_2 : List (S53)) (l0_3 : List (S51)) (l0_4 : List (S51)) (l0_5 : List (S51)) : Option (Bool) := (nunciolaw08_awake.f k).bind fun t378 => (if t378 = true then ((nunciolaw07_Few.f k a0_0 a0_1 l0_2 l0_3 l0_4 l0_5).bind fun t379 => (if t379 = true then ((query_Negative.f a0_0 a0_1 l0_2 l0_3 l0_4 l0_5).bind fun t380 => ((nuncioref08_Negative.f k a0_0 a0_1 l0_2 l0_3 l0_4 l0_5).bind fun t381 => (if (t380 == t381) = true then ((query_Least.f a0_0 a0_1 l0_2 l0_3 l0_4 l0_5).bind fun t382 => ((nuncioref08_Least.f k a0_0 a0_1 l0_2 l0_3 l0_4 l0_5).bind fun t383 => (some (t382 == t383)))) else (some false)))) else (some true))) else (some false))
theorem nunciolaw08_QueryHolds.mono : ∀ a0 a1 a2 a3 a4 a5 k, LeO (nunciolaw08_QueryHolds.f k a0 a1 a2 a3 a4 a5) (nunciolaw08_QueryHolds.f (k + 1) a0 a1 a2 a3 a4 a5) := by
 intro a0 a1 a2 a3 a4 a5 k
 unfold nunciolaw08_QueryHolds.f
 repeat' first
   | (with_reducible exact nunciolaw07_Few.mono _ _ _ _ _ _ _)
   | (with_reducible exact nunciolaw08_awake.mono _)
   | (with_reducible exact nuncioref08_Least.mono _ _ _ _ _ _ _)
   | (with_reducible exact nuncioref08_Negative.mono _ _ _ _ _ _ _)
   | (with_reducible exact LeO.refl _)
   | (with_reducible exact LeO.none _)
   | (with_reducible refine LeO.ite ?_ ?_)
   | (with_reducible refine LeO.bind ?_ (fun _ => ?_))
   | exact nunciolaw07_Few.mono _ _ _ _ _ _ _
   | exact nunciolaw08_awake.mono _
   | exact nuncioref08_Least.mono _ _ _ _ _ _ _
   | exact nuncioref08_Negative.mono _ _ _ _ _ _ _
   | exact LeO.none _
   | refine LeO.ite ?_ ?_
   | refine LeO.bind ?_ (fun _ => ?_)
def nunciolaw08_QueryHolds.T5 : Bool × List (List Nat × List Nat) := (true, [([], []), ([0], [0]), ([], []), ([2, 1], [2]), ([1, 3], [1, 3]), ([4, 3], [4]), ([5], [5]), ([6, 5, 5], [5, 6]), ([5], [5]), ([8, 7, 5], [5, 8]), ([7, 9, 5], [5, 7, 9]), ([5, 10], [5, 10]), ([11, 9, 0, 1, 2, 3, 4, 5, 6, 7, 8, 9, 10, 11], [11])])
def nunciolaw08_QueryHolds.B5 : List Nat := [0, 1, 0, 7, 15, 31, 63, 127, 63, 511, 1023, 2047, 4095]
theorem nunciolaw08_QueryHolds.tab5 : rtab .any (opsOf Try.f4 5) = nunciolaw08_QueryHolds.T5 := by kernel_rfl
theorem nunciolaw08_QueryHolds.bits5 : waitsOk nunciolaw08_QueryHolds.T5.2 nunciolaw08_QueryHolds.B5 = true := by kernel_rfl
set_option maxHeartbeats 8000000 in
set_option maxRecDepth 100000 in
theorem nunciolaw08_QueryHolds.calls (k : Nat) (a0_0 : Int) (a0_1 : Int) (A0_2 : Option Addr) (c0_2 : Nat) (l0_2 : List (S53)) (A0_3 : Option Addr) (c0_3 : Nat) (l0_3 : List (S51)) (A0_4 : Option Addr) (c0_4 : Nat) (l0_4 : List (S51)) (A0_5 : Option Addr) (c0_5 : Nat) (l0_5 : List (S51)) (r : Bool) (w : World) (hr0_2 : Kd.C k53 w A0_2 l0_2.length l0_2) (hc0_2 : l0_2.length ≤ c0_2) (hr0_3 : Kd.C k51 w A0_3 l0_3.length l0_3) (hc0_3 : l0_3.length ≤ c0_3) (hr0_4 : Kd.C k51 w A0_4 l0_4.length l0_4) (hc0_4 : l0_4.length ≤ c0_4) (hr0_5 : Kd.C k51 w A0_5 l0_5.length l0_5) (hc0_5 : l0_5.length ≤ c0_5) (h : nunciolaw08_QueryHolds.f k a0_0 a0_1 l0_2 l0_3 l0_4 l0_5 = some r) (hT : r = true) :
  Calls Try.prog 4 #[.agg #[.int .u16 a0_0,.int .u16 a0_1,.slice A0_2 l0_2.length c0_2,.slice A0_3 l0_3.length c0_3,.slice A0_4 l0_4.length c0_4,.slice A0_5 l0_5.length c0_5]] w fun e w' => e = .returned (.bool r)∧Below w.heap.size w w':=by
 have hu26:=Try.underlying26
 have HR0_2:=Aside0.mk hr0_2
 have HC0_2:=Aside0.mk hc0_2
 clear hr0_2 hc0_2
 have HR0_3:=Aside0.mk hr0_3
 have HC0_3:=Aside0.mk hc0_3
 clear hr0_3 hc0_3
 have HR0_4:=Aside0.mk hr0_4
 have HC0_4:=Aside0.mk hc0_4
 clear hr0_4 hc0_4
 have HR0_5:=Aside0.mk hr0_5
 have HC0_5:=Aside0.mk hc0_5
 clear hr0_5 hc0_5
 have HB:=Aside0.mk (Below.refl w.heap.size w)
 have HT:=Aside0.mk hT
 clear hT
 have H : ((nunciolaw08_awake.f k).bind fun t378 => (if t378 = true then ((nunciolaw07_Few.f k a0_0 a0_1 l0_2 l0_3 l0_4 l0_5).bind fun t379 => (if t379 = true then ((query_Negative.f a0_0 a0_1 l0_2 l0_3 l0_4 l0_5).bind fun t380 => ((nuncioref08_Negative.f k a0_0 a0_1 l0_2 l0_3 l0_4 l0_5).bind fun t381 => (if (t380 == t381) = true then ((query_Least.f a0_0 a0_1 l0_2 l0_3 l0_4 l0_5).bind fun t382 => ((nuncioref08_Least.f k a0_0 a0_1 l0_2 l0_3 l0_4 l0_5).bind fun t383 => (some (t382 == t383)))) else (some false)))) else (some true))) else (some false))) = some r:=h
 clear h
 replace H:=Option.bind_eq_some_iff.mp H
 obtain ⟨t378,A20,H⟩:=H
 replace H : (if t378 = true then ((nunciolaw07_Few.f k a0_0 a0_1 l0_2 l0_3 l0_4 l0_5).bind fun t379 => (if t379 = true then ((query_Negative.f a0_0 a0_1 l0_2 l0_3 l0_4 l0_5).bind fun t380 => ((nuncioref08_Negative.f k a0_0 a0_1 l0_2 l0_3 l0_4 l0_5).bind fun t381 => (if (t380 == t381) = true then ((query_Least.f a0_0 a0_1 l0_2 l0_3 l0_4 l0_5).bind fun t382 => ((nuncioref08_Least.f k a0_0 a0_1 l0_2 l0_3 l0_4 l0_5).bind fun t383 => (some (t382 == t383)))) else (some false)))) else (some true))) else (some false)) = some r:=H
 have A2:=Aside0.mk A20
 clear A20
 by_cases c3 : t378 = true
 rotate_left
 ·
  replace c3:=Bool.eq_false_iff.mpr c3
  subst c3
  have H1 : (some false) = some r:=by rw [if_neg (show ¬ (false = true) by decide)] at H;exact H
  clear H
  have H:=H1
  clear H1
  exact absurd ((Option.some.inj H).trans HT.out) (by decide)
 subst c3
 have H1 : ((nunciolaw07_Few.f k a0_0 a0_1 l0_2 l0_3 l0_4 l0_5).bind fun t379 => (if t379 = true then ((query_Negative.f a0_0 a0_1 l0_2 l0_3 l0_4 l0_5).bind fun t380 => ((nuncioref08_Negative.f k a0_0 a0_1 l0_2 l0_3 l0_4 l0_5).bind fun t381 => (if (t380 == t381) = true then ((query_Least.f a0_0 a0_1 l0_2 l0_3 l0_4 l0_5).bind fun t382 => ((nuncioref08_Least.f k a0_0 a0_1 l0_2 l0_3 l0_4 l0_5).bind fun t383 => (some (t382 == t383)))) else (some false)))) else (some true))) = some r:=by rw [if_pos rfl] at H;exact H
 clear H
 have H:=H1
 clear H1
 replace H:=Option.bind_eq_some_iff.mp H
 obtain ⟨t379,A40,H⟩:=H
 replace H : (if t379 = true then ((query_Negative.f a0_0 a0_1 l0_2 l0_3 l0_4 l0_5).bind fun t380 => ((nuncioref08_Negative.f k a0_0 a0_1 l0_2 l0_3 l0_4 l0_5).bind fun t381 => (if (t380 == t381) = true then ((query_Least.f a0_0 a0_1 l0_2 l0_3 l0_4 l0_5).bind fun t382 => ((nuncioref08_Least.f k a0_0 a0_1 l0_2 l0_3 l0_4 l0_5).bind fun t383 => (some (t382 == t383)))) else (some false)))) else (some true)) = some r:=H
 have A4:=Aside0.mk A40
 clear A40
 by_cases c5 : t379 = true
 rotate_left
 ·
  replace c5:=Bool.eq_false_iff.mpr c5
  subst c5
  have H1 : (some true) = some r:=by rw [if_neg (show ¬ (false = true) by decide)] at H;exact H
  clear H
  have H:=H1
  clear H1
  obtain rfl:=Option.some.inj H
  go_enter Try.func4,Try.ntmps4
  go_wp2_with (first|((with_reducible refine gate_dst (N:=1) rfl ?_);refine box_event ?hg (N:=1) ?hd (cs:=#[.int .u16 a0_0,.int .u16 a0_1,.slice A0_2 l0_2.length c0_2,.slice A0_3 l0_3.length c0_3,.slice A0_4 l0_4.length c0_4,.slice A0_5 l0_5.length c0_5]) (t:=26) ?hr ?_;(case hd => rfl);(case hg => rfl);(case hr => first|(go_simp;done)|(go_simp;rfl));intro gb377 hg w20 hbox hb;have n0_:=Aside0.mk (below_step (by repeat (first|(with_reducible first|exact HB.out|apply qqf|apply qqd|apply qqe)|exact HB.out)) hb);have n1_:=Aside0.mk (hbox);have n2_:=Aside0.mk ((by rw [hg];exact (below_size (by repeat (first|(with_reducible first|exact HB.out|apply qqf|apply qqd|apply qqe)|exact HB.out))) : w.heap.size ≤ gb377));have n3_:=Aside0.mk ((by rw [hg];exact (below_size (by repeat (first|(with_reducible first|exact HB.out|apply qqf|apply qqd|apply qqe)|exact HB.out))) : w.heap.size ≤ gb377));clear HB;have HB:=n0_;have BK377:=n1_;have GW377:=n2_;have GE377:=n3_;clear n0_ n1_ n2_ n3_;clear hb hbox hg)|((with_reducible refine gate_callee (f:=9) rfl ?_);refine goesL_ (some 3) rfl rfl Try.func9 (by kernel_rfl) rfl #[] rfl (by (try simp only [List.map_toArray,List.map_cons,List.map_nil]);first|done|rfl|(simp only [List.length_drop,List.length_take];rfl)) ?_;(with_reducible refine (nunciolaw08_awake.calls k  true _ A2.out).mono ?_);rintro e w21 ⟨rfl,hb⟩;refine ⟨_,rfl,?_⟩;have n0_:=Aside0.mk (blk_below (g:=gb377) (o:=.cells #[.int .u16 a0_0,.int .u16 a0_1,.slice A0_2 l0_2.length c0_2,.slice A0_3 l0_3.length c0_3,.slice A0_4 l0_4.length c0_4,.slice A0_5 l0_5.length c0_5] 26 (0,0)) (by (with_reducible repeat first|apply qqa|apply qqb|apply qqc);exact BK377.out) hb);have n1_:=Aside0.mk (below_step (by repeat (first|(with_reducible first|exact HB.out|apply qqf|apply qqd|apply qqe|refine qqg ?_ GE377.out)|exact HB.out)) hb);clear BK377;clear HB;have BK377:=n0_;have HB:=n1_;clear n0_ n1_;(try clear hb);(try clear hb2);(try clear hk);(try clear hi);have hcz22_0 : w21.cell? ⟨gb377,0,none⟩ = some (.int .u16 a0_0):=(qqh BK377.out 0).trans rfl;have hcz22_1 : w21.cell? ⟨gb377,1,none⟩ = some (.int .u16 a0_1):=(qqh BK377.out 1).trans rfl;have hcz22_2 : w21.cell? ⟨gb377,2,none⟩ = some (.slice A0_2 l0_2.length c0_2):=(qqh BK377.out 2).trans rfl;have hcz22_3 : w21.cell? ⟨gb377,3,none⟩ = some (.slice A0_3 l0_3.length c0_3):=(qqh BK377.out 3).trans rfl;have hcz22_4 : w21.cell? ⟨gb377,4,none⟩ = some (.slice A0_4 l0_4.length c0_4):=(qqh BK377.out 4).trans rfl;have hcz22_5 : w21.cell? ⟨gb377,5,none⟩ = some (.slice A0_5 l0_5.length c0_5):=(qqh BK377.out 5).trans rfl;have hfz22_0:=qqi BK377.out 0;have hfz22_1:=qqi BK377.out 1;have hfz22_2:=qqi BK377.out 2;have hfz22_3:=qqi BK377.out 3;have hfz22_4:=qqi BK377.out 4;have hfz22_5:=qqi BK377.out 5)|((with_reducible refine gate_callee (f:=10) rfl ?_);refine goesL_ (some 6) rfl rfl Try.func10 (by kernel_rfl) rfl #[.agg #[.int .u16 a0_0,.int .u16 a0_1,.slice A0_2 l0_2.length c0_2,.slice A0_3 l0_3.length c0_3,.slice A0_4 l0_4.length c0_4,.slice A0_5 l0_5.length c0_5]] rfl (by (try simp only [List.map_toArray,List.map_cons,List.map_nil]);first|done|rfl|(simp only [List.length_drop,List.length_take];rfl)) ?_;(with_reducible refine (nunciolaw07_Few.calls k a0_0 a0_1 _ _ l0_2 _ _ l0_3 _ _ l0_4 _ _ l0_5 false _ ?side1 ?side2 ?side3 ?side4 ?side5 ?side6 ?side7 ?side8 A4.out).mono ?_);(case side1 => repeat (first|exact (Kd.C_below HR0_2.out HB.out)|(with_reducible refine Kd.C_alloc ?_ _)|(with_reducible refine Kd.C_drewN ?_ _)|(with_reducible refine Kd.C_drew ?_)));(case side2 => exact HC0_2.out);(case side3 => repeat (first|exact (Kd.C_below HR0_3.out HB.out)|(with_reducible refine Kd.C_alloc ?_ _)|(with_reducible refine Kd.C_drewN ?_ _)|(with_reducible refine Kd.C_drew ?_)));(case side4 => exact HC0_3.out);(case side5 => repeat (first|exact (Kd.C_below HR0_4.out HB.out)|(with_reducible refine Kd.C_alloc ?_ _)|(with_reducible refine Kd.C_drewN ?_ _)|(with_reducible refine Kd.C_drew ?_)));(case side6 => exact HC0_4.out);(case side7 => repeat (first|exact (Kd.C_below HR0_5.out HB.out)|(with_reducible refine Kd.C_alloc ?_ _)|(with_reducible refine Kd.C_drewN ?_ _)|(with_reducible refine Kd.C_drew ?_)));(case side8 => exact HC0_5.out);rintro e w23 ⟨rfl,hb⟩;refine ⟨_,rfl,?_⟩;have n0_:=Aside0.mk (blk_below (g:=gb377) (o:=.cells #[.int .u16 a0_0,.int .u16 a0_1,.slice A0_2 l0_2.length c0_2,.slice A0_3 l0_3.length c0_3,.slice A0_4 l0_4.length c0_4,.slice A0_5 l0_5.length c0_5] 26 (0,0)) (by (with_reducible repeat first|apply qqa|apply qqb|apply qqc);exact BK377.out) hb);have n1_:=Aside0.mk (below_step (by repeat (first|(with_reducible first|exact HB.out|apply qqf|apply qqd|apply qqe|refine qqg ?_ GE377.out)|exact HB.out)) hb);clear BK377;clear HB;have BK377:=n0_;have HB:=n1_;clear n0_ n1_;(try clear hb);(try clear hb2);(try clear hk);(try clear hi)))
  go_ret
  exact ⟨by first|rfl|(simp [errW_none,errW_some] <;> rfl)|(simp [*,errW_none,errW_some] <;> rfl),by repeat (first|(with_reducible first|exact HB.out|apply qqf|apply qqd|apply qqe|refine qqg ?_ GE377.out)|exact HB.out)⟩
 subst c5
 have H1 : ((query_Negative.f a0_0 a0_1 l0_2 l0_3 l0_4 l0_5).bind fun t380 => ((nuncioref08_Negative.f k a0_0 a0_1 l0_2 l0_3 l0_4 l0_5).bind fun t381 => (if (t380 == t381) = true then ((query_Least.f a0_0 a0_1 l0_2 l0_3 l0_4 l0_5).bind fun t382 => ((nuncioref08_Least.f k a0_0 a0_1 l0_2 l0_3 l0_4 l0_5).bind fun t383 => (some (t382 == t383)))) else (some false)))) = some r:=by rw [if_pos rfl] at H;exact H
 clear H
 have H:=H1
 clear H1
 replace H:=Option.bind_eq_some_iff.mp H
 obtain ⟨t380,A60,H⟩:=H
 replace H : ((nuncioref08_Negative.f k a0_0 a0_1 l0_2 l0_3 l0_4 l0_5).bind fun t381 => (if (t380 == t381) = true then ((query_Least.f a0_0 a0_1 l0_2 l0_3 l0_4 l0_5).bind fun t382 => ((nuncioref08_Least.f k a0_0 a0_1 l0_2 l0_3 l0_4 l0_5).bind fun t383 => (some (t382 == t383)))) else (some false))) = some r:=H
 have A6:=Aside0.mk A60
 clear A60
 replace H:=Option.bind_eq_some_iff.mp H
 obtain ⟨t381,A70,H⟩:=H
 replace H : (if (t380 == t381) = true then ((query_Least.f a0_0 a0_1 l0_2 l0_3 l0_4 l0_5).bind fun t382 => ((nuncioref08_Least.f k a0_0 a0_1 l0_2 l0_3 l0_4 l0_5).bind fun t383 => (some (t382 == t383)))) else (some false)) = some r:=H
 have A7:=Aside0.mk A70
 clear A70
 by_cases c8 : (t380 == t381) = true
 rotate_left
 ·
  rw [if_neg c8] at H
  have c8b0 : (t380 == t381) = false:=by simpa using c8
  (try (have c8b1 : decide (t380 = t381) = false:=by simpa using c8))
  (try (have c8b2 : (t380 == t381) = false:=by simpa using c8))
  (try (have c8b3 : ¬ (t380 = t381):=by simpa using c8))
  clear c8
  exact absurd ((Option.some.inj H).trans HT.out) (by decide)
 rw [if_pos c8] at H
 have c8b0 : (t380 == t381) = true:=c8
 (try (have c8b1 : decide (t380 = t381) = true:=by simpa using c8))
 (try (have c8b2 : (t380 == t381) = true:=by simpa using c8))
 clear c8
 replace H:=Option.bind_eq_some_iff.mp H
 obtain ⟨t382,A90,H⟩:=H
 replace H : ((nuncioref08_Least.f k a0_0 a0_1 l0_2 l0_3 l0_4 l0_5).bind fun t383 => (some (t382 == t383))) = some r:=H
 have A9:=Aside0.mk A90
 clear A90
 replace H:=Option.bind_eq_some_iff.mp H
 obtain ⟨t383,A100,H⟩:=H
 replace H : (some (t382 == t383)) = some r:=H
 have A10:=Aside0.mk A100
 clear A100
 obtain rfl:=Option.some.inj H
 go_enter Try.func4,Try.ntmps4
 try go_wp2_with (first|((with_reducible refine gate_dst (N:=1) rfl ?_);refine box_event ?hg (N:=1) ?hd (cs:=#[.int .u16 a0_0,.int .u16 a0_1,.slice A0_2 l0_2.length c0_2,.slice A0_3 l0_3.length c0_3,.slice A0_4 l0_4.length c0_4,.slice A0_5 l0_5.length c0_5]) (t:=26) ?hr ?_;(case hd => rfl);(case hg => rfl);(case hr => first|(go_simp;done)|(go_simp;rfl));intro gb377 hg w11 hbox hb;have n0_:=Aside0.mk (below_step (by repeat (first|(with_reducible first|exact HB.out|apply qqf|apply qqd|apply qqe)|exact HB.out)) hb);have n1_:=Aside0.mk (hbox);have n2_:=Aside0.mk ((by rw [hg];exact (below_size (by repeat (first|(with_reducible first|exact HB.out|apply qqf|apply qqd|apply qqe)|exact HB.out))) : w.heap.size ≤ gb377));have n3_:=Aside0.mk ((by rw [hg];exact (below_size (by repeat (first|(with_reducible first|exact HB.out|apply qqf|apply qqd|apply qqe)|exact HB.out))) : w.heap.size ≤ gb377));clear HB;have HB:=n0_;have BK377:=n1_;have GW377:=n2_;have GE377:=n3_;clear n0_ n1_ n2_ n3_;clear hb hbox hg)|((with_reducible refine gate_callee (f:=9) rfl ?_);refine goesL_ (some 3) rfl rfl Try.func9 (by kernel_rfl) rfl #[] rfl (by (try simp only [List.map_toArray,List.map_cons,List.map_nil]);first|done|rfl|(simp only [List.length_drop,List.length_take];rfl)) ?_;(with_reducible refine (nunciolaw08_awake.calls k  true _ A2.out).mono ?_);rintro e w12 ⟨rfl,hb⟩;refine ⟨_,rfl,?_⟩;have n0_:=Aside0.mk (blk_below (g:=gb377) (o:=.cells #[.int .u16 a0_0,.int .u16 a0_1,.slice A0_2 l0_2.length c0_2,.slice A0_3 l0_3.length c0_3,.slice A0_4 l0_4.length c0_4,.slice A0_5 l0_5.length c0_5] 26 (0,0)) (by (with_reducible repeat first|apply qqa|apply qqb|apply qqc);exact BK377.out) hb);have n1_:=Aside0.mk (below_step (by repeat (first|(with_reducible first|exact HB.out|apply qqf|apply qqd|apply qqe|refine qqg ?_ GE377.out)|exact HB.out)) hb);clear BK377;clear HB;have BK377:=n0_;have HB:=n1_;clear n0_ n1_;(try clear hb);(try clear hb2);(try clear hk);(try clear hi);have hcz13_0 : w12.cell? ⟨gb377,0,none⟩ = some (.int .u16 a0_0):=(qqh BK377.out 0).trans rfl;have hcz13_1 : w12.cell? ⟨gb377,1,none⟩ = some (.int .u16 a0_1):=(qqh BK377.out 1).trans rfl;have hcz13_2 : w12.cell? ⟨gb377,2,none⟩ = some (.slice A0_2 l0_2.length c0_2):=(qqh BK377.out 2).trans rfl;have hcz13_3 : w12.cell? ⟨gb377,3,none⟩ = some (.slice A0_3 l0_3.length c0_3):=(qqh BK377.out 3).trans rfl;have hcz13_4 : w12.cell? ⟨gb377,4,none⟩ = some (.slice A0_4 l0_4.length c0_4):=(qqh BK377.out 4).trans rfl;have hcz13_5 : w12.cell? ⟨gb377,5,none⟩ = some (.slice A0_5 l0_5.length c0_5):=(qqh BK377.out 5).trans rfl;have hfz13_0:=qqi BK377.out 0;have hfz13_1:=qqi BK377.out 1;have hfz13_2:=qqi BK377.out 2;have hfz13_3:=qqi BK377.out 3;have hfz13_4:=qqi BK377.out 4;have hfz13_5:=qqi BK377.out 5)|((with_reducible refine gate_callee (f:=10) rfl ?_);refine goesL_ (some 6) rfl rfl Try.func10 (by kernel_rfl) rfl #[.agg #[.int .u16 a0_0,.int .u16 a0_1,.slice A0_2 l0_2.length c0_2,.slice A0_3 l0_3.length c0_3,.slice A0_4 l0_4.length c0_4,.slice A0_5 l0_5.length c0_5]] rfl (by (try simp only [List.map_toArray,List.map_cons,List.map_nil]);first|done|rfl|(simp only [List.length_drop,List.length_take];rfl)) ?_;(with_reducible refine (nunciolaw07_Few.calls k a0_0 a0_1 _ _ l0_2 _ _ l0_3 _ _ l0_4 _ _ l0_5 true _ ?side1 ?side2 ?side3 ?side4 ?side5 ?side6 ?side7 ?side8 A4.out).mono ?_);(case side1 => repeat (first|exact (Kd.C_below HR0_2.out HB.out)|(with_reducible refine Kd.C_alloc ?_ _)|(with_reducible refine Kd.C_drewN ?_ _)|(with_reducible refine Kd.C_drew ?_)));(case side2 => exact HC0_2.out);(case side3 => repeat (first|exact (Kd.C_below HR0_3.out HB.out)|(with_reducible refine Kd.C_alloc ?_ _)|(with_reducible refine Kd.C_drewN ?_ _)|(with_reducible refine Kd.C_drew ?_)));(case side4 => exact HC0_3.out);(case side5 => repeat (first|exact (Kd.C_below HR0_4.out HB.out)|(with_reducible refine Kd.C_alloc ?_ _)|(with_reducible refine Kd.C_drewN ?_ _)|(with_reducible refine Kd.C_drew ?_)));(case side6 => exact HC0_4.out);(case side7 => repeat (first|exact (Kd.C_below HR0_5.out HB.out)|(with_reducible refine Kd.C_alloc ?_ _)|(with_reducible refine Kd.C_drewN ?_ _)|(with_reducible refine Kd.C_drew ?_)));(case side8 => exact HC0_5.out);rintro e w14 ⟨rfl,hb⟩;refine ⟨_,rfl,?_⟩;have n0_:=Aside0.mk (blk_below (g:=gb377) (o:=.cells #[.int .u16 a0_0,.int .u16 a0_1,.slice A0_2 l0_2.length c0_2,.slice A0_3 l0_3.length c0_3,.slice A0_4 l0_4.length c0_4,.slice A0_5 l0_5.length c0_5] 26 (0,0)) (by (with_reducible repeat first|apply qqa|apply qqb|apply qqc);exact BK377.out) hb);have n1_:=Aside0.mk (below_step (by repeat (first|(with_reducible first|exact HB.out|apply qqf|apply qqd|apply qqe|refine qqg ?_ GE377.out)|exact HB.out)) hb);clear BK377;clear HB;have BK377:=n0_;have HB:=n1_;clear n0_ n1_;(try clear hb);(try clear hb2);(try clear hk);(try clear hi)))
 have n0_:=Aside0.mk (qqb BK377.out)
 have n1_:=Aside0.mk (qqe HB.out)
 clear BK377
 clear HB
 have BK377:=n0_
 have HB:=n1_
 clear n0_ n1_
 refine start_ (n:=13) (S:=fun w' => w'.cell? ⟨gb377,0,none⟩ = some (.int .u16 a0_0)∧w'.cell? ⟨gb377,1,none⟩ = some (.int .u16 a0_1)∧w'.cell? ⟨gb377,2,none⟩ = some (.slice A0_2 l0_2.length c0_2)∧w'.cell? ⟨gb377,3,none⟩ = some (.slice A0_3 l0_3.length c0_3)∧w'.cell? ⟨gb377,4,none⟩ = some (.slice A0_4 l0_4.length c0_4)∧w'.cell? ⟨gb377,5,none⟩ = some (.slice A0_5 l0_5.length c0_5)) (ds:=[]) #[false,false,false,false,false,false,false,false,false,false,false,false,false] (by kernel_rfl) rfl rfl ⟨(qqh BK377.out 0).trans rfl,(qqh BK377.out 1).trans rfl,(qqh BK377.out 2).trans rfl,(qqh BK377.out 3).trans rfl,(qqh BK377.out 4).trans rfl,(qqh BK377.out 5).trans rfl⟩ (fun hHeld => ?_);refine with_tabW nunciolaw08_QueryHolds.tab5 nunciolaw08_QueryHolds.bits5 (fun HT_ HW_ => ?_)
 generalize w14.drew = w15 at BK377 HB hHeld ⊢
 refine take_ (i:=0) (N:=some 8) (v:=?_) (a':=?_) #[true,false,false,false,false,false,false,false,false,false,false,false,false] rfl rfl (take_ofW HT_.out HW_.out (by kernel_rfl)) (fun _ _ _ h => h) (Or.inl ⟨by rfl,?_⟩) hHeld ?_ ?_
 rotate_left
 ·
  rintro w' ⟨s0,s1,s2,s3,s4,s5⟩
  go_simp
  with_reducible rfl
 rotate_left
 ·
  simp only [Act.put,qqj,qqk,qql,i64_w,i32_w]
  rfl
 refine take_ (i:=2) (N:=some 10) (v:=?_) (a':=?_) #[true,false,true,false,false,false,false,false,false,false,false,false,false] rfl rfl (take_ofW HT_.out HW_.out (by kernel_rfl)) (fun _ _ _ h => h) (Or.inl ⟨by rfl,?_⟩) hHeld ?_ ?_
 rotate_left
 ·
  rintro w' ⟨s0,s1,s2,s3,s4,s5⟩
  go_simp
  with_reducible rfl
 rotate_left
 ·
  simp only [Act.put,qqj,qqk,qql,i64_w,i32_w]
  rfl
 refine one_ (i:=1) (N:=some 9) #[true,true,true,false,false,false,false,false,false,false,false,false,false] rfl rfl (one_of HT_.out (by kernel_rfl)) (by decide) (fun K hK => ?_)
 refine goes_ Try.func18 (by kernel_rfl) rfl #[.agg #[.int .u16 a0_0,.int .u16 a0_1,.slice A0_2 l0_2.length c0_2,.slice A0_3 l0_3.length c0_3,.slice A0_4 l0_4.length c0_4,.slice A0_5 l0_5.length c0_5]] (by rfl) rfl rfl (by (try simp only [List.map_toArray,List.map_cons,List.map_nil]);first|done|rfl|(simp only [List.length_drop,List.length_take];rfl)) ?_
 with_reducible refine (query_Negative.calls a0_0 a0_1 _ _ l0_2 _ _ l0_3 _ _ l0_4 _ _ l0_5 t380 _ ?side1 ?side2 ?side3 ?side4 ?side5 ?side6 ?side7 ?side8 A6.out).mono ?_
 (case side1 => repeat (first|exact (Kd.C_below HR0_2.out HB.out)|(with_reducible refine Kd.C_alloc ?_ _)|(with_reducible refine Kd.C_drewN ?_ _)|(with_reducible refine Kd.C_drew ?_)))
 (case side2 => exact HC0_2.out)
 (case side3 => repeat (first|exact (Kd.C_below HR0_3.out HB.out)|(with_reducible refine Kd.C_alloc ?_ _)|(with_reducible refine Kd.C_drewN ?_ _)|(with_reducible refine Kd.C_drew ?_)))
 (case side4 => exact HC0_3.out)
 (case side5 => repeat (first|exact (Kd.C_below HR0_4.out HB.out)|(with_reducible refine Kd.C_alloc ?_ _)|(with_reducible refine Kd.C_drewN ?_ _)|(with_reducible refine Kd.C_drew ?_)))
 (case side6 => exact HC0_4.out)
 (case side7 => repeat (first|exact (Kd.C_below HR0_5.out HB.out)|(with_reducible refine Kd.C_alloc ?_ _)|(with_reducible refine Kd.C_drewN ?_ _)|(with_reducible refine Kd.C_drew ?_)))
 (case side8 => exact HC0_5.out)
 rintro e w16 ⟨rfl,hb⟩
 refine ⟨_,rfl,?_⟩
 have n0_:=Aside0.mk (blk_below (g:=gb377) (o:=.cells #[.int .u16 a0_0,.int .u16 a0_1,.slice A0_2 l0_2.length c0_2,.slice A0_3 l0_3.length c0_3,.slice A0_4 l0_4.length c0_4,.slice A0_5 l0_5.length c0_5] 26 (0,0)) (by (with_reducible repeat first|apply qqa|apply qqb|apply qqc);exact BK377.out) hb)
 have n1_:=Aside0.mk (below_step (by repeat (first|(with_reducible first|exact HB.out|apply qqf|apply qqd|apply qqe|refine qqg ?_ GE377.out)|exact HB.out)) hb)
 clear BK377
 clear HB
 have BK377:=n0_
 have HB:=n1_
 clear n0_ n1_
 (try clear hb)
 (try clear hb2)
 (try clear hk)
 (try clear hi)
 refine hK.out _ _ ⟨(qqh BK377.out 0).trans rfl,(qqh BK377.out 1).trans rfl,(qqh BK377.out 2).trans rfl,(qqh BK377.out 3).trans rfl,(qqh BK377.out 4).trans rfl,(qqh BK377.out 5).trans rfl⟩ (fun hHeld => ?_)
 clear hK K
 refine norm_ (a':=?_) ?_ ?_
 rotate_left
 ·
  show Act.put _ (some 9) _ = _
  simp only [Act.put,qqj,qqk,qql,i64_w,i32_w]
  rfl
 refine one_ (i:=3) (N:=some 11) #[true,true,true,true,false,false,false,false,false,false,false,false,false] rfl rfl (one_of HT_.out (by kernel_rfl)) (by decide) (fun K hK => ?_)
 refine goes_ Try.func19 (by kernel_rfl) rfl #[.agg #[.int .u16 a0_0,.int .u16 a0_1,.slice A0_2 l0_2.length c0_2,.slice A0_3 l0_3.length c0_3,.slice A0_4 l0_4.length c0_4,.slice A0_5 l0_5.length c0_5]] (by rfl) rfl rfl (by (try simp only [List.map_toArray,List.map_cons,List.map_nil]);first|done|rfl|(simp only [List.length_drop,List.length_take];rfl)) ?_
 with_reducible refine (nuncioref08_Negative.calls k a0_0 a0_1 _ _ l0_2 _ _ l0_3 _ _ l0_4 _ _ l0_5 t381 _ ?side1 ?side2 ?side3 ?side4 ?side5 ?side6 ?side7 ?side8 A7.out).mono ?_
 (case side1 => repeat (first|exact (Kd.C_below HR0_2.out HB.out)|(with_reducible refine Kd.C_alloc ?_ _)|(with_reducible refine Kd.C_drewN ?_ _)|(with_reducible refine Kd.C_drew ?_)))
 (case side2 => exact HC0_2.out)
 (case side3 => repeat (first|exact (Kd.C_below HR0_3.out HB.out)|(with_reducible refine Kd.C_alloc ?_ _)|(with_reducible refine Kd.C_drewN ?_ _)|(with_reducible refine Kd.C_drew ?_)))
 (case side4 => exact HC0_3.out)
 (case side5 => repeat (first|exact (Kd.C_below HR0_4.out HB.out)|(with_reducible refine Kd.C_alloc ?_ _)|(with_reducible refine Kd.C_drewN ?_ _)|(with_reducible refine Kd.C_drew ?_)))
 (case side6 => exact HC0_4.out)
 (case side7 => repeat (first|exact (Kd.C_below HR0_5.out HB.out)|(with_reducible refine Kd.C_alloc ?_ _)|(with_reducible refine Kd.C_drewN ?_ _)|(with_reducible refine Kd.C_drew ?_)))
 (case side8 => exact HC0_5.out)
 rintro e w17 ⟨rfl,hb⟩
 refine ⟨_,rfl,?_⟩
 have n0_:=Aside0.mk (blk_below (g:=gb377) (o:=.cells #[.int .u16 a0_0,.int .u16 a0_1,.slice A0_2 l0_2.length c0_2,.slice A0_3 l0_3.length c0_3,.slice A0_4 l0_4.length c0_4,.slice A0_5 l0_5.length c0_5] 26 (0,0)) (by (with_reducible repeat first|apply qqa|apply qqb|apply qqc);exact BK377.out) hb)
 have n1_:=Aside0.mk (below_step (by repeat (first|(with_reducible first|exact HB.out|apply qqf|apply qqd|apply qqe|refine qqg ?_ GE377.out)|exact HB.out)) hb)
 clear BK377
 clear HB
 have BK377:=n0_
 have HB:=n1_
 clear n0_ n1_
 (try clear hb)
 (try clear hb2)
 (try clear hk)
 (try clear hi)
 refine hK.out _ _ ⟨(qqh BK377.out 0).trans rfl,(qqh BK377.out 1).trans rfl,(qqh BK377.out 2).trans rfl,(qqh BK377.out 3).trans rfl,(qqh BK377.out 4).trans rfl,(qqh BK377.out 5).trans rfl⟩ (fun hHeld => ?_)
 clear hK K
 refine norm_ (a':=?_) ?_ ?_
 rotate_left
 ·
  show Act.put _ (some 11) _ = _
  simp only [Act.put,qqj,qqk,qql,i64_w,i32_w]
  rfl
 refine pure_ (i:=4) (N:=some 12) (v:=?_) (a':=?_) #[true,true,true,true,true,false,false,false,false,false,false,false,false] rfl rfl (any_of HT_.out (by kernel_rfl)) (fun _ _ _ h => h) (Or.inl ⟨by rfl,?_⟩) ?_ ?_
 rotate_left
 ·
  intro w'
  go_simp
  with_reducible rfl
 rotate_left
 ·
  simp only [Act.put,qqj,qqk,qql,i64_w,i32_w]
  rfl
 refine pure_ (i:=5) (N:=some 13) (v:=?_) (a':=?_) #[true,true,true,true,true,true,false,false,false,false,false,false,false] rfl rfl (any_of HT_.out (by kernel_rfl)) (fun _ _ _ h => h) (Or.inl ⟨by rfl,?_⟩) ?_ ?_
 rotate_left
 ·
  intro w'
  go_simp
  with_reducible rfl
 rotate_left
 ·
  simp only [Act.put,qqj,qqk,qql,i64_w,i32_w]
  rfl
 refine take_ (i:=6) (N:=some 14) (v:=?_) (a':=?_) #[true,true,true,true,true,true,true,false,false,false,false,false,false] rfl rfl (take_ofW HT_.out HW_.out (by kernel_rfl)) (fun _ _ _ h => h) (Or.inl ⟨by rfl,?_⟩) hHeld ?_ ?_
 rotate_left
 ·
  rintro w' ⟨s0,s1,s2,s3,s4,s5⟩
  go_simp
  with_reducible rfl
 rotate_left
 ·
  simp only [Act.put,qqj,qqk,qql,i64_w,i32_w]
  rfl
 refine take_ (i:=8) (N:=some 16) (v:=?_) (a':=?_) #[true,true,true,true,true,true,true,false,true,false,false,false,false] rfl rfl (take_ofW HT_.out HW_.out (by kernel_rfl)) (fun _ _ _ h => h) (Or.inl ⟨by rfl,?_⟩) hHeld ?_ ?_
 rotate_left
 ·
  rintro w' ⟨s0,s1,s2,s3,s4,s5⟩
  go_simp
  with_reducible rfl
 rotate_left
 ·
  simp only [Act.put,qqj,qqk,qql,i64_w,i32_w]
  rfl
 refine one_ (i:=7) (N:=some 15) #[true,true,true,true,true,true,true,true,true,false,false,false,false] rfl rfl (one_of HT_.out (by kernel_rfl)) (by decide) (fun K hK => ?_)
 refine goes_ Try.func20 (by kernel_rfl) rfl #[.agg #[.int .u16 a0_0,.int .u16 a0_1,.slice A0_2 l0_2.length c0_2,.slice A0_3 l0_3.length c0_3,.slice A0_4 l0_4.length c0_4,.slice A0_5 l0_5.length c0_5]] (by rfl) rfl rfl (by (try simp only [List.map_toArray,List.map_cons,List.map_nil]);first|done|rfl|(simp only [List.length_drop,List.length_take];rfl)) ?_
 with_reducible refine (query_Least.calls a0_0 a0_1 _ _ l0_2 _ _ l0_3 _ _ l0_4 _ _ l0_5 t382 _ ?side1 ?side2 ?side3 ?side4 ?side5 ?side6 ?side7 ?side8 A9.out).mono ?_
 (case side1 => repeat (first|exact (Kd.C_below HR0_2.out HB.out)|(with_reducible refine Kd.C_alloc ?_ _)|(with_reducible refine Kd.C_drewN ?_ _)|(with_reducible refine Kd.C_drew ?_)))
 (case side2 => exact HC0_2.out)
 (case side3 => repeat (first|exact (Kd.C_below HR0_3.out HB.out)|(with_reducible refine Kd.C_alloc ?_ _)|(with_reducible refine Kd.C_drewN ?_ _)|(with_reducible refine Kd.C_drew ?_)))
 (case side4 => exact HC0_3.out)
 (case side5 => repeat (first|exact (Kd.C_below HR0_4.out HB.out)|(with_reducible refine Kd.C_alloc ?_ _)|(with_reducible refine Kd.C_drewN ?_ _)|(with_reducible refine Kd.C_drew ?_)))
 (case side6 => exact HC0_4.out)
 (case side7 => repeat (first|exact (Kd.C_below HR0_5.out HB.out)|(with_reducible refine Kd.C_alloc ?_ _)|(with_reducible refine Kd.C_drewN ?_ _)|(with_reducible refine Kd.C_drew ?_)))
 (case side8 => exact HC0_5.out)
 rintro e w18 ⟨rfl,hb⟩
 refine ⟨_,rfl,?_⟩
 have n0_:=Aside0.mk (blk_below (g:=gb377) (o:=.cells #[.int .u16 a0_0,.int .u16 a0_1,.slice A0_2 l0_2.length c0_2,.slice A0_3 l0_3.length c0_3,.slice A0_4 l0_4.length c0_4,.slice A0_5 l0_5.length c0_5] 26 (0,0)) (by (with_reducible repeat first|apply qqa|apply qqb|apply qqc);exact BK377.out) hb)
 have n1_:=Aside0.mk (below_step (by repeat (first|(with_reducible first|exact HB.out|apply qqf|apply qqd|apply qqe|refine qqg ?_ GE377.out)|exact HB.out)) hb)
 clear BK377
 clear HB
 have BK377:=n0_
 have HB:=n1_
 clear n0_ n1_
 (try clear hb)
 (try clear hb2)
 (try clear hk)
 (try clear hi)
 refine hK.out _ _ ⟨(qqh BK377.out 0).trans rfl,(qqh BK377.out 1).trans rfl,(qqh BK377.out 2).trans rfl,(qqh BK377.out 3).trans rfl,(qqh BK377.out 4).trans rfl,(qqh BK377.out 5).trans rfl⟩ (fun hHeld => ?_)
 clear hK K
 refine norm_ (a':=?_) ?_ ?_
 rotate_left
 ·
  show Act.put _ (some 15) _ = _
  simp only [Act.put,qqj,qqk,qql,i64_w,i32_w]
  rfl
 refine one_ (i:=9) (N:=some 17) #[true,true,true,true,true,true,true,true,true,true,false,false,false] rfl rfl (one_of HT_.out (by kernel_rfl)) (by decide) (fun K hK => ?_)
 refine goes_ Try.func21 (by kernel_rfl) rfl #[.agg #[.int .u16 a0_0,.int .u16 a0_1,.slice A0_2 l0_2.length c0_2,.slice A0_3 l0_3.length c0_3,.slice A0_4 l0_4.length c0_4,.slice A0_5 l0_5.length c0_5]] (by rfl) rfl rfl (by (try simp only [List.map_toArray,List.map_cons,List.map_nil]);first|done|rfl|(simp only [List.length_drop,List.length_take];rfl)) ?_
 with_reducible refine (nuncioref08_Least.calls k a0_0 a0_1 _ _ l0_2 _ _ l0_3 _ _ l0_4 _ _ l0_5 t383 _ ?side1 ?side2 ?side3 ?side4 ?side5 ?side6 ?side7 ?side8 A10.out).mono ?_
 (case side1 => repeat (first|exact (Kd.C_below HR0_2.out HB.out)|(with_reducible refine Kd.C_alloc ?_ _)|(with_reducible refine Kd.C_drewN ?_ _)|(with_reducible refine Kd.C_drew ?_)))
 (case side2 => exact HC0_2.out)
 (case side3 => repeat (first|exact (Kd.C_below HR0_3.out HB.out)|(with_reducible refine Kd.C_alloc ?_ _)|(with_reducible refine Kd.C_drewN ?_ _)|(with_reducible refine Kd.C_drew ?_)))
 (case side4 => exact HC0_3.out)
 (case side5 => repeat (first|exact (Kd.C_below HR0_4.out HB.out)|(with_reducible refine Kd.C_alloc ?_ _)|(with_reducible refine Kd.C_drewN ?_ _)|(with_reducible refine Kd.C_drew ?_)))
 (case side6 => exact HC0_4.out)
 (case side7 => repeat (first|exact (Kd.C_below HR0_5.out HB.out)|(with_reducible refine Kd.C_alloc ?_ _)|(with_reducible refine Kd.C_drewN ?_ _)|(with_reducible refine Kd.C_drew ?_)))
 (case side8 => exact HC0_5.out)
 rintro e w19 ⟨rfl,hb⟩
 refine ⟨_,rfl,?_⟩
 have n0_:=Aside0.mk (blk_below (g:=gb377) (o:=.cells #[.int .u16 a0_0,.int .u16 a0_1,.slice A0_2 l0_2.length c0_2,.slice A0_3 l0_3.length c0_3,.slice A0_4 l0_4.length c0_4,.slice A0_5 l0_5.length c0_5] 26 (0,0)) (by (with_reducible repeat first|apply qqa|apply qqb|apply qqc);exact BK377.out) hb)
 have n1_:=Aside0.mk (below_step (by repeat (first|(with_reducible first|exact HB.out|apply qqf|apply qqd|apply qqe|refine qqg ?_ GE377.out)|exact HB.out)) hb)
 clear BK377
 clear HB
 have BK377:=n0_
 have HB:=n1_
 clear n0_ n1_
 (try clear hb)
 (try clear hb2)
 (try clear hk)
 (try clear hi)
 refine hK.out _ _ ⟨(qqh BK377.out 0).trans rfl,(qqh BK377.out 1).trans rfl,(qqh BK377.out 2).trans rfl,(qqh BK377.out 3).trans rfl,(qqh BK377.out 4).trans rfl,(qqh BK377.out 5).trans rfl⟩ (fun hHeld => ?_)
 clear hK K
 refine norm_ (a':=?_) ?_ ?_
 rotate_left
 ·
  show Act.put _ (some 17) _ = _
  simp only [Act.put,qqj,qqk,qql,i64_w,i32_w]
  rfl
 refine pure_ (i:=10) (N:=some 18) (v:=?_) (a':=?_) #[true,true,true,true,true,true,true,true,true,true,true,false,false] rfl rfl (any_of HT_.out (by kernel_rfl)) (fun _ _ _ h => h) (Or.inl ⟨by rfl,?_⟩) ?_ ?_
 rotate_left
 ·
  intro w'
  go_simp
  with_reducible rfl
 rotate_left
 ·
  simp only [Act.put,qqj,qqk,qql,i64_w,i32_w]
  rfl
 refine pure_ (i:=11) (N:=some 19) (v:=?_) (a':=?_) #[true,true,true,true,true,true,true,true,true,true,true,true,false] rfl rfl (any_of HT_.out (by kernel_rfl)) (fun _ _ _ h => h) (Or.inl ⟨by rfl,?_⟩) ?_ ?_
 rotate_left
 ·
  intro w'
  go_simp
  with_reducible rfl
 rotate_left
 ·
  simp only [Act.put,qqj,qqk,qql,i64_w,i32_w]
  rfl
 refine pure_ (i:=12) (N:=some 2) (v:=?_) (a':=?_) #[true,true,true,true,true,true,true,true,true,true,true,true,true] rfl rfl (any_of HT_.out (by kernel_rfl)) (fun _ _ _ h => h) (Or.inl ⟨by rfl,?_⟩) ?_ ?_
 rotate_left
 ·
  intro w'
  go_simp
  with_reducible rfl
 rotate_left
 ·
  simp only [Act.put,qqj,qqk,qql,i64_w,i32_w]
  rfl
 refine done_ (done_of HT_.out (by kernel_rfl)) ?_
 try go_wp2
 go_ret
 exact ⟨by first|rfl|(simp [errW_none,errW_some] <;> rfl)|(simp [*,errW_none,errW_some] <;> rfl),by repeat (first|(with_reducible first|exact HB.out|apply qqf|apply qqd|apply qqe|refine qqg ?_ GE377.out)|exact HB.out)⟩

/-- THE ONE PURE STATEMENT of nunciolaw08_QueryHolds: yours. -/
def nunciolaw08_QueryHolds.Pure : Prop := ∀ (a0_0 : Int) (a0_1 : Int) (l0_2 : List (S53)) (l0_3 : List (S51)) (l0_4 : List (S51)) (l0_5 : List (S51)), ((Lit.int .u16 a0_0).wf = true) → ((Lit.int .u16 a0_1).wf = true) → (l0_2.length ≤ 9223372036854775807 ∧ l0_2.length * 24 ≤ 140737488351232 ∧ ∀ x_ ∈ l0_2, k53_wf x_) → (l0_3.length ≤ 9223372036854775807 ∧ l0_3.length * 96 ≤ 140737488351232 ∧ ∀ x_ ∈ l0_3, k51_wf x_) → (l0_4.length ≤ 9223372036854775807 ∧ l0_4.length * 96 ≤ 140737488351232 ∧ ∀ x_ ∈ l0_4, k51_wf x_) → (l0_5.length ≤ 9223372036854775807 ∧ l0_5.length * 96 ≤ 140737488351232 ∧ ∀ x_ ∈ l0_5, k51_wf x_) → ∃ k, nunciolaw08_QueryHolds.f k a0_0 a0_1 l0_2 l0_3 l0_4 l0_5 = some true
theorem nunciolaw08_QueryHolds.walk (P : nunciolaw08_QueryHolds.Pure) (a0_0 : Int) (a0_1 : Int) (A0_2 : Option Addr) (c0_2 : Nat) (l0_2 : List (S53)) (A0_3 : Option Addr) (c0_3 : Nat) (l0_3 : List (S51)) (A0_4 : Option Addr) (c0_4 : Nat) (l0_4 : List (S51)) (A0_5 : Option Addr) (c0_5 : Nat) (l0_5 : List (S51)) (w : World) (hr0_2 : Kd.C k53 w A0_2 l0_2.length l0_2) (hc0_2 : l0_2.length ≤ c0_2) (hr0_3 : Kd.C k51 w A0_3 l0_3.length l0_3) (hc0_3 : l0_3.length ≤ c0_3) (hr0_4 : Kd.C k51 w A0_4 l0_4.length l0_4) (hc0_4 : l0_4.length ≤ c0_4) (hr0_5 : Kd.C k51 w A0_5 l0_5.length l0_5) (hc0_5 : l0_5.length ≤ c0_5) (w0_0 : (Lit.int .u16 a0_0).wf = true) (w0_1 : (Lit.int .u16 a0_1).wf = true) (w0_2 : l0_2.length ≤ 9223372036854775807 ∧ l0_2.length * 24 ≤ 140737488351232 ∧ ∀ x_ ∈ l0_2, k53_wf x_) (w0_3 : l0_3.length ≤ 9223372036854775807 ∧ l0_3.length * 96 ≤ 140737488351232 ∧ ∀ x_ ∈ l0_3, k51_wf x_) (w0_4 : l0_4.length ≤ 9223372036854775807 ∧ l0_4.length * 96 ≤ 140737488351232 ∧ ∀ x_ ∈ l0_4, k51_wf x_) (w0_5 : l0_5.length ≤ 9223372036854775807 ∧ l0_5.length * 96 ≤ 140737488351232 ∧ ∀ x_ ∈ l0_5, k51_wf x_) :
  Calls Try.prog 4 #[.agg #[.int .u16 a0_0,.int .u16 a0_1,.slice A0_2 l0_2.length c0_2,.slice A0_3 l0_3.length c0_3,.slice A0_4 l0_4.length c0_4,.slice A0_5 l0_5.length c0_5]] w fun e w' => e = .returned (.bool true)∧Below w.heap.size w w':=by
 obtain ⟨k,h⟩:=P a0_0 a0_1 l0_2 l0_3 l0_4 l0_5 w0_0 w0_1 w0_2 w0_3 w0_4 w0_5
 refine (nunciolaw08_QueryHolds.calls k a0_0 a0_1 _ _ l0_2 _ _ l0_3 _ _ l0_4 _ _ l0_5 true w hr0_2 hc0_2 hr0_3 hc0_3 hr0_4 hc0_4 hr0_5 hc0_5 h rfl).mono ?_
 rintro e w' ⟨rfl,hd⟩
 exact ⟨rfl,hd⟩

end Go.Proofs.Ythkdfnbhlinhiaa.Mine
