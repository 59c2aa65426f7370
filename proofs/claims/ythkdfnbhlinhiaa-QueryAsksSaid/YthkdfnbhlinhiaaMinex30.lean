-- Written by this repo's own printer (wip/print), which builds on the kit's.
import Derived.Test.YthkdfnbhlinhiaaMinex0
import Derived.Test.YthkdfnbhlinhiaaMinex22
import Derived.Test.YthkdfnbhlinhiaaMinex23
namespace Go.Proofs.Ythkdfnbhlinhiaa.Mine
open Go.RowKit Go.Proofs.YthkdfnbhlinhiaaW.PrintWords Go.Proofs.YthkdfnbhlinhiaaW.PrintLast Go.Proofs.YthkdfnbhlinhiaaW.PrintMore
attribute [local go_sem] max2_int min2_int max_two min_two max_three min_three max_four min_four   -- for this text's walks alone
set_option linter.unusedVariables false
set_option linter.unusedSimpArgs false

/-! ### nuncioref08_Fits: function 17 -/
def nuncioref08_Fits.f (k : Nat) (a0_0 : ByteArray) (a0_1 : Int) (a0_2 : Int) (a0_3 : Bool) (a1 : Int) (a2_0 : Int) (a2_1 : Int) (l2_2 : List (S53)) (l2_3 : List (S51)) (l2_4 : List (S51)) (l2_5 : List (S51)) : Option (Bool) := if a2_0 = a1 then ((nuncioref08_qr.f a2_1).bind fun t317 => (if t317 = true then (if (Int.tmod (IntKind.u16.wrap (Int.tdiv a2_1 512)) 2) = 1 then (some false) else ((nuncioref08_opcode.f a2_1).bind fun t318 => (if t318 = 0 then (if (l2_2.length : Int) = 1 then (if 0 < (l2_2.length : Int) then ((nuncioref04_Fold.f k ((rd_T53 l2_2 0).f0)).bind fun t321 => (if t321.toList = a0_0.toList then (if ((rd_T53 l2_2 0).f1) = a0_1 then (some (((rd_T53 l2_2 0).f2) == a0_2)) else (some false)) else (some false))) else (none)) else (some false)) else (some false)))) else (some false))) else (some false)
theorem nuncioref08_Fits.mono : ∀ a0 a1 a2 a3 a4 a5 a6 a7 a8 a9 a10 k, LeO (nuncioref08_Fits.f k a0 a1 a2 a3 a4 a5 a6 a7 a8 a9 a10) (nuncioref08_Fits.f (k + 1) a0 a1 a2 a3 a4 a5 a6 a7 a8 a9 a10) := by
 intro a0 a1 a2 a3 a4 a5 a6 a7 a8 a9 a10 k
 unfold nuncioref08_Fits.f
 repeat' first
   | (with_reducible exact nuncioref04_Fold.mono _ _)
   | (with_reducible exact LeO.refl _)
   | (with_reducible exact LeO.none _)
   | (with_reducible refine LeO.ite ?_ ?_)
   | (with_reducible refine LeO.bind ?_ (fun _ => ?_))
   | exact nuncioref04_Fold.mono _ _
   | exact LeO.none _
   | refine LeO.ite ?_ ?_
   | refine LeO.bind ?_ (fun _ => ?_)
def nuncioref08_Fits.T4 : Bool × List (List Nat × List Nat) := (true, [([], []), ([0], [0]), ([1], [1]), ([], []), ([3], [3]), ([2, 4], [2, 4]), ([5, 2], [5]), ([6], [6]), ([7, 6], [6, 7]), ([6], [6]), ([9, 6], [6, 9]), ([8, 10, 6], [6, 8, 10]), ([6, 11], [6, 11]), ([12, 6], [12]), ([13], [13]), ([14, 13], [13, 14]), ([13], [13]), ([16, 13], [13, 16]), ([15, 17, 13], [13, 15, 17]), ([13, 18], [13, 18]), ([19, 13, 0, 1, 2, 3, 4, 5, 6, 7, 8, 9, 10, 11, 12, 13, 14, 15, 16, 17, 18, 19], [19])])
def nuncioref08_Fits.B4 : List Nat := [0, 1, 3, 0, 8, 31, 63, 127, 255, 127, 639, 2047, 4095, 8191, 16383, 32767, 16383, 81919, 262143, 524287, 1048575]
theorem nuncioref08_Fits.tab4 : rtab .any (opsOf Try.f17 4) = nuncioref08_Fits.T4 := by kernel_rfl
theorem nuncioref08_Fits.bits4 : waitsOk nuncioref08_Fits.T4.2 nuncioref08_Fits.B4 = true := by kernel_rfl
set_option maxHeartbeats 8000000 in
set_option maxRecDepth 100000 in
theorem nuncioref08_Fits.calls (k : Nat) (a0_0 : ByteArray) (a0_1 : Int) (a0_2 : Int) (a0_3 : Bool) (a1 : Int) (a2_0 : Int) (a2_1 : Int) (A2_2 : Option Addr) (c2_2 : Nat) (l2_2 : List (S53)) (A2_3 : Option Addr) (c2_3 : Nat) (l2_3 : List (S51)) (A2_4 : Option Addr) (c2_4 : Nat) (l2_4 : List (S51)) (A2_5 : Option Addr) (c2_5 : Nat) (l2_5 : List (S51)) (r : Bool) (w : World) (hr2_2 : Kd.C k53 w A2_2 l2_2.length l2_2) (hc2_2 : l2_2.length ≤ c2_2) (hr2_3 : Kd.C k51 w A2_3 l2_3.length l2_3) (hc2_3 : l2_3.length ≤ c2_3) (hr2_4 : Kd.C k51 w A2_4 l2_4.length l2_4) (hc2_4 : l2_4.length ≤ c2_4) (hr2_5 : Kd.C k51 w A2_5 l2_5.length l2_5) (hc2_5 : l2_5.length ≤ c2_5) (h : nuncioref08_Fits.f k a0_0 a0_1 a0_2 a0_3 a1 a2_0 a2_1 l2_2 l2_3 l2_4 l2_5 = some r) :
  Calls Try.prog 17 #[.agg #[.string a0_0,.int .u16 a0_1,.int .u16 a0_2,.bool a0_3],.int .u16 a1,.agg #[.int .u16 a2_0,.int .u16 a2_1,.slice A2_2 l2_2.length c2_2,.slice A2_3 l2_3.length c2_3,.slice A2_4 l2_4.length c2_4,.slice A2_5 l2_5.length c2_5]] w fun e w'=>e = .returned (.bool r)∧Below w.heap.size w w':=by
 have hu28:=Try.underlying28
 have hu26:=Try.underlying26
 have hu53:=Try.underlying53
 have HR2_2:=qqm hr2_2
 have HC2_2:=qqm hc2_2
 clear hr2_2 hc2_2
 have HR2_3:=qqm hr2_3
 have HC2_3:=qqm hc2_3
 clear hr2_3 hc2_3
 have HR2_4:=qqm hr2_4
 have HC2_4:=qqm hc2_4
 clear hr2_4 hc2_4
 have HR2_5:=qqm hr2_5
 have HC2_5:=qqm hc2_5
 clear hr2_5 hc2_5
 have HB:=qqm (Below.refl w.heap.size w)
 have H:(if a2_0 = a1 then ((nuncioref08_qr.f a2_1).bind fun t317=>(if t317 = true then (if (Int.tmod (IntKind.u16.wrap (Int.tdiv a2_1 512)) 2) = 1 then (some false) else ((nuncioref08_opcode.f a2_1).bind fun t318=>(if t318 = 0 then (if (l2_2.length:Int) = 1 then (if 0 < (l2_2.length:Int) then ((nuncioref04_Fold.f k ((rd_T53 l2_2 0).f0)).bind fun t321=>(if t321.toList = a0_0.toList then (if ((rd_T53 l2_2 0).f1) = a0_1 then (some (((rd_T53 l2_2 0).f2) == a0_2)) else (some false)) else (some false))) else (none)) else (some false)) else (some false)))) else (some false))) else (some false)) = some r:=h
 clear h
 by_cases c4:a2_0 = a1
 rotate_left
 ·
  rw [if_neg c4] at H
  have c4b0:(a2_0 == a1) = false:=beq_eq_false_iff_ne.mpr c4
  have c4b1:(a2_0 != a1) = true:=bne_iff_ne.mpr c4
  obtain rfl:=Option.some.inj H
  go_enter Try.func17,Try.ntmps17
  go_wp2_with (first|((with_reducible refine gate_dst (N:=3) rfl ?_);(try (refine gate_guard (by rfl) ?_;dsimp only));refine box_event ?hg (N:=3) ?hd (cs:=#[.string a0_0,.int .u16 a0_1,.int .u16 a0_2,.bool a0_3]) (t:=28) ?hr ?_;(case hd=>rfl);(case hg=>rfl);(case hr=>first|(go_simp;done)|(go_simp;rfl));intro gb315 hg w64 hbox hb;have n0_:=qqm (below_step (by with_reducible repeat first|exact HB.out|apply qqf|apply qqd|apply qqe) hb);have n1_:=qqm (hbox);have n2_:=qqm ((by rw [hg];exact (below_size (by with_reducible repeat first|exact HB.out|apply qqf|apply qqd|apply qqe)):w.heap.size ≤ gb315));have n3_:=n2_;clear HB;have HB:=n0_;have BK315:=n1_;have GW315:=n2_;have GE315:=n3_;clear n0_ n1_ n2_ n3_ hb hbox hg)|((with_reducible refine gate_dst (N:=5) rfl ?_);(try (refine gate_guard (by rfl) ?_;dsimp only));refine box_event ?hg (N:=5) ?hd (cs:=#[.int .u16 a2_0,.int .u16 a2_1,.slice A2_2 l2_2.length c2_2,.slice A2_3 l2_3.length c2_3,.slice A2_4 l2_4.length c2_4,.slice A2_5 l2_5.length c2_5]) (t:=26) ?hr ?_;(case hd=>rfl);(case hg=>rfl);(case hr=>first|(go_simp;done)|(go_simp;rfl));intro gb316 hg w65 hbox hb;have n0_:=qqm (blk_below (g:=gb315) (o:=.cells #[.string a0_0,.int .u16 a0_1,.int .u16 a0_2,.bool a0_3] 28 (0,0)) (by (with_reducible repeat first|apply qqa|apply qqb|apply qqc);exact BK315.out) hb);have n1_:=qqm (below_step (by with_reducible repeat first|exact HB.out|apply qqf|apply qqd|apply qqe|refine qqg ?_ GE315.out) hb);have n2_:=qqm (hbox);have n3_:=qqm ((by rw [hg];exact (below_size (by with_reducible repeat first|exact HB.out|apply qqf|apply qqd|apply qqe|refine qqg ?_ GE315.out)):w.heap.size ≤ gb316));have n4_:=n3_;have n5_:=qqm ((by rw [hg];exact Nat.ne_of_lt (blk_lt (by (with_reducible repeat first|apply qqa|apply qqb|apply qqc);exact BK315.out)):gb315 ≠ gb316));have n6_:=qqm (Ne.symm n5_.out);clear BK315 HB;have BK315:=n0_;have HB:=n1_;have BK316:=n2_;have GW316:=n3_;have GE316:=n4_;have NB315_316:=n5_;have NB316_315:=n6_;clear n0_ n1_ n2_ n3_ n4_ n5_ n6_ hb hbox hg;have hnb66:=NB316_315.out;have hnc66:=NB315_316.out;obtain ⟨hcz67_0,hcz67_1,hcz67_2,hcz67_3,hcz67_4,hcz67_5⟩:=qc6 BK316.out;obtain ⟨hfz67_0,hfz67_1,hfz67_2,hfz67_3,hfz67_4,hfz67_5⟩:=qf6 BK316.out))
  go_ret
  exact ⟨by first|rfl|(simp [errW_none,errW_some] <;> rfl)|(simp [*,errW_none,errW_some] <;> rfl),by with_reducible repeat first|exact HB.out|apply qqf|apply qqd|apply qqe|refine qqg ?_ GE315.out|refine qqg ?_ GE316.out⟩
 rw [if_pos c4] at H
 have c4b0:(a2_0 == a1) = true:=beq_iff_eq.mpr c4
 have c4b1:(a2_0 != a1) = false:=bne_eq_false_iff_eq.mpr c4
 clear c4
 replace H:=Option.bind_eq_some_iff.mp H
 obtain ⟨t317,A50,H⟩:=H
 replace H:(if t317 = true then (if (Int.tmod (IntKind.u16.wrap (Int.tdiv a2_1 512)) 2) = 1 then (some false) else ((nuncioref08_opcode.f a2_1).bind fun t318=>(if t318 = 0 then (if (l2_2.length:Int) = 1 then (if 0 < (l2_2.length:Int) then ((nuncioref04_Fold.f k ((rd_T53 l2_2 0).f0)).bind fun t321=>(if t321.toList = a0_0.toList then (if ((rd_T53 l2_2 0).f1) = a0_1 then (some (((rd_T53 l2_2 0).f2) == a0_2)) else (some false)) else (some false))) else (none)) else (some false)) else (some false)))) else (some false)) = some r:=H
 have A5:=qqm A50
 clear A50
 by_cases c6:t317 = true
 rotate_left
 ·
  replace c6:=Bool.eq_false_iff.mpr c6
  subst c6
  have H1:(some false) = some r:=by rw [if_neg (show ¬ (false = true) by decide)] at H;exact H
  clear H
  have H:=H1
  clear H1
  obtain rfl:=Option.some.inj H
  go_enter Try.func17,Try.ntmps17
  go_wp2_with (first|((with_reducible refine gate_dst (N:=3) rfl ?_);(try (refine gate_guard (by rfl) ?_;dsimp only));refine box_event ?hg (N:=3) ?hd (cs:=#[.string a0_0,.int .u16 a0_1,.int .u16 a0_2,.bool a0_3]) (t:=28) ?hr ?_;(case hd=>rfl);(case hg=>rfl);(case hr=>first|(go_simp;done)|(go_simp;rfl));intro gb315 hg w60 hbox hb;have n0_:=qqm (below_step (by with_reducible repeat first|exact HB.out|apply qqf|apply qqd|apply qqe) hb);have n1_:=qqm (hbox);have n2_:=qqm ((by rw [hg];exact (below_size (by with_reducible repeat first|exact HB.out|apply qqf|apply qqd|apply qqe)):w.heap.size ≤ gb315));have n3_:=n2_;clear HB;have HB:=n0_;have BK315:=n1_;have GW315:=n2_;have GE315:=n3_;clear n0_ n1_ n2_ n3_ hb hbox hg)|((with_reducible refine gate_dst (N:=5) rfl ?_);(try (refine gate_guard (by rfl) ?_;dsimp only));refine box_event ?hg (N:=5) ?hd (cs:=#[.int .u16 a2_0,.int .u16 a2_1,.slice A2_2 l2_2.length c2_2,.slice A2_3 l2_3.length c2_3,.slice A2_4 l2_4.length c2_4,.slice A2_5 l2_5.length c2_5]) (t:=26) ?hr ?_;(case hd=>rfl);(case hg=>rfl);(case hr=>first|(go_simp;done)|(go_simp;rfl));intro gb316 hg w61 hbox hb;have n0_:=qqm (blk_below (g:=gb315) (o:=.cells #[.string a0_0,.int .u16 a0_1,.int .u16 a0_2,.bool a0_3] 28 (0,0)) (by (with_reducible repeat first|apply qqa|apply qqb|apply qqc);exact BK315.out) hb);have n1_:=qqm (below_step (by with_reducible repeat first|exact HB.out|apply qqf|apply qqd|apply qqe|refine qqg ?_ GE315.out) hb);have n2_:=qqm (hbox);have n3_:=qqm ((by rw [hg];exact (below_size (by with_reducible repeat first|exact HB.out|apply qqf|apply qqd|apply qqe|refine qqg ?_ GE315.out)):w.heap.size ≤ gb316));have n4_:=n3_;have n5_:=qqm ((by rw [hg];exact Nat.ne_of_lt (blk_lt (by (with_reducible repeat first|apply qqa|apply qqb|apply qqc);exact BK315.out)):gb315 ≠ gb316));have n6_:=qqm (Ne.symm n5_.out);clear BK315 HB;have BK315:=n0_;have HB:=n1_;have BK316:=n2_;have GW316:=n3_;have GE316:=n4_;have NB315_316:=n5_;have NB316_315:=n6_;clear n0_ n1_ n2_ n3_ n4_ n5_ n6_ hb hbox hg;have hnb62:=NB316_315.out;have hnc62:=NB315_316.out;obtain ⟨hcz63_0,hcz63_1,hcz63_2,hcz63_3,hcz63_4,hcz63_5⟩:=qc6 BK316.out;obtain ⟨hfz63_0,hfz63_1,hfz63_2,hfz63_3,hfz63_4,hfz63_5⟩:=qf6 BK316.out)|(go_at_call 36;(with_reducible refine (nuncioref08_qr.calls a2_1 false _ A5.out).mono ?_);rintro e w' ⟨rfl,⟨nd,rfl⟩⟩))
  go_ret
  exact ⟨by first|rfl|(simp [errW_none,errW_some] <;> rfl)|(simp [*,errW_none,errW_some] <;> rfl),by with_reducible repeat first|exact HB.out|apply qqf|apply qqd|apply qqe|refine qqg ?_ GE315.out|refine qqg ?_ GE316.out⟩
 subst c6
 have H1:(if (Int.tmod (IntKind.u16.wrap (Int.tdiv a2_1 512)) 2) = 1 then (some false) else ((nuncioref08_opcode.f a2_1).bind fun t318=>(if t318 = 0 then (if (l2_2.length:Int) = 1 then (if 0 < (l2_2.length:Int) then ((nuncioref04_Fold.f k ((rd_T53 l2_2 0).f0)).bind fun t321=>(if t321.toList = a0_0.toList then (if ((rd_T53 l2_2 0).f1) = a0_1 then (some (((rd_T53 l2_2 0).f2) == a0_2)) else (some false)) else (some false))) else (none)) else (some false)) else (some false)))) = some r:=by rw [if_pos rfl] at H;exact H
 clear H
 have H:=H1
 clear H1
 by_cases c7:(Int.tmod (IntKind.u16.wrap (Int.tdiv a2_1 512)) 2) = 1
 ·
  rw [if_pos c7] at H
  have c7b0:((Int.tmod (IntKind.u16.wrap (Int.tdiv a2_1 512)) 2) == 1) = true:=beq_iff_eq.mpr c7
  have c7b1:((Int.tmod (IntKind.u16.wrap (Int.tdiv a2_1 512)) 2) != 1) = false:=bne_eq_false_iff_eq.mpr c7
  clear c7
  (try (have c7b7:=c7b0;rw [Int.tmod_eq_emod_of_nonneg (Int.natCast_nonneg _)] at c7b7))
  (try (have c7b6:=c7b1;rw [Int.tmod_eq_emod_of_nonneg (Int.natCast_nonneg _)] at c7b6))
  (try (have c7b7:=c7b0;rw [Int.tdiv_eq_ediv_of_nonneg (Int.natCast_nonneg _)] at c7b7))
  (try (have c7b6:=c7b1;rw [Int.tdiv_eq_ediv_of_nonneg (Int.natCast_nonneg _)] at c7b6))
  obtain rfl:=Option.some.inj H
  go_enter Try.func17,Try.ntmps17
  go_wp2_with (first|((with_reducible refine gate_dst (N:=3) rfl ?_);(try (refine gate_guard (by rfl) ?_;dsimp only));refine box_event ?hg (N:=3) ?hd (cs:=#[.string a0_0,.int .u16 a0_1,.int .u16 a0_2,.bool a0_3]) (t:=28) ?hr ?_;(case hd=>rfl);(case hg=>rfl);(case hr=>first|(go_simp;done)|(go_simp;rfl));intro gb315 hg w8 hbox hb;have n0_:=qqm (below_step (by with_reducible repeat first|exact HB.out|apply qqf|apply qqd|apply qqe) hb);have n1_:=qqm (hbox);have n2_:=qqm ((by rw [hg];exact (below_size (by with_reducible repeat first|exact HB.out|apply qqf|apply qqd|apply qqe)):w.heap.size ≤ gb315));have n3_:=n2_;clear HB;have HB:=n0_;have BK315:=n1_;have GW315:=n2_;have GE315:=n3_;clear n0_ n1_ n2_ n3_ hb hbox hg)|((with_reducible refine gate_dst (N:=5) rfl ?_);(try (refine gate_guard (by rfl) ?_;dsimp only));refine box_event ?hg (N:=5) ?hd (cs:=#[.int .u16 a2_0,.int .u16 a2_1,.slice A2_2 l2_2.length c2_2,.slice A2_3 l2_3.length c2_3,.slice A2_4 l2_4.length c2_4,.slice A2_5 l2_5.length c2_5]) (t:=26) ?hr ?_;(case hd=>rfl);(case hg=>rfl);(case hr=>first|(go_simp;done)|(go_simp;rfl));intro gb316 hg w9 hbox hb;have n0_:=qqm (blk_below (g:=gb315) (o:=.cells #[.string a0_0,.int .u16 a0_1,.int .u16 a0_2,.bool a0_3] 28 (0,0)) (by (with_reducible repeat first|apply qqa|apply qqb|apply qqc);exact BK315.out) hb);have n1_:=qqm (below_step (by with_reducible repeat first|exact HB.out|apply qqf|apply qqd|apply qqe|refine qqg ?_ GE315.out) hb);have n2_:=qqm (hbox);have n3_:=qqm ((by rw [hg];exact (below_size (by with_reducible repeat first|exact HB.out|apply qqf|apply qqd|apply qqe|refine qqg ?_ GE315.out)):w.heap.size ≤ gb316));have n4_:=n3_;have n5_:=qqm ((by rw [hg];exact Nat.ne_of_lt (blk_lt (by (with_reducible repeat first|apply qqa|apply qqb|apply qqc);exact BK315.out)):gb315 ≠ gb316));have n6_:=qqm (Ne.symm n5_.out);clear BK315 HB;have BK315:=n0_;have HB:=n1_;have BK316:=n2_;have GW316:=n3_;have GE316:=n4_;have NB315_316:=n5_;have NB316_315:=n6_;clear n0_ n1_ n2_ n3_ n4_ n5_ n6_ hb hbox hg;have hnb10:=NB316_315.out;have hnc10:=NB315_316.out;obtain ⟨hcz11_0,hcz11_1,hcz11_2,hcz11_3,hcz11_4,hcz11_5⟩:=qc6 BK316.out;obtain ⟨hfz11_0,hfz11_1,hfz11_2,hfz11_3,hfz11_4,hfz11_5⟩:=qf6 BK316.out)|(go_at_call 36;(with_reducible refine (nuncioref08_qr.calls a2_1 true _ A5.out).mono ?_);rintro e w' ⟨rfl,⟨nd,rfl⟩⟩))
  go_ret
  exact ⟨by first|rfl|(simp [errW_none,errW_some] <;> rfl)|(simp [*,errW_none,errW_some] <;> rfl),by with_reducible repeat first|exact HB.out|apply qqf|apply qqd|apply qqe|refine qqg ?_ GE315.out|refine qqg ?_ GE316.out⟩
 rw [if_neg c7] at H
 have c7b0:((Int.tmod (IntKind.u16.wrap (Int.tdiv a2_1 512)) 2) == 1) = false:=beq_eq_false_iff_ne.mpr c7
 have c7b1:((Int.tmod (IntKind.u16.wrap (Int.tdiv a2_1 512)) 2) != 1) = true:=bne_iff_ne.mpr c7
 (try (have c7b7:=c7b0;rw [Int.tmod_eq_emod_of_nonneg (Int.natCast_nonneg _)] at c7b7))
 (try (have c7b6:=c7b1;rw [Int.tmod_eq_emod_of_nonneg (Int.natCast_nonneg _)] at c7b6))
 (try (have c7b7:=c7b0;rw [Int.tdiv_eq_ediv_of_nonneg (Int.natCast_nonneg _)] at c7b7))
 (try (have c7b6:=c7b1;rw [Int.tdiv_eq_ediv_of_nonneg (Int.natCast_nonneg _)] at c7b6))
 replace H:=Option.bind_eq_some_iff.mp H
 obtain ⟨t318,A120,H⟩:=H
 replace H:(if t318 = 0 then (if (l2_2.length:Int) = 1 then (if 0 < (l2_2.length:Int) then ((nuncioref04_Fold.f k ((rd_T53 l2_2 0).f0)).bind fun t321=>(if t321.toList = a0_0.toList then (if ((rd_T53 l2_2 0).f1) = a0_1 then (some (((rd_T53 l2_2 0).f2) == a0_2)) else (some false)) else (some false))) else (none)) else (some false)) else (some false)) = some r:=H
 have A12:=qqm A120
 clear A120
 by_cases c13:t318 = 0
 rotate_left
 ·
  rw [if_neg c13] at H
  have c13b0:(t318 == 0) = false:=beq_eq_false_iff_ne.mpr c13
  have c13b1:(t318 != 0) = true:=bne_iff_ne.mpr c13
  obtain rfl:=Option.some.inj H
  go_enter Try.func17,Try.ntmps17
  go_wp2_with (first|((with_reducible refine gate_dst (N:=3) rfl ?_);(try (refine gate_guard (by rfl) ?_;dsimp only));refine box_event ?hg (N:=3) ?hd (cs:=#[.string a0_0,.int .u16 a0_1,.int .u16 a0_2,.bool a0_3]) (t:=28) ?hr ?_;(case hd=>rfl);(case hg=>rfl);(case hr=>first|(go_simp;done)|(go_simp;rfl));intro gb315 hg w56 hbox hb;have n0_:=qqm (below_step (by with_reducible repeat first|exact HB.out|apply qqf|apply qqd|apply qqe) hb);have n1_:=qqm (hbox);have n2_:=qqm ((by rw [hg];exact (below_size (by with_reducible repeat first|exact HB.out|apply qqf|apply qqd|apply qqe)):w.heap.size ≤ gb315));have n3_:=n2_;clear HB;have HB:=n0_;have BK315:=n1_;have GW315:=n2_;have GE315:=n3_;clear n0_ n1_ n2_ n3_ hb hbox hg)|((with_reducible refine gate_dst (N:=5) rfl ?_);(try (refine gate_guard (by rfl) ?_;dsimp only));refine box_event ?hg (N:=5) ?hd (cs:=#[.int .u16 a2_0,.int .u16 a2_1,.slice A2_2 l2_2.length c2_2,.slice A2_3 l2_3.length c2_3,.slice A2_4 l2_4.length c2_4,.slice A2_5 l2_5.length c2_5]) (t:=26) ?hr ?_;(case hd=>rfl);(case hg=>rfl);(case hr=>first|(go_simp;done)|(go_simp;rfl));intro gb316 hg w57 hbox hb;have n0_:=qqm (blk_below (g:=gb315) (o:=.cells #[.string a0_0,.int .u16 a0_1,.int .u16 a0_2,.bool a0_3] 28 (0,0)) (by (with_reducible repeat first|apply qqa|apply qqb|apply qqc);exact BK315.out) hb);have n1_:=qqm (below_step (by with_reducible repeat first|exact HB.out|apply qqf|apply qqd|apply qqe|refine qqg ?_ GE315.out) hb);have n2_:=qqm (hbox);have n3_:=qqm ((by rw [hg];exact (below_size (by with_reducible repeat first|exact HB.out|apply qqf|apply qqd|apply qqe|refine qqg ?_ GE315.out)):w.heap.size ≤ gb316));have n4_:=n3_;have n5_:=qqm ((by rw [hg];exact Nat.ne_of_lt (blk_lt (by (with_reducible repeat first|apply qqa|apply qqb|apply qqc);exact BK315.out)):gb315 ≠ gb316));have n6_:=qqm (Ne.symm n5_.out);clear BK315 HB;have BK315:=n0_;have HB:=n1_;have BK316:=n2_;have GW316:=n3_;have GE316:=n4_;have NB315_316:=n5_;have NB316_315:=n6_;clear n0_ n1_ n2_ n3_ n4_ n5_ n6_ hb hbox hg;have hnb58:=NB316_315.out;have hnc58:=NB315_316.out;obtain ⟨hcz59_0,hcz59_1,hcz59_2,hcz59_3,hcz59_4,hcz59_5⟩:=qc6 BK316.out;obtain ⟨hfz59_0,hfz59_1,hfz59_2,hfz59_3,hfz59_4,hfz59_5⟩:=qf6 BK316.out)|(go_at_call 36;(with_reducible refine (nuncioref08_qr.calls a2_1 true _ A5.out).mono ?_);rintro e w' ⟨rfl,⟨nd,rfl⟩⟩)|(go_at_call 37;(with_reducible refine (nuncioref08_opcode.calls a2_1 t318 _ A12.out).mono ?_);rintro e w' ⟨rfl,⟨nd,rfl⟩⟩))
  go_ret
  exact ⟨by first|rfl|(simp [errW_none,errW_some] <;> rfl)|(simp [*,errW_none,errW_some] <;> rfl),by with_reducible repeat first|exact HB.out|apply qqf|apply qqd|apply qqe|refine qqg ?_ GE315.out|refine qqg ?_ GE316.out⟩
 rw [if_pos c13] at H
 have c13b0:(t318 == 0) = true:=beq_iff_eq.mpr c13
 have c13b1:(t318 != 0) = false:=bne_eq_false_iff_eq.mpr c13
 clear c13
 by_cases c14:(l2_2.length:Int) = 1
 rotate_left
 ·
  rw [if_neg c14] at H
  have c14b0:((l2_2.length:Int) == 1) = false:=beq_eq_false_iff_ne.mpr c14
  have c14b1:((l2_2.length:Int) != 1) = true:=bne_iff_ne.mpr c14
  obtain rfl:=Option.some.inj H
  go_enter Try.func17,Try.ntmps17
  go_wp2_with (first|((with_reducible refine gate_dst (N:=3) rfl ?_);(try (refine gate_guard (by rfl) ?_;dsimp only));refine box_event ?hg (N:=3) ?hd (cs:=#[.string a0_0,.int .u16 a0_1,.int .u16 a0_2,.bool a0_3]) (t:=28) ?hr ?_;(case hd=>rfl);(case hg=>rfl);(case hr=>first|(go_simp;done)|(go_simp;rfl));intro gb315 hg w52 hbox hb;have n0_:=qqm (below_step (by with_reducible repeat first|exact HB.out|apply qqf|apply qqd|apply qqe) hb);have n1_:=qqm (hbox);have n2_:=qqm ((by rw [hg];exact (below_size (by with_reducible repeat first|exact HB.out|apply qqf|apply qqd|apply qqe)):w.heap.size ≤ gb315));have n3_:=n2_;clear HB;have HB:=n0_;have BK315:=n1_;have GW315:=n2_;have GE315:=n3_;clear n0_ n1_ n2_ n3_ hb hbox hg)|((with_reducible refine gate_dst (N:=5) rfl ?_);(try (refine gate_guard (by rfl) ?_;dsimp only));refine box_event ?hg (N:=5) ?hd (cs:=#[.int .u16 a2_0,.int .u16 a2_1,.slice A2_2 l2_2.length c2_2,.slice A2_3 l2_3.length c2_3,.slice A2_4 l2_4.length c2_4,.slice A2_5 l2_5.length c2_5]) (t:=26) ?hr ?_;(case hd=>rfl);(case hg=>rfl);(case hr=>first|(go_simp;done)|(go_simp;rfl));intro gb316 hg w53 hbox hb;have n0_:=qqm (blk_below (g:=gb315) (o:=.cells #[.string a0_0,.int .u16 a0_1,.int .u16 a0_2,.bool a0_3] 28 (0,0)) (by (with_reducible repeat first|apply qqa|apply qqb|apply qqc);exact BK315.out) hb);have n1_:=qqm (below_step (by with_reducible repeat first|exact HB.out|apply qqf|apply qqd|apply qqe|refine qqg ?_ GE315.out) hb);have n2_:=qqm (hbox);have n3_:=qqm ((by rw [hg];exact (below_size (by with_reducible repeat first|exact HB.out|apply qqf|apply qqd|apply qqe|refine qqg ?_ GE315.out)):w.heap.size ≤ gb316));have n4_:=n3_;have n5_:=qqm ((by rw [hg];exact Nat.ne_of_lt (blk_lt (by (with_reducible repeat first|apply qqa|apply qqb|apply qqc);exact BK315.out)):gb315 ≠ gb316));have n6_:=qqm (Ne.symm n5_.out);clear BK315 HB;have BK315:=n0_;have HB:=n1_;have BK316:=n2_;have GW316:=n3_;have GE316:=n4_;have NB315_316:=n5_;have NB316_315:=n6_;clear n0_ n1_ n2_ n3_ n4_ n5_ n6_ hb hbox hg;have hnb54:=NB316_315.out;have hnc54:=NB315_316.out;obtain ⟨hcz55_0,hcz55_1,hcz55_2,hcz55_3,hcz55_4,hcz55_5⟩:=qc6 BK316.out;obtain ⟨hfz55_0,hfz55_1,hfz55_2,hfz55_3,hfz55_4,hfz55_5⟩:=qf6 BK316.out)|(go_at_call 36;(with_reducible refine (nuncioref08_qr.calls a2_1 true _ A5.out).mono ?_);rintro e w' ⟨rfl,⟨nd,rfl⟩⟩)|(go_at_call 37;(with_reducible refine (nuncioref08_opcode.calls a2_1 t318 _ A12.out).mono ?_);rintro e w' ⟨rfl,⟨nd,rfl⟩⟩))
  go_ret
  exact ⟨by first|rfl|(simp [errW_none,errW_some] <;> rfl)|(simp [*,errW_none,errW_some] <;> rfl),by with_reducible repeat first|exact HB.out|apply qqf|apply qqd|apply qqe|refine qqg ?_ GE315.out|refine qqg ?_ GE316.out⟩
 rw [if_pos c14] at H
 have c14b0:((l2_2.length:Int) == 1) = true:=beq_iff_eq.mpr c14
 have c14b1:((l2_2.length:Int) != 1) = false:=bne_eq_false_iff_eq.mpr c14
 clear c14
 by_cases c15:0 < (l2_2.length:Int)
 rotate_left
 ·
  rw [if_neg c15] at H
  exact absurd H (by simp)
 rw [if_pos c15] at H
 have c15b0:decide (0 < (l2_2.length:Int)) = true:=decide_eq_true c15
 have c15b1:decide (0 < l2_2.length) = true:=decide_eq_true (by omega)
 clear c15
 replace H:=Option.bind_eq_some_iff.mp H
 obtain ⟨t321,A160,H⟩:=H
 replace H:(if t321.toList = a0_0.toList then (if ((rd_T53 l2_2 0).f1) = a0_1 then (some (((rd_T53 l2_2 0).f2) == a0_2)) else (some false)) else (some false)) = some r:=H
 have A16:=qqm A160
 clear A160
 by_cases c17:t321.toList = a0_0.toList
 rotate_left
 ·
  rw [if_neg c17] at H
  have c17b0:(t321.toList == a0_0.toList) = false:=beq_eq_false_iff_ne.mpr c17
  have c17b1:(t321.toList != a0_0.toList) = true:=bne_iff_ne.mpr c17
  obtain rfl:=Option.some.inj H
  go_enter Try.func17,Try.ntmps17
  try go_wp2_with (first|((with_reducible refine gate_dst (N:=3) rfl ?_);(try (refine gate_guard (by rfl) ?_;dsimp only));refine box_event ?hg (N:=3) ?hd (cs:=#[.string a0_0,.int .u16 a0_1,.int .u16 a0_2,.bool a0_3]) (t:=28) ?hr ?_;(case hd=>rfl);(case hg=>rfl);(case hr=>first|(go_simp;done)|(go_simp;rfl));intro gb315 hg w41 hbox hb;have n0_:=qqm (below_step (by with_reducible repeat first|exact HB.out|apply qqf|apply qqd|apply qqe) hb);have n1_:=qqm (hbox);have n2_:=qqm ((by rw [hg];exact (below_size (by with_reducible repeat first|exact HB.out|apply qqf|apply qqd|apply qqe)):w.heap.size ≤ gb315));have n3_:=n2_;clear HB;have HB:=n0_;have BK315:=n1_;have GW315:=n2_;have GE315:=n3_;clear n0_ n1_ n2_ n3_ hb hbox hg)|((with_reducible refine gate_dst (N:=5) rfl ?_);(try (refine gate_guard (by rfl) ?_;dsimp only));refine box_event ?hg (N:=5) ?hd (cs:=#[.int .u16 a2_0,.int .u16 a2_1,.slice A2_2 l2_2.length c2_2,.slice A2_3 l2_3.length c2_3,.slice A2_4 l2_4.length c2_4,.slice A2_5 l2_5.length c2_5]) (t:=26) ?hr ?_;(case hd=>rfl);(case hg=>rfl);(case hr=>first|(go_simp;done)|(go_simp;rfl));intro gb316 hg w42 hbox hb;have n0_:=qqm (blk_below (g:=gb315) (o:=.cells #[.string a0_0,.int .u16 a0_1,.int .u16 a0_2,.bool a0_3] 28 (0,0)) (by (with_reducible repeat first|apply qqa|apply qqb|apply qqc);exact BK315.out) hb);have n1_:=qqm (below_step (by with_reducible repeat first|exact HB.out|apply qqf|apply qqd|apply qqe|refine qqg ?_ GE315.out) hb);have n2_:=qqm (hbox);have n3_:=qqm ((by rw [hg];exact (below_size (by with_reducible repeat first|exact HB.out|apply qqf|apply qqd|apply qqe|refine qqg ?_ GE315.out)):w.heap.size ≤ gb316));have n4_:=n3_;have n5_:=qqm ((by rw [hg];exact Nat.ne_of_lt (blk_lt (by (with_reducible repeat first|apply qqa|apply qqb|apply qqc);exact BK315.out)):gb315 ≠ gb316));have n6_:=qqm (Ne.symm n5_.out);clear BK315 HB;have BK315:=n0_;have HB:=n1_;have BK316:=n2_;have GW316:=n3_;have GE316:=n4_;have NB315_316:=n5_;have NB316_315:=n6_;clear n0_ n1_ n2_ n3_ n4_ n5_ n6_ hb hbox hg;have hnb43:=NB316_315.out;have hnc43:=NB315_316.out;obtain ⟨hcz44_0,hcz44_1,hcz44_2,hcz44_3,hcz44_4,hcz44_5⟩:=qc6 BK316.out;obtain ⟨hfz44_0,hfz44_1,hfz44_2,hfz44_3,hfz44_4,hfz44_5⟩:=qf6 BK316.out)|(go_at_call 36;(with_reducible refine (nuncioref08_qr.calls a2_1 true _ A5.out).mono ?_);rintro e w' ⟨rfl,⟨nd,rfl⟩⟩;(try (rw [drewN_self w42];generalize hq_:World.drewN w42 _ = w42;have n0_:Aside0 (w42.heap[gb315]? = some (.cells #[.string a0_0,.int .u16 a0_1,.int .u16 a0_2,.bool a0_3] 28 (0,0))):=⟨by rw [← hq_];exact (by (with_reducible repeat first|apply qqa|apply qqb|apply qqc);exact BK315.out)⟩;have n1_:Aside0 (w42.heap[gb316]? = some (.cells #[.int .u16 a2_0,.int .u16 a2_1,.slice A2_2 l2_2.length c2_2,.slice A2_3 l2_3.length c2_3,.slice A2_4 l2_4.length c2_4,.slice A2_5 l2_5.length c2_5] 26 (0,0))):=⟨by rw [← hq_];exact (by (with_reducible repeat first|apply qqa|apply qqb|apply qqc);exact BK316.out)⟩;have n2_:Aside0 (Below w.heap.size w w42):=⟨by rw [← hq_];exact (by with_reducible repeat first|exact HB.out|apply qqf|apply qqd|apply qqe|refine qqg ?_ GE315.out|refine qqg ?_ GE316.out)⟩;clear BK315 BK316 HB hq_;have BK315:=n0_;have BK316:=n1_;have HB:=n2_;clear n0_ n1_ n2_));(try have hcu315_0:w42.cell? ⟨gb315,0,none⟩ = some (.string a0_0):=(qqh BK315.out 0).trans rfl);(try have hcu315_1:w42.cell? ⟨gb315,1,none⟩ = some (.int .u16 a0_1):=(qqh BK315.out 1).trans rfl);(try have hcu315_2:w42.cell? ⟨gb315,2,none⟩ = some (.int .u16 a0_2):=(qqh BK315.out 2).trans rfl);(try have hcu315_3:w42.cell? ⟨gb315,3,none⟩ = some (.bool a0_3):=(qqh BK315.out 3).trans rfl);(try have hcu316_0:w42.cell? ⟨gb316,0,none⟩ = some (.int .u16 a2_0):=(qqh BK316.out 0).trans rfl);(try have hcu316_1:w42.cell? ⟨gb316,1,none⟩ = some (.int .u16 a2_1):=(qqh BK316.out 1).trans rfl);(try have hcu316_2:w42.cell? ⟨gb316,2,none⟩ = some (.slice A2_2 l2_2.length c2_2):=(qqh BK316.out 2).trans rfl);(try have hcu316_3:w42.cell? ⟨gb316,3,none⟩ = some (.slice A2_3 l2_3.length c2_3):=(qqh BK316.out 3).trans rfl);(try have hcu316_4:w42.cell? ⟨gb316,4,none⟩ = some (.slice A2_4 l2_4.length c2_4):=(qqh BK316.out 4).trans rfl);(try have hcu316_5:w42.cell? ⟨gb316,5,none⟩ = some (.slice A2_5 l2_5.length c2_5):=(qqh BK316.out 5).trans rfl))|(go_at_call 37;(with_reducible refine (nuncioref08_opcode.calls a2_1 t318 _ A12.out).mono ?_);rintro e w' ⟨rfl,⟨nd,rfl⟩⟩;(try (rw [drewN_self w42];generalize hq_:World.drewN w42 _ = w42;have n0_:Aside0 (w42.heap[gb315]? = some (.cells #[.string a0_0,.int .u16 a0_1,.int .u16 a0_2,.bool a0_3] 28 (0,0))):=⟨by rw [← hq_];exact (by (with_reducible repeat first|apply qqa|apply qqb|apply qqc);exact BK315.out)⟩;have n1_:Aside0 (w42.heap[gb316]? = some (.cells #[.int .u16 a2_0,.int .u16 a2_1,.slice A2_2 l2_2.length c2_2,.slice A2_3 l2_3.length c2_3,.slice A2_4 l2_4.length c2_4,.slice A2_5 l2_5.length c2_5] 26 (0,0))):=⟨by rw [← hq_];exact (by (with_reducible repeat first|apply qqa|apply qqb|apply qqc);exact BK316.out)⟩;have n2_:Aside0 (Below w.heap.size w w42):=⟨by rw [← hq_];exact (by with_reducible repeat first|exact HB.out|apply qqf|apply qqd|apply qqe|refine qqg ?_ GE315.out|refine qqg ?_ GE316.out)⟩;clear BK315 BK316 HB hq_;have BK315:=n0_;have BK316:=n1_;have HB:=n2_;clear n0_ n1_ n2_));(try have hcu315_0:w42.cell? ⟨gb315,0,none⟩ = some (.string a0_0):=(qqh BK315.out 0).trans rfl);(try have hcu315_1:w42.cell? ⟨gb315,1,none⟩ = some (.int .u16 a0_1):=(qqh BK315.out 1).trans rfl);(try have hcu315_2:w42.cell? ⟨gb315,2,none⟩ = some (.int .u16 a0_2):=(qqh BK315.out 2).trans rfl);(try have hcu315_3:w42.cell? ⟨gb315,3,none⟩ = some (.bool a0_3):=(qqh BK315.out 3).trans rfl);(try have hcu316_0:w42.cell? ⟨gb316,0,none⟩ = some (.int .u16 a2_0):=(qqh BK316.out 0).trans rfl);(try have hcu316_1:w42.cell? ⟨gb316,1,none⟩ = some (.int .u16 a2_1):=(qqh BK316.out 1).trans rfl);(try have hcu316_2:w42.cell? ⟨gb316,2,none⟩ = some (.slice A2_2 l2_2.length c2_2):=(qqh BK316.out 2).trans rfl);(try have hcu316_3:w42.cell? ⟨gb316,3,none⟩ = some (.slice A2_3 l2_3.length c2_3):=(qqh BK316.out 3).trans rfl);(try have hcu316_4:w42.cell? ⟨gb316,4,none⟩ = some (.slice A2_4 l2_4.length c2_4):=(qqh BK316.out 4).trans rfl);(try have hcu316_5:w42.cell? ⟨gb316,5,none⟩ = some (.slice A2_5 l2_5.length c2_5):=(qqh BK316.out 5).trans rfl);have p319:0 ≤ (0:Int):=(by omega);have q319:0 < (l2_2.length:Int):=of_decide_eq_true (by first|(with_reducible assumption)|assumption);obtain ⟨ad319,e319,hx319_0,hx319_1,hx319_2⟩:=at_T53 HR2_2.out 0 p319 q319;cases e319;have qi319:(0 < l2_2.length) = True:=eq_true (by omega);(try rw [show ((0:Int)).toNat = 0 from rfl] at hx319_0);(try rw [show 0 * 3 = 0 from rfl] at hx319_0);(try rw [Addr.add_zero'] at hx319_0);(try rw [show ((0:Int)).toNat = 0 from rfl] at hx319_1);(try rw [show 0 * 3 = 0 from rfl] at hx319_1);(try rw [Addr.add_zero'] at hx319_1);(try rw [show ((0:Int)).toNat = 0 from rfl] at hx319_2);(try rw [show 0 * 3 = 0 from rfl] at hx319_2);(try rw [Addr.add_zero'] at hx319_2);replace hx319_0:=qqo HB.out hx319_0;replace hx319_1:=qqo HB.out hx319_1;replace hx319_2:=qqo HB.out hx319_2;replace p319:=eq_true p319;replace q319:=eq_true q319)|((with_reducible refine gate_dst (N:=7) rfl ?_);(try (refine gate_guard (by rfl) ?_;dsimp only));refine box_event ?hg (N:=7) ?hd (cs:=#[.string (⟨#[]⟩:ByteArray),.int .u16 0,.int .u16 0]) (t:=53) ?hr ?_;(case hd=>rfl);(case hg=>rfl);(case hr=>first|(go_simp;done)|(go_simp;rfl));intro gb320 hg w45 hbox hb;have n0_:=qqm (blk_below (g:=gb315) (o:=.cells #[.string a0_0,.int .u16 a0_1,.int .u16 a0_2,.bool a0_3] 28 (0,0)) (by (with_reducible repeat first|apply qqa|apply qqb|apply qqc);exact BK315.out) hb);have n1_:=qqm (blk_below (g:=gb316) (o:=.cells #[.int .u16 a2_0,.int .u16 a2_1,.slice (some ad319) l2_2.length c2_2,.slice A2_3 l2_3.length c2_3,.slice A2_4 l2_4.length c2_4,.slice A2_5 l2_5.length c2_5] 26 (0,0)) (by (with_reducible repeat first|apply qqa|apply qqb|apply qqc);exact BK316.out) hb);have n2_:=qqm (below_step (by with_reducible repeat first|exact HB.out|apply qqf|apply qqd|apply qqe|refine qqg ?_ GE315.out|refine qqg ?_ GE316.out) hb);have n3_:=qqm (hbox);have n4_:=qqm ((by rw [hg];exact (below_size (by with_reducible repeat first|exact HB.out|apply qqf|apply qqd|apply qqe|refine qqg ?_ GE315.out|refine qqg ?_ GE316.out)):w.heap.size ≤ gb320));have n5_:=n4_;have n6_:=qqm ((by rw [hg];exact Nat.ne_of_lt (blk_lt (by (with_reducible repeat first|apply qqa|apply qqb|apply qqc);exact BK315.out)):gb315 ≠ gb320));have n7_:=qqm (Ne.symm n6_.out);have n8_:=qqm ((by rw [hg];exact Nat.ne_of_lt (blk_lt (by (with_reducible repeat first|apply qqa|apply qqb|apply qqc);exact BK316.out)):gb316 ≠ gb320));have n9_:=qqm (Ne.symm n8_.out);clear BK315 BK316 HB;have BK315:=n0_;have BK316:=n1_;have HB:=n2_;have BK320:=n3_;have GW320:=n4_;have GE320:=n5_;have NB315_320:=n6_;have NB320_315:=n7_;have NB316_320:=n8_;have NB320_316:=n9_;clear n0_ n1_ n2_ n3_ n4_ n5_ n6_ n7_ n8_ n9_ hb hbox hg;have hnb46:=NB320_315.out;have hnc46:=NB315_320.out;have hnb47:=NB320_316.out;have hnc47:=NB316_320.out;obtain ⟨hcz48_0,hcz48_1,hcz48_2⟩:=qc3 BK320.out;obtain ⟨hfz48_0,hfz48_1,hfz48_2⟩:=qf3 BK320.out))
  have n0_:Aside0 ((((w45.setCell ⟨gb320,0,none⟩ (.string ((rd_T53 l2_2 0).f0))).setCell ⟨gb320,1,none⟩ (.int .u16 ((rd_T53 l2_2 0).f1))).setCell ⟨gb320,2,none⟩ (.int .u16 ((rd_T53 l2_2 0).f2))).heap[gb315]? = some (.cells #[.string a0_0,.int .u16 a0_1,.int .u16 a0_2,.bool a0_3] 28 (0,0))):=⟨by (with_reducible repeat first|apply qqa|apply qqb|apply qqc);refine blk_far ?_ NB315_320.out _;(with_reducible repeat first|apply qqa|apply qqb|apply qqc);refine blk_far ?_ NB315_320.out _;(with_reducible repeat first|apply qqa|apply qqb|apply qqc);refine blk_far ?_ NB315_320.out _;(with_reducible repeat first|apply qqa|apply qqb|apply qqc);exact BK315.out⟩
  have n1_:Aside0 ((((w45.setCell ⟨gb320,0,none⟩ (.string ((rd_T53 l2_2 0).f0))).setCell ⟨gb320,1,none⟩ (.int .u16 ((rd_T53 l2_2 0).f1))).setCell ⟨gb320,2,none⟩ (.int .u16 ((rd_T53 l2_2 0).f2))).heap[gb316]? = some (.cells #[.int .u16 a2_0,.int .u16 a2_1,.slice (some ad319) l2_2.length c2_2,.slice A2_3 l2_3.length c2_3,.slice A2_4 l2_4.length c2_4,.slice A2_5 l2_5.length c2_5] 26 (0,0))):=⟨by (with_reducible repeat first|apply qqa|apply qqb|apply qqc);refine blk_far ?_ NB316_320.out _;(with_reducible repeat first|apply qqa|apply qqb|apply qqc);refine blk_far ?_ NB316_320.out _;(with_reducible repeat first|apply qqa|apply qqb|apply qqc);refine blk_far ?_ NB316_320.out _;(with_reducible repeat first|apply qqa|apply qqb|apply qqc);exact BK316.out⟩
  have n2_:Aside0 ((((w45.setCell ⟨gb320,0,none⟩ (.string ((rd_T53 l2_2 0).f0))).setCell ⟨gb320,1,none⟩ (.int .u16 ((rd_T53 l2_2 0).f1))).setCell ⟨gb320,2,none⟩ (.int .u16 ((rd_T53 l2_2 0).f2))).heap[gb320]? = some (.cells #[.string ((rd_T53 l2_2 0).f0),.int .u16 ((rd_T53 l2_2 0).f1),.int .u16 ((rd_T53 l2_2 0).f2)] 53 (0,0))):=⟨by (with_reducible repeat first|apply qqa|apply qqb|apply qqc);refine blk_put (cs:=#[.string ((rd_T53 l2_2 0).f0),.int .u16 ((rd_T53 l2_2 0).f1),.int .u16 0]) ?_ 2 _ rfl;(with_reducible repeat first|apply qqa|apply qqb|apply qqc);refine blk_put (cs:=#[.string ((rd_T53 l2_2 0).f0),.int .u16 0,.int .u16 0]) ?_ 1 _ rfl;(with_reducible repeat first|apply qqa|apply qqb|apply qqc);refine blk_put (cs:=#[.string (⟨#[]⟩:ByteArray),.int .u16 0,.int .u16 0]) ?_ 0 _ rfl;(with_reducible repeat first|apply qqa|apply qqb|apply qqc);exact BK320.out⟩
  have n3_:Aside0 (Below w.heap.size w (((w45.setCell ⟨gb320,0,none⟩ (.string ((rd_T53 l2_2 0).f0))).setCell ⟨gb320,1,none⟩ (.int .u16 ((rd_T53 l2_2 0).f1))).setCell ⟨gb320,2,none⟩ (.int .u16 ((rd_T53 l2_2 0).f2)))):=⟨by with_reducible repeat first|exact HB.out|apply qqf|apply qqd|apply qqe|refine qqg ?_ GE315.out|refine qqg ?_ GE316.out|refine qqg ?_ GE320.out⟩
  (try clear BK315)
  (try clear BK316)
  (try clear BK320)
  (try clear HB)
  generalize (((w45.setCell ⟨gb320,0,none⟩ (.string ((rd_T53 l2_2 0).f0))).setCell ⟨gb320,1,none⟩ (.int .u16 ((rd_T53 l2_2 0).f1))).setCell ⟨gb320,2,none⟩ (.int .u16 ((rd_T53 l2_2 0).f2))) = w49 at n0_ n1_ n2_ n3_ ⊢
  have BK315:=n0_
  have BK316:=n1_
  have BK320:=n2_
  have HB:=n3_
  clear n0_ n1_ n2_ n3_
  have n0_:=qqm (qqb BK315.out)
  have n1_:=qqm (qqb BK316.out)
  have n2_:=qqm (qqb BK320.out)
  have n3_:=qqm (qqe HB.out)
  clear BK315
  clear BK316
  clear BK320
  clear HB
  have BK315:=n0_
  have BK316:=n1_
  have BK320:=n2_
  have HB:=n3_
  clear n0_ n1_ n2_ n3_
  refine start_ (n:=21) (S:=fun w'=>w'.cell? ⟨gb320,0,none⟩ = some (.string ((rd_T53 l2_2 0).f0))∧w'.cell? ⟨gb320,1,none⟩ = some (.int .u16 ((rd_T53 l2_2 0).f1))∧w'.cell? ⟨gb320,2,none⟩ = some (.int .u16 ((rd_T53 l2_2 0).f2))∧w'.cell? ⟨gb315,0,none⟩ = some (.string a0_0)∧w'.cell? ⟨gb315,1,none⟩ = some (.int .u16 a0_1)∧w'.cell? ⟨gb315,2,none⟩ = some (.int .u16 a0_2)∧w'.cell? ⟨gb315,3,none⟩ = some (.bool a0_3)) (ds:=[]) (qqz 21 0) (by kernel_rfl) rfl rfl ⟨(qqh BK320.out 0).trans rfl,(qqh BK320.out 1).trans rfl,(qqh BK320.out 2).trans rfl,(qqh BK315.out 0).trans rfl,(qqh BK315.out 1).trans rfl,(qqh BK315.out 2).trans rfl,(qqh BK315.out 3).trans rfl⟩ (fun hHeld=>?_);refine with_tabW nuncioref08_Fits.tab4 nuncioref08_Fits.bits4 (fun HT_ HW_=>?_)
  generalize w49.drew = w50 at BK315 BK316 BK320 HB hHeld ⊢
  refine pure_ (i:=0) (N:=some 41) (qqz 21 1) rfl rfl (any_of HT_.out (by kernel_rfl)) (fun _ _ _ h=>h) (Or.inl ⟨by rfl,by intro w';go_simp;with_reducible rfl⟩) (by simp only [Act.put,qqj,qqk,qql,i64_w,i32_w];rfl) ?_
  refine pure_ (i:=3) (N:=some 44) (qqz 21 9) rfl rfl (any_of HT_.out (by kernel_rfl)) (fun _ _ _ h=>h) (Or.inl ⟨by rfl,by intro w';go_simp;with_reducible rfl⟩) (by simp only [Act.put,qqj,qqk,qql,i64_w,i32_w];rfl) ?_
  refine take_ (i:=1) (N:=some 42) (qqz 21 11) rfl rfl (take_ofW HT_.out HW_.out (by kernel_rfl)) (fun _ _ _ h=>h) (Or.inl ⟨by rfl,by rintro w' ⟨s0,s1,s2,s3,s4,s5,s6⟩;go_simp;with_reducible rfl⟩) hHeld (by simp only [Act.put,qqj,qqk,qql,i64_w,i32_w];rfl) ?_
  refine take_ (i:=4) (N:=some 45) (qqz 21 27) rfl rfl (take_ofW HT_.out HW_.out (by kernel_rfl)) (fun _ _ _ h=>h) (Or.inl ⟨by rfl,by rintro w' ⟨s0,s1,s2,s3,s4,s5,s6⟩;go_simp;with_reducible rfl⟩) hHeld (by simp only [Act.put,qqj,qqk,qql,i64_w,i32_w];rfl) ?_
  refine one_ (i:=2) (N:=some 43) (qqz 21 31) rfl rfl (one_of HT_.out (by kernel_rfl)) (by decide) (fun K hK=>?_)
  refine goes_ Try.func30 (by kernel_rfl) rfl #[.string ((rd_T53 l2_2 0).f0)] (by rfl) rfl rfl (by (try simp only [List.map_toArray,List.map_cons,List.map_nil]);first|done|rfl|(simp only [List.length_drop,List.length_take];rfl)) ?_
  with_reducible refine (nuncioref04_Fold.calls k ((rd_T53 l2_2 0).f0) t321 _ A16.out).mono ?_
  rintro e w51 ⟨rfl,hb⟩
  refine ⟨_,rfl,?_⟩
  have n0_:=qqm (blk_below (g:=gb315) (o:=.cells #[.string a0_0,.int .u16 a0_1,.int .u16 a0_2,.bool a0_3] 28 (0,0)) (by (with_reducible repeat first|apply qqa|apply qqb|apply qqc);exact BK315.out) hb)
  have n1_:=qqm (blk_below (g:=gb316) (o:=.cells #[.int .u16 a2_0,.int .u16 a2_1,.slice (some ad319) l2_2.length c2_2,.slice A2_3 l2_3.length c2_3,.slice A2_4 l2_4.length c2_4,.slice A2_5 l2_5.length c2_5] 26 (0,0)) (by (with_reducible repeat first|apply qqa|apply qqb|apply qqc);exact BK316.out) hb)
  have n2_:=qqm (blk_below (g:=gb320) (o:=.cells #[.string ((rd_T53 l2_2 0).f0),.int .u16 ((rd_T53 l2_2 0).f1),.int .u16 ((rd_T53 l2_2 0).f2)] 53 (0,0)) (by (with_reducible repeat first|apply qqa|apply qqb|apply qqc);exact BK320.out) hb)
  have n3_:=qqm (below_step (by with_reducible repeat first|exact HB.out|apply qqf|apply qqd|apply qqe|refine qqg ?_ GE315.out|refine qqg ?_ GE316.out|refine qqg ?_ GE320.out) hb)
  clear BK315
  clear BK316
  clear BK320
  clear HB
  have BK315:=n0_
  have BK316:=n1_
  have BK320:=n2_
  have HB:=n3_
  clear n0_ n1_ n2_ n3_
  (try clear hb)
  (try clear hb2)
  (try clear hk)
  (try clear hi)
  refine hK.out _ _ ⟨(qqh BK320.out 0).trans rfl,(qqh BK320.out 1).trans rfl,(qqh BK320.out 2).trans rfl,(qqh BK315.out 0).trans rfl,(qqh BK315.out 1).trans rfl,(qqh BK315.out 2).trans rfl,(qqh BK315.out 3).trans rfl⟩ (fun hHeld=>?_)
  clear hK K
  refine norm_ (a':=?_) ?_ ?_
  rotate_left
  ·
   show Act.put _ (some 43) _ = _
   simp only [Act.put,qqj,qqk,qql,i64_w,i32_w]
   rfl
  refine pure_ (i:=5) (N:=some 46) (qqz 21 63) rfl rfl (any_of HT_.out (by kernel_rfl)) (fun _ _ _ h=>h) (Or.inl ⟨by rfl,by intro w';go_simp;with_reducible rfl⟩) (by simp only [Act.put,qqj,qqk,qql,i64_w,i32_w];rfl) ?_
  refine pure_ (i:=6) (N:=some 47) (qqz 21 127) rfl rfl (any_of HT_.out (by kernel_rfl)) (fun _ _ _ h=>h) (Or.inl ⟨by rfl,by intro w';go_simp;with_reducible rfl⟩) (by simp only [Act.put,qqj,qqk,qql,i64_w,i32_w];rfl) ?_
  refine pure_ (i:=7) (N:=some 48) (v:=undef) (qqz 21 255) rfl rfl (any_of HT_.out (by kernel_rfl)) (fun _ _ _ h=>h) (Or.inr ⟨by rfl,rfl⟩) (by simp only [Act.put,qqj,qqk,qql,i64_w,i32_w];rfl) ?_
  refine pure_ (i:=8) (N:=some 49) (v:=undef) (qqz 21 511) rfl rfl (any_of HT_.out (by kernel_rfl)) (fun _ _ _ h=>h) (Or.inr ⟨by rfl,rfl⟩) (by simp only [Act.put,qqj,qqk,qql,i64_w,i32_w];rfl) ?_
  refine pure_ (i:=9) (N:=some 50) (v:=undef) (qqz 21 1023) rfl rfl (any_of HT_.out (by kernel_rfl)) (fun _ _ _ h=>h) (Or.inr ⟨by rfl,rfl⟩) (by simp only [Act.put,qqj,qqk,qql,i64_w,i32_w];rfl) ?_
  refine pure_ (i:=10) (N:=some 51) (v:=undef) (qqz 21 2047) rfl rfl (any_of HT_.out (by kernel_rfl)) (fun _ _ _ h=>h) (Or.inr ⟨by rfl,rfl⟩) (by simp only [Act.put,qqj,qqk,qql,i64_w,i32_w];rfl) ?_
  refine pure_ (i:=11) (N:=some 52) (v:=undef) (qqz 21 4095) rfl rfl (any_of HT_.out (by kernel_rfl)) (fun _ _ _ h=>h) (Or.inr ⟨by rfl,rfl⟩) (by simp only [Act.put,qqj,qqk,qql,i64_w,i32_w];rfl) ?_
  refine pure_ (i:=12) (N:=some 53) (qqz 21 8191) rfl rfl (any_of HT_.out (by kernel_rfl)) (fun _ _ _ h=>h) (Or.inl ⟨by rfl,by intro w';go_simp;with_reducible rfl⟩) (by simp only [Act.put,qqj,qqk,qql,i64_w,i32_w];rfl) ?_
  refine pure_ (i:=13) (N:=some 54) (qqz 21 16383) rfl rfl (any_of HT_.out (by kernel_rfl)) (fun _ _ _ h=>h) (Or.inl ⟨by rfl,by intro w';go_simp;with_reducible rfl⟩) (by simp only [Act.put,qqj,qqk,qql,i64_w,i32_w];rfl) ?_
  refine pure_ (i:=14) (N:=some 55) (v:=undef) (qqz 21 32767) rfl rfl (any_of HT_.out (by kernel_rfl)) (fun _ _ _ h=>h) (Or.inr ⟨by rfl,rfl⟩) (by simp only [Act.put,qqj,qqk,qql,i64_w,i32_w];rfl) ?_
  refine pure_ (i:=15) (N:=some 56) (v:=undef) (qqz 21 65535) rfl rfl (any_of HT_.out (by kernel_rfl)) (fun _ _ _ h=>h) (Or.inr ⟨by rfl,rfl⟩) (by simp only [Act.put,qqj,qqk,qql,i64_w,i32_w];rfl) ?_
  refine pure_ (i:=16) (N:=some 57) (v:=undef) (qqz 21 131071) rfl rfl (any_of HT_.out (by kernel_rfl)) (fun _ _ _ h=>h) (Or.inr ⟨by rfl,rfl⟩) (by simp only [Act.put,qqj,qqk,qql,i64_w,i32_w];rfl) ?_
  refine pure_ (i:=17) (N:=some 58) (v:=undef) (qqz 21 262143) rfl rfl (any_of HT_.out (by kernel_rfl)) (fun _ _ _ h=>h) (Or.inr ⟨by rfl,rfl⟩) (by simp only [Act.put,qqj,qqk,qql,i64_w,i32_w];rfl) ?_
  refine pure_ (i:=18) (N:=some 59) (v:=undef) (qqz 21 524287) rfl rfl (any_of HT_.out (by kernel_rfl)) (fun _ _ _ h=>h) (Or.inr ⟨by rfl,rfl⟩) (by simp only [Act.put,qqj,qqk,qql,i64_w,i32_w];rfl) ?_
  refine pure_ (i:=19) (N:=some 60) (qqz 21 1048575) rfl rfl (any_of HT_.out (by kernel_rfl)) (fun _ _ _ h=>h) (Or.inl ⟨by rfl,by intro w';go_simp;with_reducible rfl⟩) (by simp only [Act.put,qqj,qqk,qql,i64_w,i32_w];rfl) ?_
  refine pure_ (i:=20) (N:=some 6) (qqz 21 2097151) rfl rfl (any_of HT_.out (by kernel_rfl)) (fun _ _ _ h=>h) (Or.inl ⟨by rfl,by intro w';go_simp;with_reducible rfl⟩) (by simp only [Act.put,qqj,qqk,qql,i64_w,i32_w];rfl) ?_
  refine done_ (done_of HT_.out (by kernel_rfl)) ?_
  try go_wp2
  go_ret
  exact ⟨by first|rfl|(simp [errW_none,errW_some] <;> rfl)|(simp [*,errW_none,errW_some] <;> rfl),by with_reducible repeat first|exact HB.out|apply qqf|apply qqd|apply qqe|refine qqg ?_ GE315.out|refine qqg ?_ GE316.out|refine qqg ?_ GE320.out⟩
 rw [if_pos c17] at H
 have c17b0:(t321.toList == a0_0.toList) = true:=beq_iff_eq.mpr c17
 have c17b1:(t321.toList != a0_0.toList) = false:=bne_eq_false_iff_eq.mpr c17
 clear c17
 by_cases c18:((rd_T53 l2_2 0).f1) = a0_1
 rotate_left
 ·
  rw [if_neg c18] at H
  have c18b0:(((rd_T53 l2_2 0).f1) == a0_1) = false:=beq_eq_false_iff_ne.mpr c18
  have c18b1:(((rd_T53 l2_2 0).f1) != a0_1) = true:=bne_iff_ne.mpr c18
  obtain rfl:=Option.some.inj H
  go_enter Try.func17,Try.ntmps17
  try go_wp2_with (first|((with_reducible refine gate_dst (N:=3) rfl ?_);(try (refine gate_guard (by rfl) ?_;dsimp only));refine box_event ?hg (N:=3) ?hd (cs:=#[.string a0_0,.int .u16 a0_1,.int .u16 a0_2,.bool a0_3]) (t:=28) ?hr ?_;(case hd=>rfl);(case hg=>rfl);(case hr=>first|(go_simp;done)|(go_simp;rfl));intro gb315 hg w30 hbox hb;have n0_:=qqm (below_step (by with_reducible repeat first|exact HB.out|apply qqf|apply qqd|apply qqe) hb);have n1_:=qqm (hbox);have n2_:=qqm ((by rw [hg];exact (below_size (by with_reducible repeat first|exact HB.out|apply qqf|apply qqd|apply qqe)):w.heap.size ≤ gb315));have n3_:=n2_;clear HB;have HB:=n0_;have BK315:=n1_;have GW315:=n2_;have GE315:=n3_;clear n0_ n1_ n2_ n3_ hb hbox hg)|((with_reducible refine gate_dst (N:=5) rfl ?_);(try (refine gate_guard (by rfl) ?_;dsimp only));refine box_event ?hg (N:=5) ?hd (cs:=#[.int .u16 a2_0,.int .u16 a2_1,.slice A2_2 l2_2.length c2_2,.slice A2_3 l2_3.length c2_3,.slice A2_4 l2_4.length c2_4,.slice A2_5 l2_5.length c2_5]) (t:=26) ?hr ?_;(case hd=>rfl);(case hg=>rfl);(case hr=>first|(go_simp;done)|(go_simp;rfl));intro gb316 hg w31 hbox hb;have n0_:=qqm (blk_below (g:=gb315) (o:=.cells #[.string a0_0,.int .u16 a0_1,.int .u16 a0_2,.bool a0_3] 28 (0,0)) (by (with_reducible repeat first|apply qqa|apply qqb|apply qqc);exact BK315.out) hb);have n1_:=qqm (below_step (by with_reducible repeat first|exact HB.out|apply qqf|apply qqd|apply qqe|refine qqg ?_ GE315.out) hb);have n2_:=qqm (hbox);have n3_:=qqm ((by rw [hg];exact (below_size (by with_reducible repeat first|exact HB.out|apply qqf|apply qqd|apply qqe|refine qqg ?_ GE315.out)):w.heap.size ≤ gb316));have n4_:=n3_;have n5_:=qqm ((by rw [hg];exact Nat.ne_of_lt (blk_lt (by (with_reducible repeat first|apply qqa|apply qqb|apply qqc);exact BK315.out)):gb315 ≠ gb316));have n6_:=qqm (Ne.symm n5_.out);clear BK315 HB;have BK315:=n0_;have HB:=n1_;have BK316:=n2_;have GW316:=n3_;have GE316:=n4_;have NB315_316:=n5_;have NB316_315:=n6_;clear n0_ n1_ n2_ n3_ n4_ n5_ n6_ hb hbox hg;have hnb32:=NB316_315.out;have hnc32:=NB315_316.out;obtain ⟨hcz33_0,hcz33_1,hcz33_2,hcz33_3,hcz33_4,hcz33_5⟩:=qc6 BK316.out;obtain ⟨hfz33_0,hfz33_1,hfz33_2,hfz33_3,hfz33_4,hfz33_5⟩:=qf6 BK316.out)|(go_at_call 36;(with_reducible refine (nuncioref08_qr.calls a2_1 true _ A5.out).mono ?_);rintro e w' ⟨rfl,⟨nd,rfl⟩⟩;(try (rw [drewN_self w31];generalize hq_:World.drewN w31 _ = w31;have n0_:Aside0 (w31.heap[gb315]? = some (.cells #[.string a0_0,.int .u16 a0_1,.int .u16 a0_2,.bool a0_3] 28 (0,0))):=⟨by rw [← hq_];exact (by (with_reducible repeat first|apply qqa|apply qqb|apply qqc);exact BK315.out)⟩;have n1_:Aside0 (w31.heap[gb316]? = some (.cells #[.int .u16 a2_0,.int .u16 a2_1,.slice A2_2 l2_2.length c2_2,.slice A2_3 l2_3.length c2_3,.slice A2_4 l2_4.length c2_4,.slice A2_5 l2_5.length c2_5] 26 (0,0))):=⟨by rw [← hq_];exact (by (with_reducible repeat first|apply qqa|apply qqb|apply qqc);exact BK316.out)⟩;have n2_:Aside0 (Below w.heap.size w w31):=⟨by rw [← hq_];exact (by with_reducible repeat first|exact HB.out|apply qqf|apply qqd|apply qqe|refine qqg ?_ GE315.out|refine qqg ?_ GE316.out)⟩;clear BK315 BK316 HB hq_;have BK315:=n0_;have BK316:=n1_;have HB:=n2_;clear n0_ n1_ n2_));(try have hcu315_0:w31.cell? ⟨gb315,0,none⟩ = some (.string a0_0):=(qqh BK315.out 0).trans rfl);(try have hcu315_1:w31.cell? ⟨gb315,1,none⟩ = some (.int .u16 a0_1):=(qqh BK315.out 1).trans rfl);(try have hcu315_2:w31.cell? ⟨gb315,2,none⟩ = some (.int .u16 a0_2):=(qqh BK315.out 2).trans rfl);(try have hcu315_3:w31.cell? ⟨gb315,3,none⟩ = some (.bool a0_3):=(qqh BK315.out 3).trans rfl);(try have hcu316_0:w31.cell? ⟨gb316,0,none⟩ = some (.int .u16 a2_0):=(qqh BK316.out 0).trans rfl);(try have hcu316_1:w31.cell? ⟨gb316,1,none⟩ = some (.int .u16 a2_1):=(qqh BK316.out 1).trans rfl);(try have hcu316_2:w31.cell? ⟨gb316,2,none⟩ = some (.slice A2_2 l2_2.length c2_2):=(qqh BK316.out 2).trans rfl);(try have hcu316_3:w31.cell? ⟨gb316,3,none⟩ = some (.slice A2_3 l2_3.length c2_3):=(qqh BK316.out 3).trans rfl);(try have hcu316_4:w31.cell? ⟨gb316,4,none⟩ = some (.slice A2_4 l2_4.length c2_4):=(qqh BK316.out 4).trans rfl);(try have hcu316_5:w31.cell? ⟨gb316,5,none⟩ = some (.slice A2_5 l2_5.length c2_5):=(qqh BK316.out 5).trans rfl))|(go_at_call 37;(with_reducible refine (nuncioref08_opcode.calls a2_1 t318 _ A12.out).mono ?_);rintro e w' ⟨rfl,⟨nd,rfl⟩⟩;(try (rw [drewN_self w31];generalize hq_:World.drewN w31 _ = w31;have n0_:Aside0 (w31.heap[gb315]? = some (.cells #[.string a0_0,.int .u16 a0_1,.int .u16 a0_2,.bool a0_3] 28 (0,0))):=⟨by rw [← hq_];exact (by (with_reducible repeat first|apply qqa|apply qqb|apply qqc);exact BK315.out)⟩;have n1_:Aside0 (w31.heap[gb316]? = some (.cells #[.int .u16 a2_0,.int .u16 a2_1,.slice A2_2 l2_2.length c2_2,.slice A2_3 l2_3.length c2_3,.slice A2_4 l2_4.length c2_4,.slice A2_5 l2_5.length c2_5] 26 (0,0))):=⟨by rw [← hq_];exact (by (with_reducible repeat first|apply qqa|apply qqb|apply qqc);exact BK316.out)⟩;have n2_:Aside0 (Below w.heap.size w w31):=⟨by rw [← hq_];exact (by with_reducible repeat first|exact HB.out|apply qqf|apply qqd|apply qqe|refine qqg ?_ GE315.out|refine qqg ?_ GE316.out)⟩;clear BK315 BK316 HB hq_;have BK315:=n0_;have BK316:=n1_;have HB:=n2_;clear n0_ n1_ n2_));(try have hcu315_0:w31.cell? ⟨gb315,0,none⟩ = some (.string a0_0):=(qqh BK315.out 0).trans rfl);(try have hcu315_1:w31.cell? ⟨gb315,1,none⟩ = some (.int .u16 a0_1):=(qqh BK315.out 1).trans rfl);(try have hcu315_2:w31.cell? ⟨gb315,2,none⟩ = some (.int .u16 a0_2):=(qqh BK315.out 2).trans rfl);(try have hcu315_3:w31.cell? ⟨gb315,3,none⟩ = some (.bool a0_3):=(qqh BK315.out 3).trans rfl);(try have hcu316_0:w31.cell? ⟨gb316,0,none⟩ = some (.int .u16 a2_0):=(qqh BK316.out 0).trans rfl);(try have hcu316_1:w31.cell? ⟨gb316,1,none⟩ = some (.int .u16 a2_1):=(qqh BK316.out 1).trans rfl);(try have hcu316_2:w31.cell? ⟨gb316,2,none⟩ = some (.slice A2_2 l2_2.length c2_2):=(qqh BK316.out 2).trans rfl);(try have hcu316_3:w31.cell? ⟨gb316,3,none⟩ = some (.slice A2_3 l2_3.length c2_3):=(qqh BK316.out 3).trans rfl);(try have hcu316_4:w31.cell? ⟨gb316,4,none⟩ = some (.slice A2_4 l2_4.length c2_4):=(qqh BK316.out 4).trans rfl);(try have hcu316_5:w31.cell? ⟨gb316,5,none⟩ = some (.slice A2_5 l2_5.length c2_5):=(qqh BK316.out 5).trans rfl);have p319:0 ≤ (0:Int):=(by omega);have q319:0 < (l2_2.length:Int):=of_decide_eq_true (by first|(with_reducible assumption)|assumption);obtain ⟨ad319,e319,hx319_0,hx319_1,hx319_2⟩:=at_T53 HR2_2.out 0 p319 q319;cases e319;have qi319:(0 < l2_2.length) = True:=eq_true (by omega);(try rw [show ((0:Int)).toNat = 0 from rfl] at hx319_0);(try rw [show 0 * 3 = 0 from rfl] at hx319_0);(try rw [Addr.add_zero'] at hx319_0);(try rw [show ((0:Int)).toNat = 0 from rfl] at hx319_1);(try rw [show 0 * 3 = 0 from rfl] at hx319_1);(try rw [Addr.add_zero'] at hx319_1);(try rw [show ((0:Int)).toNat = 0 from rfl] at hx319_2);(try rw [show 0 * 3 = 0 from rfl] at hx319_2);(try rw [Addr.add_zero'] at hx319_2);replace hx319_0:=qqo HB.out hx319_0;replace hx319_1:=qqo HB.out hx319_1;replace hx319_2:=qqo HB.out hx319_2;replace p319:=eq_true p319;replace q319:=eq_true q319)|((with_reducible refine gate_dst (N:=7) rfl ?_);(try (refine gate_guard (by rfl) ?_;dsimp only));refine box_event ?hg (N:=7) ?hd (cs:=#[.string (⟨#[]⟩:ByteArray),.int .u16 0,.int .u16 0]) (t:=53) ?hr ?_;(case hd=>rfl);(case hg=>rfl);(case hr=>first|(go_simp;done)|(go_simp;rfl));intro gb320 hg w34 hbox hb;have n0_:=qqm (blk_below (g:=gb315) (o:=.cells #[.string a0_0,.int .u16 a0_1,.int .u16 a0_2,.bool a0_3] 28 (0,0)) (by (with_reducible repeat first|apply qqa|apply qqb|apply qqc);exact BK315.out) hb);have n1_:=qqm (blk_below (g:=gb316) (o:=.cells #[.int .u16 a2_0,.int .u16 a2_1,.slice (some ad319) l2_2.length c2_2,.slice A2_3 l2_3.length c2_3,.slice A2_4 l2_4.length c2_4,.slice A2_5 l2_5.length c2_5] 26 (0,0)) (by (with_reducible repeat first|apply qqa|apply qqb|apply qqc);exact BK316.out) hb);have n2_:=qqm (below_step (by with_reducible repeat first|exact HB.out|apply qqf|apply qqd|apply qqe|refine qqg ?_ GE315.out|refine qqg ?_ GE316.out) hb);have n3_:=qqm (hbox);have n4_:=qqm ((by rw [hg];exact (below_size (by with_reducible repeat first|exact HB.out|apply qqf|apply qqd|apply qqe|refine qqg ?_ GE315.out|refine qqg ?_ GE316.out)):w.heap.size ≤ gb320));have n5_:=n4_;have n6_:=qqm ((by rw [hg];exact Nat.ne_of_lt (blk_lt (by (with_reducible repeat first|apply qqa|apply qqb|apply qqc);exact BK315.out)):gb315 ≠ gb320));have n7_:=qqm (Ne.symm n6_.out);have n8_:=qqm ((by rw [hg];exact Nat.ne_of_lt (blk_lt (by (with_reducible repeat first|apply qqa|apply qqb|apply qqc);exact BK316.out)):gb316 ≠ gb320));have n9_:=qqm (Ne.symm n8_.out);clear BK315 BK316 HB;have BK315:=n0_;have BK316:=n1_;have HB:=n2_;have BK320:=n3_;have GW320:=n4_;have GE320:=n5_;have NB315_320:=n6_;have NB320_315:=n7_;have NB316_320:=n8_;have NB320_316:=n9_;clear n0_ n1_ n2_ n3_ n4_ n5_ n6_ n7_ n8_ n9_ hb hbox hg;have hnb35:=NB320_315.out;have hnc35:=NB315_320.out;have hnb36:=NB320_316.out;have hnc36:=NB316_320.out;obtain ⟨hcz37_0,hcz37_1,hcz37_2⟩:=qc3 BK320.out;obtain ⟨hfz37_0,hfz37_1,hfz37_2⟩:=qf3 BK320.out))
  have n0_:Aside0 ((((w34.setCell ⟨gb320,0,none⟩ (.string ((rd_T53 l2_2 0).f0))).setCell ⟨gb320,1,none⟩ (.int .u16 ((rd_T53 l2_2 0).f1))).setCell ⟨gb320,2,none⟩ (.int .u16 ((rd_T53 l2_2 0).f2))).heap[gb315]? = some (.cells #[.string a0_0,.int .u16 a0_1,.int .u16 a0_2,.bool a0_3] 28 (0,0))):=⟨by (with_reducible repeat first|apply qqa|apply qqb|apply qqc);refine blk_far ?_ NB315_320.out _;(with_reducible repeat first|apply qqa|apply qqb|apply qqc);refine blk_far ?_ NB315_320.out _;(with_reducible repeat first|apply qqa|apply qqb|apply qqc);refine blk_far ?_ NB315_320.out _;(with_reducible repeat first|apply qqa|apply qqb|apply qqc);exact BK315.out⟩
  have n1_:Aside0 ((((w34.setCell ⟨gb320,0,none⟩ (.string ((rd_T53 l2_2 0).f0))).setCell ⟨gb320,1,none⟩ (.int .u16 ((rd_T53 l2_2 0).f1))).setCell ⟨gb320,2,none⟩ (.int .u16 ((rd_T53 l2_2 0).f2))).heap[gb316]? = some (.cells #[.int .u16 a2_0,.int .u16 a2_1,.slice (some ad319) l2_2.length c2_2,.slice A2_3 l2_3.length c2_3,.slice A2_4 l2_4.length c2_4,.slice A2_5 l2_5.length c2_5] 26 (0,0))):=⟨by (with_reducible repeat first|apply qqa|apply qqb|apply qqc);refine blk_far ?_ NB316_320.out _;(with_reducible repeat first|apply qqa|apply qqb|apply qqc);refine blk_far ?_ NB316_320.out _;(with_reducible repeat first|apply qqa|apply qqb|apply qqc);refine blk_far ?_ NB316_320.out _;(with_reducible repeat first|apply qqa|apply qqb|apply qqc);exact BK316.out⟩
  have n2_:Aside0 ((((w34.setCell ⟨gb320,0,none⟩ (.string ((rd_T53 l2_2 0).f0))).setCell ⟨gb320,1,none⟩ (.int .u16 ((rd_T53 l2_2 0).f1))).setCell ⟨gb320,2,none⟩ (.int .u16 ((rd_T53 l2_2 0).f2))).heap[gb320]? = some (.cells #[.string ((rd_T53 l2_2 0).f0),.int .u16 ((rd_T53 l2_2 0).f1),.int .u16 ((rd_T53 l2_2 0).f2)] 53 (0,0))):=⟨by (with_reducible repeat first|apply qqa|apply qqb|apply qqc);refine blk_put (cs:=#[.string ((rd_T53 l2_2 0).f0),.int .u16 ((rd_T53 l2_2 0).f1),.int .u16 0]) ?_ 2 _ rfl;(with_reducible repeat first|apply qqa|apply qqb|apply qqc);refine blk_put (cs:=#[.string ((rd_T53 l2_2 0).f0),.int .u16 0,.int .u16 0]) ?_ 1 _ rfl;(with_reducible repeat first|apply qqa|apply qqb|apply qqc);refine blk_put (cs:=#[.string (⟨#[]⟩:ByteArray),.int .u16 0,.int .u16 0]) ?_ 0 _ rfl;(with_reducible repeat first|apply qqa|apply qqb|apply qqc);exact BK320.out⟩
  have n3_:Aside0 (Below w.heap.size w (((w34.setCell ⟨gb320,0,none⟩ (.string ((rd_T53 l2_2 0).f0))).setCell ⟨gb320,1,none⟩ (.int .u16 ((rd_T53 l2_2 0).f1))).setCell ⟨gb320,2,none⟩ (.int .u16 ((rd_T53 l2_2 0).f2)))):=⟨by with_reducible repeat first|exact HB.out|apply qqf|apply qqd|apply qqe|refine qqg ?_ GE315.out|refine qqg ?_ GE316.out|refine qqg ?_ GE320.out⟩
  (try clear BK315)
  (try clear BK316)
  (try clear BK320)
  (try clear HB)
  generalize (((w34.setCell ⟨gb320,0,none⟩ (.string ((rd_T53 l2_2 0).f0))).setCell ⟨gb320,1,none⟩ (.int .u16 ((rd_T53 l2_2 0).f1))).setCell ⟨gb320,2,none⟩ (.int .u16 ((rd_T53 l2_2 0).f2))) = w38 at n0_ n1_ n2_ n3_ ⊢
  have BK315:=n0_
  have BK316:=n1_
  have BK320:=n2_
  have HB:=n3_
  clear n0_ n1_ n2_ n3_
  have n0_:=qqm (qqb BK315.out)
  have n1_:=qqm (qqb BK316.out)
  have n2_:=qqm (qqb BK320.out)
  have n3_:=qqm (qqe HB.out)
  clear BK315
  clear BK316
  clear BK320
  clear HB
  have BK315:=n0_
  have BK316:=n1_
  have BK320:=n2_
  have HB:=n3_
  clear n0_ n1_ n2_ n3_
  refine start_ (n:=21) (S:=fun w'=>w'.cell? ⟨gb320,0,none⟩ = some (.string ((rd_T53 l2_2 0).f0))∧w'.cell? ⟨gb320,1,none⟩ = some (.int .u16 ((rd_T53 l2_2 0).f1))∧w'.cell? ⟨gb320,2,none⟩ = some (.int .u16 ((rd_T53 l2_2 0).f2))∧w'.cell? ⟨gb315,0,none⟩ = some (.string a0_0)∧w'.cell? ⟨gb315,1,none⟩ = some (.int .u16 a0_1)∧w'.cell? ⟨gb315,2,none⟩ = some (.int .u16 a0_2)∧w'.cell? ⟨gb315,3,none⟩ = some (.bool a0_3)) (ds:=[]) (qqz 21 0) (by kernel_rfl) rfl rfl ⟨(qqh BK320.out 0).trans rfl,(qqh BK320.out 1).trans rfl,(qqh BK320.out 2).trans rfl,(qqh BK315.out 0).trans rfl,(qqh BK315.out 1).trans rfl,(qqh BK315.out 2).trans rfl,(qqh BK315.out 3).trans rfl⟩ (fun hHeld=>?_);refine with_tabW nuncioref08_Fits.tab4 nuncioref08_Fits.bits4 (fun HT_ HW_=>?_)
  generalize w38.drew = w39 at BK315 BK316 BK320 HB hHeld ⊢
  refine pure_ (i:=0) (N:=some 41) (qqz 21 1) rfl rfl (any_of HT_.out (by kernel_rfl)) (fun _ _ _ h=>h) (Or.inl ⟨by rfl,by intro w';go_simp;with_reducible rfl⟩) (by simp only [Act.put,qqj,qqk,qql,i64_w,i32_w];rfl) ?_
  refine pure_ (i:=3) (N:=some 44) (qqz 21 9) rfl rfl (any_of HT_.out (by kernel_rfl)) (fun _ _ _ h=>h) (Or.inl ⟨by rfl,by intro w';go_simp;with_reducible rfl⟩) (by simp only [Act.put,qqj,qqk,qql,i64_w,i32_w];rfl) ?_
  refine take_ (i:=1) (N:=some 42) (qqz 21 11) rfl rfl (take_ofW HT_.out HW_.out (by kernel_rfl)) (fun _ _ _ h=>h) (Or.inl ⟨by rfl,by rintro w' ⟨s0,s1,s2,s3,s4,s5,s6⟩;go_simp;with_reducible rfl⟩) hHeld (by simp only [Act.put,qqj,qqk,qql,i64_w,i32_w];rfl) ?_
  refine take_ (i:=4) (N:=some 45) (qqz 21 27) rfl rfl (take_ofW HT_.out HW_.out (by kernel_rfl)) (fun _ _ _ h=>h) (Or.inl ⟨by rfl,by rintro w' ⟨s0,s1,s2,s3,s4,s5,s6⟩;go_simp;with_reducible rfl⟩) hHeld (by simp only [Act.put,qqj,qqk,qql,i64_w,i32_w];rfl) ?_
  refine one_ (i:=2) (N:=some 43) (qqz 21 31) rfl rfl (one_of HT_.out (by kernel_rfl)) (by decide) (fun K hK=>?_)
  refine goes_ Try.func30 (by kernel_rfl) rfl #[.string ((rd_T53 l2_2 0).f0)] (by rfl) rfl rfl (by (try simp only [List.map_toArray,List.map_cons,List.map_nil]);first|done|rfl|(simp only [List.length_drop,List.length_take];rfl)) ?_
  with_reducible refine (nuncioref04_Fold.calls k ((rd_T53 l2_2 0).f0) t321 _ A16.out).mono ?_
  rintro e w40 ⟨rfl,hb⟩
  refine ⟨_,rfl,?_⟩
  have n0_:=qqm (blk_below (g:=gb315) (o:=.cells #[.string a0_0,.int .u16 a0_1,.int .u16 a0_2,.bool a0_3] 28 (0,0)) (by (with_reducible repeat first|apply qqa|apply qqb|apply qqc);exact BK315.out) hb)
  have n1_:=qqm (blk_below (g:=gb316) (o:=.cells #[.int .u16 a2_0,.int .u16 a2_1,.slice (some ad319) l2_2.length c2_2,.slice A2_3 l2_3.length c2_3,.slice A2_4 l2_4.length c2_4,.slice A2_5 l2_5.length c2_5] 26 (0,0)) (by (with_reducible repeat first|apply qqa|apply qqb|apply qqc);exact BK316.out) hb)
  have n2_:=qqm (blk_below (g:=gb320) (o:=.cells #[.string ((rd_T53 l2_2 0).f0),.int .u16 ((rd_T53 l2_2 0).f1),.int .u16 ((rd_T53 l2_2 0).f2)] 53 (0,0)) (by (with_reducible repeat first|apply qqa|apply qqb|apply qqc);exact BK320.out) hb)
  have n3_:=qqm (below_step (by with_reducible repeat first|exact HB.out|apply qqf|apply qqd|apply qqe|refine qqg ?_ GE315.out|refine qqg ?_ GE316.out|refine qqg ?_ GE320.out) hb)
  clear BK315
  clear BK316
  clear BK320
  clear HB
  have BK315:=n0_
  have BK316:=n1_
  have BK320:=n2_
  have HB:=n3_
  clear n0_ n1_ n2_ n3_
  (try clear hb)
  (try clear hb2)
  (try clear hk)
  (try clear hi)
  refine hK.out _ _ ⟨(qqh BK320.out 0).trans rfl,(qqh BK320.out 1).trans rfl,(qqh BK320.out 2).trans rfl,(qqh BK315.out 0).trans rfl,(qqh BK315.out 1).trans rfl,(qqh BK315.out 2).trans rfl,(qqh BK315.out 3).trans rfl⟩ (fun hHeld=>?_)
  clear hK K
  refine norm_ (a':=?_) ?_ ?_
  rotate_left
  ·
   show Act.put _ (some 43) _ = _
   simp only [Act.put,qqj,qqk,qql,i64_w,i32_w]
   rfl
  refine pure_ (i:=5) (N:=some 46) (qqz 21 63) rfl rfl (any_of HT_.out (by kernel_rfl)) (fun _ _ _ h=>h) (Or.inl ⟨by rfl,by intro w';go_simp;with_reducible rfl⟩) (by simp only [Act.put,qqj,qqk,qql,i64_w,i32_w];rfl) ?_
  refine pure_ (i:=6) (N:=some 47) (qqz 21 127) rfl rfl (any_of HT_.out (by kernel_rfl)) (fun _ _ _ h=>h) (Or.inl ⟨by rfl,by intro w';go_simp;with_reducible rfl⟩) (by simp only [Act.put,qqj,qqk,qql,i64_w,i32_w];rfl) ?_
  refine pure_ (i:=7) (N:=some 48) (qqz 21 255) rfl rfl (any_of HT_.out (by kernel_rfl)) (fun _ _ _ h=>h) (Or.inl ⟨by rfl,by intro w';go_simp;with_reducible rfl⟩) (by simp only [Act.put,qqj,qqk,qql,i64_w,i32_w];rfl) ?_
  refine pure_ (i:=9) (N:=some 50) (qqz 21 767) rfl rfl (any_of HT_.out (by kernel_rfl)) (fun _ _ _ h=>h) (Or.inl ⟨by rfl,by intro w';go_simp;with_reducible rfl⟩) (by simp only [Act.put,qqj,qqk,qql,i64_w,i32_w];rfl) ?_
  refine take_ (i:=8) (N:=some 49) (qqz 21 1023) rfl rfl (take_ofW HT_.out HW_.out (by kernel_rfl)) (fun _ _ _ h=>h) (Or.inl ⟨by rfl,by rintro w' ⟨s0,s1,s2,s3,s4,s5,s6⟩;go_simp;with_reducible rfl⟩) hHeld (by simp only [Act.put,qqj,qqk,qql,i64_w,i32_w];rfl) ?_
  refine take_ (i:=10) (N:=some 51) (qqz 21 2047) rfl rfl (take_ofW HT_.out HW_.out (by kernel_rfl)) (fun _ _ _ h=>h) (Or.inl ⟨by rfl,by rintro w' ⟨s0,s1,s2,s3,s4,s5,s6⟩;go_simp;with_reducible rfl⟩) hHeld (by simp only [Act.put,qqj,qqk,qql,i64_w,i32_w];rfl) ?_
  refine pure_ (i:=11) (N:=some 52) (qqz 21 4095) rfl rfl (any_of HT_.out (by kernel_rfl)) (fun _ _ _ h=>h) (Or.inl ⟨by rfl,by intro w';go_simp;with_reducible rfl⟩) (by simp only [Act.put,qqj,qqk,qql,i64_w,i32_w];rfl) ?_
  refine pure_ (i:=12) (N:=some 53) (qqz 21 8191) rfl rfl (any_of HT_.out (by kernel_rfl)) (fun _ _ _ h=>h) (Or.inl ⟨by rfl,by intro w';go_simp;with_reducible rfl⟩) (by simp only [Act.put,qqj,qqk,qql,i64_w,i32_w];rfl) ?_
  refine pure_ (i:=13) (N:=some 54) (qqz 21 16383) rfl rfl (any_of HT_.out (by kernel_rfl)) (fun _ _ _ h=>h) (Or.inl ⟨by rfl,by intro w';go_simp;with_reducible rfl⟩) (by simp only [Act.put,qqj,qqk,qql,i64_w,i32_w];rfl) ?_
  refine pure_ (i:=14) (N:=some 55) (v:=undef) (qqz 21 32767) rfl rfl (any_of HT_.out (by kernel_rfl)) (fun _ _ _ h=>h) (Or.inr ⟨by rfl,rfl⟩) (by simp only [Act.put,qqj,qqk,qql,i64_w,i32_w];rfl) ?_
  refine pure_ (i:=15) (N:=some 56) (v:=undef) (qqz 21 65535) rfl rfl (any_of HT_.out (by kernel_rfl)) (fun _ _ _ h=>h) (Or.inr ⟨by rfl,rfl⟩) (by simp only [Act.put,qqj,qqk,qql,i64_w,i32_w];rfl) ?_
  refine pure_ (i:=16) (N:=some 57) (v:=undef) (qqz 21 131071) rfl rfl (any_of HT_.out (by kernel_rfl)) (fun _ _ _ h=>h) (Or.inr ⟨by rfl,rfl⟩) (by simp only [Act.put,qqj,qqk,qql,i64_w,i32_w];rfl) ?_
  refine pure_ (i:=17) (N:=some 58) (v:=undef) (qqz 21 262143) rfl rfl (any_of HT_.out (by kernel_rfl)) (fun _ _ _ h=>h) (Or.inr ⟨by rfl,rfl⟩) (by simp only [Act.put,qqj,qqk,qql,i64_w,i32_w];rfl) ?_
  refine pure_ (i:=18) (N:=some 59) (v:=undef) (qqz 21 524287) rfl rfl (any_of HT_.out (by kernel_rfl)) (fun _ _ _ h=>h) (Or.inr ⟨by rfl,rfl⟩) (by simp only [Act.put,qqj,qqk,qql,i64_w,i32_w];rfl) ?_
  refine pure_ (i:=19) (N:=some 60) (qqz 21 1048575) rfl rfl (any_of HT_.out (by kernel_rfl)) (fun _ _ _ h=>h) (Or.inl ⟨by rfl,by intro w';go_simp;with_reducible rfl⟩) (by simp only [Act.put,qqj,qqk,qql,i64_w,i32_w];rfl) ?_
  refine pure_ (i:=20) (N:=some 6) (qqz 21 2097151) rfl rfl (any_of HT_.out (by kernel_rfl)) (fun _ _ _ h=>h) (Or.inl ⟨by rfl,by intro w';go_simp;with_reducible rfl⟩) (by simp only [Act.put,qqj,qqk,qql,i64_w,i32_w];rfl) ?_
  refine done_ (done_of HT_.out (by kernel_rfl)) ?_
  try go_wp2
  go_ret
  exact ⟨by first|rfl|(simp [errW_none,errW_some] <;> rfl)|(simp [*,errW_none,errW_some] <;> rfl),by with_reducible repeat first|exact HB.out|apply qqf|apply qqd|apply qqe|refine qqg ?_ GE315.out|refine qqg ?_ GE316.out|refine qqg ?_ GE320.out⟩
 rw [if_pos c18] at H
 have c18b0:(((rd_T53 l2_2 0).f1) == a0_1) = true:=beq_iff_eq.mpr c18
 have c18b1:(((rd_T53 l2_2 0).f1) != a0_1) = false:=bne_eq_false_iff_eq.mpr c18
 clear c18
 obtain rfl:=Option.some.inj H
 go_enter Try.func17,Try.ntmps17
 try go_wp2_with (first|((with_reducible refine gate_dst (N:=3) rfl ?_);(try (refine gate_guard (by rfl) ?_;dsimp only));refine box_event ?hg (N:=3) ?hd (cs:=#[.string a0_0,.int .u16 a0_1,.int .u16 a0_2,.bool a0_3]) (t:=28) ?hr ?_;(case hd=>rfl);(case hg=>rfl);(case hr=>first|(go_simp;done)|(go_simp;rfl));intro gb315 hg w19 hbox hb;have n0_:=qqm (below_step (by with_reducible repeat first|exact HB.out|apply qqf|apply qqd|apply qqe) hb);have n1_:=qqm (hbox);have n2_:=qqm ((by rw [hg];exact (below_size (by with_reducible repeat first|exact HB.out|apply qqf|apply qqd|apply qqe)):w.heap.size ≤ gb315));have n3_:=n2_;clear HB;have HB:=n0_;have BK315:=n1_;have GW315:=n2_;have GE315:=n3_;clear n0_ n1_ n2_ n3_ hb hbox hg)|((with_reducible refine gate_dst (N:=5) rfl ?_);(try (refine gate_guard (by rfl) ?_;dsimp only));refine box_event ?hg (N:=5) ?hd (cs:=#[.int .u16 a2_0,.int .u16 a2_1,.slice A2_2 l2_2.length c2_2,.slice A2_3 l2_3.length c2_3,.slice A2_4 l2_4.length c2_4,.slice A2_5 l2_5.length c2_5]) (t:=26) ?hr ?_;(case hd=>rfl);(case hg=>rfl);(case hr=>first|(go_simp;done)|(go_simp;rfl));intro gb316 hg w20 hbox hb;have n0_:=qqm (blk_below (g:=gb315) (o:=.cells #[.string a0_0,.int .u16 a0_1,.int .u16 a0_2,.bool a0_3] 28 (0,0)) (by (with_reducible repeat first|apply qqa|apply qqb|apply qqc);exact BK315.out) hb);have n1_:=qqm (below_step (by with_reducible repeat first|exact HB.out|apply qqf|apply qqd|apply qqe|refine qqg ?_ GE315.out) hb);have n2_:=qqm (hbox);have n3_:=qqm ((by rw [hg];exact (below_size (by with_reducible repeat first|exact HB.out|apply qqf|apply qqd|apply qqe|refine qqg ?_ GE315.out)):w.heap.size ≤ gb316));have n4_:=n3_;have n5_:=qqm ((by rw [hg];exact Nat.ne_of_lt (blk_lt (by (with_reducible repeat first|apply qqa|apply qqb|apply qqc);exact BK315.out)):gb315 ≠ gb316));have n6_:=qqm (Ne.symm n5_.out);clear BK315 HB;have BK315:=n0_;have HB:=n1_;have BK316:=n2_;have GW316:=n3_;have GE316:=n4_;have NB315_316:=n5_;have NB316_315:=n6_;clear n0_ n1_ n2_ n3_ n4_ n5_ n6_ hb hbox hg;have hnb21:=NB316_315.out;have hnc21:=NB315_316.out;obtain ⟨hcz22_0,hcz22_1,hcz22_2,hcz22_3,hcz22_4,hcz22_5⟩:=qc6 BK316.out;obtain ⟨hfz22_0,hfz22_1,hfz22_2,hfz22_3,hfz22_4,hfz22_5⟩:=qf6 BK316.out)|(go_at_call 36;(with_reducible refine (nuncioref08_qr.calls a2_1 true _ A5.out).mono ?_);rintro e w' ⟨rfl,⟨nd,rfl⟩⟩;(try (rw [drewN_self w20];generalize hq_:World.drewN w20 _ = w20;have n0_:Aside0 (w20.heap[gb315]? = some (.cells #[.string a0_0,.int .u16 a0_1,.int .u16 a0_2,.bool a0_3] 28 (0,0))):=⟨by rw [← hq_];exact (by (with_reducible repeat first|apply qqa|apply qqb|apply qqc);exact BK315.out)⟩;have n1_:Aside0 (w20.heap[gb316]? = some (.cells #[.int .u16 a2_0,.int .u16 a2_1,.slice A2_2 l2_2.length c2_2,.slice A2_3 l2_3.length c2_3,.slice A2_4 l2_4.length c2_4,.slice A2_5 l2_5.length c2_5] 26 (0,0))):=⟨by rw [← hq_];exact (by (with_reducible repeat first|apply qqa|apply qqb|apply qqc);exact BK316.out)⟩;have n2_:Aside0 (Below w.heap.size w w20):=⟨by rw [← hq_];exact (by with_reducible repeat first|exact HB.out|apply qqf|apply qqd|apply qqe|refine qqg ?_ GE315.out|refine qqg ?_ GE316.out)⟩;clear BK315 BK316 HB hq_;have BK315:=n0_;have BK316:=n1_;have HB:=n2_;clear n0_ n1_ n2_));(try have hcu315_0:w20.cell? ⟨gb315,0,none⟩ = some (.string a0_0):=(qqh BK315.out 0).trans rfl);(try have hcu315_1:w20.cell? ⟨gb315,1,none⟩ = some (.int .u16 a0_1):=(qqh BK315.out 1).trans rfl);(try have hcu315_2:w20.cell? ⟨gb315,2,none⟩ = some (.int .u16 a0_2):=(qqh BK315.out 2).trans rfl);(try have hcu315_3:w20.cell? ⟨gb315,3,none⟩ = some (.bool a0_3):=(qqh BK315.out 3).trans rfl);(try have hcu316_0:w20.cell? ⟨gb316,0,none⟩ = some (.int .u16 a2_0):=(qqh BK316.out 0).trans rfl);(try have hcu316_1:w20.cell? ⟨gb316,1,none⟩ = some (.int .u16 a2_1):=(qqh BK316.out 1).trans rfl);(try have hcu316_2:w20.cell? ⟨gb316,2,none⟩ = some (.slice A2_2 l2_2.length c2_2):=(qqh BK316.out 2).trans rfl);(try have hcu316_3:w20.cell? ⟨gb316,3,none⟩ = some (.slice A2_3 l2_3.length c2_3):=(qqh BK316.out 3).trans rfl);(try have hcu316_4:w20.cell? ⟨gb316,4,none⟩ = some (.slice A2_4 l2_4.length c2_4):=(qqh BK316.out 4).trans rfl);(try have hcu316_5:w20.cell? ⟨gb316,5,none⟩ = some (.slice A2_5 l2_5.length c2_5):=(qqh BK316.out 5).trans rfl))|(go_at_call 37;(with_reducible refine (nuncioref08_opcode.calls a2_1 t318 _ A12.out).mono ?_);rintro e w' ⟨rfl,⟨nd,rfl⟩⟩;(try (rw [drewN_self w20];generalize hq_:World.drewN w20 _ = w20;have n0_:Aside0 (w20.heap[gb315]? = some (.cells #[.string a0_0,.int .u16 a0_1,.int .u16 a0_2,.bool a0_3] 28 (0,0))):=⟨by rw [← hq_];exact (by (with_reducible repeat first|apply qqa|apply qqb|apply qqc);exact BK315.out)⟩;have n1_:Aside0 (w20.heap[gb316]? = some (.cells #[.int .u16 a2_0,.int .u16 a2_1,.slice A2_2 l2_2.length c2_2,.slice A2_3 l2_3.length c2_3,.slice A2_4 l2_4.length c2_4,.slice A2_5 l2_5.length c2_5] 26 (0,0))):=⟨by rw [← hq_];exact (by (with_reducible repeat first|apply qqa|apply qqb|apply qqc);exact BK316.out)⟩;have n2_:Aside0 (Below w.heap.size w w20):=⟨by rw [← hq_];exact (by with_reducible repeat first|exact HB.out|apply qqf|apply qqd|apply qqe|refine qqg ?_ GE315.out|refine qqg ?_ GE316.out)⟩;clear BK315 BK316 HB hq_;have BK315:=n0_;have BK316:=n1_;have HB:=n2_;clear n0_ n1_ n2_));(try have hcu315_0:w20.cell? ⟨gb315,0,none⟩ = some (.string a0_0):=(qqh BK315.out 0).trans rfl);(try have hcu315_1:w20.cell? ⟨gb315,1,none⟩ = some (.int .u16 a0_1):=(qqh BK315.out 1).trans rfl);(try have hcu315_2:w20.cell? ⟨gb315,2,none⟩ = some (.int .u16 a0_2):=(qqh BK315.out 2).trans rfl);(try have hcu315_3:w20.cell? ⟨gb315,3,none⟩ = some (.bool a0_3):=(qqh BK315.out 3).trans rfl);(try have hcu316_0:w20.cell? ⟨gb316,0,none⟩ = some (.int .u16 a2_0):=(qqh BK316.out 0).trans rfl);(try have hcu316_1:w20.cell? ⟨gb316,1,none⟩ = some (.int .u16 a2_1):=(qqh BK316.out 1).trans rfl);(try have hcu316_2:w20.cell? ⟨gb316,2,none⟩ = some (.slice A2_2 l2_2.length c2_2):=(qqh BK316.out 2).trans rfl);(try have hcu316_3:w20.cell? ⟨gb316,3,none⟩ = some (.slice A2_3 l2_3.length c2_3):=(qqh BK316.out 3).trans rfl);(try have hcu316_4:w20.cell? ⟨gb316,4,none⟩ = some (.slice A2_4 l2_4.length c2_4):=(qqh BK316.out 4).trans rfl);(try have hcu316_5:w20.cell? ⟨gb316,5,none⟩ = some (.slice A2_5 l2_5.length c2_5):=(qqh BK316.out 5).trans rfl);have p319:0 ≤ (0:Int):=(by omega);have q319:0 < (l2_2.length:Int):=of_decide_eq_true (by first|(with_reducible assumption)|assumption);obtain ⟨ad319,e319,hx319_0,hx319_1,hx319_2⟩:=at_T53 HR2_2.out 0 p319 q319;cases e319;have qi319:(0 < l2_2.length) = True:=eq_true (by omega);(try rw [show ((0:Int)).toNat = 0 from rfl] at hx319_0);(try rw [show 0 * 3 = 0 from rfl] at hx319_0);(try rw [Addr.add_zero'] at hx319_0);(try rw [show ((0:Int)).toNat = 0 from rfl] at hx319_1);(try rw [show 0 * 3 = 0 from rfl] at hx319_1);(try rw [Addr.add_zero'] at hx319_1);(try rw [show ((0:Int)).toNat = 0 from rfl] at hx319_2);(try rw [show 0 * 3 = 0 from rfl] at hx319_2);(try rw [Addr.add_zero'] at hx319_2);replace hx319_0:=qqo HB.out hx319_0;replace hx319_1:=qqo HB.out hx319_1;replace hx319_2:=qqo HB.out hx319_2;replace p319:=eq_true p319;replace q319:=eq_true q319)|((with_reducible refine gate_dst (N:=7) rfl ?_);(try (refine gate_guard (by rfl) ?_;dsimp only));refine box_event ?hg (N:=7) ?hd (cs:=#[.string (⟨#[]⟩:ByteArray),.int .u16 0,.int .u16 0]) (t:=53) ?hr ?_;(case hd=>rfl);(case hg=>rfl);(case hr=>first|(go_simp;done)|(go_simp;rfl));intro gb320 hg w23 hbox hb;have n0_:=qqm (blk_below (g:=gb315) (o:=.cells #[.string a0_0,.int .u16 a0_1,.int .u16 a0_2,.bool a0_3] 28 (0,0)) (by (with_reducible repeat first|apply qqa|apply qqb|apply qqc);exact BK315.out) hb);have n1_:=qqm (blk_below (g:=gb316) (o:=.cells #[.int .u16 a2_0,.int .u16 a2_1,.slice (some ad319) l2_2.length c2_2,.slice A2_3 l2_3.length c2_3,.slice A2_4 l2_4.length c2_4,.slice A2_5 l2_5.length c2_5] 26 (0,0)) (by (with_reducible repeat first|apply qqa|apply qqb|apply qqc);exact BK316.out) hb);have n2_:=qqm (below_step (by with_reducible repeat first|exact HB.out|apply qqf|apply qqd|apply qqe|refine qqg ?_ GE315.out|refine qqg ?_ GE316.out) hb);have n3_:=qqm (hbox);have n4_:=qqm ((by rw [hg];exact (below_size (by with_reducible repeat first|exact HB.out|apply qqf|apply qqd|apply qqe|refine qqg ?_ GE315.out|refine qqg ?_ GE316.out)):w.heap.size ≤ gb320));have n5_:=n4_;have n6_:=qqm ((by rw [hg];exact Nat.ne_of_lt (blk_lt (by (with_reducible repeat first|apply qqa|apply qqb|apply qqc);exact BK315.out)):gb315 ≠ gb320));have n7_:=qqm (Ne.symm n6_.out);have n8_:=qqm ((by rw [hg];exact Nat.ne_of_lt (blk_lt (by (with_reducible repeat first|apply qqa|apply qqb|apply qqc);exact BK316.out)):gb316 ≠ gb320));have n9_:=qqm (Ne.symm n8_.out);clear BK315 BK316 HB;have BK315:=n0_;have BK316:=n1_;have HB:=n2_;have BK320:=n3_;have GW320:=n4_;have GE320:=n5_;have NB315_320:=n6_;have NB320_315:=n7_;have NB316_320:=n8_;have NB320_316:=n9_;clear n0_ n1_ n2_ n3_ n4_ n5_ n6_ n7_ n8_ n9_ hb hbox hg;have hnb24:=NB320_315.out;have hnc24:=NB315_320.out;have hnb25:=NB320_316.out;have hnc25:=NB316_320.out;obtain ⟨hcz26_0,hcz26_1,hcz26_2⟩:=qc3 BK320.out;obtain ⟨hfz26_0,hfz26_1,hfz26_2⟩:=qf3 BK320.out))
 have n0_:Aside0 ((((w23.setCell ⟨gb320,0,none⟩ (.string ((rd_T53 l2_2 0).f0))).setCell ⟨gb320,1,none⟩ (.int .u16 ((rd_T53 l2_2 0).f1))).setCell ⟨gb320,2,none⟩ (.int .u16 ((rd_T53 l2_2 0).f2))).heap[gb315]? = some (.cells #[.string a0_0,.int .u16 a0_1,.int .u16 a0_2,.bool a0_3] 28 (0,0))):=⟨by (with_reducible repeat first|apply qqa|apply qqb|apply qqc);refine blk_far ?_ NB315_320.out _;(with_reducible repeat first|apply qqa|apply qqb|apply qqc);refine blk_far ?_ NB315_320.out _;(with_reducible repeat first|apply qqa|apply qqb|apply qqc);refine blk_far ?_ NB315_320.out _;(with_reducible repeat first|apply qqa|apply qqb|apply qqc);exact BK315.out⟩
 have n1_:Aside0 ((((w23.setCell ⟨gb320,0,none⟩ (.string ((rd_T53 l2_2 0).f0))).setCell ⟨gb320,1,none⟩ (.int .u16 ((rd_T53 l2_2 0).f1))).setCell ⟨gb320,2,none⟩ (.int .u16 ((rd_T53 l2_2 0).f2))).heap[gb316]? = some (.cells #[.int .u16 a2_0,.int .u16 a2_1,.slice (some ad319) l2_2.length c2_2,.slice A2_3 l2_3.length c2_3,.slice A2_4 l2_4.length c2_4,.slice A2_5 l2_5.length c2_5] 26 (0,0))):=⟨by (with_reducible repeat first|apply qqa|apply qqb|apply qqc);refine blk_far ?_ NB316_320.out _;(with_reducible repeat first|apply qqa|apply qqb|apply qqc);refine blk_far ?_ NB316_320.out _;(with_reducible repeat first|apply qqa|apply qqb|apply qqc);refine blk_far ?_ NB316_320.out _;(with_reducible repeat first|apply qqa|apply qqb|apply qqc);exact BK316.out⟩
 have n2_:Aside0 ((((w23.setCell ⟨gb320,0,none⟩ (.string ((rd_T53 l2_2 0).f0))).setCell ⟨gb320,1,none⟩ (.int .u16 ((rd_T53 l2_2 0).f1))).setCell ⟨gb320,2,none⟩ (.int .u16 ((rd_T53 l2_2 0).f2))).heap[gb320]? = some (.cells #[.string ((rd_T53 l2_2 0).f0),.int .u16 ((rd_T53 l2_2 0).f1),.int .u16 ((rd_T53 l2_2 0).f2)] 53 (0,0))):=⟨by (with_reducible repeat first|apply qqa|apply qqb|apply qqc);refine blk_put (cs:=#[.string ((rd_T53 l2_2 0).f0),.int .u16 ((rd_T53 l2_2 0).f1),.int .u16 0]) ?_ 2 _ rfl;(with_reducible repeat first|apply qqa|apply qqb|apply qqc);refine blk_put (cs:=#[.string ((rd_T53 l2_2 0).f0),.int .u16 0,.int .u16 0]) ?_ 1 _ rfl;(with_reducible repeat first|apply qqa|apply qqb|apply qqc);refine blk_put (cs:=#[.string (⟨#[]⟩:ByteArray),.int .u16 0,.int .u16 0]) ?_ 0 _ rfl;(with_reducible repeat first|apply qqa|apply qqb|apply qqc);exact BK320.out⟩
 have n3_:Aside0 (Below w.heap.size w (((w23.setCell ⟨gb320,0,none⟩ (.string ((rd_T53 l2_2 0).f0))).setCell ⟨gb320,1,none⟩ (.int .u16 ((rd_T53 l2_2 0).f1))).setCell ⟨gb320,2,none⟩ (.int .u16 ((rd_T53 l2_2 0).f2)))):=⟨by with_reducible repeat first|exact HB.out|apply qqf|apply qqd|apply qqe|refine qqg ?_ GE315.out|refine qqg ?_ GE316.out|refine qqg ?_ GE320.out⟩
 (try clear BK315)
 (try clear BK316)
 (try clear BK320)
 (try clear HB)
 generalize (((w23.setCell ⟨gb320,0,none⟩ (.string ((rd_T53 l2_2 0).f0))).setCell ⟨gb320,1,none⟩ (.int .u16 ((rd_T53 l2_2 0).f1))).setCell ⟨gb320,2,none⟩ (.int .u16 ((rd_T53 l2_2 0).f2))) = w27 at n0_ n1_ n2_ n3_ ⊢
 have BK315:=n0_
 have BK316:=n1_
 have BK320:=n2_
 have HB:=n3_
 clear n0_ n1_ n2_ n3_
 have n0_:=qqm (qqb BK315.out)
 have n1_:=qqm (qqb BK316.out)
 have n2_:=qqm (qqb BK320.out)
 have n3_:=qqm (qqe HB.out)
 clear BK315
 clear BK316
 clear BK320
 clear HB
 have BK315:=n0_
 have BK316:=n1_
 have BK320:=n2_
 have HB:=n3_
 clear n0_ n1_ n2_ n3_
 refine start_ (n:=21) (S:=fun w'=>w'.cell? ⟨gb320,0,none⟩ = some (.string ((rd_T53 l2_2 0).f0))∧w'.cell? ⟨gb320,1,none⟩ = some (.int .u16 ((rd_T53 l2_2 0).f1))∧w'.cell? ⟨gb320,2,none⟩ = some (.int .u16 ((rd_T53 l2_2 0).f2))∧w'.cell? ⟨gb315,0,none⟩ = some (.string a0_0)∧w'.cell? ⟨gb315,1,none⟩ = some (.int .u16 a0_1)∧w'.cell? ⟨gb315,2,none⟩ = some (.int .u16 a0_2)∧w'.cell? ⟨gb315,3,none⟩ = some (.bool a0_3)) (ds:=[]) (qqz 21 0) (by kernel_rfl) rfl rfl ⟨(qqh BK320.out 0).trans rfl,(qqh BK320.out 1).trans rfl,(qqh BK320.out 2).trans rfl,(qqh BK315.out 0).trans rfl,(qqh BK315.out 1).trans rfl,(qqh BK315.out 2).trans rfl,(qqh BK315.out 3).trans rfl⟩ (fun hHeld=>?_);refine with_tabW nuncioref08_Fits.tab4 nuncioref08_Fits.bits4 (fun HT_ HW_=>?_)
 generalize w27.drew = w28 at BK315 BK316 BK320 HB hHeld ⊢
 refine pure_ (i:=0) (N:=some 41) (qqz 21 1) rfl rfl (any_of HT_.out (by kernel_rfl)) (fun _ _ _ h=>h) (Or.inl ⟨by rfl,by intro w';go_simp;with_reducible rfl⟩) (by simp only [Act.put,qqj,qqk,qql,i64_w,i32_w];rfl) ?_
 refine pure_ (i:=3) (N:=some 44) (qqz 21 9) rfl rfl (any_of HT_.out (by kernel_rfl)) (fun _ _ _ h=>h) (Or.inl ⟨by rfl,by intro w';go_simp;with_reducible rfl⟩) (by simp only [Act.put,qqj,qqk,qql,i64_w,i32_w];rfl) ?_
 refine take_ (i:=1) (N:=some 42) (qqz 21 11) rfl rfl (take_ofW HT_.out HW_.out (by kernel_rfl)) (fun _ _ _ h=>h) (Or.inl ⟨by rfl,by rintro w' ⟨s0,s1,s2,s3,s4,s5,s6⟩;go_simp;with_reducible rfl⟩) hHeld (by simp only [Act.put,qqj,qqk,qql,i64_w,i32_w];rfl) ?_
 refine take_ (i:=4) (N:=some 45) (qqz 21 27) rfl rfl (take_ofW HT_.out HW_.out (by kernel_rfl)) (fun _ _ _ h=>h) (Or.inl ⟨by rfl,by rintro w' ⟨s0,s1,s2,s3,s4,s5,s6⟩;go_simp;with_reducible rfl⟩) hHeld (by simp only [Act.put,qqj,qqk,qql,i64_w,i32_w];rfl) ?_
 refine one_ (i:=2) (N:=some 43) (qqz 21 31) rfl rfl (one_of HT_.out (by kernel_rfl)) (by decide) (fun K hK=>?_)
 refine goes_ Try.func30 (by kernel_rfl) rfl #[.string ((rd_T53 l2_2 0).f0)] (by rfl) rfl rfl (by (try simp only [List.map_toArray,List.map_cons,List.map_nil]);first|done|rfl|(simp only [List.length_drop,List.length_take];rfl)) ?_
 with_reducible refine (nuncioref04_Fold.calls k ((rd_T53 l2_2 0).f0) t321 _ A16.out).mono ?_
 rintro e w29 ⟨rfl,hb⟩
 refine ⟨_,rfl,?_⟩
 have n0_:=qqm (blk_below (g:=gb315) (o:=.cells #[.string a0_0,.int .u16 a0_1,.int .u16 a0_2,.bool a0_3] 28 (0,0)) (by (with_reducible repeat first|apply qqa|apply qqb|apply qqc);exact BK315.out) hb)
 have n1_:=qqm (blk_below (g:=gb316) (o:=.cells #[.int .u16 a2_0,.int .u16 a2_1,.slice (some ad319) l2_2.length c2_2,.slice A2_3 l2_3.length c2_3,.slice A2_4 l2_4.length c2_4,.slice A2_5 l2_5.length c2_5] 26 (0,0)) (by (with_reducible repeat first|apply qqa|apply qqb|apply qqc);exact BK316.out) hb)
 have n2_:=qqm (blk_below (g:=gb320) (o:=.cells #[.string ((rd_T53 l2_2 0).f0),.int .u16 ((rd_T53 l2_2 0).f1),.int .u16 ((rd_T53 l2_2 0).f2)] 53 (0,0)) (by (with_reducible repeat first|apply qqa|apply qqb|apply qqc);exact BK320.out) hb)
 have n3_:=qqm (below_step (by with_reducible repeat first|exact HB.out|apply qqf|apply qqd|apply qqe|refine qqg ?_ GE315.out|refine qqg ?_ GE316.out|refine qqg ?_ GE320.out) hb)
 clear BK315
 clear BK316
 clear BK320
 clear HB
 have BK315:=n0_
 have BK316:=n1_
 have BK320:=n2_
 have HB:=n3_
 clear n0_ n1_ n2_ n3_
 (try clear hb)
 (try clear hb2)
 (try clear hk)
 (try clear hi)
 refine hK.out _ _ ⟨(qqh BK320.out 0).trans rfl,(qqh BK320.out 1).trans rfl,(qqh BK320.out 2).trans rfl,(qqh BK315.out 0).trans rfl,(qqh BK315.out 1).trans rfl,(qqh BK315.out 2).trans rfl,(qqh BK315.out 3).trans rfl⟩ (fun hHeld=>?_)
 clear hK K
 refine norm_ (a':=?_) ?_ ?_
 rotate_left
 ·
  show Act.put _ (some 43) _ = _
  simp only [Act.put,qqj,qqk,qql,i64_w,i32_w]
  rfl
 refine pure_ (i:=5) (N:=some 46) (qqz 21 63) rfl rfl (any_of HT_.out (by kernel_rfl)) (fun _ _ _ h=>h) (Or.inl ⟨by rfl,by intro w';go_simp;with_reducible rfl⟩) (by simp only [Act.put,qqj,qqk,qql,i64_w,i32_w];rfl) ?_
 refine pure_ (i:=6) (N:=some 47) (qqz 21 127) rfl rfl (any_of HT_.out (by kernel_rfl)) (fun _ _ _ h=>h) (Or.inl ⟨by rfl,by intro w';go_simp;with_reducible rfl⟩) (by simp only [Act.put,qqj,qqk,qql,i64_w,i32_w];rfl) ?_
 refine pure_ (i:=7) (N:=some 48) (qqz 21 255) rfl rfl (any_of HT_.out (by kernel_rfl)) (fun _ _ _ h=>h) (Or.inl ⟨by rfl,by intro w';go_simp;with_reducible rfl⟩) (by simp only [Act.put,qqj,qqk,qql,i64_w,i32_w];rfl) ?_
 refine pure_ (i:=9) (N:=some 50) (qqz 21 767) rfl rfl (any_of HT_.out (by kernel_rfl)) (fun _ _ _ h=>h) (Or.inl ⟨by rfl,by intro w';go_simp;with_reducible rfl⟩) (by simp only [Act.put,qqj,qqk,qql,i64_w,i32_w];rfl) ?_
 refine take_ (i:=8) (N:=some 49) (qqz 21 1023) rfl rfl (take_ofW HT_.out HW_.out (by kernel_rfl)) (fun _ _ _ h=>h) (Or.inl ⟨by rfl,by rintro w' ⟨s0,s1,s2,s3,s4,s5,s6⟩;go_simp;with_reducible rfl⟩) hHeld (by simp only [Act.put,qqj,qqk,qql,i64_w,i32_w];rfl) ?_
 refine take_ (i:=10) (N:=some 51) (qqz 21 2047) rfl rfl (take_ofW HT_.out HW_.out (by kernel_rfl)) (fun _ _ _ h=>h) (Or.inl ⟨by rfl,by rintro w' ⟨s0,s1,s2,s3,s4,s5,s6⟩;go_simp;with_reducible rfl⟩) hHeld (by simp only [Act.put,qqj,qqk,qql,i64_w,i32_w];rfl) ?_
 refine pure_ (i:=11) (N:=some 52) (qqz 21 4095) rfl rfl (any_of HT_.out (by kernel_rfl)) (fun _ _ _ h=>h) (Or.inl ⟨by rfl,by intro w';go_simp;with_reducible rfl⟩) (by simp only [Act.put,qqj,qqk,qql,i64_w,i32_w];rfl) ?_
 refine pure_ (i:=12) (N:=some 53) (qqz 21 8191) rfl rfl (any_of HT_.out (by kernel_rfl)) (fun _ _ _ h=>h) (Or.inl ⟨by rfl,by intro w';go_simp;with_reducible rfl⟩) (by simp only [Act.put,qqj,qqk,qql,i64_w,i32_w];rfl) ?_
 refine pure_ (i:=13) (N:=some 54) (qqz 21 16383) rfl rfl (any_of HT_.out (by kernel_rfl)) (fun _ _ _ h=>h) (Or.inl ⟨by rfl,by intro w';go_simp;with_reducible rfl⟩) (by simp only [Act.put,qqj,qqk,qql,i64_w,i32_w];rfl) ?_
 refine pure_ (i:=14) (N:=some 55) (qqz 21 32767) rfl rfl (any_of HT_.out (by kernel_rfl)) (fun _ _ _ h=>h) (Or.inl ⟨by rfl,by intro w';go_simp;with_reducible rfl⟩) (by simp only [Act.put,qqj,qqk,qql,i64_w,i32_w];rfl) ?_
 refine pure_ (i:=16) (N:=some 57) (qqz 21 98303) rfl rfl (any_of HT_.out (by kernel_rfl)) (fun _ _ _ h=>h) (Or.inl ⟨by rfl,by intro w';go_simp;with_reducible rfl⟩) (by simp only [Act.put,qqj,qqk,qql,i64_w,i32_w];rfl) ?_
 refine take_ (i:=15) (N:=some 56) (qqz 21 131071) rfl rfl (take_ofW HT_.out HW_.out (by kernel_rfl)) (fun _ _ _ h=>h) (Or.inl ⟨by rfl,by rintro w' ⟨s0,s1,s2,s3,s4,s5,s6⟩;go_simp;with_reducible rfl⟩) hHeld (by simp only [Act.put,qqj,qqk,qql,i64_w,i32_w];rfl) ?_
 refine take_ (i:=17) (N:=some 58) (qqz 21 262143) rfl rfl (take_ofW HT_.out HW_.out (by kernel_rfl)) (fun _ _ _ h=>h) (Or.inl ⟨by rfl,by rintro w' ⟨s0,s1,s2,s3,s4,s5,s6⟩;go_simp;with_reducible rfl⟩) hHeld (by simp only [Act.put,qqj,qqk,qql,i64_w,i32_w];rfl) ?_
 refine pure_ (i:=18) (N:=some 59) (qqz 21 524287) rfl rfl (any_of HT_.out (by kernel_rfl)) (fun _ _ _ h=>h) (Or.inl ⟨by rfl,by intro w';go_simp;with_reducible rfl⟩) (by simp only [Act.put,qqj,qqk,qql,i64_w,i32_w];rfl) ?_
 refine pure_ (i:=19) (N:=some 60) (qqz 21 1048575) rfl rfl (any_of HT_.out (by kernel_rfl)) (fun _ _ _ h=>h) (Or.inl ⟨by rfl,by intro w';go_simp;with_reducible rfl⟩) (by simp only [Act.put,qqj,qqk,qql,i64_w,i32_w];rfl) ?_
 refine pure_ (i:=20) (N:=some 6) (qqz 21 2097151) rfl rfl (any_of HT_.out (by kernel_rfl)) (fun _ _ _ h=>h) (Or.inl ⟨by rfl,by intro w';go_simp;with_reducible rfl⟩) (by simp only [Act.put,qqj,qqk,qql,i64_w,i32_w];rfl) ?_
 refine done_ (done_of HT_.out (by kernel_rfl)) ?_
 try go_wp2
 go_ret
 exact ⟨by first|rfl|(simp [errW_none,errW_some] <;> rfl)|(simp [*,errW_none,errW_some] <;> rfl),by with_reducible repeat first|exact HB.out|apply qqf|apply qqd|apply qqe|refine qqg ?_ GE315.out|refine qqg ?_ GE316.out|refine qqg ?_ GE320.out⟩

end Go.Proofs.Ythkdfnbhlinhiaa.Mine
