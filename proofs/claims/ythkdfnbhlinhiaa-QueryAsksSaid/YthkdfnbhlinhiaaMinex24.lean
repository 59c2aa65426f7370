-- Written by this repo's own printer (wip/print), which builds on the kit's.
import Derived.Test.YthkdfnbhlinhiaaMinex0
import Derived.Test.YthkdfnbhlinhiaaMinex20
import Derived.Test.YthkdfnbhlinhiaaMinex22
import Derived.Test.YthkdfnbhlinhiaaMinex23
namespace Go.Proofs.Ythkdfnbhlinhiaa.Mine
open Go.RowKit Go.Proofs.YthkdfnbhlinhiaaW.PrintWords Go.Proofs.YthkdfnbhlinhiaaW.PrintLast Go.Proofs.YthkdfnbhlinhiaaW.PrintMore
attribute [local go_sem] max2_int min2_int max_two min_two max_three min_three max_four min_four   -- for this text's walks alone
set_option linter.unusedVariables false
set_option linter.unusedSimpArgs false

/-! ### nuncioref08_Ask: function 12 -/
mutual
def nuncioref08_Ask.j0 : Nat → Bool → Int → Int → List (S53) → List (S51) → List (S51) → List (S51) → Option (ByteArray × Int × Int × Bool × Int)
 | 0, _, _, _, _, _, _, _ => none
 | k + 1, x31, x277000, x277001, x277002, x277003, x277004, x277005 => if x31 = true then (some ((⟨#[]⟩ : ByteArray), 0, 0, false, 107)) else (if 0 < (x277002.length : Int) then (if ((rd_T53 x277002 0).f1) = 41 then (nuncioref08_Ask.j1 k true x277000 x277001 x277002 x277003 x277004 x277005 ((rd_T53 x277002 0).f0) ((rd_T53 x277002 0).f1) ((rd_T53 x277002 0).f2)) else ((nuncioref04_Is.f k ((rd_T53 x277002 0).f0)).bind fun t282 => (nuncioref08_Ask.j1 k (!t282) x277000 x277001 x277002 x277003 x277004 x277005 ((rd_T53 x277002 0).f0) ((rd_T53 x277002 0).f1) ((rd_T53 x277002 0).f2)))) else (none))
def nuncioref08_Ask.j1 : Nat → Bool → Int → Int → List (S53) → List (S51) → List (S51) → List (S51) → ByteArray → Int → Int → Option (ByteArray × Int × Int × Bool × Int)
 | 0, _, _, _, _, _, _, _, _, _, _ => none
 | k + 1, x45, x277000, x277001, x277002, x277003, x277004, x277005, x282000, x282001, x282002 => if x45 = true then (some ((⟨#[]⟩ : ByteArray), 0, 0, false, 107)) else ((nuncioref04_Fold.f k x282000).bind fun t283 => ((nuncioref08_DO.f k x277000 x277001 x277002 x277003 x277004 x277005).bind fun t284 => (some (t283, x282001, x282002, t284, 0))))
end
def nuncioref08_Ask.f (k : Nat) (a0_0 : Int) (a0_1 : Int) (l0_2 : List (S53)) (l0_3 : List (S51)) (l0_4 : List (S51)) (l0_5 : List (S51)) : Option (ByteArray × Int × Int × Bool × Int) := (nuncioref08_qr.f a0_1).bind fun t278 => (if t278 = true then (nuncioref08_Ask.j0 k true a0_0 a0_1 l0_2 l0_3 l0_4 l0_5) else ((nuncioref08_opcode.f a0_1).bind fun t279 => (if t279 = 0 then (if (l0_2.length : Int) = 1 then (if (l0_3.length : Int) > 0 then (nuncioref08_Ask.j0 k true a0_0 a0_1 l0_2 l0_3 l0_4 l0_5) else (nuncioref08_Ask.j0 k (decide ((l0_4.length : Int) > 0)) a0_0 a0_1 l0_2 l0_3 l0_4 l0_5)) else (nuncioref08_Ask.j0 k true a0_0 a0_1 l0_2 l0_3 l0_4 l0_5)) else (nuncioref08_Ask.j0 k true a0_0 a0_1 l0_2 l0_3 l0_4 l0_5))))
theorem nuncioref08_Ask.mono_l : ∀ k, (∀ y0 y1 y2 y3 y4 y5 y6, LeO (nuncioref08_Ask.j0 k y0 y1 y2 y3 y4 y5 y6) (nuncioref08_Ask.j0 (k + 1) y0 y1 y2 y3 y4 y5 y6)) ∧ (∀ y0 y1 y2 y3 y4 y5 y6 y7 y8 y9, LeO (nuncioref08_Ask.j1 k y0 y1 y2 y3 y4 y5 y6 y7 y8 y9) (nuncioref08_Ask.j1 (k + 1) y0 y1 y2 y3 y4 y5 y6 y7 y8 y9))
 | 0 => ⟨fun _ _ _ _ _ _ _ r h => by simp [nuncioref08_Ask.j0] at h, fun _ _ _ _ _ _ _ _ _ _ r h => by simp [nuncioref08_Ask.j1] at h⟩
 | k + 1 => by
  obtain ⟨ih0,ih1⟩:=nuncioref08_Ask.mono_l k
  refine ⟨?_,?_⟩
  ·
   intro y0 y1 y2 y3 y4 y5 y6
   unfold nuncioref08_Ask.j0
   repeat' first
   | (with_reducible exact ih0 _ _ _ _ _ _ _)
   | (with_reducible exact ih1 _ _ _ _ _ _ _ _ _ _)
   | (with_reducible exact nuncioref04_Fold.mono _ _)
   | (with_reducible exact nuncioref04_Is.mono _ _)
   | (with_reducible exact nuncioref08_DO.mono _ _ _ _ _ _ _)
   | (with_reducible exact LeO.refl _)
   | (with_reducible exact LeO.none _)
   | (with_reducible refine LeO.ite ?_ ?_)
   | (with_reducible refine LeO.bind ?_ (fun _ => ?_))
   | exact ih0 _ _ _ _ _ _ _
   | exact ih1 _ _ _ _ _ _ _ _ _ _
   | exact nuncioref04_Fold.mono _ _
   | exact nuncioref04_Is.mono _ _
   | exact nuncioref08_DO.mono _ _ _ _ _ _ _
   | exact LeO.none _
   | refine LeO.ite ?_ ?_
   | refine LeO.bind ?_ (fun _ => ?_)
  ·
   intro y0 y1 y2 y3 y4 y5 y6 y7 y8 y9
   unfold nuncioref08_Ask.j1
   repeat' first
   | (with_reducible exact ih0 _ _ _ _ _ _ _)
   | (with_reducible exact ih1 _ _ _ _ _ _ _ _ _ _)
   | (with_reducible exact nuncioref04_Fold.mono _ _)
   | (with_reducible exact nuncioref04_Is.mono _ _)
   | (with_reducible exact nuncioref08_DO.mono _ _ _ _ _ _ _)
   | (with_reducible exact LeO.refl _)
   | (with_reducible exact LeO.none _)
   | (with_reducible refine LeO.ite ?_ ?_)
   | (with_reducible refine LeO.bind ?_ (fun _ => ?_))
   | exact ih0 _ _ _ _ _ _ _
   | exact ih1 _ _ _ _ _ _ _ _ _ _
   | exact nuncioref04_Fold.mono _ _
   | exact nuncioref04_Is.mono _ _
   | exact nuncioref08_DO.mono _ _ _ _ _ _ _
   | exact LeO.none _
   | refine LeO.ite ?_ ?_
   | refine LeO.bind ?_ (fun _ => ?_)
theorem nuncioref08_Ask.mono : ∀ a0 a1 a2 a3 a4 a5 k, LeO (nuncioref08_Ask.f k a0 a1 a2 a3 a4 a5) (nuncioref08_Ask.f (k + 1) a0 a1 a2 a3 a4 a5) := by
 intro a0 a1 a2 a3 a4 a5 k
 obtain ⟨ih0,ih1⟩:=nuncioref08_Ask.mono_l k
 unfold nuncioref08_Ask.f
 repeat' first
   | (with_reducible exact ih0 _ _ _ _ _ _ _)
   | (with_reducible exact ih1 _ _ _ _ _ _ _ _ _ _)
   | (with_reducible exact nuncioref04_Fold.mono _ _)
   | (with_reducible exact nuncioref04_Is.mono _ _)
   | (with_reducible exact nuncioref08_DO.mono _ _ _ _ _ _ _)
   | (with_reducible exact LeO.refl _)
   | (with_reducible exact LeO.none _)
   | (with_reducible refine LeO.ite ?_ ?_)
   | (with_reducible refine LeO.bind ?_ (fun _ => ?_))
   | exact ih0 _ _ _ _ _ _ _
   | exact ih1 _ _ _ _ _ _ _ _ _ _
   | exact nuncioref04_Fold.mono _ _
   | exact nuncioref04_Is.mono _ _
   | exact nuncioref08_DO.mono _ _ _ _ _ _ _
   | exact LeO.none _
   | refine LeO.ite ?_ ?_
   | refine LeO.bind ?_ (fun _ => ?_)
def nuncioref08_Ask.T6 : Bool × List (List Nat × List Nat) := (true, [([], []), ([0], [0]), ([1], [1]), ([], []), ([3], [3]), ([], []), ([5], [5]), ([], []), ([7, 2], [7]), ([2, 4, 6, 8], [2, 4, 6, 8]), ([9, 8, 0, 1, 2, 3, 4, 5, 6, 7, 8, 9], [9]), ([10, 0, 1, 2, 3, 4, 5, 6, 7, 8, 9, 10], [])])
def nuncioref08_Ask.B6 : List Nat := [0, 1, 3, 0, 8, 0, 32, 0, 135, 511, 1023, 2047]
theorem nuncioref08_Ask.tab6 : rtab .any (opsOf Try.f12 6) = nuncioref08_Ask.T6 := by kernel_rfl
theorem nuncioref08_Ask.bits6 : waitsOk nuncioref08_Ask.T6.2 nuncioref08_Ask.B6 = true := by kernel_rfl
set_option maxHeartbeats 8000000 in
set_option maxRecDepth 100000 in
theorem nuncioref08_Ask.calls (k : Nat) (a0_0 : Int) (a0_1 : Int) (A0_2 : Option Addr) (c0_2 : Nat) (l0_2 : List (S53)) (A0_3 : Option Addr) (c0_3 : Nat) (l0_3 : List (S51)) (A0_4 : Option Addr) (c0_4 : Nat) (l0_4 : List (S51)) (A0_5 : Option Addr) (c0_5 : Nat) (l0_5 : List (S51)) (r1 : ByteArray) (r2 : Int) (r3 : Int) (r4 : Bool) (r5 : Int) (w : World) (hr0_2 : Kd.C k53 w A0_2 l0_2.length l0_2) (hc0_2 : l0_2.length ≤ c0_2) (hr0_3 : Kd.C k51 w A0_3 l0_3.length l0_3) (hc0_3 : l0_3.length ≤ c0_3) (hr0_4 : Kd.C k51 w A0_4 l0_4.length l0_4) (hc0_4 : l0_4.length ≤ c0_4) (hr0_5 : Kd.C k51 w A0_5 l0_5.length l0_5) (hc0_5 : l0_5.length ≤ c0_5) (h : nuncioref08_Ask.f k a0_0 a0_1 l0_2 l0_3 l0_4 l0_5 = some (r1, r2, r3, r4, r5)) :
  Calls Try.prog 12 #[.agg #[.int .u16 a0_0,.int .u16 a0_1,.slice A0_2 l0_2.length c0_2,.slice A0_3 l0_3.length c0_3,.slice A0_4 l0_4.length c0_4,.slice A0_5 l0_5.length c0_5]] w fun e w'=>e = .returned (.tuple #[.agg #[.string r1,.int .u16 r2,.int .u16 r3,.bool r4],.int .i64 r5])∧Below w.heap.size w w':=by
 have hu26:=Try.underlying26
 have hu28:=Try.underlying28
 have hu53:=Try.underlying53
 have HR0_2:=qqm hr0_2
 have HC0_2:=qqm hc0_2
 clear hr0_2 hc0_2
 have HR0_3:=qqm hr0_3
 have HC0_3:=qqm hc0_3
 clear hr0_3 hc0_3
 have HR0_4:=qqm hr0_4
 have HC0_4:=qqm hc0_4
 clear hr0_4 hc0_4
 have HR0_5:=qqm hr0_5
 have HC0_5:=qqm hc0_5
 clear hr0_5 hc0_5
 have HB:=qqm (Below.refl w.heap.size w)
 have H:((nuncioref08_qr.f a0_1).bind fun t278=>(if t278 = true then (nuncioref08_Ask.j0 k true a0_0 a0_1 l0_2 l0_3 l0_4 l0_5) else ((nuncioref08_opcode.f a0_1).bind fun t279=>(if t279 = 0 then (if (l0_2.length:Int) = 1 then (if (l0_3.length:Int) > 0 then (nuncioref08_Ask.j0 k true a0_0 a0_1 l0_2 l0_3 l0_4 l0_5) else (nuncioref08_Ask.j0 k (decide ((l0_4.length:Int) > 0)) a0_0 a0_1 l0_2 l0_3 l0_4 l0_5)) else (nuncioref08_Ask.j0 k true a0_0 a0_1 l0_2 l0_3 l0_4 l0_5)) else (nuncioref08_Ask.j0 k true a0_0 a0_1 l0_2 l0_3 l0_4 l0_5))))) = some (r1,r2,r3,r4,r5):=h
 clear h
 have HC2:=qqm H
 clear H
 go_enter Try.func12,Try.ntmps12
 go_upto_region 1 with (first|((with_reducible refine gate_dst (N:=1) rfl ?_);(try (refine gate_guard (by rfl) ?_;dsimp only));refine box_event ?hg (N:=1) ?hd (cs:=#[.int .u16 a0_0,.int .u16 a0_1,.slice A0_2 l0_2.length c0_2,.slice A0_3 l0_3.length c0_3,.slice A0_4 l0_4.length c0_4,.slice A0_5 l0_5.length c0_5]) (t:=26) ?hr ?_;(case hd=>rfl);(case hg=>rfl);(case hr=>first|(go_simp;done)|(go_simp;rfl));intro gb276 hg w3 hbox hb;have n0_:=qqm (below_step (by with_reducible repeat first|exact HB.out|apply qqf|apply qqd|apply qqe) hb);have n1_:=qqm (hbox);have n2_:=qqm ((by rw [hg];exact (below_size (by with_reducible repeat first|exact HB.out|apply qqf|apply qqd|apply qqe)):w.heap.size ≤ gb276));have n3_:=n2_;clear HB;have HB:=n0_;have BK276:=n1_;have GW276:=n2_;have GE276:=n3_;clear n0_ n1_ n2_ n3_ hb hbox hg)|((with_reducible refine gate_dst (N:=2) rfl ?_);(try (refine gate_guard (by rfl) ?_;dsimp only));refine box_event ?hg (N:=2) ?hd (cs:=#[.string (⟨#[]⟩:ByteArray),.int .u16 0,.int .u16 0,.bool false]) (t:=28) ?hr ?_;(case hd=>rfl);(case hg=>rfl);(case hr=>first|(go_simp;done)|(go_simp;rfl));intro gb277 hg w4 hbox hb;have n0_:=qqm (blk_below (g:=gb276) (o:=.cells #[.int .u16 a0_0,.int .u16 a0_1,.slice A0_2 l0_2.length c0_2,.slice A0_3 l0_3.length c0_3,.slice A0_4 l0_4.length c0_4,.slice A0_5 l0_5.length c0_5] 26 (0,0)) (by (with_reducible repeat first|apply qqa|apply qqb|apply qqc);exact BK276.out) hb);have n1_:=qqm (below_step (by with_reducible repeat first|exact HB.out|apply qqf|apply qqd|apply qqe|refine qqg ?_ GE276.out) hb);have n2_:=qqm (hbox);have n3_:=qqm ((by rw [hg];exact (below_size (by with_reducible repeat first|exact HB.out|apply qqf|apply qqd|apply qqe|refine qqg ?_ GE276.out)):w.heap.size ≤ gb277));have n4_:=n3_;have n5_:=qqm ((by rw [hg];exact Nat.ne_of_lt (blk_lt (by (with_reducible repeat first|apply qqa|apply qqb|apply qqc);exact BK276.out)):gb276 ≠ gb277));have n6_:=qqm (Ne.symm n5_.out);clear BK276 HB;have BK276:=n0_;have HB:=n1_;have BK277:=n2_;have GW277:=n3_;have GE277:=n4_;have NB276_277:=n5_;have NB277_276:=n6_;clear n0_ n1_ n2_ n3_ n4_ n5_ n6_ hb hbox hg))
 (try simp only [Act.put,qqj,qqk,qql])
 go_cut [31] (fun v31 wc=>∃ (kq:Nat) (x31_1:Bool),v31 = .bool x31_1∧Aside0 (nuncioref08_Ask.j0 kq x31_1 a0_0 a0_1 l0_2 l0_3 l0_4 l0_5 = some (r1,r2,r3,r4,r5))∧Aside0 (kq ≤ k)∧Aside0 (wc.heap[gb276]? = some (.cells #[.int .u16 a0_0,.int .u16 a0_1,(.slice A0_2 l0_2.length c0_2),(.slice A0_3 l0_3.length c0_3),(.slice A0_4 l0_4.length c0_4),(.slice A0_5 l0_5.length c0_5)] 26 (0,0)))∧Aside0 (wc.heap[gb277]? = some (.cells #[.string (⟨#[]⟩:ByteArray),.int .u16 0,.int .u16 0,.bool false] 28 (0,0)))∧Aside0 (Below w.heap.size w wc))
 case first =>
  have H:=HC2.out
  clear HC2
  replace H:=Option.bind_eq_some_iff.mp H
  obtain ⟨t278,A50,H⟩:=H
  replace H:(if t278 = true then (nuncioref08_Ask.j0 k true a0_0 a0_1 l0_2 l0_3 l0_4 l0_5) else ((nuncioref08_opcode.f a0_1).bind fun t279=>(if t279 = 0 then (if (l0_2.length:Int) = 1 then (if (l0_3.length:Int) > 0 then (nuncioref08_Ask.j0 k true a0_0 a0_1 l0_2 l0_3 l0_4 l0_5) else (nuncioref08_Ask.j0 k (decide ((l0_4.length:Int) > 0)) a0_0 a0_1 l0_2 l0_3 l0_4 l0_5)) else (nuncioref08_Ask.j0 k true a0_0 a0_1 l0_2 l0_3 l0_4 l0_5)) else (nuncioref08_Ask.j0 k true a0_0 a0_1 l0_2 l0_3 l0_4 l0_5)))) = some (r1,r2,r3,r4,r5):=H
  have A5:=qqm A50
  clear A50
  by_cases c6:t278 = true
  ·
   subst c6
   have H1:(nuncioref08_Ask.j0 k true a0_0 a0_1 l0_2 l0_3 l0_4 l0_5) = some (r1,r2,r3,r4,r5):=by rw [if_pos rfl] at H;exact H
   clear H
   have H:=H1
   clear H1
   have H':=qqm H
   clear H
   have hnb7:=NB276_277.out
   have hnc7:=NB277_276.out
   obtain ⟨hcz8_0,hcz8_1,hcz8_2,hcz8_3,hcz8_4,hcz8_5⟩:=qc6 BK276.out
   obtain ⟨hfz8_0,hfz8_1,hfz8_2,hfz8_3,hfz8_4,hfz8_5⟩:=qf6 BK276.out
   go_wp2_with (first|((with_reducible refine gate_callee (f:=36) rfl ?_);refine goesL_ (some 7) rfl rfl Try.func36 (by kernel_rfl) rfl #[.int .u16 a0_1] rfl (by (try simp only [List.map_toArray,List.map_cons,List.map_nil]);first|done|rfl|(simp only [List.length_drop,List.length_take];rfl)) ?_;(with_reducible refine (nuncioref08_qr.calls a0_1 true _ A5.out).mono ?_);rintro e w' ⟨rfl,⟨nd,rfl⟩⟩;refine ⟨_,rfl,?_⟩))
   go_meet
   case rel=>exact ⟨_,(true),(by first|rfl|(simp;done)|(simp [*];done)),H',⟨by first|omega|exact Nat.le_refl _⟩,⟨by (with_reducible repeat first|apply qqa|apply qqb|apply qqc);exact BK276.out⟩,⟨by (with_reducible repeat first|apply qqa|apply qqb|apply qqc);exact BK277.out⟩,⟨by with_reducible repeat first|exact HB.out|apply qqf|apply qqd|apply qqe|refine qqg ?_ GE276.out|refine qqg ?_ GE277.out⟩⟩
  ·
   replace c6:=Bool.eq_false_iff.mpr c6
   subst c6
   have H1:((nuncioref08_opcode.f a0_1).bind fun t279=>(if t279 = 0 then (if (l0_2.length:Int) = 1 then (if (l0_3.length:Int) > 0 then (nuncioref08_Ask.j0 k true a0_0 a0_1 l0_2 l0_3 l0_4 l0_5) else (nuncioref08_Ask.j0 k (decide ((l0_4.length:Int) > 0)) a0_0 a0_1 l0_2 l0_3 l0_4 l0_5)) else (nuncioref08_Ask.j0 k true a0_0 a0_1 l0_2 l0_3 l0_4 l0_5)) else (nuncioref08_Ask.j0 k true a0_0 a0_1 l0_2 l0_3 l0_4 l0_5))) = some (r1,r2,r3,r4,r5):=by rw [if_neg (show ¬ (false = true) by decide)] at H;exact H
   clear H
   have H:=H1
   clear H1
   replace H:=Option.bind_eq_some_iff.mp H
   obtain ⟨t279,A90,H⟩:=H
   replace H:(if t279 = 0 then (if (l0_2.length:Int) = 1 then (if (l0_3.length:Int) > 0 then (nuncioref08_Ask.j0 k true a0_0 a0_1 l0_2 l0_3 l0_4 l0_5) else (nuncioref08_Ask.j0 k (decide ((l0_4.length:Int) > 0)) a0_0 a0_1 l0_2 l0_3 l0_4 l0_5)) else (nuncioref08_Ask.j0 k true a0_0 a0_1 l0_2 l0_3 l0_4 l0_5)) else (nuncioref08_Ask.j0 k true a0_0 a0_1 l0_2 l0_3 l0_4 l0_5)) = some (r1,r2,r3,r4,r5):=H
   have A9:=qqm A90
   clear A90
   by_cases c10:t279 = 0
   ·
    rw [if_pos c10] at H
    have c10b0:(t279 == 0) = true:=beq_iff_eq.mpr c10
    have c10b1:(t279 != 0) = false:=bne_eq_false_iff_eq.mpr c10
    clear c10
    (first|rw [c10b0]|rw [c10b1]|(simp only [i64_w,i32_w];rw [c10b0])|skip)
    by_cases c11:(l0_2.length:Int) = 1
    ·
     rw [if_pos c11] at H
     have c11b0:((l0_2.length:Int) == 1) = true:=beq_iff_eq.mpr c11
     have c11b1:((l0_2.length:Int) != 1) = false:=bne_eq_false_iff_eq.mpr c11
     clear c11
     by_cases c12:(l0_3.length:Int) > 0
     ·
      rw [if_pos c12] at H
      have c12b0:decide (0 < (l0_3.length:Int)) = true:=decide_eq_true c12
      have c12b1:decide (0 < l0_3.length) = true:=decide_eq_true (by omega)
      clear c12
      have H':=qqm H
      clear H
      have hnb13:=NB276_277.out
      have hnc13:=NB277_276.out
      obtain ⟨hcz14_0,hcz14_1,hcz14_2,hcz14_3,hcz14_4,hcz14_5⟩:=qc6 BK276.out
      obtain ⟨hfz14_0,hfz14_1,hfz14_2,hfz14_3,hfz14_4,hfz14_5⟩:=qf6 BK276.out
      go_wp2_with (first|((with_reducible refine gate_callee (f:=36) rfl ?_);refine goesL_ (some 7) rfl rfl Try.func36 (by kernel_rfl) rfl #[.int .u16 a0_1] rfl (by (try simp only [List.map_toArray,List.map_cons,List.map_nil]);first|done|rfl|(simp only [List.length_drop,List.length_take];rfl)) ?_;(with_reducible refine (nuncioref08_qr.calls a0_1 false _ A5.out).mono ?_);rintro e w' ⟨rfl,⟨nd,rfl⟩⟩;refine ⟨_,rfl,?_⟩)|(go_at_call 37;(with_reducible refine (nuncioref08_opcode.calls a0_1 t279 _ A9.out).mono ?_);rintro e w' ⟨rfl,⟨nd,rfl⟩⟩))
      go_meet
      case rel=>exact ⟨_,(true),(by first|rfl|(simp;done)|(simp [*];done)),H',⟨by first|omega|exact Nat.le_refl _⟩,⟨by (with_reducible repeat first|apply qqa|apply qqb|apply qqc);exact BK276.out⟩,⟨by (with_reducible repeat first|apply qqa|apply qqb|apply qqc);exact BK277.out⟩,⟨by with_reducible repeat first|exact HB.out|apply qqf|apply qqd|apply qqe|refine qqg ?_ GE276.out|refine qqg ?_ GE277.out⟩⟩
     ·
      rw [if_neg c12] at H
      have c12b0:decide (0 < (l0_3.length:Int)) = false:=decide_eq_false c12
      have c12b1:decide (0 < l0_3.length) = false:=decide_eq_false (by omega)
      clear c12
      have H':=qqm H
      clear H
      have hnb15:=NB276_277.out
      have hnc15:=NB277_276.out
      obtain ⟨hcz16_0,hcz16_1,hcz16_2,hcz16_3,hcz16_4,hcz16_5⟩:=qc6 BK276.out
      obtain ⟨hfz16_0,hfz16_1,hfz16_2,hfz16_3,hfz16_4,hfz16_5⟩:=qf6 BK276.out
      go_wp2_with (first|((with_reducible refine gate_callee (f:=36) rfl ?_);refine goesL_ (some 7) rfl rfl Try.func36 (by kernel_rfl) rfl #[.int .u16 a0_1] rfl (by (try simp only [List.map_toArray,List.map_cons,List.map_nil]);first|done|rfl|(simp only [List.length_drop,List.length_take];rfl)) ?_;(with_reducible refine (nuncioref08_qr.calls a0_1 false _ A5.out).mono ?_);rintro e w' ⟨rfl,⟨nd,rfl⟩⟩;refine ⟨_,rfl,?_⟩)|(go_at_call 37;(with_reducible refine (nuncioref08_opcode.calls a0_1 t279 _ A9.out).mono ?_);rintro e w' ⟨rfl,⟨nd,rfl⟩⟩))
      go_meet
      case rel=>exact ⟨_,(decide ((l0_4.length:Int) > 0)),(by first|rfl|(simp;done)|(simp [*];done)),H',⟨by first|omega|exact Nat.le_refl _⟩,⟨by (with_reducible repeat first|apply qqa|apply qqb|apply qqc);exact BK276.out⟩,⟨by (with_reducible repeat first|apply qqa|apply qqb|apply qqc);exact BK277.out⟩,⟨by with_reducible repeat first|exact HB.out|apply qqf|apply qqd|apply qqe|refine qqg ?_ GE276.out|refine qqg ?_ GE277.out⟩⟩
    ·
     rw [if_neg c11] at H
     have c11b0:((l0_2.length:Int) == 1) = false:=beq_eq_false_iff_ne.mpr c11
     have c11b1:((l0_2.length:Int) != 1) = true:=bne_iff_ne.mpr c11
     have H':=qqm H
     clear H
     have hnb17:=NB276_277.out
     have hnc17:=NB277_276.out
     obtain ⟨hcz18_0,hcz18_1,hcz18_2,hcz18_3,hcz18_4,hcz18_5⟩:=qc6 BK276.out
     obtain ⟨hfz18_0,hfz18_1,hfz18_2,hfz18_3,hfz18_4,hfz18_5⟩:=qf6 BK276.out
     go_wp2_with (first|((with_reducible refine gate_callee (f:=36) rfl ?_);refine goesL_ (some 7) rfl rfl Try.func36 (by kernel_rfl) rfl #[.int .u16 a0_1] rfl (by (try simp only [List.map_toArray,List.map_cons,List.map_nil]);first|done|rfl|(simp only [List.length_drop,List.length_take];rfl)) ?_;(with_reducible refine (nuncioref08_qr.calls a0_1 false _ A5.out).mono ?_);rintro e w' ⟨rfl,⟨nd,rfl⟩⟩;refine ⟨_,rfl,?_⟩)|(go_at_call 37;(with_reducible refine (nuncioref08_opcode.calls a0_1 t279 _ A9.out).mono ?_);rintro e w' ⟨rfl,⟨nd,rfl⟩⟩))
     go_meet
     case rel=>exact ⟨_,(true),(by first|rfl|(simp;done)|(simp [*];done)),H',⟨by first|omega|exact Nat.le_refl _⟩,⟨by (with_reducible repeat first|apply qqa|apply qqb|apply qqc);exact BK276.out⟩,⟨by (with_reducible repeat first|apply qqa|apply qqb|apply qqc);exact BK277.out⟩,⟨by with_reducible repeat first|exact HB.out|apply qqf|apply qqd|apply qqe|refine qqg ?_ GE276.out|refine qqg ?_ GE277.out⟩⟩
   ·
    rw [if_neg c10] at H
    have c10b0:(t279 == 0) = false:=beq_eq_false_iff_ne.mpr c10
    have c10b1:(t279 != 0) = true:=bne_iff_ne.mpr c10
    (first|rw [c10b0]|rw [c10b1]|(simp only [i64_w,i32_w];rw [c10b0])|skip)
    have H':=qqm H
    clear H
    have hnb19:=NB276_277.out
    have hnc19:=NB277_276.out
    obtain ⟨hcz20_0,hcz20_1,hcz20_2,hcz20_3,hcz20_4,hcz20_5⟩:=qc6 BK276.out
    obtain ⟨hfz20_0,hfz20_1,hfz20_2,hfz20_3,hfz20_4,hfz20_5⟩:=qf6 BK276.out
    go_wp2_with (first|((with_reducible refine gate_callee (f:=36) rfl ?_);refine goesL_ (some 7) rfl rfl Try.func36 (by kernel_rfl) rfl #[.int .u16 a0_1] rfl (by (try simp only [List.map_toArray,List.map_cons,List.map_nil]);first|done|rfl|(simp only [List.length_drop,List.length_take];rfl)) ?_;(with_reducible refine (nuncioref08_qr.calls a0_1 false _ A5.out).mono ?_);rintro e w' ⟨rfl,⟨nd,rfl⟩⟩;refine ⟨_,rfl,?_⟩)|(go_at_call 37;(with_reducible refine (nuncioref08_opcode.calls a0_1 t279 _ A9.out).mono ?_);rintro e w' ⟨rfl,⟨nd,rfl⟩⟩))
    go_meet
    case rel=>exact ⟨_,(true),(by first|rfl|(simp;done)|(simp [*];done)),H',⟨by first|omega|exact Nat.le_refl _⟩,⟨by (with_reducible repeat first|apply qqa|apply qqb|apply qqc);exact BK276.out⟩,⟨by (with_reducible repeat first|apply qqa|apply qqb|apply qqc);exact BK277.out⟩,⟨by with_reducible repeat first|exact HB.out|apply qqf|apply qqd|apply qqe|refine qqg ?_ GE276.out|refine qqg ?_ GE277.out⟩⟩
 case rest =>
  clear HC2
  try clear c1
  try clear p2
  try clear c3
  try clear c6
  try clear c7
  try clear c10
  try clear c10b0
  try clear c10b1
  try clear c11
  try clear c11b0
  try clear c11b1
  try clear c12
  try clear c12b0
  try clear c12b1
  try clear c13
  try clear c15
  try clear c17
  try clear c19
  try clear hcz14_0 hcz14_1 hcz14_2 hcz14_3 hcz14_4 hcz14_5
  try clear hcz16_0 hcz16_1 hcz16_2 hcz16_3 hcz16_4 hcz16_5
  try clear hcz18_0 hcz18_1 hcz18_2 hcz18_3 hcz18_4 hcz18_5
  try clear hcz20_0 hcz20_1 hcz20_2 hcz20_3 hcz20_4 hcz20_5
  try clear hcz8_0 hcz8_1 hcz8_2 hcz8_3 hcz8_4 hcz8_5
  try clear hfz14_0 hfz14_1 hfz14_2 hfz14_3 hfz14_4 hfz14_5
  try clear hfz16_0 hfz16_1 hfz16_2 hfz16_3 hfz16_4 hfz16_5
  try clear hfz18_0 hfz18_1 hfz18_2 hfz18_3 hfz18_4 hfz18_5
  try clear hfz20_0 hfz20_1 hfz20_2 hfz20_3 hfz20_4 hfz20_5
  try clear hfz8_0 hfz8_1 hfz8_2 hfz8_3 hfz8_4 hfz8_5
  obtain ⟨kq,x31_1,rfl,HA,HJ1,BK276,BK277,HB⟩:=hcut
  cases kq with
  | zero => exact absurd HA.out (by simp [nuncioref08_Ask.j0])
  | succ kj1 =>
   have H:=HA.out
   clear HA
   simp only [nuncioref08_Ask.j0] at H
   by_cases c21:x31_1 = true
   ·
    subst c21
    have H1:(some ((⟨#[]⟩:ByteArray),0,0,false,107)) = some (r1,r2,r3,r4,r5):=by rw [if_pos rfl] at H;exact H
    clear H
    have H:=H1
    clear H1
    simp only [Option.some.injEq,Prod.mk.injEq] at H
    obtain ⟨rfl,rfl,rfl,rfl,rfl⟩:=H
    have hnb22:=NB277_276.out
    have hnc22:=NB276_277.out
    obtain ⟨hcz23_0,hcz23_1,hcz23_2,hcz23_3⟩:=qc4 BK277.out
    obtain ⟨hfz23_0,hfz23_1,hfz23_2,hfz23_3⟩:=qf4 BK277.out
    go_wp2
    refine bodyPost_ret (results_ct rfl _ _ gb277 28 #[.string (⟨#[]⟩:ByteArray),.int .u16 0,.int .u16 0,.bool false] (0,0) _ rfl (by (with_reducible repeat first|apply qqa|apply qqb|apply qqc);refine blk_put (cs:=#[.string (⟨#[]⟩:ByteArray),.int .u16 0,.int .u16 0,.bool false]) ?_ 3 _ rfl;(with_reducible repeat first|apply qqa|apply qqb|apply qqc);refine blk_put (cs:=#[.string (⟨#[]⟩:ByteArray),.int .u16 0,.int .u16 0,.bool false]) ?_ 2 _ rfl;(with_reducible repeat first|apply qqa|apply qqb|apply qqc);refine blk_put (cs:=#[.string (⟨#[]⟩:ByteArray),.int .u16 0,.int .u16 0,.bool false]) ?_ 1 _ rfl;(with_reducible repeat first|apply qqa|apply qqb|apply qqc);refine blk_put (cs:=#[.string (⟨#[]⟩:ByteArray),.int .u16 0,.int .u16 0,.bool false]) ?_ 0 _ rfl;(with_reducible repeat first|apply qqa|apply qqb|apply qqc);exact BK277.out) Try.underlying28 rfl (by kernel_rfl)) rfl ?_
    exact ⟨by first|rfl|(simp [errW_none,errW_some] <;> rfl)|(simp [*,errW_none,errW_some] <;> rfl),by with_reducible repeat first|exact HB.out|apply qqf|apply qqd|apply qqe|refine qqg ?_ GE276.out|refine qqg ?_ GE277.out⟩
   ·
    replace c21:=Bool.eq_false_iff.mpr c21
    subst c21
    have H1:(if 0 < (l0_2.length:Int) then (if ((rd_T53 l0_2 0).f1) = 41 then (nuncioref08_Ask.j1 kj1 true a0_0 a0_1 l0_2 l0_3 l0_4 l0_5 ((rd_T53 l0_2 0).f0) ((rd_T53 l0_2 0).f1) ((rd_T53 l0_2 0).f2)) else ((nuncioref04_Is.f kj1 ((rd_T53 l0_2 0).f0)).bind fun t282=>(nuncioref08_Ask.j1 kj1 (!t282) a0_0 a0_1 l0_2 l0_3 l0_4 l0_5 ((rd_T53 l0_2 0).f0) ((rd_T53 l0_2 0).f1) ((rd_T53 l0_2 0).f2)))) else (none)) = some (r1,r2,r3,r4,r5):=by rw [if_neg (show ¬ (false = true) by decide)] at H;exact H
    clear H
    have H:=H1
    clear H1
    by_cases c24:0 < (l0_2.length:Int)
    ·
     rw [if_pos c24] at H
     have c24b0:decide (0 < (l0_2.length:Int)) = true:=decide_eq_true c24
     have c24b1:decide (0 < l0_2.length) = true:=decide_eq_true (by omega)
     clear c24
     have HC25:=qqm H
     clear H
     have hnb26:=NB276_277.out
     have hnc26:=NB277_276.out
     obtain ⟨hcz27_0,hcz27_1,hcz27_2,hcz27_3,hcz27_4,hcz27_5⟩:=qc6 BK276.out
     obtain ⟨hfz27_0,hfz27_1,hfz27_2,hfz27_3,hfz27_4,hfz27_5⟩:=qf6 BK276.out
     have p280:0 ≤ (0:Int):=(by omega)
     have q280:0 < (l0_2.length:Int):=of_decide_eq_true (by first|(with_reducible assumption)|assumption)
     obtain ⟨ad280,e280,hx280_0,hx280_1,hx280_2⟩:=at_T53 HR0_2.out 0 p280 q280
     cases e280
     have qi280:(0 < l0_2.length) = True:=eq_true (by omega)
     (try rw [show ((0:Int)).toNat = 0 from rfl] at hx280_0)
     (try rw [show 0 * 3 = 0 from rfl] at hx280_0)
     (try rw [Addr.add_zero'] at hx280_0)
     (try rw [show ((0:Int)).toNat = 0 from rfl] at hx280_1)
     (try rw [show 0 * 3 = 0 from rfl] at hx280_1)
     (try rw [Addr.add_zero'] at hx280_1)
     (try rw [show ((0:Int)).toNat = 0 from rfl] at hx280_2)
     (try rw [show 0 * 3 = 0 from rfl] at hx280_2)
     (try rw [Addr.add_zero'] at hx280_2)
     replace hx280_0:=qqo HB.out hx280_0
     replace hx280_1:=qqo HB.out hx280_1
     replace hx280_2:=qqo HB.out hx280_2
     replace p280:=eq_true p280
     replace q280:=eq_true q280
     go_upto_region 4 with (first|((with_reducible refine gate_dst (N:=4) rfl ?_);(try (refine gate_guard (by rfl) ?_;dsimp only));refine box_event ?hg (N:=4) ?hd (cs:=#[.string (⟨#[]⟩:ByteArray),.int .u16 0,.int .u16 0]) (t:=53) ?hr ?_;(case hd=>rfl);(case hg=>rfl);(case hr=>first|(go_simp;done)|(go_simp;rfl));intro gb281 hg w28 hbox hb;have n0_:=qqm (blk_below (g:=gb276) (o:=.cells #[.int .u16 a0_0,.int .u16 a0_1,.slice (some ad280) l0_2.length c0_2,.slice A0_3 l0_3.length c0_3,.slice A0_4 l0_4.length c0_4,.slice A0_5 l0_5.length c0_5] 26 (0,0)) (by (with_reducible repeat first|apply qqa|apply qqb|apply qqc);exact BK276.out) hb);have n1_:=qqm (blk_below (g:=gb277) (o:=.cells #[.string (⟨#[]⟩:ByteArray),.int .u16 0,.int .u16 0,.bool false] 28 (0,0)) (by (with_reducible repeat first|apply qqa|apply qqb|apply qqc);exact BK277.out) hb);have n2_:=qqm (below_step (by with_reducible repeat first|exact HB.out|apply qqf|apply qqd|apply qqe|refine qqg ?_ GE276.out|refine qqg ?_ GE277.out) hb);have n3_:=qqm (hbox);have n4_:=qqm ((by rw [hg];exact (below_size (by with_reducible repeat first|exact HB.out|apply qqf|apply qqd|apply qqe|refine qqg ?_ GE276.out|refine qqg ?_ GE277.out)):w.heap.size ≤ gb281));have n5_:=n4_;have n6_:=qqm ((by rw [hg];exact Nat.ne_of_lt (blk_lt (by (with_reducible repeat first|apply qqa|apply qqb|apply qqc);exact BK276.out)):gb276 ≠ gb281));have n7_:=qqm (Ne.symm n6_.out);have n8_:=qqm ((by rw [hg];exact Nat.ne_of_lt (blk_lt (by (with_reducible repeat first|apply qqa|apply qqb|apply qqc);exact BK277.out)):gb277 ≠ gb281));have n9_:=qqm (Ne.symm n8_.out);clear BK276 BK277 HB;have BK276:=n0_;have BK277:=n1_;have HB:=n2_;have BK281:=n3_;have GW281:=n4_;have GE281:=n5_;have NB276_281:=n6_;have NB281_276:=n7_;have NB277_281:=n8_;have NB281_277:=n9_;clear n0_ n1_ n2_ n3_ n4_ n5_ n6_ n7_ n8_ n9_ hb hbox hg;have hnb29:=NB281_276.out;have hnc29:=NB276_281.out;have hnb30:=NB281_277.out;have hnc30:=NB277_281.out;obtain ⟨hcz31_0,hcz31_1,hcz31_2⟩:=qc3 BK281.out;obtain ⟨hfz31_0,hfz31_1,hfz31_2⟩:=qf3 BK281.out))
     (try simp only [Act.put,qqj,qqk,qql])
     go_cut [45] (fun v45 wc=>∃ (kq:Nat) (x45_24:Bool),v45 = .bool x45_24∧Aside0 (nuncioref08_Ask.j1 kq x45_24 a0_0 a0_1 l0_2 l0_3 l0_4 l0_5 ((rd_T53 l0_2 0).f0) ((rd_T53 l0_2 0).f1) ((rd_T53 l0_2 0).f2) = some (r1,r2,r3,r4,r5))∧Aside0 (kq ≤ kj1)∧Aside0 (wc.heap[gb276]? = some (.cells #[.int .u16 a0_0,.int .u16 a0_1,(.slice (some ad280) l0_2.length c0_2),(.slice A0_3 l0_3.length c0_3),(.slice A0_4 l0_4.length c0_4),(.slice A0_5 l0_5.length c0_5)] 26 (0,0)))∧Aside0 (wc.heap[gb277]? = some (.cells #[.string (⟨#[]⟩:ByteArray),.int .u16 0,.int .u16 0,.bool false] 28 (0,0)))∧Aside0 (wc.heap[gb281]? = some (.cells #[.string ((rd_T53 l0_2 0).f0),.int .u16 ((rd_T53 l0_2 0).f1),.int .u16 ((rd_T53 l0_2 0).f2)] 53 (0,0)))∧Aside0 (Below w.heap.size w wc))
     case first =>
      have H:=HC25.out
      clear HC25
      by_cases c32:((rd_T53 l0_2 0).f1) = 41
      ·
       rw [if_pos c32] at H
       have c32b0:(((rd_T53 l0_2 0).f1) == 41) = true:=beq_iff_eq.mpr c32
       have c32b1:(((rd_T53 l0_2 0).f1) != 41) = false:=bne_eq_false_iff_eq.mpr c32
       clear c32
       (first|rw [c32b0]|rw [c32b1]|(simp only [i64_w,i32_w];rw [c32b0])|skip)
       have H':=qqm H
       clear H
       have hnb33:=NB281_276.out
       have hnc33:=NB276_281.out
       have hnb34:=NB281_277.out
       have hnc34:=NB277_281.out
       obtain ⟨hcz35_0,hcz35_1,hcz35_2⟩:=qc3 BK281.out
       obtain ⟨hfz35_0,hfz35_1,hfz35_2⟩:=qf3 BK281.out
       go_wp2
       go_meet
       case rel=>exact ⟨_,(true),(by first|rfl|(simp;done)|(simp [*];done)),H',⟨by have:=HJ1.out;first|omega|exact Nat.le_refl _⟩,⟨by (with_reducible repeat first|apply qqa|apply qqb|apply qqc);refine blk_far ?_ NB276_281.out _;(with_reducible repeat first|apply qqa|apply qqb|apply qqc);refine blk_far ?_ NB276_281.out _;(with_reducible repeat first|apply qqa|apply qqb|apply qqc);refine blk_far ?_ NB276_281.out _;(with_reducible repeat first|apply qqa|apply qqb|apply qqc);exact BK276.out⟩,⟨by (with_reducible repeat first|apply qqa|apply qqb|apply qqc);refine blk_far ?_ NB277_281.out _;(with_reducible repeat first|apply qqa|apply qqb|apply qqc);refine blk_far ?_ NB277_281.out _;(with_reducible repeat first|apply qqa|apply qqb|apply qqc);refine blk_far ?_ NB277_281.out _;(with_reducible repeat first|apply qqa|apply qqb|apply qqc);exact BK277.out⟩,⟨by (with_reducible repeat first|apply qqa|apply qqb|apply qqc);refine blk_put (cs:=#[.string ((rd_T53 l0_2 0).f0),.int .u16 ((rd_T53 l0_2 0).f1),.int .u16 0]) ?_ 2 _ rfl;(with_reducible repeat first|apply qqa|apply qqb|apply qqc);refine blk_put (cs:=#[.string ((rd_T53 l0_2 0).f0),.int .u16 0,.int .u16 0]) ?_ 1 _ rfl;(with_reducible repeat first|apply qqa|apply qqb|apply qqc);refine blk_put (cs:=#[.string (⟨#[]⟩:ByteArray),.int .u16 0,.int .u16 0]) ?_ 0 _ rfl;(with_reducible repeat first|apply qqa|apply qqb|apply qqc);exact BK281.out⟩,⟨by with_reducible repeat first|exact HB.out|apply qqf|apply qqd|apply qqe|refine qqg ?_ GE276.out|refine qqg ?_ GE277.out|refine qqg ?_ GE281.out⟩⟩
      ·
       rw [if_neg c32] at H
       have c32b0:(((rd_T53 l0_2 0).f1) == 41) = false:=beq_eq_false_iff_ne.mpr c32
       have c32b1:(((rd_T53 l0_2 0).f1) != 41) = true:=bne_iff_ne.mpr c32
       (first|rw [c32b0]|rw [c32b1]|(simp only [i64_w,i32_w];rw [c32b0])|skip)
       replace H:=Option.bind_eq_some_iff.mp H
       obtain ⟨t282,A360,H⟩:=H
       replace H:(nuncioref08_Ask.j1 kj1 (!t282) a0_0 a0_1 l0_2 l0_3 l0_4 l0_5 ((rd_T53 l0_2 0).f0) ((rd_T53 l0_2 0).f1) ((rd_T53 l0_2 0).f2)) = some (r1,r2,r3,r4,r5):=H
       have A36:=qqm A360
       clear A360
       have H':=qqm H
       clear H
       have hnb37:=NB281_276.out
       have hnc37:=NB276_281.out
       have hnb38:=NB281_277.out
       have hnc38:=NB277_281.out
       obtain ⟨hcz39_0,hcz39_1,hcz39_2⟩:=qc3 BK281.out
       obtain ⟨hfz39_0,hfz39_1,hfz39_2⟩:=qf3 BK281.out
       go_wp2_with (first|(go_at_call 29;(with_reducible refine (nuncioref04_Is.calls kj1 ((rd_T53 l0_2 0).f0) t282 _ A36.out).mono ?_);rintro e w40 ⟨rfl,hb⟩;have n0_:=qqm (blk_below (g:=gb276) (o:=.cells #[.int .u16 a0_0,.int .u16 a0_1,.slice (some ad280) l0_2.length c0_2,.slice A0_3 l0_3.length c0_3,.slice A0_4 l0_4.length c0_4,.slice A0_5 l0_5.length c0_5] 26 (0,0)) (by (with_reducible repeat first|apply qqa|apply qqb|apply qqc);refine blk_far ?_ NB276_281.out _;(with_reducible repeat first|apply qqa|apply qqb|apply qqc);refine blk_far ?_ NB276_281.out _;(with_reducible repeat first|apply qqa|apply qqb|apply qqc);refine blk_far ?_ NB276_281.out _;(with_reducible repeat first|apply qqa|apply qqb|apply qqc);exact BK276.out) hb);have n1_:=qqm (blk_below (g:=gb277) (o:=.cells #[.string (⟨#[]⟩:ByteArray),.int .u16 0,.int .u16 0,.bool false] 28 (0,0)) (by (with_reducible repeat first|apply qqa|apply qqb|apply qqc);refine blk_far ?_ NB277_281.out _;(with_reducible repeat first|apply qqa|apply qqb|apply qqc);refine blk_far ?_ NB277_281.out _;(with_reducible repeat first|apply qqa|apply qqb|apply qqc);refine blk_far ?_ NB277_281.out _;(with_reducible repeat first|apply qqa|apply qqb|apply qqc);exact BK277.out) hb);have n2_:=qqm (blk_below (g:=gb281) (o:=.cells #[.string ((rd_T53 l0_2 0).f0),.int .u16 ((rd_T53 l0_2 0).f1),.int .u16 ((rd_T53 l0_2 0).f2)] 53 (0,0)) (by (with_reducible repeat first|apply qqa|apply qqb|apply qqc);refine blk_put (cs:=#[.string ((rd_T53 l0_2 0).f0),.int .u16 ((rd_T53 l0_2 0).f1),.int .u16 0]) ?_ 2 _ rfl;(with_reducible repeat first|apply qqa|apply qqb|apply qqc);refine blk_put (cs:=#[.string ((rd_T53 l0_2 0).f0),.int .u16 0,.int .u16 0]) ?_ 1 _ rfl;(with_reducible repeat first|apply qqa|apply qqb|apply qqc);refine blk_put (cs:=#[.string (⟨#[]⟩:ByteArray),.int .u16 0,.int .u16 0]) ?_ 0 _ rfl;(with_reducible repeat first|apply qqa|apply qqb|apply qqc);exact BK281.out) hb);have n3_:=qqm (below_step (by with_reducible repeat first|exact HB.out|apply qqf|apply qqd|apply qqe|refine qqg ?_ GE276.out|refine qqg ?_ GE277.out|refine qqg ?_ GE281.out) hb);clear BK276 BK277 BK281 HB;have BK276:=n0_;have BK277:=n1_;have BK281:=n2_;have HB:=n3_;clear n0_ n1_ n2_ n3_;(try clear hb);(try clear hb2);(try clear hk);(try clear hi)))
       go_meet
       case rel=>exact ⟨_,(!t282),(by first|rfl|(simp;done)|(simp [*];done)),H',⟨by have:=HJ1.out;first|omega|exact Nat.le_refl _⟩,⟨by (with_reducible repeat first|apply qqa|apply qqb|apply qqc);exact BK276.out⟩,⟨by (with_reducible repeat first|apply qqa|apply qqb|apply qqc);exact BK277.out⟩,⟨by (with_reducible repeat first|apply qqa|apply qqb|apply qqc);exact BK281.out⟩,⟨by with_reducible repeat first|exact HB.out|apply qqf|apply qqd|apply qqe|refine qqg ?_ GE276.out|refine qqg ?_ GE277.out|refine qqg ?_ GE281.out⟩⟩
     case rest =>
      clear HC25
      try clear c1
      try clear c2
      try clear p2
      try clear q2
      try clear hx2
      try clear qi2
      try clear c3
      try clear c6
      try clear c7
      try clear c10
      try clear c10b0
      try clear c10b1
      try clear c11
      try clear c11b0
      try clear c11b1
      try clear c12
      try clear c12b0
      try clear c12b1
      try clear c13
      try clear c15
      try clear c17
      try clear c19
      try clear c21
      try clear c22
      try clear c24
      try clear c24b0
      try clear c24b1
      try clear c26
      try clear p28
      try clear q28
      try clear hx28
      try clear qi28
      try clear c29
      try clear c30
      try clear c32
      try clear c32b0
      try clear c32b1
      try clear c33
      try clear c34
      try clear c36
      try clear c37
      try clear c38
      try clear hcz14_0 hcz14_1 hcz14_2 hcz14_3 hcz14_4 hcz14_5
      try clear hcz16_0 hcz16_1 hcz16_2 hcz16_3 hcz16_4 hcz16_5
      try clear hcz18_0 hcz18_1 hcz18_2 hcz18_3 hcz18_4 hcz18_5
      try clear hcz20_0 hcz20_1 hcz20_2 hcz20_3 hcz20_4 hcz20_5
      try clear hcz23_0 hcz23_1 hcz23_2 hcz23_3
      try clear hcz27_0 hcz27_1 hcz27_2 hcz27_3 hcz27_4 hcz27_5
      try clear hcz31_0 hcz31_1 hcz31_2
      try clear hcz35_0 hcz35_1 hcz35_2
      try clear hcz39_0 hcz39_1 hcz39_2
      try clear hcz8_0 hcz8_1 hcz8_2 hcz8_3 hcz8_4 hcz8_5
      try clear hfz14_0 hfz14_1 hfz14_2 hfz14_3 hfz14_4 hfz14_5
      try clear hfz16_0 hfz16_1 hfz16_2 hfz16_3 hfz16_4 hfz16_5
      try clear hfz18_0 hfz18_1 hfz18_2 hfz18_3 hfz18_4 hfz18_5
      try clear hfz20_0 hfz20_1 hfz20_2 hfz20_3 hfz20_4 hfz20_5
      try clear hfz23_0 hfz23_1 hfz23_2 hfz23_3
      try clear hfz27_0 hfz27_1 hfz27_2 hfz27_3 hfz27_4 hfz27_5
      try clear hfz31_0 hfz31_1 hfz31_2
      try clear hfz35_0 hfz35_1 hfz35_2
      try clear hfz39_0 hfz39_1 hfz39_2
      try clear hfz8_0 hfz8_1 hfz8_2 hfz8_3 hfz8_4 hfz8_5
      try clear hx280_0
      try clear hx280_1
      try clear hx280_2
      try clear p2
      try clear p280
      try clear q280
      obtain ⟨kq,x45_24,rfl,HA,HJ24,BK276,BK277,BK281,HB⟩:=hcut
      cases kq with
      | zero => exact absurd HA.out (by simp [nuncioref08_Ask.j1])
      | succ kj24 =>
       have H:=HA.out
       clear HA
       simp only [nuncioref08_Ask.j1] at H
       by_cases c41:x45_24 = true
       ·
        subst c41
        have H1:(some ((⟨#[]⟩:ByteArray),0,0,false,107)) = some (r1,r2,r3,r4,r5):=by rw [if_pos rfl] at H;exact H
        clear H
        have H:=H1
        clear H1
        simp only [Option.some.injEq,Prod.mk.injEq] at H
        obtain ⟨rfl,rfl,rfl,rfl,rfl⟩:=H
        have hnb42:=NB277_276.out
        have hnc42:=NB276_277.out
        have hnb43:=NB277_281.out
        have hnc43:=NB281_277.out
        obtain ⟨hcz44_0,hcz44_1,hcz44_2,hcz44_3⟩:=qc4 BK277.out
        obtain ⟨hfz44_0,hfz44_1,hfz44_2,hfz44_3⟩:=qf4 BK277.out
        go_wp2
        refine bodyPost_ret (results_ct rfl _ _ gb277 28 #[.string (⟨#[]⟩:ByteArray),.int .u16 0,.int .u16 0,.bool false] (0,0) _ rfl (by (with_reducible repeat first|apply qqa|apply qqb|apply qqc);refine blk_put (cs:=#[.string (⟨#[]⟩:ByteArray),.int .u16 0,.int .u16 0,.bool false]) ?_ 3 _ rfl;(with_reducible repeat first|apply qqa|apply qqb|apply qqc);refine blk_put (cs:=#[.string (⟨#[]⟩:ByteArray),.int .u16 0,.int .u16 0,.bool false]) ?_ 2 _ rfl;(with_reducible repeat first|apply qqa|apply qqb|apply qqc);refine blk_put (cs:=#[.string (⟨#[]⟩:ByteArray),.int .u16 0,.int .u16 0,.bool false]) ?_ 1 _ rfl;(with_reducible repeat first|apply qqa|apply qqb|apply qqc);refine blk_put (cs:=#[.string (⟨#[]⟩:ByteArray),.int .u16 0,.int .u16 0,.bool false]) ?_ 0 _ rfl;(with_reducible repeat first|apply qqa|apply qqb|apply qqc);exact BK277.out) Try.underlying28 rfl (by kernel_rfl)) rfl ?_
        exact ⟨by first|rfl|(simp [errW_none,errW_some] <;> rfl)|(simp [*,errW_none,errW_some] <;> rfl),by with_reducible repeat first|exact HB.out|apply qqf|apply qqd|apply qqe|refine qqg ?_ GE276.out|refine qqg ?_ GE277.out|refine qqg ?_ GE281.out⟩
       ·
        replace c41:=Bool.eq_false_iff.mpr c41
        subst c41
        have H1:((nuncioref04_Fold.f kj24 ((rd_T53 l0_2 0).f0)).bind fun t283=>((nuncioref08_DO.f kj24 a0_0 a0_1 l0_2 l0_3 l0_4 l0_5).bind fun t284=>(some (t283,((rd_T53 l0_2 0).f1),((rd_T53 l0_2 0).f2),t284,0)))) = some (r1,r2,r3,r4,r5):=by rw [if_neg (show ¬ (false = true) by decide)] at H;exact H
        clear H
        have H:=H1
        clear H1
        replace H:=Option.bind_eq_some_iff.mp H
        obtain ⟨t283,A450,H⟩:=H
        replace H:((nuncioref08_DO.f kj24 a0_0 a0_1 l0_2 l0_3 l0_4 l0_5).bind fun t284=>(some (t283,((rd_T53 l0_2 0).f1),((rd_T53 l0_2 0).f2),t284,0))) = some (r1,r2,r3,r4,r5):=H
        have A45:=qqm A450
        clear A450
        replace H:=Option.bind_eq_some_iff.mp H
        obtain ⟨t284,A460,H⟩:=H
        replace H:(some (t283,((rd_T53 l0_2 0).f1),((rd_T53 l0_2 0).f2),t284,0)) = some (r1,r2,r3,r4,r5):=H
        have A46:=qqm A460
        clear A460
        simp only [Option.some.injEq,Prod.mk.injEq] at H
        obtain ⟨rfl,rfl,rfl,rfl,rfl⟩:=H
        try go_wp2
        have n0_:=qqm (qqb BK276.out)
        have n1_:=qqm (qqb BK277.out)
        have n2_:=qqm (qqb BK281.out)
        have n3_:=qqm (qqe HB.out)
        clear BK276
        clear BK277
        clear BK281
        clear HB
        have BK276:=n0_
        have BK277:=n1_
        have BK281:=n2_
        have HB:=n3_
        clear n0_ n1_ n2_ n3_
        refine start_ (n:=12) (S:=fun w'=>w'.cell? ⟨gb281,0,none⟩ = some (.string ((rd_T53 l0_2 0).f0))∧w'.cell? ⟨gb281,1,none⟩ = some (.int .u16 ((rd_T53 l0_2 0).f1))∧w'.cell? ⟨gb281,2,none⟩ = some (.int .u16 ((rd_T53 l0_2 0).f2))∧w'.cell? ⟨gb276,0,none⟩ = some (.int .u16 a0_0)∧w'.cell? ⟨gb276,1,none⟩ = some (.int .u16 a0_1)∧w'.cell? ⟨gb276,2,none⟩ = some (.slice (some ad280) l0_2.length c0_2)∧w'.cell? ⟨gb276,3,none⟩ = some (.slice A0_3 l0_3.length c0_3)∧w'.cell? ⟨gb276,4,none⟩ = some (.slice A0_4 l0_4.length c0_4)∧w'.cell? ⟨gb276,5,none⟩ = some (.slice A0_5 l0_5.length c0_5)) (ds:=[]) (qqz 12 0) (by kernel_rfl) rfl rfl ⟨(qqh BK281.out 0).trans rfl,(qqh BK281.out 1).trans rfl,(qqh BK281.out 2).trans rfl,(qqh BK276.out 0).trans rfl,(qqh BK276.out 1).trans rfl,(qqh BK276.out 2).trans rfl,(qqh BK276.out 3).trans rfl,(qqh BK276.out 4).trans rfl,(qqh BK276.out 5).trans rfl⟩ (fun hHeld=>?_);refine with_tabW nuncioref08_Ask.tab6 nuncioref08_Ask.bits6 (fun HT_ HW_=>?_)
        generalize wc.drew = w47 at BK276 BK277 BK281 HB hHeld ⊢
        refine pure_ (i:=0) (N:=some 47) (qqz 12 1) rfl rfl (any_of HT_.out (by kernel_rfl)) (fun _ _ _ h=>h) (Or.inl ⟨by rfl,by intro w';go_simp;with_reducible rfl⟩) (by simp only [Act.put,qqj,qqk,qql,i64_w,i32_w];rfl) ?_
        refine pure_ (i:=3) (N:=some 50) (qqz 12 9) rfl rfl (any_of HT_.out (by kernel_rfl)) (fun _ _ _ h=>h) (Or.inl ⟨by rfl,by intro w';go_simp;with_reducible rfl⟩) (by simp only [Act.put,qqj,qqk,qql,i64_w,i32_w];rfl) ?_
        refine pure_ (i:=5) (N:=some 52) (qqz 12 41) rfl rfl (any_of HT_.out (by kernel_rfl)) (fun _ _ _ h=>h) (Or.inl ⟨by rfl,by intro w';go_simp;with_reducible rfl⟩) (by simp only [Act.put,qqj,qqk,qql,i64_w,i32_w];rfl) ?_
        refine take_ (i:=1) (N:=some 48) (qqz 12 43) rfl rfl (take_ofW HT_.out HW_.out (by kernel_rfl)) (fun _ _ _ h=>h) (Or.inl ⟨by rfl,by rintro w' ⟨s0,s1,s2,s3,s4,s5,s6,s7,s8⟩;go_simp;with_reducible rfl⟩) hHeld (by simp only [Act.put,qqj,qqk,qql,i64_w,i32_w];rfl) ?_
        refine take_ (i:=4) (N:=some 51) (qqz 12 59) rfl rfl (take_ofW HT_.out HW_.out (by kernel_rfl)) (fun _ _ _ h=>h) (Or.inl ⟨by rfl,by rintro w' ⟨s0,s1,s2,s3,s4,s5,s6,s7,s8⟩;go_simp;with_reducible rfl⟩) hHeld (by simp only [Act.put,qqj,qqk,qql,i64_w,i32_w];rfl) ?_
        refine take_ (i:=6) (N:=some 53) (qqz 12 123) rfl rfl (take_ofW HT_.out HW_.out (by kernel_rfl)) (fun _ _ _ h=>h) (Or.inl ⟨by rfl,by rintro w' ⟨s0,s1,s2,s3,s4,s5,s6,s7,s8⟩;go_simp;with_reducible rfl⟩) hHeld (by simp only [Act.put,qqj,qqk,qql,i64_w,i32_w];rfl) ?_
        refine take_ (i:=7) (N:=some 54) (qqz 12 251) rfl rfl (take_ofW HT_.out HW_.out (by kernel_rfl)) (fun _ _ _ h=>h) (Or.inl ⟨by rfl,by rintro w' ⟨s0,s1,s2,s3,s4,s5,s6,s7,s8⟩;go_simp;with_reducible rfl⟩) hHeld (by simp only [Act.put,qqj,qqk,qql,i64_w,i32_w];rfl) ?_
        refine one_ (i:=2) (N:=some 49) (qqz 12 255) rfl rfl (one_of HT_.out (by kernel_rfl)) (by decide) (fun K hK=>?_)
        refine goes_ Try.func30 (by kernel_rfl) rfl #[.string ((rd_T53 l0_2 0).f0)] (by rfl) rfl rfl (by (try simp only [List.map_toArray,List.map_cons,List.map_nil]);first|done|rfl|(simp only [List.length_drop,List.length_take];rfl)) ?_
        with_reducible refine (nuncioref04_Fold.calls kj24 ((rd_T53 l0_2 0).f0) t283 _ A45.out).mono ?_
        rintro e w48 ⟨rfl,hb⟩
        refine ⟨_,rfl,?_⟩
        have n0_:=qqm (blk_below (g:=gb276) (o:=.cells #[.int .u16 a0_0,.int .u16 a0_1,.slice (some ad280) l0_2.length c0_2,.slice A0_3 l0_3.length c0_3,.slice A0_4 l0_4.length c0_4,.slice A0_5 l0_5.length c0_5] 26 (0,0)) (by (with_reducible repeat first|apply qqa|apply qqb|apply qqc);exact BK276.out) hb)
        have n1_:=qqm (blk_below (g:=gb277) (o:=.cells #[.string (⟨#[]⟩:ByteArray),.int .u16 0,.int .u16 0,.bool false] 28 (0,0)) (by (with_reducible repeat first|apply qqa|apply qqb|apply qqc);exact BK277.out) hb)
        have n2_:=qqm (blk_below (g:=gb281) (o:=.cells #[.string ((rd_T53 l0_2 0).f0),.int .u16 ((rd_T53 l0_2 0).f1),.int .u16 ((rd_T53 l0_2 0).f2)] 53 (0,0)) (by (with_reducible repeat first|apply qqa|apply qqb|apply qqc);exact BK281.out) hb)
        have n3_:=qqm (below_step (by with_reducible repeat first|exact HB.out|apply qqf|apply qqd|apply qqe|refine qqg ?_ GE276.out|refine qqg ?_ GE277.out|refine qqg ?_ GE281.out) hb)
        clear BK276
        clear BK277
        clear BK281
        clear HB
        have BK276:=n0_
        have BK277:=n1_
        have BK281:=n2_
        have HB:=n3_
        clear n0_ n1_ n2_ n3_
        (try clear hb)
        (try clear hb2)
        (try clear hk)
        (try clear hi)
        refine hK.out _ _ ⟨(qqh BK281.out 0).trans rfl,(qqh BK281.out 1).trans rfl,(qqh BK281.out 2).trans rfl,(qqh BK276.out 0).trans rfl,(qqh BK276.out 1).trans rfl,(qqh BK276.out 2).trans rfl,(qqh BK276.out 3).trans rfl,(qqh BK276.out 4).trans rfl,(qqh BK276.out 5).trans rfl⟩ (fun hHeld=>?_)
        clear hK K
        refine norm_ (a':=?_) ?_ ?_
        rotate_left
        ·
         show Act.put _ (some 49) _ = _
         simp only [Act.put,qqj,qqk,qql,i64_w,i32_w]
         rfl
        refine one_ (i:=8) (N:=some 55) (qqz 12 511) rfl rfl (one_of HT_.out (by kernel_rfl)) (by decide) (fun K hK=>?_)
        refine goes_ Try.func38 (by kernel_rfl) rfl #[.agg #[.int .u16 a0_0,.int .u16 a0_1,.slice (some ad280) l0_2.length c0_2,.slice A0_3 l0_3.length c0_3,.slice A0_4 l0_4.length c0_4,.slice A0_5 l0_5.length c0_5]] (by rfl) rfl rfl (by (try simp only [List.map_toArray,List.map_cons,List.map_nil]);first|done|rfl|(simp only [List.length_drop,List.length_take];rfl)) ?_
        with_reducible refine (nuncioref08_DO.calls kj24 a0_0 a0_1 _ _ l0_2 _ _ l0_3 _ _ l0_4 _ _ l0_5 t284 _ ?side1 ?side2 ?side3 ?side4 ?side5 ?side6 ?side7 ?side8 A46.out).mono ?_
        (case side1=>repeat (first|exact (Kd.C_below HR0_2.out HB.out)|(with_reducible first|apply Kd.C_alloc|apply Kd.C_drewN|apply Kd.C_drew)))
        (case side2=>exact HC0_2.out)
        (case side3=>repeat (first|exact (Kd.C_below HR0_3.out HB.out)|(with_reducible first|apply Kd.C_alloc|apply Kd.C_drewN|apply Kd.C_drew)))
        (case side4=>exact HC0_3.out)
        (case side5=>repeat (first|exact (Kd.C_below HR0_4.out HB.out)|(with_reducible first|apply Kd.C_alloc|apply Kd.C_drewN|apply Kd.C_drew)))
        (case side6=>exact HC0_4.out)
        (case side7=>repeat (first|exact (Kd.C_below HR0_5.out HB.out)|(with_reducible first|apply Kd.C_alloc|apply Kd.C_drewN|apply Kd.C_drew)))
        (case side8=>exact HC0_5.out)
        rintro e w49 ⟨rfl,hb⟩
        refine ⟨_,rfl,?_⟩
        have n0_:=qqm (blk_below (g:=gb276) (o:=.cells #[.int .u16 a0_0,.int .u16 a0_1,.slice (some ad280) l0_2.length c0_2,.slice A0_3 l0_3.length c0_3,.slice A0_4 l0_4.length c0_4,.slice A0_5 l0_5.length c0_5] 26 (0,0)) (by (with_reducible repeat first|apply qqa|apply qqb|apply qqc);exact BK276.out) hb)
        have n1_:=qqm (blk_below (g:=gb277) (o:=.cells #[.string (⟨#[]⟩:ByteArray),.int .u16 0,.int .u16 0,.bool false] 28 (0,0)) (by (with_reducible repeat first|apply qqa|apply qqb|apply qqc);exact BK277.out) hb)
        have n2_:=qqm (blk_below (g:=gb281) (o:=.cells #[.string ((rd_T53 l0_2 0).f0),.int .u16 ((rd_T53 l0_2 0).f1),.int .u16 ((rd_T53 l0_2 0).f2)] 53 (0,0)) (by (with_reducible repeat first|apply qqa|apply qqb|apply qqc);exact BK281.out) hb)
        have n3_:=qqm (below_step (by with_reducible repeat first|exact HB.out|apply qqf|apply qqd|apply qqe|refine qqg ?_ GE276.out|refine qqg ?_ GE277.out|refine qqg ?_ GE281.out) hb)
        clear BK276
        clear BK277
        clear BK281
        clear HB
        have BK276:=n0_
        have BK277:=n1_
        have BK281:=n2_
        have HB:=n3_
        clear n0_ n1_ n2_ n3_
        (try clear hb)
        (try clear hb2)
        (try clear hk)
        (try clear hi)
        refine hK.out _ _ ⟨(qqh BK281.out 0).trans rfl,(qqh BK281.out 1).trans rfl,(qqh BK281.out 2).trans rfl,(qqh BK276.out 0).trans rfl,(qqh BK276.out 1).trans rfl,(qqh BK276.out 2).trans rfl,(qqh BK276.out 3).trans rfl,(qqh BK276.out 4).trans rfl,(qqh BK276.out 5).trans rfl⟩ (fun hHeld=>?_)
        clear hK K
        refine norm_ (a':=?_) ?_ ?_
        rotate_left
        ·
         show Act.put _ (some 55) _ = _
         simp only [Act.put,qqj,qqk,qql,i64_w,i32_w]
         rfl
        refine pure_ (i:=9) (N:=some 56) (qqz 12 1023) rfl rfl (any_of HT_.out (by kernel_rfl)) (fun _ _ _ h=>h) (Or.inl ⟨by rfl,by intro w';go_simp;with_reducible rfl⟩) (by simp only [Act.put,qqj,qqk,qql,i64_w,i32_w];rfl) ?_
        refine one_ (i:=10) (N:=none) (qqz 12 2047) rfl rfl (one_of HT_.out (by kernel_rfl)) (by decide) (fun K hK=>?_)
        have hs50:w49.cell? ⟨gb277,0,none⟩ = some (.string (⟨#[]⟩:ByteArray)):=(qqh BK277.out 0).trans rfl
        have hfs50:=qqi BK277.out 0
        have hns50_0:=NB276_277.out
        have hns50_2:=NB281_277.out
        have hms50_0:=NB277_276.out
        have hms50_2:=NB277_281.out
        have hs51:w49.cell? ⟨gb277,1,none⟩ = some (.int .u16 0):=(qqh BK277.out 1).trans rfl
        have hfs51:=qqi BK277.out 1
        have hns51_0:=NB276_277.out
        have hns51_2:=NB281_277.out
        have hms51_0:=NB277_276.out
        have hms51_2:=NB277_281.out
        have hs52:w49.cell? ⟨gb277,2,none⟩ = some (.int .u16 0):=(qqh BK277.out 2).trans rfl
        have hfs52:=qqi BK277.out 2
        have hns52_0:=NB276_277.out
        have hns52_2:=NB281_277.out
        have hms52_0:=NB277_276.out
        have hms52_2:=NB277_281.out
        have hs53:w49.cell? ⟨gb277,3,none⟩ = some (.bool false):=(qqh BK277.out 3).trans rfl
        have hfs53:=qqi BK277.out 3
        have hns53_0:=NB276_277.out
        have hns53_2:=NB281_277.out
        have hms53_0:=NB277_276.out
        have hms53_2:=NB277_281.out
        refine skip_ (w1:=?_) (by rfl) rfl ?_ ?_
        rotate_left
        ·
         go_simp
         rfl
        refine hK.out _ _ ⟨((cell_far (p:=⟨gb277,_,none⟩) NB281_277.out _).trans (((cell_far (p:=⟨gb277,_,none⟩) NB281_277.out _).trans (((cell_far (p:=⟨gb277,_,none⟩) NB281_277.out _).trans (((cell_far (p:=⟨gb277,_,none⟩) NB281_277.out _).trans (hHeld.1)))))))),((cell_far (p:=⟨gb277,_,none⟩) NB281_277.out _).trans (((cell_far (p:=⟨gb277,_,none⟩) NB281_277.out _).trans (((cell_far (p:=⟨gb277,_,none⟩) NB281_277.out _).trans (((cell_far (p:=⟨gb277,_,none⟩) NB281_277.out _).trans (hHeld.2.1)))))))),((cell_far (p:=⟨gb277,_,none⟩) NB281_277.out _).trans (((cell_far (p:=⟨gb277,_,none⟩) NB281_277.out _).trans (((cell_far (p:=⟨gb277,_,none⟩) NB281_277.out _).trans (((cell_far (p:=⟨gb277,_,none⟩) NB281_277.out _).trans (hHeld.2.2.1)))))))),((cell_far (p:=⟨gb277,_,none⟩) NB276_277.out _).trans (((cell_far (p:=⟨gb277,_,none⟩) NB276_277.out _).trans (((cell_far (p:=⟨gb277,_,none⟩) NB276_277.out _).trans (((cell_far (p:=⟨gb277,_,none⟩) NB276_277.out _).trans (hHeld.2.2.2.1)))))))),((cell_far (p:=⟨gb277,_,none⟩) NB276_277.out _).trans (((cell_far (p:=⟨gb277,_,none⟩) NB276_277.out _).trans (((cell_far (p:=⟨gb277,_,none⟩) NB276_277.out _).trans (((cell_far (p:=⟨gb277,_,none⟩) NB276_277.out _).trans (hHeld.2.2.2.2.1)))))))),((cell_far (p:=⟨gb277,_,none⟩) NB276_277.out _).trans (((cell_far (p:=⟨gb277,_,none⟩) NB276_277.out _).trans (((cell_far (p:=⟨gb277,_,none⟩) NB276_277.out _).trans (((cell_far (p:=⟨gb277,_,none⟩) NB276_277.out _).trans (hHeld.2.2.2.2.2.1)))))))),((cell_far (p:=⟨gb277,_,none⟩) NB276_277.out _).trans (((cell_far (p:=⟨gb277,_,none⟩) NB276_277.out _).trans (((cell_far (p:=⟨gb277,_,none⟩) NB276_277.out _).trans (((cell_far (p:=⟨gb277,_,none⟩) NB276_277.out _).trans (hHeld.2.2.2.2.2.2.1)))))))),((cell_far (p:=⟨gb277,_,none⟩) NB276_277.out _).trans (((cell_far (p:=⟨gb277,_,none⟩) NB276_277.out _).trans (((cell_far (p:=⟨gb277,_,none⟩) NB276_277.out _).trans (((cell_far (p:=⟨gb277,_,none⟩) NB276_277.out _).trans (hHeld.2.2.2.2.2.2.2.1)))))))),((cell_far (p:=⟨gb277,_,none⟩) NB276_277.out _).trans (((cell_far (p:=⟨gb277,_,none⟩) NB276_277.out _).trans (((cell_far (p:=⟨gb277,_,none⟩) NB276_277.out _).trans (((cell_far (p:=⟨gb277,_,none⟩) NB276_277.out _).trans (hHeld.2.2.2.2.2.2.2.2))))))))⟩ (fun hHeld=>?_)
        clear hK K
        refine pure_ (i:=11) (N:=some 3) (qqz 12 4095) rfl rfl (any_of HT_.out (by kernel_rfl)) (fun _ _ _ h=>h) (Or.inl ⟨by rfl,by intro w';go_simp;with_reducible rfl⟩) (by simp only [Act.put,qqj,qqk,qql,i64_w,i32_w];rfl) ?_
        refine done_ (done_of HT_.out (by kernel_rfl)) ?_
        try go_wp2
        refine bodyPost_ret (results_ct rfl _ _ gb277 28 #[.string t283,.int .u16 ((rd_T53 l0_2 0).f1),.int .u16 ((rd_T53 l0_2 0).f2),.bool t284] (0,0) _ rfl (by (with_reducible repeat first|apply qqa|apply qqb|apply qqc);refine blk_put (cs:=#[.string t283,.int .u16 ((rd_T53 l0_2 0).f1),.int .u16 ((rd_T53 l0_2 0).f2),.bool false]) ?_ 3 _ rfl;(with_reducible repeat first|apply qqa|apply qqb|apply qqc);refine blk_put (cs:=#[.string t283,.int .u16 ((rd_T53 l0_2 0).f1),.int .u16 0,.bool false]) ?_ 2 _ rfl;(with_reducible repeat first|apply qqa|apply qqb|apply qqc);refine blk_put (cs:=#[.string t283,.int .u16 0,.int .u16 0,.bool false]) ?_ 1 _ rfl;(with_reducible repeat first|apply qqa|apply qqb|apply qqc);refine blk_put (cs:=#[.string (⟨#[]⟩:ByteArray),.int .u16 0,.int .u16 0,.bool false]) ?_ 0 _ rfl;(with_reducible repeat first|apply qqa|apply qqb|apply qqc);exact BK277.out) Try.underlying28 rfl (by kernel_rfl)) rfl ?_
        exact ⟨by first|rfl|(simp [errW_none,errW_some] <;> rfl)|(simp [*,errW_none,errW_some] <;> rfl),by with_reducible repeat first|exact HB.out|apply qqf|apply qqd|apply qqe|refine qqg ?_ GE276.out|refine qqg ?_ GE277.out|refine qqg ?_ GE281.out⟩
    ·
     rw [if_neg c24] at H
     exact absurd H (by simp)

end Go.Proofs.Ythkdfnbhlinhiaa.Mine
