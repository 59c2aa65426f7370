-- Written by this repo's own printer (wip/print), which builds on the kit's.
import Derived.Test.YthkdfnbhlinhiaaMinex0
import Derived.Test.YthkdfnbhlinhiaaMinex3
import Derived.Test.YthkdfnbhlinhiaaMinex5
import Derived.Test.YthkdfnbhlinhiaaMinex6
namespace Go.Proofs.Ythkdfnbhlinhiaa.Mine
open Go.RowKit Go.Proofs.YthkdfnbhlinhiaaW.PrintWords Go.Proofs.YthkdfnbhlinhiaaW.PrintLast Go.Proofs.YthkdfnbhlinhiaaW.PrintMore
attribute [local go_sem] max2_int min2_int max_two min_two max_three min_three max_four min_four   -- for this text's walks alone
set_option linter.unusedVariables false
set_option linter.unusedSimpArgs false

/-! ### query_Ask: function 11 -/
def query_Ask.j0 : Nat → Bool → Int → Int → List (S53) → List (S51) → List (S51) → List (S51) → Option (ByteArray × Int × Int × Bool × Int)
 | 0, _, _, _, _, _, _, _ => none
 | k + 1, x37, x120000, x120001, x120002, x120003, x120004, x120005 => if x37 = true then (some ((⟨#[]⟩ : ByteArray), 0, 0, false, 107)) else ((query_key.f k x120000 x120001 x120002 x120003 x120004 x120005).bind fun bt123 => (if bt123.1.toList = ([] : List UInt8) then (some ((⟨#[]⟩ : ByteArray), 0, 0, false, 107)) else ((query_do.f k x120000 x120001 x120002 x120003 x120004 x120005).bind fun t128 => (some (bt123.1, bt123.2.1, bt123.2.2.1, t128, 0)))))
def query_Ask.f (k : Nat) (a0_0 : Int) (a0_1 : Int) (l0_2 : List (S53)) (l0_3 : List (S51)) (l0_4 : List (S51)) (l0_5 : List (S51)) : Option (ByteArray × Int × Int × Bool × Int) := if (Go.bits .and .u16 a0_1 32768) = 0 then ((query_opcode.f a0_0 a0_1 l0_2 l0_3 l0_4 l0_5).bind fun t121 => (if t121 = 0 then (if (l0_2.length : Int) = 1 then (if (wrap64 ((l0_3.length : Int) + (l0_4.length : Int))) > 0 then (query_Ask.j0 k true a0_0 a0_1 l0_2 l0_3 l0_4 l0_5) else (if 0 < (l0_2.length : Int) then (query_Ask.j0 k (((rd_T53 l0_2 0).f1) == 41) a0_0 a0_1 l0_2 l0_3 l0_4 l0_5) else (none))) else (query_Ask.j0 k true a0_0 a0_1 l0_2 l0_3 l0_4 l0_5)) else (query_Ask.j0 k true a0_0 a0_1 l0_2 l0_3 l0_4 l0_5))) else (query_Ask.j0 k true a0_0 a0_1 l0_2 l0_3 l0_4 l0_5)
theorem query_Ask.mono_l : ∀ k, (∀ y0 y1 y2 y3 y4 y5 y6, LeO (query_Ask.j0 k y0 y1 y2 y3 y4 y5 y6) (query_Ask.j0 (k + 1) y0 y1 y2 y3 y4 y5 y6))
 | 0 => fun _ _ _ _ _ _ _ r h => by simp [query_Ask.j0] at h
 | k + 1 => by
  have ih0:=query_Ask.mono_l k
  ·
   intro y0 y1 y2 y3 y4 y5 y6
   unfold query_Ask.j0
   repeat' first
   | (with_reducible exact ih0 _ _ _ _ _ _ _)
   | (with_reducible exact query_do.mono _ _ _ _ _ _ _)
   | (with_reducible exact query_key.mono _ _ _ _ _ _ _)
   | (with_reducible exact LeO.refl _)
   | (with_reducible exact LeO.none _)
   | (with_reducible refine LeO.ite ?_ ?_)
   | (with_reducible refine LeO.bind ?_ (fun _ => ?_))
   | exact ih0 _ _ _ _ _ _ _
   | exact query_do.mono _ _ _ _ _ _ _
   | exact query_key.mono _ _ _ _ _ _ _
   | exact LeO.none _
   | refine LeO.ite ?_ ?_
   | refine LeO.bind ?_ (fun _ => ?_)
theorem query_Ask.mono : ∀ a0 a1 a2 a3 a4 a5 k, LeO (query_Ask.f k a0 a1 a2 a3 a4 a5) (query_Ask.f (k + 1) a0 a1 a2 a3 a4 a5) := by
 intro a0 a1 a2 a3 a4 a5 k
 have ih0:=query_Ask.mono_l k
 unfold query_Ask.f
 repeat' first
   | (with_reducible exact ih0 _ _ _ _ _ _ _)
   | (with_reducible exact query_do.mono _ _ _ _ _ _ _)
   | (with_reducible exact query_key.mono _ _ _ _ _ _ _)
   | (with_reducible exact LeO.refl _)
   | (with_reducible exact LeO.none _)
   | (with_reducible refine LeO.ite ?_ ?_)
   | (with_reducible refine LeO.bind ?_ (fun _ => ?_))
   | exact ih0 _ _ _ _ _ _ _
   | exact query_do.mono _ _ _ _ _ _ _
   | exact query_key.mono _ _ _ _ _ _ _
   | exact LeO.none _
   | refine LeO.ite ?_ ?_
   | refine LeO.bind ?_ (fun _ => ?_)
set_option maxHeartbeats 8000000 in
set_option maxRecDepth 100000 in
theorem query_Ask.calls (k : Nat) (a0_0 : Int) (a0_1 : Int) (A0_2 : Option Addr) (c0_2 : Nat) (l0_2 : List (S53)) (A0_3 : Option Addr) (c0_3 : Nat) (l0_3 : List (S51)) (A0_4 : Option Addr) (c0_4 : Nat) (l0_4 : List (S51)) (A0_5 : Option Addr) (c0_5 : Nat) (l0_5 : List (S51)) (r1 : ByteArray) (r2 : Int) (r3 : Int) (r4 : Bool) (r5 : Int) (w : World) (hr0_2 : Kd.C k53 w A0_2 l0_2.length l0_2) (hc0_2 : l0_2.length ≤ c0_2) (hr0_3 : Kd.C k51 w A0_3 l0_3.length l0_3) (hc0_3 : l0_3.length ≤ c0_3) (hr0_4 : Kd.C k51 w A0_4 l0_4.length l0_4) (hc0_4 : l0_4.length ≤ c0_4) (hr0_5 : Kd.C k51 w A0_5 l0_5.length l0_5) (hc0_5 : l0_5.length ≤ c0_5) (h : query_Ask.f k a0_0 a0_1 l0_2 l0_3 l0_4 l0_5 = some (r1, r2, r3, r4, r5)) :
  Calls Try.prog 11 #[.agg #[.int .u16 a0_0,.int .u16 a0_1,.slice A0_2 l0_2.length c0_2,.slice A0_3 l0_3.length c0_3,.slice A0_4 l0_4.length c0_4,.slice A0_5 l0_5.length c0_5]] w fun e w'=>e = .returned (.tuple #[.agg #[.string r1,.int .u16 r2,.int .u16 r3,.bool r4],.int .i64 r5])∧Below w.heap.size w w':=by
 have hu26:=Try.underlying26
 have hu28:=Try.underlying28
 have HR0_2:=qqm hr0_2
 have HC0_2:=qqm hc0_2
 clear hr0_2 hc0_2
 have HR0_3:=qqm hr0_3
 have HC0_3:=qqm hc0_3
 clear hr0_3 hc0_3
 have HR0_4:=qqm hr0_4
 have HC0_4:=qqm hc0_4
 clear hr0_4 hc0_4
 have HR0_5:=qqm hr0_5
 have HC0_5:=qqm hc0_5
 clear hr0_5 hc0_5
 have HB:=qqm (Below.refl w.heap.size w)
 have H:(if (Go.bits .and .u16 a0_1 32768) = 0 then ((query_opcode.f a0_0 a0_1 l0_2 l0_3 l0_4 l0_5).bind fun t121=>(if t121 = 0 then (if (l0_2.length:Int) = 1 then (if (wrap64 ((l0_3.length:Int) + (l0_4.length:Int))) > 0 then (query_Ask.j0 k true a0_0 a0_1 l0_2 l0_3 l0_4 l0_5) else (if 0 < (l0_2.length:Int) then (query_Ask.j0 k (((rd_T53 l0_2 0).f1) == 41) a0_0 a0_1 l0_2 l0_3 l0_4 l0_5) else (none))) else (query_Ask.j0 k true a0_0 a0_1 l0_2 l0_3 l0_4 l0_5)) else (query_Ask.j0 k true a0_0 a0_1 l0_2 l0_3 l0_4 l0_5))) else (query_Ask.j0 k true a0_0 a0_1 l0_2 l0_3 l0_4 l0_5)) = some (r1,r2,r3,r4,r5):=h
 clear h
 have HC2:=qqm H
 clear H
 go_enter Try.func11,Try.ntmps11
 go_upto_region 1 with (first|((with_reducible refine gate_dst (N:=1) rfl ?_);(try (refine gate_guard (by rfl) ?_;dsimp only));refine box_event ?hg (N:=1) ?hd (cs:=#[.int .u16 a0_0,.int .u16 a0_1,.slice A0_2 l0_2.length c0_2,.slice A0_3 l0_3.length c0_3,.slice A0_4 l0_4.length c0_4,.slice A0_5 l0_5.length c0_5]) (t:=26) ?hr ?_;(case hd=>rfl);(case hg=>rfl);(case hr=>first|(go_simp;done)|(go_simp;rfl));intro gb119 hg w3 hbox hb;have n0_:=qqm (below_step (by with_reducible repeat first|exact HB.out|apply qqf|apply qqd|apply qqe) hb);have n1_:=qqm (hbox);have n2_:=qqm ((by rw [hg];exact (below_size (by with_reducible repeat first|exact HB.out|apply qqf|apply qqd|apply qqe)):w.heap.size ≤ gb119));have n3_:=n2_;clear HB;have HB:=n0_;have BK119:=n1_;have GW119:=n2_;have GE119:=n3_;clear n0_ n1_ n2_ n3_ hb hbox hg)|((with_reducible refine gate_dst (N:=2) rfl ?_);(try (refine gate_guard (by rfl) ?_;dsimp only));refine box_event ?hg (N:=2) ?hd (cs:=#[.string (⟨#[]⟩:ByteArray),.int .u16 0,.int .u16 0,.bool false]) (t:=28) ?hr ?_;(case hd=>rfl);(case hg=>rfl);(case hr=>first|(go_simp;done)|(go_simp;rfl));intro gb120 hg w4 hbox hb;have n0_:=qqm (blk_below (g:=gb119) (o:=.cells #[.int .u16 a0_0,.int .u16 a0_1,.slice A0_2 l0_2.length c0_2,.slice A0_3 l0_3.length c0_3,.slice A0_4 l0_4.length c0_4,.slice A0_5 l0_5.length c0_5] 26 (0,0)) (by (with_reducible repeat first|apply qqa|apply qqb|apply qqc);exact BK119.out) hb);have n1_:=qqm (below_step (by with_reducible repeat first|exact HB.out|apply qqf|apply qqd|apply qqe|refine qqg ?_ GE119.out) hb);have n2_:=qqm (hbox);have n3_:=qqm ((by rw [hg];exact (below_size (by with_reducible repeat first|exact HB.out|apply qqf|apply qqd|apply qqe|refine qqg ?_ GE119.out)):w.heap.size ≤ gb120));have n4_:=n3_;have n5_:=qqm ((by rw [hg];exact Nat.ne_of_lt (blk_lt (by (with_reducible repeat first|apply qqa|apply qqb|apply qqc);exact BK119.out)):gb119 ≠ gb120));have n6_:=qqm (Ne.symm n5_.out);clear BK119 HB;have BK119:=n0_;have HB:=n1_;have BK120:=n2_;have GW120:=n3_;have GE120:=n4_;have NB119_120:=n5_;have NB120_119:=n6_;clear n0_ n1_ n2_ n3_ n4_ n5_ n6_ hb hbox hg))
 (try simp only [Act.put,qqj,qqk,qql])
 go_cut [37] (fun v37 wc=>∃ (kq:Nat) (x37_1:Bool),v37 = .bool x37_1∧Aside0 (query_Ask.j0 kq x37_1 a0_0 a0_1 l0_2 l0_3 l0_4 l0_5 = some (r1,r2,r3,r4,r5))∧Aside0 (kq ≤ k)∧Aside0 (wc.heap[gb119]? = some (.cells #[.int .u16 a0_0,.int .u16 a0_1,(.slice A0_2 l0_2.length c0_2),(.slice A0_3 l0_3.length c0_3),(.slice A0_4 l0_4.length c0_4),(.slice A0_5 l0_5.length c0_5)] 26 (0,0)))∧Aside0 (wc.heap[gb120]? = some (.cells #[.string (⟨#[]⟩:ByteArray),.int .u16 0,.int .u16 0,.bool false] 28 (0,0)))∧Aside0 (Below w.heap.size w wc))
 case first =>
  have H:=HC2.out
  clear HC2
  by_cases c5:(Go.bits .and .u16 a0_1 32768) = 0
  ·
   rw [if_pos c5] at H
   have c5b0:((Go.bits .and .u16 a0_1 32768) == 0) = true:=beq_iff_eq.mpr c5
   have c5b1:((Go.bits .and .u16 a0_1 32768) != 0) = false:=bne_eq_false_iff_eq.mpr c5
   clear c5
   (first|rw [c5b0]|rw [c5b1]|(simp only [i64_w,i32_w];rw [c5b0])|skip)
   replace H:=Option.bind_eq_some_iff.mp H
   obtain ⟨t121,A60,H⟩:=H
   replace H:(if t121 = 0 then (if (l0_2.length:Int) = 1 then (if (wrap64 ((l0_3.length:Int) + (l0_4.length:Int))) > 0 then (query_Ask.j0 k true a0_0 a0_1 l0_2 l0_3 l0_4 l0_5) else (if 0 < (l0_2.length:Int) then (query_Ask.j0 k (((rd_T53 l0_2 0).f1) == 41) a0_0 a0_1 l0_2 l0_3 l0_4 l0_5) else (none))) else (query_Ask.j0 k true a0_0 a0_1 l0_2 l0_3 l0_4 l0_5)) else (query_Ask.j0 k true a0_0 a0_1 l0_2 l0_3 l0_4 l0_5)) = some (r1,r2,r3,r4,r5):=H
   have A6:=qqm A60
   clear A60
   by_cases c7:t121 = 0
   ·
    rw [if_pos c7] at H
    have c7b0:(t121 == 0) = true:=beq_iff_eq.mpr c7
    have c7b1:(t121 != 0) = false:=bne_eq_false_iff_eq.mpr c7
    clear c7
    by_cases c8:(l0_2.length:Int) = 1
    ·
     rw [if_pos c8] at H
     have c8b0:((l0_2.length:Int) == 1) = true:=beq_iff_eq.mpr c8
     have c8b1:((l0_2.length:Int) != 1) = false:=bne_eq_false_iff_eq.mpr c8
     clear c8
     by_cases c9:(wrap64 ((l0_3.length:Int) + (l0_4.length:Int))) > 0
     ·
      rw [if_pos c9] at H
      have c9b0:decide (0 < (wrap64 ((l0_3.length:Int) + (l0_4.length:Int)))) = true:=decide_eq_true c9
      clear c9
      have H':=qqm H
      clear H
      have hnb10:=NB119_120.out
      have hnc10:=NB120_119.out
      obtain ⟨hcz11_0,hcz11_1,hcz11_2,hcz11_3,hcz11_4,hcz11_5⟩:=qc6 BK119.out
      obtain ⟨hfz11_0,hfz11_1,hfz11_2,hfz11_3,hfz11_4,hfz11_5⟩:=qf6 BK119.out
      go_wp2_with (first|(go_at_call 33;(with_reducible refine (query_opcode.calls a0_0 a0_1 _ _ l0_2 _ _ l0_3 _ _ l0_4 _ _ l0_5 t121 _ ?side1 ?side2 ?side3 ?side4 ?side5 ?side6 ?side7 ?side8 A6.out).mono ?_);(case side1=>repeat (first|exact (Kd.C_below HR0_2.out HB.out)|(with_reducible first|apply Kd.C_alloc|apply Kd.C_drewN|apply Kd.C_drew)));(case side2=>exact HC0_2.out);(case side3=>repeat (first|exact (Kd.C_below HR0_3.out HB.out)|(with_reducible first|apply Kd.C_alloc|apply Kd.C_drewN|apply Kd.C_drew)));(case side4=>exact HC0_3.out);(case side5=>repeat (first|exact (Kd.C_below HR0_4.out HB.out)|(with_reducible first|apply Kd.C_alloc|apply Kd.C_drewN|apply Kd.C_drew)));(case side6=>exact HC0_4.out);(case side7=>repeat (first|exact (Kd.C_below HR0_5.out HB.out)|(with_reducible first|apply Kd.C_alloc|apply Kd.C_drewN|apply Kd.C_drew)));(case side8=>exact HC0_5.out);rintro e w12 ⟨rfl,hb⟩;have n0_:=qqm (blk_below (g:=gb119) (o:=.cells #[.int .u16 a0_0,.int .u16 a0_1,.slice A0_2 l0_2.length c0_2,.slice A0_3 l0_3.length c0_3,.slice A0_4 l0_4.length c0_4,.slice A0_5 l0_5.length c0_5] 26 (0,0)) (by (with_reducible repeat first|apply qqa|apply qqb|apply qqc);exact BK119.out) hb);have n1_:=qqm (blk_below (g:=gb120) (o:=.cells #[.string (⟨#[]⟩:ByteArray),.int .u16 0,.int .u16 0,.bool false] 28 (0,0)) (by (with_reducible repeat first|apply qqa|apply qqb|apply qqc);exact BK120.out) hb);have n2_:=qqm (below_step (by with_reducible repeat first|exact HB.out|apply qqf|apply qqd|apply qqe|refine qqg ?_ GE119.out|refine qqg ?_ GE120.out) hb);clear BK119 BK120 HB;have BK119:=n0_;have BK120:=n1_;have HB:=n2_;clear n0_ n1_ n2_;(try clear hb);(try clear hb2);(try clear hk);(try clear hi);obtain ⟨hcz13_0,hcz13_1,hcz13_2,hcz13_3,hcz13_4,hcz13_5⟩:=qc6 BK119.out;obtain ⟨hfz13_0,hfz13_1,hfz13_2,hfz13_3,hfz13_4,hfz13_5⟩:=qf6 BK119.out))
      go_meet
      case rel=>exact ⟨_,(true),(by first|rfl|(simp;done)|(simp [*];done)),H',⟨by first|omega|exact Nat.le_refl _⟩,⟨by (with_reducible repeat first|apply qqa|apply qqb|apply qqc);exact BK119.out⟩,⟨by (with_reducible repeat first|apply qqa|apply qqb|apply qqc);exact BK120.out⟩,⟨by with_reducible repeat first|exact HB.out|apply qqf|apply qqd|apply qqe|refine qqg ?_ GE119.out|refine qqg ?_ GE120.out⟩⟩
     ·
      rw [if_neg c9] at H
      have c9b0:decide (0 < (wrap64 ((l0_3.length:Int) + (l0_4.length:Int)))) = false:=decide_eq_false c9
      clear c9
      by_cases c14:0 < (l0_2.length:Int)
      ·
       rw [if_pos c14] at H
       have c14b0:decide (0 < (l0_2.length:Int)) = true:=decide_eq_true c14
       have c14b1:decide (0 < l0_2.length) = true:=decide_eq_true (by omega)
       clear c14
       have H':=qqm H
       clear H
       have hnb15:=NB119_120.out
       have hnc15:=NB120_119.out
       obtain ⟨hcz16_0,hcz16_1,hcz16_2,hcz16_3,hcz16_4,hcz16_5⟩:=qc6 BK119.out
       obtain ⟨hfz16_0,hfz16_1,hfz16_2,hfz16_3,hfz16_4,hfz16_5⟩:=qf6 BK119.out
       go_wp2_with (first|(go_at_call 33;(with_reducible refine (query_opcode.calls a0_0 a0_1 _ _ l0_2 _ _ l0_3 _ _ l0_4 _ _ l0_5 t121 _ ?side1 ?side2 ?side3 ?side4 ?side5 ?side6 ?side7 ?side8 A6.out).mono ?_);(case side1=>repeat (first|exact (Kd.C_below HR0_2.out HB.out)|(with_reducible first|apply Kd.C_alloc|apply Kd.C_drewN|apply Kd.C_drew)));(case side2=>exact HC0_2.out);(case side3=>repeat (first|exact (Kd.C_below HR0_3.out HB.out)|(with_reducible first|apply Kd.C_alloc|apply Kd.C_drewN|apply Kd.C_drew)));(case side4=>exact HC0_3.out);(case side5=>repeat (first|exact (Kd.C_below HR0_4.out HB.out)|(with_reducible first|apply Kd.C_alloc|apply Kd.C_drewN|apply Kd.C_drew)));(case side6=>exact HC0_4.out);(case side7=>repeat (first|exact (Kd.C_below HR0_5.out HB.out)|(with_reducible first|apply Kd.C_alloc|apply Kd.C_drewN|apply Kd.C_drew)));(case side8=>exact HC0_5.out);rintro e w17 ⟨rfl,hb⟩;have n0_:=qqm (blk_below (g:=gb119) (o:=.cells #[.int .u16 a0_0,.int .u16 a0_1,.slice A0_2 l0_2.length c0_2,.slice A0_3 l0_3.length c0_3,.slice A0_4 l0_4.length c0_4,.slice A0_5 l0_5.length c0_5] 26 (0,0)) (by (with_reducible repeat first|apply qqa|apply qqb|apply qqc);exact BK119.out) hb);have n1_:=qqm (blk_below (g:=gb120) (o:=.cells #[.string (⟨#[]⟩:ByteArray),.int .u16 0,.int .u16 0,.bool false] 28 (0,0)) (by (with_reducible repeat first|apply qqa|apply qqb|apply qqc);exact BK120.out) hb);have n2_:=qqm (below_step (by with_reducible repeat first|exact HB.out|apply qqf|apply qqd|apply qqe|refine qqg ?_ GE119.out|refine qqg ?_ GE120.out) hb);clear BK119 BK120 HB;have BK119:=n0_;have BK120:=n1_;have HB:=n2_;clear n0_ n1_ n2_;(try clear hb);(try clear hb2);(try clear hk);(try clear hi);obtain ⟨hcz18_0,hcz18_1,hcz18_2,hcz18_3,hcz18_4,hcz18_5⟩:=qc6 BK119.out;obtain ⟨hfz18_0,hfz18_1,hfz18_2,hfz18_3,hfz18_4,hfz18_5⟩:=qf6 BK119.out;have p122:0 ≤ (0:Int):=(by omega);have q122:0 < (l0_2.length:Int):=of_decide_eq_true (by first|(with_reducible assumption)|assumption);obtain ⟨ad122,e122,hx122_0,hx122_1,hx122_2⟩:=at_T53 HR0_2.out 0 p122 q122;cases e122;have qi122:(0 < l0_2.length) = True:=eq_true (by omega);(try rw [show ((0:Int)).toNat = 0 from rfl] at hx122_0);(try rw [show 0 * 3 = 0 from rfl] at hx122_0);(try rw [Addr.add_zero'] at hx122_0);(try rw [show ((0:Int)).toNat = 0 from rfl] at hx122_1);(try rw [show 0 * 3 = 0 from rfl] at hx122_1);(try rw [Addr.add_zero'] at hx122_1);(try rw [show ((0:Int)).toNat = 0 from rfl] at hx122_2);(try rw [show 0 * 3 = 0 from rfl] at hx122_2);(try rw [Addr.add_zero'] at hx122_2);replace hx122_0:=qqo HB.out hx122_0;replace hx122_1:=qqo HB.out hx122_1;replace hx122_2:=qqo HB.out hx122_2;replace p122:=eq_true p122;replace q122:=eq_true q122))
       go_meet
       case rel=>exact ⟨_,((((rd_T53 l0_2 0).f1) == 41)),(by first|rfl|(simp;done)|(simp [*];done)),H',⟨by first|omega|exact Nat.le_refl _⟩,⟨by (with_reducible repeat first|apply qqa|apply qqb|apply qqc);exact BK119.out⟩,⟨by (with_reducible repeat first|apply qqa|apply qqb|apply qqc);exact BK120.out⟩,⟨by with_reducible repeat first|exact HB.out|apply qqf|apply qqd|apply qqe|refine qqg ?_ GE119.out|refine qqg ?_ GE120.out⟩⟩
      ·
       rw [if_neg c14] at H
       exact absurd H (by simp)
    ·
     rw [if_neg c8] at H
     have c8b0:((l0_2.length:Int) == 1) = false:=beq_eq_false_iff_ne.mpr c8
     have c8b1:((l0_2.length:Int) != 1) = true:=bne_iff_ne.mpr c8
     have H':=qqm H
     clear H
     have hnb19:=NB119_120.out
     have hnc19:=NB120_119.out
     obtain ⟨hcz20_0,hcz20_1,hcz20_2,hcz20_3,hcz20_4,hcz20_5⟩:=qc6 BK119.out
     obtain ⟨hfz20_0,hfz20_1,hfz20_2,hfz20_3,hfz20_4,hfz20_5⟩:=qf6 BK119.out
     go_wp2_with (first|(go_at_call 33;(with_reducible refine (query_opcode.calls a0_0 a0_1 _ _ l0_2 _ _ l0_3 _ _ l0_4 _ _ l0_5 t121 _ ?side1 ?side2 ?side3 ?side4 ?side5 ?side6 ?side7 ?side8 A6.out).mono ?_);(case side1=>repeat (first|exact (Kd.C_below HR0_2.out HB.out)|(with_reducible first|apply Kd.C_alloc|apply Kd.C_drewN|apply Kd.C_drew)));(case side2=>exact HC0_2.out);(case side3=>repeat (first|exact (Kd.C_below HR0_3.out HB.out)|(with_reducible first|apply Kd.C_alloc|apply Kd.C_drewN|apply Kd.C_drew)));(case side4=>exact HC0_3.out);(case side5=>repeat (first|exact (Kd.C_below HR0_4.out HB.out)|(with_reducible first|apply Kd.C_alloc|apply Kd.C_drewN|apply Kd.C_drew)));(case side6=>exact HC0_4.out);(case side7=>repeat (first|exact (Kd.C_below HR0_5.out HB.out)|(with_reducible first|apply Kd.C_alloc|apply Kd.C_drewN|apply Kd.C_drew)));(case side8=>exact HC0_5.out);rintro e w21 ⟨rfl,hb⟩;have n0_:=qqm (blk_below (g:=gb119) (o:=.cells #[.int .u16 a0_0,.int .u16 a0_1,.slice A0_2 l0_2.length c0_2,.slice A0_3 l0_3.length c0_3,.slice A0_4 l0_4.length c0_4,.slice A0_5 l0_5.length c0_5] 26 (0,0)) (by (with_reducible repeat first|apply qqa|apply qqb|apply qqc);exact BK119.out) hb);have n1_:=qqm (blk_below (g:=gb120) (o:=.cells #[.string (⟨#[]⟩:ByteArray),.int .u16 0,.int .u16 0,.bool false] 28 (0,0)) (by (with_reducible repeat first|apply qqa|apply qqb|apply qqc);exact BK120.out) hb);have n2_:=qqm (below_step (by with_reducible repeat first|exact HB.out|apply qqf|apply qqd|apply qqe|refine qqg ?_ GE119.out|refine qqg ?_ GE120.out) hb);clear BK119 BK120 HB;have BK119:=n0_;have BK120:=n1_;have HB:=n2_;clear n0_ n1_ n2_;(try clear hb);(try clear hb2);(try clear hk);(try clear hi);obtain ⟨hcz22_0,hcz22_1,hcz22_2,hcz22_3,hcz22_4,hcz22_5⟩:=qc6 BK119.out;obtain ⟨hfz22_0,hfz22_1,hfz22_2,hfz22_3,hfz22_4,hfz22_5⟩:=qf6 BK119.out))
     go_meet
     case rel=>exact ⟨_,(true),(by first|rfl|(simp;done)|(simp [*];done)),H',⟨by first|omega|exact Nat.le_refl _⟩,⟨by (with_reducible repeat first|apply qqa|apply qqb|apply qqc);exact BK119.out⟩,⟨by (with_reducible repeat first|apply qqa|apply qqb|apply qqc);exact BK120.out⟩,⟨by with_reducible repeat first|exact HB.out|apply qqf|apply qqd|apply qqe|refine qqg ?_ GE119.out|refine qqg ?_ GE120.out⟩⟩
   ·
    rw [if_neg c7] at H
    have c7b0:(t121 == 0) = false:=beq_eq_false_iff_ne.mpr c7
    have c7b1:(t121 != 0) = true:=bne_iff_ne.mpr c7
    have H':=qqm H
    clear H
    have hnb23:=NB119_120.out
    have hnc23:=NB120_119.out
    obtain ⟨hcz24_0,hcz24_1,hcz24_2,hcz24_3,hcz24_4,hcz24_5⟩:=qc6 BK119.out
    obtain ⟨hfz24_0,hfz24_1,hfz24_2,hfz24_3,hfz24_4,hfz24_5⟩:=qf6 BK119.out
    go_wp2_with (first|(go_at_call 33;(with_reducible refine (query_opcode.calls a0_0 a0_1 _ _ l0_2 _ _ l0_3 _ _ l0_4 _ _ l0_5 t121 _ ?side1 ?side2 ?side3 ?side4 ?side5 ?side6 ?side7 ?side8 A6.out).mono ?_);(case side1=>repeat (first|exact (Kd.C_below HR0_2.out HB.out)|(with_reducible first|apply Kd.C_alloc|apply Kd.C_drewN|apply Kd.C_drew)));(case side2=>exact HC0_2.out);(case side3=>repeat (first|exact (Kd.C_below HR0_3.out HB.out)|(with_reducible first|apply Kd.C_alloc|apply Kd.C_drewN|apply Kd.C_drew)));(case side4=>exact HC0_3.out);(case side5=>repeat (first|exact (Kd.C_below HR0_4.out HB.out)|(with_reducible first|apply Kd.C_alloc|apply Kd.C_drewN|apply Kd.C_drew)));(case side6=>exact HC0_4.out);(case side7=>repeat (first|exact (Kd.C_below HR0_5.out HB.out)|(with_reducible first|apply Kd.C_alloc|apply Kd.C_drewN|apply Kd.C_drew)));(case side8=>exact HC0_5.out);rintro e w25 ⟨rfl,hb⟩;have n0_:=qqm (blk_below (g:=gb119) (o:=.cells #[.int .u16 a0_0,.int .u16 a0_1,.slice A0_2 l0_2.length c0_2,.slice A0_3 l0_3.length c0_3,.slice A0_4 l0_4.length c0_4,.slice A0_5 l0_5.length c0_5] 26 (0,0)) (by (with_reducible repeat first|apply qqa|apply qqb|apply qqc);exact BK119.out) hb);have n1_:=qqm (blk_below (g:=gb120) (o:=.cells #[.string (⟨#[]⟩:ByteArray),.int .u16 0,.int .u16 0,.bool false] 28 (0,0)) (by (with_reducible repeat first|apply qqa|apply qqb|apply qqc);exact BK120.out) hb);have n2_:=qqm (below_step (by with_reducible repeat first|exact HB.out|apply qqf|apply qqd|apply qqe|refine qqg ?_ GE119.out|refine qqg ?_ GE120.out) hb);clear BK119 BK120 HB;have BK119:=n0_;have BK120:=n1_;have HB:=n2_;clear n0_ n1_ n2_;(try clear hb);(try clear hb2);(try clear hk);(try clear hi)))
    go_meet
    case rel=>exact ⟨_,(true),(by first|rfl|(simp;done)|(simp [*];done)),H',⟨by first|omega|exact Nat.le_refl _⟩,⟨by (with_reducible repeat first|apply qqa|apply qqb|apply qqc);exact BK119.out⟩,⟨by (with_reducible repeat first|apply qqa|apply qqb|apply qqc);exact BK120.out⟩,⟨by with_reducible repeat first|exact HB.out|apply qqf|apply qqd|apply qqe|refine qqg ?_ GE119.out|refine qqg ?_ GE120.out⟩⟩
  ·
   rw [if_neg c5] at H
   have c5b0:((Go.bits .and .u16 a0_1 32768) == 0) = false:=beq_eq_false_iff_ne.mpr c5
   have c5b1:((Go.bits .and .u16 a0_1 32768) != 0) = true:=bne_iff_ne.mpr c5
   (first|rw [c5b0]|rw [c5b1]|(simp only [i64_w,i32_w];rw [c5b0])|skip)
   have H':=qqm H
   clear H
   have hnb26:=NB119_120.out
   have hnc26:=NB120_119.out
   obtain ⟨hcz27_0,hcz27_1,hcz27_2,hcz27_3,hcz27_4,hcz27_5⟩:=qc6 BK119.out
   obtain ⟨hfz27_0,hfz27_1,hfz27_2,hfz27_3,hfz27_4,hfz27_5⟩:=qf6 BK119.out
   go_wp2
   go_meet
   case rel=>exact ⟨_,(true),(by first|rfl|(simp;done)|(simp [*];done)),H',⟨by first|omega|exact Nat.le_refl _⟩,⟨by (with_reducible repeat first|apply qqa|apply qqb|apply qqc);exact BK119.out⟩,⟨by (with_reducible repeat first|apply qqa|apply qqb|apply qqc);exact BK120.out⟩,⟨by with_reducible repeat first|exact HB.out|apply qqf|apply qqd|apply qqe|refine qqg ?_ GE119.out|refine qqg ?_ GE120.out⟩⟩
 case rest =>
  clear HC2
  try clear c1
  try clear p1
  try clear q1
  try clear hx1
  try clear qi1
  try clear c2
  try clear p2
  try clear c5
  try clear c5b0
  try clear c5b1
  try clear p6
  try clear c7
  try clear c7b0
  try clear c7b1
  try clear c8
  try clear c8b0
  try clear c8b1
  try clear c9
  try clear c9b0
  try clear c10
  try clear c11
  try clear p12
  try clear q12
  try clear hx12
  try clear qi12
  try clear c14
  try clear c14b0
  try clear c14b1
  try clear c15
  try clear c19
  try clear c23
  try clear c26
  try clear hcz11_0 hcz11_1 hcz11_2 hcz11_3 hcz11_4 hcz11_5
  try clear hcz13_0 hcz13_1 hcz13_2 hcz13_3 hcz13_4 hcz13_5
  try clear hcz16_0 hcz16_1 hcz16_2 hcz16_3 hcz16_4 hcz16_5
  try clear hcz18_0 hcz18_1 hcz18_2 hcz18_3 hcz18_4 hcz18_5
  try clear hcz20_0 hcz20_1 hcz20_2 hcz20_3 hcz20_4 hcz20_5
  try clear hcz22_0 hcz22_1 hcz22_2 hcz22_3 hcz22_4 hcz22_5
  try clear hcz24_0 hcz24_1 hcz24_2 hcz24_3 hcz24_4 hcz24_5
  try clear hcz27_0 hcz27_1 hcz27_2 hcz27_3 hcz27_4 hcz27_5
  try clear hfz11_0 hfz11_1 hfz11_2 hfz11_3 hfz11_4 hfz11_5
  try clear hfz13_0 hfz13_1 hfz13_2 hfz13_3 hfz13_4 hfz13_5
  try clear hfz16_0 hfz16_1 hfz16_2 hfz16_3 hfz16_4 hfz16_5
  try clear hfz18_0 hfz18_1 hfz18_2 hfz18_3 hfz18_4 hfz18_5
  try clear hfz20_0 hfz20_1 hfz20_2 hfz20_3 hfz20_4 hfz20_5
  try clear hfz22_0 hfz22_1 hfz22_2 hfz22_3 hfz22_4 hfz22_5
  try clear hfz24_0 hfz24_1 hfz24_2 hfz24_3 hfz24_4 hfz24_5
  try clear hfz27_0 hfz27_1 hfz27_2 hfz27_3 hfz27_4 hfz27_5
  try clear hx122_0
  try clear hx122_1
  try clear hx122_2
  try clear p122
  try clear q122
  obtain ⟨kq,x37_1,rfl,HA,HJ1,BK119,BK120,HB⟩:=hcut
  cases kq with
  | zero => exact absurd HA.out (by simp [query_Ask.j0])
  | succ kj1 =>
   have H:=HA.out
   clear HA
   simp only [query_Ask.j0] at H
   by_cases c28:x37_1 = true
   ·
    subst c28
    have H1:(some ((⟨#[]⟩:ByteArray),0,0,false,107)) = some (r1,r2,r3,r4,r5):=by rw [if_pos rfl] at H;exact H
    clear H
    have H:=H1
    clear H1
    simp only [Option.some.injEq,Prod.mk.injEq] at H
    obtain ⟨rfl,rfl,rfl,rfl,rfl⟩:=H
    have hnb29:=NB120_119.out
    have hnc29:=NB119_120.out
    obtain ⟨hcz30_0,hcz30_1,hcz30_2,hcz30_3⟩:=qc4 BK120.out
    obtain ⟨hfz30_0,hfz30_1,hfz30_2,hfz30_3⟩:=qf4 BK120.out
    go_wp2
    refine bodyPost_ret (results_ct rfl _ _ gb120 28 #[.string (⟨#[]⟩:ByteArray),.int .u16 0,.int .u16 0,.bool false] (0,0) _ rfl (by (with_reducible repeat first|apply qqa|apply qqb|apply qqc);refine blk_put (cs:=#[.string (⟨#[]⟩:ByteArray),.int .u16 0,.int .u16 0,.bool false]) ?_ 3 _ rfl;(with_reducible repeat first|apply qqa|apply qqb|apply qqc);refine blk_put (cs:=#[.string (⟨#[]⟩:ByteArray),.int .u16 0,.int .u16 0,.bool false]) ?_ 2 _ rfl;(with_reducible repeat first|apply qqa|apply qqb|apply qqc);refine blk_put (cs:=#[.string (⟨#[]⟩:ByteArray),.int .u16 0,.int .u16 0,.bool false]) ?_ 1 _ rfl;(with_reducible repeat first|apply qqa|apply qqb|apply qqc);refine blk_put (cs:=#[.string (⟨#[]⟩:ByteArray),.int .u16 0,.int .u16 0,.bool false]) ?_ 0 _ rfl;(with_reducible repeat first|apply qqa|apply qqb|apply qqc);exact BK120.out) Try.underlying28 rfl (by kernel_rfl)) rfl ?_
    exact ⟨by first|rfl|(simp [errW_none,errW_some] <;> rfl)|(simp [*,errW_none,errW_some] <;> rfl),by with_reducible repeat first|exact HB.out|apply qqf|apply qqd|apply qqe|refine qqg ?_ GE119.out|refine qqg ?_ GE120.out⟩
   ·
    replace c28:=Bool.eq_false_iff.mpr c28
    subst c28
    have H1:((query_key.f kj1 a0_0 a0_1 l0_2 l0_3 l0_4 l0_5).bind fun bt123=>(if bt123.1.toList = ([]:List UInt8) then (some ((⟨#[]⟩:ByteArray),0,0,false,107)) else ((query_do.f kj1 a0_0 a0_1 l0_2 l0_3 l0_4 l0_5).bind fun t128=>(some (bt123.1,bt123.2.1,bt123.2.2.1,t128,0))))) = some (r1,r2,r3,r4,r5):=by rw [if_neg (show ¬ (false = true) by decide)] at H;exact H
    clear H
    have H:=H1
    clear H1
    replace H:=Option.bind_eq_some_iff.mp H
    obtain ⟨⟨t123,t124,t125,t126⟩,A310,H⟩:=H
    replace H:(if t123.toList = ([]:List UInt8) then (some ((⟨#[]⟩:ByteArray),0,0,false,107)) else ((query_do.f kj1 a0_0 a0_1 l0_2 l0_3 l0_4 l0_5).bind fun t128=>(some (t123,t124,t125,t128,0)))) = some (r1,r2,r3,r4,r5):=H
    have A31:=qqm A310
    clear A310
    by_cases c32:t123.toList = ([]:List UInt8)
    ·
     rw [if_pos c32] at H
     have c32b0:(t123.toList == ([]:List UInt8)) = true:=beq_iff_eq.mpr c32
     have c32b1:(t123.toList != ([]:List UInt8)) = false:=bne_eq_false_iff_eq.mpr c32
     clear c32
     simp only [Option.some.injEq,Prod.mk.injEq] at H
     obtain ⟨rfl,rfl,rfl,rfl,rfl⟩:=H
     have hnb33:=NB119_120.out
     have hnc33:=NB120_119.out
     obtain ⟨hcz34_0,hcz34_1,hcz34_2,hcz34_3,hcz34_4,hcz34_5⟩:=qc6 BK119.out
     obtain ⟨hfz34_0,hfz34_1,hfz34_2,hfz34_3,hfz34_4,hfz34_5⟩:=qf6 BK119.out
     go_wp2_with (first|((with_reducible refine gate_callee (f:=34) rfl ?_);refine goesL_ (some 40) rfl rfl Try.func34 (by kernel_rfl) rfl #[.agg #[.int .u16 a0_0,.int .u16 a0_1,.slice A0_2 l0_2.length c0_2,.slice A0_3 l0_3.length c0_3,.slice A0_4 l0_4.length c0_4,.slice A0_5 l0_5.length c0_5]] rfl (by (try simp only [List.map_toArray,List.map_cons,List.map_nil]);first|done|rfl|(simp only [List.length_drop,List.length_take];rfl)) ?_;(with_reducible refine (query_key.calls kj1 a0_0 a0_1 _ _ l0_2 _ _ l0_3 _ _ l0_4 _ _ l0_5 t123 t124 t125 t126 _ ?side1 ?side2 ?side3 ?side4 ?side5 ?side6 ?side7 ?side8 A31.out).mono ?_);(case side1=>repeat (first|exact (Kd.C_below HR0_2.out HB.out)|(with_reducible first|apply Kd.C_alloc|apply Kd.C_drewN|apply Kd.C_drew)));(case side2=>exact HC0_2.out);(case side3=>repeat (first|exact (Kd.C_below HR0_3.out HB.out)|(with_reducible first|apply Kd.C_alloc|apply Kd.C_drewN|apply Kd.C_drew)));(case side4=>exact HC0_3.out);(case side5=>repeat (first|exact (Kd.C_below HR0_4.out HB.out)|(with_reducible first|apply Kd.C_alloc|apply Kd.C_drewN|apply Kd.C_drew)));(case side6=>exact HC0_4.out);(case side7=>repeat (first|exact (Kd.C_below HR0_5.out HB.out)|(with_reducible first|apply Kd.C_alloc|apply Kd.C_drewN|apply Kd.C_drew)));(case side8=>exact HC0_5.out);rintro e w35 ⟨rfl,hb⟩;refine ⟨_,rfl,?_⟩;have n0_:=qqm (blk_below (g:=gb119) (o:=.cells #[.int .u16 a0_0,.int .u16 a0_1,.slice A0_2 l0_2.length c0_2,.slice A0_3 l0_3.length c0_3,.slice A0_4 l0_4.length c0_4,.slice A0_5 l0_5.length c0_5] 26 (0,0)) (by (with_reducible repeat first|apply qqa|apply qqb|apply qqc);exact BK119.out) hb);have n1_:=qqm (blk_below (g:=gb120) (o:=.cells #[.string (⟨#[]⟩:ByteArray),.int .u16 0,.int .u16 0,.bool false] 28 (0,0)) (by (with_reducible repeat first|apply qqa|apply qqb|apply qqc);exact BK120.out) hb);have n2_:=qqm (below_step (by with_reducible repeat first|exact HB.out|apply qqf|apply qqd|apply qqe|refine qqg ?_ GE119.out|refine qqg ?_ GE120.out) hb);clear BK119 BK120 HB;have BK119:=n0_;have BK120:=n1_;have HB:=n2_;clear n0_ n1_ n2_;(try clear hb);(try clear hb2);(try clear hk);(try clear hi))|((with_reducible refine gate_dst (N:=4) rfl ?_);(try (refine gate_guard (by rfl) ?_;dsimp only));refine box_event ?hg (N:=4) ?hd (cs:=#[.string (⟨#[]⟩:ByteArray),.int .u16 0,.int .u16 0,.bool false]) (t:=28) ?hr ?_;(case hd=>rfl);(case hg=>rfl);(case hr=>first|(go_simp;done)|(go_simp;rfl));intro gb127 hg w36 hbox hb;have n0_:=qqm (blk_below (g:=gb119) (o:=.cells #[.int .u16 a0_0,.int .u16 a0_1,.slice A0_2 l0_2.length c0_2,.slice A0_3 l0_3.length c0_3,.slice A0_4 l0_4.length c0_4,.slice A0_5 l0_5.length c0_5] 26 (0,0)) (by (with_reducible repeat first|apply qqa|apply qqb|apply qqc);exact BK119.out) hb);have n1_:=qqm (blk_below (g:=gb120) (o:=.cells #[.string (⟨#[]⟩:ByteArray),.int .u16 0,.int .u16 0,.bool false] 28 (0,0)) (by (with_reducible repeat first|apply qqa|apply qqb|apply qqc);exact BK120.out) hb);have n2_:=qqm (below_step (by with_reducible repeat first|exact HB.out|apply qqf|apply qqd|apply qqe|refine qqg ?_ GE119.out|refine qqg ?_ GE120.out) hb);have n3_:=qqm (hbox);have n4_:=qqm ((by rw [hg];exact (below_size (by with_reducible repeat first|exact HB.out|apply qqf|apply qqd|apply qqe|refine qqg ?_ GE119.out|refine qqg ?_ GE120.out)):w.heap.size ≤ gb127));have n5_:=n4_;have n6_:=qqm ((by rw [hg];exact Nat.ne_of_lt (blk_lt (by (with_reducible repeat first|apply qqa|apply qqb|apply qqc);exact BK119.out)):gb119 ≠ gb127));have n7_:=qqm (Ne.symm n6_.out);have n8_:=qqm ((by rw [hg];exact Nat.ne_of_lt (blk_lt (by (with_reducible repeat first|apply qqa|apply qqb|apply qqc);exact BK120.out)):gb120 ≠ gb127));have n9_:=qqm (Ne.symm n8_.out);clear BK119 BK120 HB;have BK119:=n0_;have BK120:=n1_;have HB:=n2_;have BK127:=n3_;have GW127:=n4_;have GE127:=n5_;have NB119_127:=n6_;have NB127_119:=n7_;have NB120_127:=n8_;have NB127_120:=n9_;clear n0_ n1_ n2_ n3_ n4_ n5_ n6_ n7_ n8_ n9_ hb hbox hg;have hnb37:=NB127_119.out;have hnc37:=NB119_127.out;have hnb38:=NB127_120.out;have hnc38:=NB120_127.out;obtain ⟨hcz39_0,hcz39_1,hcz39_2,hcz39_3⟩:=qc4 BK127.out;obtain ⟨hfz39_0,hfz39_1,hfz39_2,hfz39_3⟩:=qf4 BK127.out;obtain ⟨hcz40_0,hcz40_1,hcz40_2,hcz40_3⟩:=qc4 BK120.out;obtain ⟨hfz40_0,hfz40_1,hfz40_2,hfz40_3⟩:=qf4 BK120.out))
     refine bodyPost_ret (results_ct rfl _ _ gb120 28 #[.string (⟨#[]⟩:ByteArray),.int .u16 0,.int .u16 0,.bool false] (0,0) _ rfl (by (with_reducible repeat first|apply qqa|apply qqb|apply qqc);refine blk_put (cs:=#[.string (⟨#[]⟩:ByteArray),.int .u16 0,.int .u16 0,.bool false]) ?_ 3 _ rfl;(with_reducible repeat first|apply qqa|apply qqb|apply qqc);refine blk_put (cs:=#[.string (⟨#[]⟩:ByteArray),.int .u16 0,.int .u16 0,.bool false]) ?_ 2 _ rfl;(with_reducible repeat first|apply qqa|apply qqb|apply qqc);refine blk_put (cs:=#[.string (⟨#[]⟩:ByteArray),.int .u16 0,.int .u16 0,.bool false]) ?_ 1 _ rfl;(with_reducible repeat first|apply qqa|apply qqb|apply qqc);refine blk_put (cs:=#[.string (⟨#[]⟩:ByteArray),.int .u16 0,.int .u16 0,.bool false]) ?_ 0 _ rfl;(with_reducible repeat first|apply qqa|apply qqb|apply qqc);refine blk_far ?_ NB120_127.out _;(with_reducible repeat first|apply qqa|apply qqb|apply qqc);refine blk_far ?_ NB120_127.out _;(with_reducible repeat first|apply qqa|apply qqb|apply qqc);refine blk_far ?_ NB120_127.out _;(with_reducible repeat first|apply qqa|apply qqb|apply qqc);refine blk_far ?_ NB120_127.out _;(with_reducible repeat first|apply qqa|apply qqb|apply qqc);exact BK120.out) Try.underlying28 rfl (by kernel_rfl)) rfl ?_
     exact ⟨by first|rfl|(simp [errW_none,errW_some] <;> rfl)|(simp [*,errW_none,errW_some] <;> rfl),by with_reducible repeat first|exact HB.out|apply qqf|apply qqd|apply qqe|refine qqg ?_ GE119.out|refine qqg ?_ GE120.out|refine qqg ?_ GE127.out⟩
    ·
     rw [if_neg c32] at H
     have c32b0:(t123.toList == ([]:List UInt8)) = false:=beq_eq_false_iff_ne.mpr c32
     have c32b1:(t123.toList != ([]:List UInt8)) = true:=bne_iff_ne.mpr c32
     replace H:=Option.bind_eq_some_iff.mp H
     obtain ⟨t128,A410,H⟩:=H
     replace H:(some (t123,t124,t125,t128,0)) = some (r1,r2,r3,r4,r5):=H
     have A41:=qqm A410
     clear A410
     simp only [Option.some.injEq,Prod.mk.injEq] at H
     obtain ⟨rfl,rfl,rfl,rfl,rfl⟩:=H
     have hnb42:=NB119_120.out
     have hnc42:=NB120_119.out
     obtain ⟨hcz43_0,hcz43_1,hcz43_2,hcz43_3,hcz43_4,hcz43_5⟩:=qc6 BK119.out
     obtain ⟨hfz43_0,hfz43_1,hfz43_2,hfz43_3,hfz43_4,hfz43_5⟩:=qf6 BK119.out
     go_wp2_with (first|((with_reducible refine gate_callee (f:=34) rfl ?_);refine goesL_ (some 40) rfl rfl Try.func34 (by kernel_rfl) rfl #[.agg #[.int .u16 a0_0,.int .u16 a0_1,.slice A0_2 l0_2.length c0_2,.slice A0_3 l0_3.length c0_3,.slice A0_4 l0_4.length c0_4,.slice A0_5 l0_5.length c0_5]] rfl (by (try simp only [List.map_toArray,List.map_cons,List.map_nil]);first|done|rfl|(simp only [List.length_drop,List.length_take];rfl)) ?_;(with_reducible refine (query_key.calls kj1 a0_0 a0_1 _ _ l0_2 _ _ l0_3 _ _ l0_4 _ _ l0_5 t123 t124 t125 t126 _ ?side1 ?side2 ?side3 ?side4 ?side5 ?side6 ?side7 ?side8 A31.out).mono ?_);(case side1=>repeat (first|exact (Kd.C_below HR0_2.out HB.out)|(with_reducible first|apply Kd.C_alloc|apply Kd.C_drewN|apply Kd.C_drew)));(case side2=>exact HC0_2.out);(case side3=>repeat (first|exact (Kd.C_below HR0_3.out HB.out)|(with_reducible first|apply Kd.C_alloc|apply Kd.C_drewN|apply Kd.C_drew)));(case side4=>exact HC0_3.out);(case side5=>repeat (first|exact (Kd.C_below HR0_4.out HB.out)|(with_reducible first|apply Kd.C_alloc|apply Kd.C_drewN|apply Kd.C_drew)));(case side6=>exact HC0_4.out);(case side7=>repeat (first|exact (Kd.C_below HR0_5.out HB.out)|(with_reducible first|apply Kd.C_alloc|apply Kd.C_drewN|apply Kd.C_drew)));(case side8=>exact HC0_5.out);rintro e w44 ⟨rfl,hb⟩;refine ⟨_,rfl,?_⟩;have n0_:=qqm (blk_below (g:=gb119) (o:=.cells #[.int .u16 a0_0,.int .u16 a0_1,.slice A0_2 l0_2.length c0_2,.slice A0_3 l0_3.length c0_3,.slice A0_4 l0_4.length c0_4,.slice A0_5 l0_5.length c0_5] 26 (0,0)) (by (with_reducible repeat first|apply qqa|apply qqb|apply qqc);exact BK119.out) hb);have n1_:=qqm (blk_below (g:=gb120) (o:=.cells #[.string (⟨#[]⟩:ByteArray),.int .u16 0,.int .u16 0,.bool false] 28 (0,0)) (by (with_reducible repeat first|apply qqa|apply qqb|apply qqc);exact BK120.out) hb);have n2_:=qqm (below_step (by with_reducible repeat first|exact HB.out|apply qqf|apply qqd|apply qqe|refine qqg ?_ GE119.out|refine qqg ?_ GE120.out) hb);clear BK119 BK120 HB;have BK119:=n0_;have BK120:=n1_;have HB:=n2_;clear n0_ n1_ n2_;(try clear hb);(try clear hb2);(try clear hk);(try clear hi))|((with_reducible refine gate_dst (N:=4) rfl ?_);(try (refine gate_guard (by rfl) ?_;dsimp only));refine box_event ?hg (N:=4) ?hd (cs:=#[.string (⟨#[]⟩:ByteArray),.int .u16 0,.int .u16 0,.bool false]) (t:=28) ?hr ?_;(case hd=>rfl);(case hg=>rfl);(case hr=>first|(go_simp;done)|(go_simp;rfl));intro gb127 hg w45 hbox hb;have n0_:=qqm (blk_below (g:=gb119) (o:=.cells #[.int .u16 a0_0,.int .u16 a0_1,.slice A0_2 l0_2.length c0_2,.slice A0_3 l0_3.length c0_3,.slice A0_4 l0_4.length c0_4,.slice A0_5 l0_5.length c0_5] 26 (0,0)) (by (with_reducible repeat first|apply qqa|apply qqb|apply qqc);exact BK119.out) hb);have n1_:=qqm (blk_below (g:=gb120) (o:=.cells #[.string (⟨#[]⟩:ByteArray),.int .u16 0,.int .u16 0,.bool false] 28 (0,0)) (by (with_reducible repeat first|apply qqa|apply qqb|apply qqc);exact BK120.out) hb);have n2_:=qqm (below_step (by with_reducible repeat first|exact HB.out|apply qqf|apply qqd|apply qqe|refine qqg ?_ GE119.out|refine qqg ?_ GE120.out) hb);have n3_:=qqm (hbox);have n4_:=qqm ((by rw [hg];exact (below_size (by with_reducible repeat first|exact HB.out|apply qqf|apply qqd|apply qqe|refine qqg ?_ GE119.out|refine qqg ?_ GE120.out)):w.heap.size ≤ gb127));have n5_:=n4_;have n6_:=qqm ((by rw [hg];exact Nat.ne_of_lt (blk_lt (by (with_reducible repeat first|apply qqa|apply qqb|apply qqc);exact BK119.out)):gb119 ≠ gb127));have n7_:=qqm (Ne.symm n6_.out);have n8_:=qqm ((by rw [hg];exact Nat.ne_of_lt (blk_lt (by (with_reducible repeat first|apply qqa|apply qqb|apply qqc);exact BK120.out)):gb120 ≠ gb127));have n9_:=qqm (Ne.symm n8_.out);clear BK119 BK120 HB;have BK119:=n0_;have BK120:=n1_;have HB:=n2_;have BK127:=n3_;have GW127:=n4_;have GE127:=n5_;have NB119_127:=n6_;have NB127_119:=n7_;have NB120_127:=n8_;have NB127_120:=n9_;clear n0_ n1_ n2_ n3_ n4_ n5_ n6_ n7_ n8_ n9_ hb hbox hg;have hnb46:=NB127_119.out;have hnc46:=NB119_127.out;have hnb47:=NB127_120.out;have hnc47:=NB120_127.out;obtain ⟨hcz48_0,hcz48_1,hcz48_2,hcz48_3⟩:=qc4 BK127.out;obtain ⟨hfz48_0,hfz48_1,hfz48_2,hfz48_3⟩:=qf4 BK127.out;obtain ⟨hcz49_0,hcz49_1,hcz49_2,hcz49_3,hcz49_4,hcz49_5⟩:=qc6 BK119.out;obtain ⟨hfz49_0,hfz49_1,hfz49_2,hfz49_3,hfz49_4,hfz49_5⟩:=qf6 BK119.out)|((with_reducible refine gate_callee (f:=35) rfl ?_);refine goesL_ (some 46) rfl rfl Try.func35 (by kernel_rfl) rfl #[.agg #[.int .u16 a0_0,.int .u16 a0_1,.slice A0_2 l0_2.length c0_2,.slice A0_3 l0_3.length c0_3,.slice A0_4 l0_4.length c0_4,.slice A0_5 l0_5.length c0_5]] rfl (by (try simp only [List.map_toArray,List.map_cons,List.map_nil]);first|done|rfl|(simp only [List.length_drop,List.length_take];rfl)) ?_;(with_reducible refine (query_do.calls kj1 a0_0 a0_1 _ _ l0_2 _ _ l0_3 _ _ l0_4 _ _ l0_5 t128 _ ?side1 ?side2 ?side3 ?side4 ?side5 ?side6 ?side7 ?side8 A41.out).mono ?_);(case side1=>exact Kd.C_below HR0_2.out (by with_reducible repeat first|exact HB.out|apply qqf|apply qqd|apply qqe|refine qqg ?_ GE119.out|refine qqg ?_ GE120.out|refine qqg ?_ GE127.out));(case side2=>exact HC0_2.out);(case side3=>exact Kd.C_below HR0_3.out (by with_reducible repeat first|exact HB.out|apply qqf|apply qqd|apply qqe|refine qqg ?_ GE119.out|refine qqg ?_ GE120.out|refine qqg ?_ GE127.out));(case side4=>exact HC0_3.out);(case side5=>exact Kd.C_below HR0_4.out (by with_reducible repeat first|exact HB.out|apply qqf|apply qqd|apply qqe|refine qqg ?_ GE119.out|refine qqg ?_ GE120.out|refine qqg ?_ GE127.out));(case side6=>exact HC0_4.out);(case side7=>exact Kd.C_below HR0_5.out (by with_reducible repeat first|exact HB.out|apply qqf|apply qqd|apply qqe|refine qqg ?_ GE119.out|refine qqg ?_ GE120.out|refine qqg ?_ GE127.out));(case side8=>exact HC0_5.out);rintro e w50 ⟨rfl,hb⟩;refine ⟨_,rfl,?_⟩;have n0_:=qqm (blk_below (g:=gb119) (o:=.cells #[.int .u16 a0_0,.int .u16 a0_1,.slice A0_2 l0_2.length c0_2,.slice A0_3 l0_3.length c0_3,.slice A0_4 l0_4.length c0_4,.slice A0_5 l0_5.length c0_5] 26 (0,0)) (by (with_reducible repeat first|apply qqa|apply qqb|apply qqc);refine blk_far ?_ NB119_127.out _;(with_reducible repeat first|apply qqa|apply qqb|apply qqc);refine blk_far ?_ NB119_127.out _;(with_reducible repeat first|apply qqa|apply qqb|apply qqc);refine blk_far ?_ NB119_127.out _;(with_reducible repeat first|apply qqa|apply qqb|apply qqc);refine blk_far ?_ NB119_127.out _;(with_reducible repeat first|apply qqa|apply qqb|apply qqc);exact BK119.out) hb);have n1_:=qqm (blk_below (g:=gb120) (o:=.cells #[.string (⟨#[]⟩:ByteArray),.int .u16 0,.int .u16 0,.bool false] 28 (0,0)) (by (with_reducible repeat first|apply qqa|apply qqb|apply qqc);refine blk_far ?_ NB120_127.out _;(with_reducible repeat first|apply qqa|apply qqb|apply qqc);refine blk_far ?_ NB120_127.out _;(with_reducible repeat first|apply qqa|apply qqb|apply qqc);refine blk_far ?_ NB120_127.out _;(with_reducible repeat first|apply qqa|apply qqb|apply qqc);refine blk_far ?_ NB120_127.out _;(with_reducible repeat first|apply qqa|apply qqb|apply qqc);exact BK120.out) hb);have n2_:=qqm (blk_below (g:=gb127) (o:=.cells #[.string t123,.int .u16 t124,.int .u16 t125,.bool t126] 28 (0,0)) (by (with_reducible repeat first|apply qqa|apply qqb|apply qqc);refine blk_put (cs:=#[.string t123,.int .u16 t124,.int .u16 t125,.bool false]) ?_ 3 _ rfl;(with_reducible repeat first|apply qqa|apply qqb|apply qqc);refine blk_put (cs:=#[.string t123,.int .u16 t124,.int .u16 0,.bool false]) ?_ 2 _ rfl;(with_reducible repeat first|apply qqa|apply qqb|apply qqc);refine blk_put (cs:=#[.string t123,.int .u16 0,.int .u16 0,.bool false]) ?_ 1 _ rfl;(with_reducible repeat first|apply qqa|apply qqb|apply qqc);refine blk_put (cs:=#[.string (⟨#[]⟩:ByteArray),.int .u16 0,.int .u16 0,.bool false]) ?_ 0 _ rfl;(with_reducible repeat first|apply qqa|apply qqb|apply qqc);exact BK127.out) hb);have n3_:=qqm (below_step (by with_reducible repeat first|exact HB.out|apply qqf|apply qqd|apply qqe|refine qqg ?_ GE119.out|refine qqg ?_ GE120.out|refine qqg ?_ GE127.out) hb);clear BK119 BK120 BK127 HB;have BK119:=n0_;have BK120:=n1_;have BK127:=n2_;have HB:=n3_;clear n0_ n1_ n2_ n3_;(try clear hb);(try clear hb2);(try clear hk);(try clear hi);obtain ⟨hcz51_0,hcz51_1,hcz51_2,hcz51_3⟩:=qc4 BK127.out;obtain ⟨hfz51_0,hfz51_1,hfz51_2,hfz51_3⟩:=qf4 BK127.out;obtain ⟨hcz52_0,hcz52_1,hcz52_2,hcz52_3⟩:=qc4 BK120.out;obtain ⟨hfz52_0,hfz52_1,hfz52_2,hfz52_3⟩:=qf4 BK120.out))
     refine bodyPost_ret (results_ct rfl _ _ gb120 28 #[.string t123,.int .u16 t124,.int .u16 t125,.bool t128] (0,0) _ rfl (by (with_reducible repeat first|apply qqa|apply qqb|apply qqc);refine blk_put (cs:=#[.string t123,.int .u16 t124,.int .u16 t125,.bool false]) ?_ 3 _ rfl;(with_reducible repeat first|apply qqa|apply qqb|apply qqc);refine blk_put (cs:=#[.string t123,.int .u16 t124,.int .u16 0,.bool false]) ?_ 2 _ rfl;(with_reducible repeat first|apply qqa|apply qqb|apply qqc);refine blk_put (cs:=#[.string t123,.int .u16 0,.int .u16 0,.bool false]) ?_ 1 _ rfl;(with_reducible repeat first|apply qqa|apply qqb|apply qqc);refine blk_put (cs:=#[.string (⟨#[]⟩:ByteArray),.int .u16 0,.int .u16 0,.bool false]) ?_ 0 _ rfl;(with_reducible repeat first|apply qqa|apply qqb|apply qqc);refine blk_far ?_ NB120_127.out _;(with_reducible repeat first|apply qqa|apply qqb|apply qqc);exact BK120.out) Try.underlying28 rfl (by kernel_rfl)) rfl ?_
     exact ⟨by first|rfl|(simp [errW_none,errW_some] <;> rfl)|(simp [*,errW_none,errW_some] <;> rfl),by with_reducible repeat first|exact HB.out|apply qqf|apply qqd|apply qqe|refine qqg ?_ GE119.out|refine qqg ?_ GE120.out|refine qqg ?_ GE127.out⟩

end Go.Proofs.Ythkdfnbhlinhiaa.Mine
