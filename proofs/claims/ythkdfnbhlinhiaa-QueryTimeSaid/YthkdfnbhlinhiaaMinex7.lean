-- Written by this repo's own printer (wip/print), which builds on the kit's.
import Derived.Test.YthkdfnbhlinhiaaMinex0
import Derived.Test.YthkdfnbhlinhiaaMinex3
import Derived.Test.YthkdfnbhlinhiaaMinex5
import Derived.Test.YthkdfnbhlinhiaaMinex6
namespace Go.Proofs.Ythkdfnbhlinhiaa.Mine
open Go.RowKit Go.Proofs.YthkdfnbhlinhiaaW.PrintWords Go.Proofs.YthkdfnbhlinhiaaW.PrintLast Go.Proofs.YthkdfnbhlinhiaaW.PrintMore
attribute [local go_sem] max2_int min2_int max_two min_two max_three min_three max_four min_four   -- for this text's walks alone
set_option linter.unusedVariables false
set_option linter.unusedSimpArgs false

/-! ### query_Ask: function 11 -/
def query_Ask.j0 : Nat → Bool → Int → Int → List (S53) → List (S51) → List (S51) → List (S51) → Option (ByteArray × Int × Int × Bool × Int)
 | 0, _, _, _, _, _, _, _ => none
 | k + 1, x37, x120000, x120001, x120002, x120003, x120004, x120005 => if x37 = true then (some ((⟨#[]⟩ : ByteArray), 0, 0, false, 107)) else ((query_key.f k x120000 x120001 x120002 x120003 x120004 x120005).bind fun bt123 => (if bt123.1.toList = ([] : List UInt8) then (some ((⟨#[]⟩ : ByteArray), 0, 0, false, 107)) else ((query_do.f k x120000 x120001 x120002 x120003 x120004 x120005).bind fun t128 => (some (bt123.1, bt123.2.1, bt123.2.2.1, t128, 0)))))
def query_Ask.f (k : Nat) (a0_0 : Int) (a0_1 : Int) (l0_2 : List (S53)) (l0_3 : List (S51)) (l0_4 : List (S51)) (l0_5 : List (S51)) : Option (ByteArray × Int × Int × Bool × Int) := if (Go.bits .and .u16 a0_1 32768) = 0 then ((query_opcode.f a0_0 a0_1 l0_2 l0_3 l0_4 l0_5).bind fun t121 => (if t121 = 0 then (if (l0_2.length : Int) = 1 then (if (wrap64 ((l0_3.length : Int) + (l0_4.length : Int))) > 0 then (query_Ask.j0 k true a0_0 a0_1 l0_2 l0_3 l0_4 l0_5) else (if 0 < (l0_2.length : Int) then (query_Ask.j0 k (((rd_T53 l0_2 0).f1) == 41) a0_0 a0_1 l0_2 l0_3 l0_4 l0_5) else (none))) else (query_Ask.j0 k true a0_0 a0_1 l0_2 l0_3 l0_4 l0_5)) else (query_Ask.j0 k true a0_0 a0_1 l0_2 l0_3 l0_4 l0_5))) else (query_Ask.j0 k true a0_0 a0_1 l0_2 l0_3 l0_4 l0_5)
theorem query_Ask.mono_l : ∀ k, (∀ y0 y1 y2 y3 y4 y5 y6, LeO (query_Ask.j0 k y0 y1 y2 y3 y4 y5 y6) (query_Ask.j0 (k + 1) y0 y1 y2 y3 y4 y5 y6))
 | 0 => fun _ _ _ _ _ _ _ r h => by simp [query_Ask.j0] at h
 | k + 1 => by
  have ih0:=query_Ask.mono_l k
  ·
   intro y0 y1 y2 y3 y4 y5 y6
   unfold query_Ask.j0
   repeat' first
   | (with_reducible exact ih0 _ _ _ _ _ _ _)
   | (with_reducible exact query_do.mono _ _ _ _ _ _ _)
   | (with_reducible exact query_key.mono _ _ _ _ _ _ _)
   | (with_reducible exact LeO.refl _)
   | (with_reducible exact LeO.none _)
   | (with_reducible refine LeO.ite ?_ ?_)
   | (with_reducible refine LeO.bind ?_ (fun _ => ?_))
   | exact ih0 _ _ _ _ _ _ _
   | exact query_do.mono _ _ _ _ _ _ _
   | exact query_key.mono _ _ _ _ _ _ _
   | exact LeO.none _
   | refine LeO.ite ?_ ?_
   | refine LeO.bind ?_ (fun _ => ?_)
theorem query_Ask.mono : ∀ a0 a1 a2 a3 a4 a5 k, LeO (query_Ask.f k a0 a1 a2 a3 a4 a5) (query_Ask.f (k + 1) a0 a1 a2 a3 a4 a5) := by
 intro a0 a1 a2 a3 a4 a5 k
 have ih0:=query_Ask.mono_l k
 unfold query_Ask.f
 repeat' first
   | (with_reducible exact ih0 _ _ _ _ _ _ _)
   | (with_reducible exact query_do.mono _ _ _ _ _ _ _)
   | (with_reducible exact query_key.mono _ _ _ _ _ _ _)
   | (with_reducible exact LeO.refl _)
   | (with_reducible exact LeO.none _)
   | (with_reducible refine LeO.ite ?_ ?_)
   | (with_reducible refine LeO.bind ?_ (fun _ => ?_))
   | exact ih0 _ _ _ _ _ _ _
   | exact query_do.mono _ _ _ _ _ _ _
   | exact query_key.mono _ _ _ _ _ _ _
   | exact LeO.none _
   | refine LeO.ite ?_ ?_
   | refine LeO.bind ?_ (fun _ => ?_)
set_option maxHeartbeats 8000000 in
set_option maxRecDepth 100000 in
theorem query_Ask.calls (k : Nat) (a0_0 : Int) (a0_1 : Int) (A0_2 : Option Addr) (c0_2 : Nat) (l0_2 : List (S53)) (A0_3 : Option Addr) (c0_3 : Nat) (l0_3 : List (S51)) (A0_4 : Option Addr) (c0_4 : Nat) (l0_4 : List (S51)) (A0_5 : Option Addr) (c0_5 : Nat) (l0_5 : List (S51)) (r1 : ByteArray) (r2 : Int) (r3 : Int) (r4 : Bool) (r5 : Int) (w : World) (hr0_2 : Kd.C k53 w A0_2 l0_2.length l0_2) (hc0_2 : l0_2.length ≤ c0_2) (hr0_3 : Kd.C k51 w A0_3 l0_3.length l0_3) (hc0_3 : l0_3.length ≤ c0_3) (hr0_4 : Kd.C k51 w A0_4 l0_4.length l0_4) (hc0_4 : l0_4.length ≤ c0_4) (hr0_5 : Kd.C k51 w A0_5 l0_5.length l0_5) (hc0_5 : l0_5.length ≤ c0_5) (h : query_Ask.f k a0_0 a0_1 l0_2 l0_3 l0_4 l0_5 = some (r1, r2, r3, r4, r5)) :
  Calls Try.prog 11 #[.agg #[.int .u16 a0_0,.int .u16 a0_1,.slice A0_2 l0_2.length c0_2,.slice A0_3 l0_3.length c0_3,.slice A0_4 l0_4.length c0_4,.slice A0_5 l0_5.length c0_5]] w fun e w' => e = .returned (.tuple #[.agg #[.string r1,.int .u16 r2,.int .u16 r3,.bool r4],.int .i64 r5])∧Below w.heap.size w w':=by
 have hu26:=Try.underlying26
 have hu28:=Try.underlying28
 have HR0_2:=Aside0.mk hr0_2
 have HC0_2:=Aside0.mk hc0_2
 clear hr0_2 hc0_2
 have HR0_3:=Aside0.mk hr0_3
 have HC0_3:=Aside0.mk hc0_3
 clear hr0_3 hc0_3
 have HR0_4:=Aside0.mk hr0_4
 have HC0_4:=Aside0.mk hc0_4
 clear hr0_4 hc0_4
 have HR0_5:=Aside0.mk hr0_5
 have HC0_5:=Aside0.mk hc0_5
 clear hr0_5 hc0_5
 have HB:=Aside0.mk (Below.refl w.heap.size w)
 have H : (if (Go.bits .and .u16 a0_1 32768) = 0 then ((query_opcode.f a0_0 a0_1 l0_2 l0_3 l0_4 l0_5).bind fun t121 => (if t121 = 0 then (if (l0_2.length : Int) = 1 then (if (wrap64 ((l0_3.length : Int) + (l0_4.length : Int))) > 0 then (query_Ask.j0 k true a0_0 a0_1 l0_2 l0_3 l0_4 l0_5) else (if 0 < (l0_2.length : Int) then (query_Ask.j0 k (((rd_T53 l0_2 0).f1) == 41) a0_0 a0_1 l0_2 l0_3 l0_4 l0_5) else (none))) else (query_Ask.j0 k true a0_0 a0_1 l0_2 l0_3 l0_4 l0_5)) else (query_Ask.j0 k true a0_0 a0_1 l0_2 l0_3 l0_4 l0_5))) else (query_Ask.j0 k true a0_0 a0_1 l0_2 l0_3 l0_4 l0_5)) = some (r1,r2,r3,r4,r5):=h
 clear h
 have HC2:=Aside0.mk H
 clear H
 go_enter Try.func11,Try.ntmps11
 go_upto_region 1 with (first|((with_reducible refine gate_dst (N:=1) rfl ?_);(try (refine gate_guard (by rfl) ?_;dsimp only));refine box_event ?hg (N:=1) ?hd (cs:=#[.int .u16 a0_0,.int .u16 a0_1,.slice A0_2 l0_2.length c0_2,.slice A0_3 l0_3.length c0_3,.slice A0_4 l0_4.length c0_4,.slice A0_5 l0_5.length c0_5]) (t:=26) ?hr ?_;(case hd => rfl);(case hg => rfl);(case hr => first|(go_simp;done)|(go_simp;rfl));intro gb119 hg w3 hbox hb;have n0_:=Aside0.mk (below_step (by repeat (first|(with_reducible first|exact HB.out|apply qqf|apply qqd|apply qqe)|exact HB.out)) hb);have n1_:=Aside0.mk (hbox);have n2_:=Aside0.mk ((by rw [hg];exact (below_size (by repeat (first|(with_reducible first|exact HB.out|apply qqf|apply qqd|apply qqe)|exact HB.out))) : w.heap.size ≤ gb119));have n3_:=Aside0.mk ((by rw [hg];exact (below_size (by repeat (first|(with_reducible first|exact HB.out|apply qqf|apply qqd|apply qqe)|exact HB.out))) : w.heap.size ≤ gb119));clear HB;have HB:=n0_;have BK119:=n1_;have GW119:=n2_;have GE119:=n3_;clear n0_ n1_ n2_ n3_;clear hb hbox hg)|((with_reducible refine gate_dst (N:=2) rfl ?_);(try (refine gate_guard (by rfl) ?_;dsimp only));refine box_event ?hg (N:=2) ?hd (cs:=#[.string (⟨#[]⟩ : ByteArray),.int .u16 0,.int .u16 0,.bool false]) (t:=28) ?hr ?_;(case hd => rfl);(case hg => rfl);(case hr => first|(go_simp;done)|(go_simp;rfl));intro gb120 hg w4 hbox hb;have n0_:=Aside0.mk (blk_below (g:=gb119) (o:=.cells #[.int .u16 a0_0,.int .u16 a0_1,.slice A0_2 l0_2.length c0_2,.slice A0_3 l0_3.length c0_3,.slice A0_4 l0_4.length c0_4,.slice A0_5 l0_5.length c0_5] 26 (0,0)) (by (with_reducible repeat first|apply qqa|apply qqb|apply qqc);exact BK119.out) hb);have n1_:=Aside0.mk (below_step (by repeat (first|(with_reducible first|exact HB.out|apply qqf|apply qqd|apply qqe|refine qqg ?_ GE119.out)|exact HB.out)) hb);have n2_:=Aside0.mk (hbox);have n3_:=Aside0.mk ((by rw [hg];exact (below_size (by repeat (first|(with_reducible first|exact HB.out|apply qqf|apply qqd|apply qqe|refine qqg ?_ GE119.out)|exact HB.out))) : w.heap.size ≤ gb120));have n4_:=Aside0.mk ((by rw [hg];exact (below_size (by repeat (first|(with_reducible first|exact HB.out|apply qqf|apply qqd|apply qqe|refine qqg ?_ GE119.out)|exact HB.out))) : w.heap.size ≤ gb120));have n5_:=Aside0.mk ((by rw [hg];exact Nat.ne_of_lt (blk_lt (g:=gb119) (o:=.cells #[.int .u16 a0_0,.int .u16 a0_1,.slice A0_2 l0_2.length c0_2,.slice A0_3 l0_3.length c0_3,.slice A0_4 l0_4.length c0_4,.slice A0_5 l0_5.length c0_5] 26 (0,0)) (by (with_reducible repeat first|apply qqa|apply qqb|apply qqc);exact BK119.out)) : gb119 ≠ gb120));have n6_:=Aside0.mk ((by rw [hg];exact Nat.ne_of_gt (blk_lt (g:=gb119) (o:=.cells #[.int .u16 a0_0,.int .u16 a0_1,.slice A0_2 l0_2.length c0_2,.slice A0_3 l0_3.length c0_3,.slice A0_4 l0_4.length c0_4,.slice A0_5 l0_5.length c0_5] 26 (0,0)) (by (with_reducible repeat first|apply qqa|apply qqb|apply qqc);exact BK119.out)) : gb120 ≠ gb119));clear BK119;clear HB;have BK119:=n0_;have HB:=n1_;have BK120:=n2_;have GW120:=n3_;have GE120:=n4_;have NB119_120:=n5_;have NB120_119:=n6_;clear n0_ n1_ n2_ n3_ n4_ n5_ n6_;clear hb hbox hg))
 (try simp only [Act.put,qqj,qqk,qql])
 go_cut [37] (fun v37 wc => ∃ (kq : Nat) (x37_1 : Bool),v37 = .bool x37_1∧Aside0 (query_Ask.j0 kq x37_1 a0_0 a0_1 l0_2 l0_3 l0_4 l0_5 = some (r1,r2,r3,r4,r5))∧Aside0 (kq ≤ k)∧Aside0 (wc.heap[gb119]? = some (.cells #[.int .u16 a0_0,.int .u16 a0_1,(.slice A0_2 l0_2.length c0_2),(.slice A0_3 l0_3.length c0_3),(.slice A0_4 l0_4.length c0_4),(.slice A0_5 l0_5.length c0_5)] 26 (0,0)))∧Aside0 (wc.heap[gb120]? = some (.cells #[.string (⟨#[]⟩ : ByteArray),.int .u16 0,.int .u16 0,.bool false] 28 (0,0)))∧Aside0 (Below w.heap.size w wc))
 case first =>
  have H:=HC2.out
  clear HC2
  by_cases c5 : (Go.bits .and .u16 a0_1 32768) = 0
  ·
   rw [if_pos c5] at H
   have c5b0 : ((Go.bits .and .u16 a0_1 32768) == 0) = true:=beq_iff_eq.mpr c5
   have c5b1 : ((Go.bits .and .u16 a0_1 32768) != 0) = false:=bne_eq_false_iff_eq.mpr c5
   clear c5
   (first|rw [c5b0]|rw [c5b1]|(simp only [i64_w,i32_w];rw [c5b0])|skip)
   replace H:=Option.bind_eq_some_iff.mp H
   obtain ⟨t121,A60,H⟩:=H
   replace H : (if t121 = 0 then (if (l0_2.length : Int) = 1 then (if (wrap64 ((l0_3.length : Int) + (l0_4.length : Int))) > 0 then (query_Ask.j0 k true a0_0 a0_1 l0_2 l0_3 l0_4 l0_5) else (if 0 < (l0_2.length : Int) then (query_Ask.j0 k (((rd_T53 l0_2 0).f1) == 41) a0_0 a0_1 l0_2 l0_3 l0_4 l0_5) else (none))) else (query_Ask.j0 k true a0_0 a0_1 l0_2 l0_3 l0_4 l0_5)) else (query_Ask.j0 k true a0_0 a0_1 l0_2 l0_3 l0_4 l0_5)) = some (r1,r2,r3,r4,r5):=H
   have A6:=Aside0.mk A60
   clear A60
   by_cases c7 : t121 = 0
   ·
    rw [if_pos c7] at H
    have c7b0 : (t121 == 0) = true:=beq_iff_eq.mpr c7
    have c7b1 : (t121 != 0) = false:=bne_eq_false_iff_eq.mpr c7
    clear c7
    by_cases c8 : (l0_2.length : Int) = 1
    ·
     rw [if_pos c8] at H
     have c8b0 : ((l0_2.length : Int) == 1) = true:=beq_iff_eq.mpr c8
     have c8b1 : ((l0_2.length : Int) != 1) = false:=bne_eq_false_iff_eq.mpr c8
     clear c8
     by_cases c9 : (wrap64 ((l0_3.length : Int) + (l0_4.length : Int))) > 0
     ·
      rw [if_pos c9] at H
      have c9b0 : decide (0 < (wrap64 ((l0_3.length : Int) + (l0_4.length : Int)))) = true:=decide_eq_true c9
      clear c9
      have H':=Aside0.mk H
      clear H
      have hnb10:=NB119_120.out
      have hnc10:=NB120_119.out
      have hcz11_0 : w4.cell? ⟨gb119,0,none⟩ = some (.int .u16 a0_0):=(qqh BK119.out 0).trans rfl
      have hcz11_1 : w4.cell? ⟨gb119,1,none⟩ = some (.int .u16 a0_1):=(qqh BK119.out 1).trans rfl
      have hcz11_2 : w4.cell? ⟨gb119,2,none⟩ = some (.slice A0_2 l0_2.length c0_2):=(qqh BK119.out 2).trans rfl
      have hcz11_3 : w4.cell? ⟨gb119,3,none⟩ = some (.slice A0_3 l0_3.length c0_3):=(qqh BK119.out 3).trans rfl
      have hcz11_4 : w4.cell? ⟨gb119,4,none⟩ = some (.slice A0_4 l0_4.length c0_4):=(qqh BK119.out 4).trans rfl
      have hcz11_5 : w4.cell? ⟨gb119,5,none⟩ = some (.slice A0_5 l0_5.length c0_5):=(qqh BK119.out 5).trans rfl
      have hfz11_0:=qqi BK119.out 0
      have hfz11_1:=qqi BK119.out 1
      have hfz11_2:=qqi BK119.out 2
      have hfz11_3:=qqi BK119.out 3
      have hfz11_4:=qqi BK119.out 4
      have hfz11_5:=qqi BK119.out 5
      go_wp2_with (first|(go_at_call 33;(with_reducible refine (query_opcode.calls a0_0 a0_1 _ _ l0_2 _ _ l0_3 _ _ l0_4 _ _ l0_5 t121 _ ?side1 ?side2 ?side3 ?side4 ?side5 ?side6 ?side7 ?side8 A6.out).mono ?_);(case side1 => repeat (first|exact (Kd.C_below HR0_2.out HB.out)|(with_reducible refine Kd.C_alloc ?_ _)|(with_reducible refine Kd.C_drewN ?_ _)|(with_reducible refine Kd.C_drew ?_)));(case side2 => exact HC0_2.out);(case side3 => repeat (first|exact (Kd.C_below HR0_3.out HB.out)|(with_reducible refine Kd.C_alloc ?_ _)|(with_reducible refine Kd.C_drewN ?_ _)|(with_reducible refine Kd.C_drew ?_)));(case side4 => exact HC0_3.out);(case side5 => repeat (first|exact (Kd.C_below HR0_4.out HB.out)|(with_reducible refine Kd.C_alloc ?_ _)|(with_reducible refine Kd.C_drewN ?_ _)|(with_reducible refine Kd.C_drew ?_)));(case side6 => exact HC0_4.out);(case side7 => repeat (first|exact (Kd.C_below HR0_5.out HB.out)|(with_reducible refine Kd.C_alloc ?_ _)|(with_reducible refine Kd.C_drewN ?_ _)|(with_reducible refine Kd.C_drew ?_)));(case side8 => exact HC0_5.out);rintro e w12 ⟨rfl,hb⟩;have n0_:=Aside0.mk (blk_below (g:=gb119) (o:=.cells #[.int .u16 a0_0,.int .u16 a0_1,.slice A0_2 l0_2.length c0_2,.slice A0_3 l0_3.length c0_3,.slice A0_4 l0_4.length c0_4,.slice A0_5 l0_5.length c0_5] 26 (0,0)) (by (with_reducible repeat first|apply qqa|apply qqb|apply qqc);exact BK119.out) hb);have n1_:=Aside0.mk (blk_below (g:=gb120) (o:=.cells #[.string (⟨#[]⟩ : ByteArray),.int .u16 0,.int .u16 0,.bool false] 28 (0,0)) (by (with_reducible repeat first|apply qqa|apply qqb|apply qqc);exact BK120.out) hb);have n2_:=Aside0.mk (below_step (by repeat (first|(with_reducible first|exact HB.out|apply qqf|apply qqd|apply qqe|refine qqg ?_ GE119.out|refine qqg ?_ GE120.out)|exact HB.out)) hb);clear BK119;clear BK120;clear HB;have BK119:=n0_;have BK120:=n1_;have HB:=n2_;clear n0_ n1_ n2_;(try clear hb);(try clear hb2);(try clear hk);(try clear hi);have hcz13_0 : w12.cell? ⟨gb119,0,none⟩ = some (.int .u16 a0_0):=(qqh BK119.out 0).trans rfl;have hcz13_1 : w12.cell? ⟨gb119,1,none⟩ = some (.int .u16 a0_1):=(qqh BK119.out 1).trans rfl;have hcz13_2 : w12.cell? ⟨gb119,2,none⟩ = some (.slice A0_2 l0_2.length c0_2):=(qqh BK119.out 2).trans rfl;have hcz13_3 : w12.cell? ⟨gb119,3,none⟩ = some (.slice A0_3 l0_3.length c0_3):=(qqh BK119.out 3).trans rfl;have hcz13_4 : w12.cell? ⟨gb119,4,none⟩ = some (.slice A0_4 l0_4.length c0_4):=(qqh BK119.out 4).trans rfl;have hcz13_5 : w12.cell? ⟨gb119,5,none⟩ = some (.slice A0_5 l0_5.length c0_5):=(qqh BK119.out 5).trans rfl;have hfz13_0:=qqi BK119.out 0;have hfz13_1:=qqi BK119.out 1;have hfz13_2:=qqi BK119.out 2;have hfz13_3:=qqi BK119.out 3;have hfz13_4:=qqi BK119.out 4;have hfz13_5:=qqi BK119.out 5))
      go_meet
      case rel => exact ⟨_,(true),(by first|rfl|(simp;done)|(simp [*];done)),H',⟨by first|omega|exact Nat.le_refl _⟩,⟨by (with_reducible repeat first|apply qqa|apply qqb|apply qqc);exact BK119.out⟩,⟨by (with_reducible repeat first|apply qqa|apply qqb|apply qqc);exact BK120.out⟩,⟨by repeat (first|(with_reducible first|exact HB.out|apply qqf|apply qqd|apply qqe|refine qqg ?_ GE119.out|refine qqg ?_ GE120.out)|exact HB.out)⟩⟩
     ·
      rw [if_neg c9] at H
      have c9b0 : decide (0 < (wrap64 ((l0_3.length : Int) + (l0_4.length : Int)))) = false:=decide_eq_false c9
      clear c9
      by_cases c14 : 0 < (l0_2.length : Int)
      ·
       rw [if_pos c14] at H
       have c14b0 : decide (0 < (l0_2.length : Int)) = true:=decide_eq_true c14
       have c14b1 : decide (0 < l0_2.length) = true:=decide_eq_true (by omega)
       clear c14
       have H':=Aside0.mk H
       clear H
       have hnb15:=NB119_120.out
       have hnc15:=NB120_119.out
       have hcz16_0 : w4.cell? ⟨gb119,0,none⟩ = some (.int .u16 a0_0):=(qqh BK119.out 0).trans rfl
       have hcz16_1 : w4.cell? ⟨gb119,1,none⟩ = some (.int .u16 a0_1):=(qqh BK119.out 1).trans rfl
       have hcz16_2 : w4.cell? ⟨gb119,2,none⟩ = some (.slice A0_2 l0_2.length c0_2):=(qqh BK119.out 2).trans rfl
       have hcz16_3 : w4.cell? ⟨gb119,3,none⟩ = some (.slice A0_3 l0_3.length c0_3):=(qqh BK119.out 3).trans rfl
       have hcz16_4 : w4.cell? ⟨gb119,4,none⟩ = some (.slice A0_4 l0_4.length c0_4):=(qqh BK119.out 4).trans rfl
       have hcz16_5 : w4.cell? ⟨gb119,5,none⟩ = some (.slice A0_5 l0_5.length c0_5):=(qqh BK119.out 5).trans rfl
       have hfz16_0:=qqi BK119.out 0
       have hfz16_1:=qqi BK119.out 1
       have hfz16_2:=qqi BK119.out 2
       have hfz16_3:=qqi BK119.out 3
       have hfz16_4:=qqi BK119.out 4
       have hfz16_5:=qqi BK119.out 5
       go_wp2_with (first|(go_at_call 33;(with_reducible refine (query_opcode.calls a0_0 a0_1 _ _ l0_2 _ _ l0_3 _ _ l0_4 _ _ l0_5 t121 _ ?side1 ?side2 ?side3 ?side4 ?side5 ?side6 ?side7 ?side8 A6.out).mono ?_);(case side1 => repeat (first|exact (Kd.C_below HR0_2.out HB.out)|(with_reducible refine Kd.C_alloc ?_ _)|(with_reducible refine Kd.C_drewN ?_ _)|(with_reducible refine Kd.C_drew ?_)));(case side2 => exact HC0_2.out);(case side3 => repeat (first|exact (Kd.C_below HR0_3.out HB.out)|(with_reducible refine Kd.C_alloc ?_ _)|(with_reducible refine Kd.C_drewN ?_ _)|(with_reducible refine Kd.C_drew ?_)));(case side4 => exact HC0_3.out);(case side5 => repeat (first|exact (Kd.C_below HR0_4.out HB.out)|(with_reducible refine Kd.C_alloc ?_ _)|(with_reducible refine Kd.C_drewN ?_ _)|(with_reducible refine Kd.C_drew ?_)));(case side6 => exact HC0_4.out);(case side7 => repeat (first|exact (Kd.C_below HR0_5.out HB.out)|(with_reducible refine Kd.C_alloc ?_ _)|(with_reducible refine Kd.C_drewN ?_ _)|(with_reducible refine Kd.C_drew ?_)));(case side8 => exact HC0_5.out);rintro e w17 ⟨rfl,hb⟩;have n0_:=Aside0.mk (blk_below (g:=gb119) (o:=.cells #[.int .u16 a0_0,.int .u16 a0_1,.slice A0_2 l0_2.length c0_2,.slice A0_3 l0_3.length c0_3,.slice A0_4 l0_4.length c0_4,.slice A0_5 l0_5.length c0_5] 26 (0,0)) (by (with_reducible repeat first|apply qqa|apply qqb|apply qqc);exact BK119.out) hb);have n1_:=Aside0.mk (blk_below (g:=gb120) (o:=.cells #[.string (⟨#[]⟩ : ByteArray),.int .u16 0,.int .u16 0,.bool false] 28 (0,0)) (by (with_reducible repeat first|apply qqa|apply qqb|apply qqc);exact BK120.out) hb);have n2_:=Aside0.mk (below_step (by repeat (first|(with_reducible first|exact HB.out|apply qqf|apply qqd|apply qqe|refine qqg ?_ GE119.out|refine qqg ?_ GE120.out)|exact HB.out)) hb);clear BK119;clear BK120;clear HB;have BK119:=n0_;have BK120:=n1_;have HB:=n2_;clear n0_ n1_ n2_;(try clear hb);(try clear hb2);(try clear hk);(try clear hi);have hcz18_0 : w17.cell? ⟨gb119,0,none⟩ = some (.int .u16 a0_0):=(qqh BK119.out 0).trans rfl;have hcz18_1 : w17.cell? ⟨gb119,1,none⟩ = some (.int .u16 a0_1):=(qqh BK119.out 1).trans rfl;have hcz18_2 : w17.cell? ⟨gb119,2,none⟩ = some (.slice A0_2 l0_2.length c0_2):=(qqh BK119.out 2).trans rfl;have hcz18_3 : w17.cell? ⟨gb119,3,none⟩ = some (.slice A0_3 l0_3.length c0_3):=(qqh BK119.out 3).trans rfl;have hcz18_4 : w17.cell? ⟨gb119,4,none⟩ = some (.slice A0_4 l0_4.length c0_4):=(qqh BK119.out 4).trans rfl;have hcz18_5 : w17.cell? ⟨gb119,5,none⟩ = some (.slice A0_5 l0_5.length c0_5):=(qqh BK119.out 5).trans rfl;have hfz18_0:=qqi BK119.out 0;have hfz18_1:=qqi BK119.out 1;have hfz18_2:=qqi BK119.out 2;have hfz18_3:=qqi BK119.out 3;have hfz18_4:=qqi BK119.out 4;have hfz18_5:=qqi BK119.out 5;have p122 : 0 ≤ (0 : Int):=(by omega);have q122 : 0 < (l0_2.length : Int):=of_decide_eq_true (by first|(with_reducible assumption)|assumption);obtain ⟨ad122,e122,hx122_0,hx122_1,hx122_2⟩:=at_T53 HR0_2.out 0 p122 q122;cases e122;have qi122 : (0 < l0_2.length) = True:=eq_true (by omega);(try rw [show ((0 : Int)).toNat = 0 from rfl] at hx122_0);(try rw [show 0 * 3 = 0 from rfl] at hx122_0);(try rw [Addr.add_zero'] at hx122_0);(try rw [show ((0 : Int)).toNat = 0 from rfl] at hx122_1);(try rw [show 0 * 3 = 0 from rfl] at hx122_1);(try rw [Addr.add_zero'] at hx122_1);(try rw [show ((0 : Int)).toNat = 0 from rfl] at hx122_2);(try rw [show 0 * 3 = 0 from rfl] at hx122_2);(try rw [Addr.add_zero'] at hx122_2);replace hx122_0:=(HB.out.cell (World.block_lt_of_cell? w _ hx122_0)).trans hx122_0;replace hx122_1:=(HB.out.cell (World.block_lt_of_cell? w _ hx122_1)).trans hx122_1;replace hx122_2:=(HB.out.cell (World.block_lt_of_cell? w _ hx122_2)).trans hx122_2;replace p122:=eq_true p122;replace q122:=eq_true q122))
       go_meet
       case rel => exact ⟨_,((((rd_T53 l0_2 0).f1) == 41)),(by first|rfl|(simp;done)|(simp [*];done)),H',⟨by first|omega|exact Nat.le_refl _⟩,⟨by (with_reducible repeat first|apply qqa|apply qqb|apply qqc);exact BK119.out⟩,⟨by (with_reducible repeat first|apply qqa|apply qqb|apply qqc);exact BK120.out⟩,⟨by repeat (first|(with_reducible first|exact HB.out|apply qqf|apply qqd|apply qqe|refine qqg ?_ GE119.out|refine qqg ?_ GE120.out)|exact HB.out)⟩⟩
      ·
       rw [if_neg c14] at H
       exact absurd H (by simp)
    ·
     rw [if_neg c8] at H
     have c8b0 : ((l0_2.length : Int) == 1) = false:=beq_eq_false_iff_ne.mpr c8
     have c8b1 : ((l0_2.length : Int) != 1) = true:=bne_iff_ne.mpr c8
     have H':=Aside0.mk H
     clear H
     have hnb19:=NB119_120.out
     have hnc19:=NB120_119.out
     have hcz20_0 : w4.cell? ⟨gb119,0,none⟩ = some (.int .u16 a0_0):=(qqh BK119.out 0).trans rfl
     have hcz20_1 : w4.cell? ⟨gb119,1,none⟩ = some (.int .u16 a0_1):=(qqh BK119.out 1).trans rfl
     have hcz20_2 : w4.cell? ⟨gb119,2,none⟩ = some (.slice A0_2 l0_2.length c0_2):=(qqh BK119.out 2).trans rfl
     have hcz20_3 : w4.cell? ⟨gb119,3,none⟩ = some (.slice A0_3 l0_3.length c0_3):=(qqh BK119.out 3).trans rfl
     have hcz20_4 : w4.cell? ⟨gb119,4,none⟩ = some (.slice A0_4 l0_4.length c0_4):=(qqh BK119.out 4).trans rfl
     have hcz20_5 : w4.cell? ⟨gb119,5,none⟩ = some (.slice A0_5 l0_5.length c0_5):=(qqh BK119.out 5).trans rfl
     have hfz20_0:=qqi BK119.out 0
     have hfz20_1:=qqi BK119.out 1
     have hfz20_2:=qqi BK119.out 2
     have hfz20_3:=qqi BK119.out 3
     have hfz20_4:=qqi BK119.out 4
     have hfz20_5:=qqi BK119.out 5
     go_wp2_with (first|(go_at_call 33;(with_reducible refine (query_opcode.calls a0_0 a0_1 _ _ l0_2 _ _ l0_3 _ _ l0_4 _ _ l0_5 t121 _ ?side1 ?side2 ?side3 ?side4 ?side5 ?side6 ?side7 ?side8 A6.out).mono ?_);(case side1 => repeat (first|exact (Kd.C_below HR0_2.out HB.out)|(with_reducible refine Kd.C_alloc ?_ _)|(with_reducible refine Kd.C_drewN ?_ _)|(with_reducible refine Kd.C_drew ?_)));(case side2 => exact HC0_2.out);(case side3 => repeat (first|exact (Kd.C_below HR0_3.out HB.out)|(with_reducible refine Kd.C_alloc ?_ _)|(with_reducible refine Kd.C_drewN ?_ _)|(with_reducible refine Kd.C_drew ?_)));(case side4 => exact HC0_3.out);(case side5 => repeat (first|exact (Kd.C_below HR0_4.out HB.out)|(with_reducible refine Kd.C_alloc ?_ _)|(with_reducible refine Kd.C_drewN ?_ _)|(with_reducible refine Kd.C_drew ?_)));(case side6 => exact HC0_4.out);(case side7 => repeat (first|exact (Kd.C_below HR0_5.out HB.out)|(with_reducible refine Kd.C_alloc ?_ _)|(with_reducible refine Kd.C_drewN ?_ _)|(with_reducible refine Kd.C_drew ?_)));(case side8 => exact HC0_5.out);rintro e w21 ⟨rfl,hb⟩;have n0_:=Aside0.mk (blk_below (g:=gb119) (o:=.cells #[.int .u16 a0_0,.int .u16 a0_1,.slice A0_2 l0_2.length c0_2,.slice A0_3 l0_3.length c0_3,.slice A0_4 l0_4.length c0_4,.slice A0_5 l0_5.length c0_5] 26 (0,0)) (by (with_reducible repeat first|apply qqa|apply qqb|apply qqc);exact BK119.out) hb);have n1_:=Aside0.mk (blk_below (g:=gb120) (o:=.cells #[.string (⟨#[]⟩ : ByteArray),.int .u16 0,.int .u16 0,.bool false] 28 (0,0)) (by (with_reducible repeat first|apply qqa|apply qqb|apply qqc);exact BK120.out) hb);have n2_:=Aside0.mk (below_step (by repeat (first|(with_reducible first|exact HB.out|apply qqf|apply qqd|apply qqe|refine qqg ?_ GE119.out|refine qqg ?_ GE120.out)|exact HB.out)) hb);clear BK119;clear BK120;clear HB;have BK119:=n0_;have BK120:=n1_;have HB:=n2_;clear n0_ n1_ n2_;(try clear hb);(try clear hb2);(try clear hk);(try clear hi);have hcz22_0 : w21.cell? ⟨gb119,0,none⟩ = some (.int .u16 a0_0):=(qqh BK119.out 0).trans rfl;have hcz22_1 : w21.cell? ⟨gb119,1,none⟩ = some (.int .u16 a0_1):=(qqh BK119.out 1).trans rfl;have hcz22_2 : w21.cell? ⟨gb119,2,none⟩ = some (.slice A0_2 l0_2.length c0_2):=(qqh BK119.out 2).trans rfl;have hcz22_3 : w21.cell? ⟨gb119,3,none⟩ = some (.slice A0_3 l0_3.length c0_3):=(qqh BK119.out 3).trans rfl;have hcz22_4 : w21.cell? ⟨gb119,4,none⟩ = some (.slice A0_4 l0_4.length c0_4):=(qqh BK119.out 4).trans rfl;have hcz22_5 : w21.cell? ⟨gb119,5,none⟩ = some (.slice A0_5 l0_5.length c0_5):=(qqh BK119.out 5).trans rfl;have hfz22_0:=qqi BK119.out 0;have hfz22_1:=qqi BK119.out 1;have hfz22_2:=qqi BK119.out 2;have hfz22_3:=qqi BK119.out 3;have hfz22_4:=qqi BK119.out 4;have hfz22_5:=qqi BK119.out 5))
     go_meet
     case rel => exact ⟨_,(true),(by first|rfl|(simp;done)|(simp [*];done)),H',⟨by first|omega|exact Nat.le_refl _⟩,⟨by (with_reducible repeat first|apply qqa|apply qqb|apply qqc);exact BK119.out⟩,⟨by (with_reducible repeat first|apply qqa|apply qqb|apply qqc);exact BK120.out⟩,⟨by repeat (first|(with_reducible first|exact HB.out|apply qqf|apply qqd|apply qqe|refine qqg ?_ GE119.out|refine qqg ?_ GE120.out)|exact HB.out)⟩⟩
   ·
    rw [if_neg c7] at H
    have c7b0 : (t121 == 0) = false:=beq_eq_false_iff_ne.mpr c7
    have c7b1 : (t121 != 0) = true:=bne_iff_ne.mpr c7
    have H':=Aside0.mk H
    clear H
    have hnb23:=NB119_120.out
    have hnc23:=NB120_119.out
    have hcz24_0 : w4.cell? ⟨gb119,0,none⟩ = some (.int .u16 a0_0):=(qqh BK119.out 0).trans rfl
    have hcz24_1 : w4.cell? ⟨gb119,1,none⟩ = some (.int .u16 a0_1):=(qqh BK119.out 1).trans rfl
    have hcz24_2 : w4.cell? ⟨gb119,2,none⟩ = some (.slice A0_2 l0_2.length c0_2):=(qqh BK119.out 2).trans rfl
    have hcz24_3 : w4.cell? ⟨gb119,3,none⟩ = some (.slice A0_3 l0_3.length c0_3):=(qqh BK119.out 3).trans rfl
    have hcz24_4 : w4.cell? ⟨gb119,4,none⟩ = some (.slice A0_4 l0_4.length c0_4):=(qqh BK119.out 4).trans rfl
    have hcz24_5 : w4.cell? ⟨gb119,5,none⟩ = some (.slice A0_5 l0_5.length c0_5):=(qqh BK119.out 5).trans rfl
    have hfz24_0:=qqi BK119.out 0
    have hfz24_1:=qqi BK119.out 1
    have hfz24_2:=qqi BK119.out 2
    have hfz24_3:=qqi BK119.out 3
    have hfz24_4:=qqi BK119.out 4
    have hfz24_5:=qqi BK119.out 5
    go_wp2_with (first|(go_at_call 33;(with_reducible refine (query_opcode.calls a0_0 a0_1 _ _ l0_2 _ _ l0_3 _ _ l0_4 _ _ l0_5 t121 _ ?side1 ?side2 ?side3 ?side4 ?side5 ?side6 ?side7 ?side8 A6.out).mono ?_);(case side1 => repeat (first|exact (Kd.C_below HR0_2.out HB.out)|(with_reducible refine Kd.C_alloc ?_ _)|(with_reducible refine Kd.C_drewN ?_ _)|(with_reducible refine Kd.C_drew ?_)));(case side2 => exact HC0_2.out);(case side3 => repeat (first|exact (Kd.C_below HR0_3.out HB.out)|(with_reducible refine Kd.C_alloc ?_ _)|(with_reducible refine Kd.C_drewN ?_ _)|(with_reducible refine Kd.C_drew ?_)));(case side4 => exact HC0_3.out);(case side5 => repeat (first|exact (Kd.C_below HR0_4.out HB.out)|(with_reducible refine Kd.C_alloc ?_ _)|(with_reducible refine Kd.C_drewN ?_ _)|(with_reducible refine Kd.C_drew ?_)));(case side6 => exact HC0_4.out);(case side7 => repeat (first|exact (Kd.C_below HR0_5.out HB.out)|(with_reducible refine Kd.C_alloc ?_ _)|(with_reducible refine Kd.C_drewN ?_ _)|(with_reducible refine Kd.C_drew ?_)));(case side8 => exact HC0_5.out);rintro e w25 ⟨rfl,hb⟩;have n0_:=Aside0.mk (blk_below (g:=gb119) (o:=.cells #[.int .u16 a0_0,.int .u16 a0_1,.slice A0_2 l0_2.length c0_2,.slice A0_3 l0_3.length c0_3,.slice A0_4 l0_4.length c0_4,.slice A0_5 l0_5.length c0_5] 26 (0,0)) (by (with_reducible repeat first|apply qqa|apply qqb|apply qqc);exact BK119.out) hb);have n1_:=Aside0.mk (blk_below (g:=gb120) (o:=.cells #[.string (⟨#[]⟩ : ByteArray),.int .u16 0,.int .u16 0,.bool false] 28 (0,0)) (by (with_reducible repeat first|apply qqa|apply qqb|apply qqc);exact BK120.out) hb);have n2_:=Aside0.mk (below_step (by repeat (first|(with_reducible first|exact HB.out|apply qqf|apply qqd|apply qqe|refine qqg ?_ GE119.out|refine qqg ?_ GE120.out)|exact HB.out)) hb);clear BK119;clear BK120;clear HB;have BK119:=n0_;have BK120:=n1_;have HB:=n2_;clear n0_ n1_ n2_;(try clear hb);(try clear hb2);(try clear hk);(try clear hi)))
    go_meet
    case rel => exact ⟨_,(true),(by first|rfl|(simp;done)|(simp [*];done)),H',⟨by first|omega|exact Nat.le_refl _⟩,⟨by (with_reducible repeat first|apply qqa|apply qqb|apply qqc);exact BK119.out⟩,⟨by (with_reducible repeat first|apply qqa|apply qqb|apply qqc);exact BK120.out⟩,⟨by repeat (first|(with_reducible first|exact HB.out|apply qqf|apply qqd|apply qqe|refine qqg ?_ GE119.out|refine qqg ?_ GE120.out)|exact HB.out)⟩⟩
  ·
   rw [if_neg c5] at H
   have c5b0 : ((Go.bits .and .u16 a0_1 32768) == 0) = false:=beq_eq_false_iff_ne.mpr c5
   have c5b1 : ((Go.bits .and .u16 a0_1 32768) != 0) = true:=bne_iff_ne.mpr c5
   (first|rw [c5b0]|rw [c5b1]|(simp only [i64_w,i32_w];rw [c5b0])|skip)
   have H':=Aside0.mk H
   clear H
   have hnb26:=NB119_120.out
   have hnc26:=NB120_119.out
   have hcz27_0 : w4.cell? ⟨gb119,0,none⟩ = some (.int .u16 a0_0):=(qqh BK119.out 0).trans rfl
   have hcz27_1 : w4.cell? ⟨gb119,1,none⟩ = some (.int .u16 a0_1):=(qqh BK119.out 1).trans rfl
   have hcz27_2 : w4.cell? ⟨gb119,2,none⟩ = some (.slice A0_2 l0_2.length c0_2):=(qqh BK119.out 2).trans rfl
   have hcz27_3 : w4.cell? ⟨gb119,3,none⟩ = some (.slice A0_3 l0_3.length c0_3):=(qqh BK119.out 3).trans rfl
   have hcz27_4 : w4.cell? ⟨gb119,4,none⟩ = some (.slice A0_4 l0_4.length c0_4):=(qqh BK119.out 4).trans rfl
   have hcz27_5 : w4.cell? ⟨gb119,5,none⟩ = some (.slice A0_5 l0_5.length c0_5):=(qqh BK119.out 5).trans rfl
   have hfz27_0:=qqi BK119.out 0
   have hfz27_1:=qqi BK119.out 1
   have hfz27_2:=qqi BK119.out 2
   have hfz27_3:=qqi BK119.out 3
   have hfz27_4:=qqi BK119.out 4
   have hfz27_5:=qqi BK119.out 5
   go_wp2
   go_meet
   case rel => exact ⟨_,(true),(by first|rfl|(simp;done)|(simp [*];done)),H',⟨by first|omega|exact Nat.le_refl _⟩,⟨by (with_reducible repeat first|apply qqa|apply qqb|apply qqc);exact BK119.out⟩,⟨by (with_reducible repeat first|apply qqa|apply qqb|apply qqc);exact BK120.out⟩,⟨by repeat (first|(with_reducible first|exact HB.out|apply qqf|apply qqd|apply qqe|refine qqg ?_ GE119.out|refine qqg ?_ GE120.out)|exact HB.out)⟩⟩
 case rest =>
  clear HC2
  try clear c1
  try clear p1
  try clear q1
  try clear hx1
  try clear qi1
  try clear c2
  try clear p2
  try clear c5
  try clear c5b0
  try clear c5b1
  try clear p6
  try clear c7
  try clear c7b0
  try clear c7b1
  try clear c8
  try clear c8b0
  try clear c8b1
  try clear c9
  try clear c9b0
  try clear c10
  try clear c11
  try clear p12
  try clear q12
  try clear hx12
  try clear qi12
  try clear c14
  try clear c14b0
  try clear c14b1
  try clear c15
  try clear c19
  try clear c23
  try clear c26
  try clear hcz11_0
  try clear hcz11_1
  try clear hcz11_2
  try clear hcz11_3
  try clear hcz11_4
  try clear hcz11_5
  try clear hcz13_0
  try clear hcz13_1
  try clear hcz13_2
  try clear hcz13_3
  try clear hcz13_4
  try clear hcz13_5
  try clear hcz16_0
  try clear hcz16_1
  try clear hcz16_2
  try clear hcz16_3
  try clear hcz16_4
  try clear hcz16_5
  try clear hcz18_0
  try clear hcz18_1
  try clear hcz18_2
  try clear hcz18_3
  try clear hcz18_4
  try clear hcz18_5
  try clear hcz20_0
  try clear hcz20_1
  try clear hcz20_2
  try clear hcz20_3
  try clear hcz20_4
  try clear hcz20_5
  try clear hcz22_0
  try clear hcz22_1
  try clear hcz22_2
  try clear hcz22_3
  try clear hcz22_4
  try clear hcz22_5
  try clear hcz24_0
  try clear hcz24_1
  try clear hcz24_2
  try clear hcz24_3
  try clear hcz24_4
  try clear hcz24_5
  try clear hcz27_0
  try clear hcz27_1
  try clear hcz27_2
  try clear hcz27_3
  try clear hcz27_4
  try clear hcz27_5
  try clear hfz11_0
  try clear hfz11_1
  try clear hfz11_2
  try clear hfz11_3
  try clear hfz11_4
  try clear hfz11_5
  try clear hfz13_0
  try clear hfz13_1
  try clear hfz13_2
  try clear hfz13_3
  try clear hfz13_4
  try clear hfz13_5
  try clear hfz16_0
  try clear hfz16_1
  try clear hfz16_2
  try clear hfz16_3
  try clear hfz16_4
  try clear hfz16_5
  try clear hfz18_0
  try clear hfz18_1
  try clear hfz18_2
  try clear hfz18_3
  try clear hfz18_4
  try clear hfz18_5
  try clear hfz20_0
  try clear hfz20_1
  try clear hfz20_2
  try clear hfz20_3
  try clear hfz20_4
  try clear hfz20_5
  try clear hfz22_0
  try clear hfz22_1
  try clear hfz22_2
  try clear hfz22_3
  try clear hfz22_4
  try clear hfz22_5
  try clear hfz24_0
  try clear hfz24_1
  try clear hfz24_2
  try clear hfz24_3
  try clear hfz24_4
  try clear hfz24_5
  try clear hfz27_0
  try clear hfz27_1
  try clear hfz27_2
  try clear hfz27_3
  try clear hfz27_4
  try clear hfz27_5
  try clear hx122_0
  try clear hx122_1
  try clear hx122_2
  try clear p122
  try clear q122
  obtain ⟨kq,x37_1,rfl,HA,HJ1,BK119,BK120,HB⟩:=hcut
  cases kq with
  | zero => exact absurd HA.out (by simp [query_Ask.j0])
  | succ kj1 =>
   have H:=HA.out
   clear HA
   simp only [query_Ask.j0] at H
   by_cases c28 : x37_1 = true
   ·
    subst c28
    have H1 : (some ((⟨#[]⟩ : ByteArray),0,0,false,107)) = some (r1,r2,r3,r4,r5):=by rw [if_pos rfl] at H;exact H
    clear H
    have H:=H1
    clear H1
    simp only [Option.some.injEq,Prod.mk.injEq] at H
    obtain ⟨rfl,rfl,rfl,rfl,rfl⟩:=H
    have hnb29:=NB120_119.out
    have hnc29:=NB119_120.out
    have hcz30_0 : wc.cell? ⟨gb120,0,none⟩ = some (.string (⟨#[]⟩ : ByteArray)):=(qqh BK120.out 0).trans rfl
    have hcz30_1 : wc.cell? ⟨gb120,1,none⟩ = some (.int .u16 0):=(qqh BK120.out 1).trans rfl
    have hcz30_2 : wc.cell? ⟨gb120,2,none⟩ = some (.int .u16 0):=(qqh BK120.out 2).trans rfl
    have hcz30_3 : wc.cell? ⟨gb120,3,none⟩ = some (.bool false):=(qqh BK120.out 3).trans rfl
    have hfz30_0:=qqi BK120.out 0
    have hfz30_1:=qqi BK120.out 1
    have hfz30_2:=qqi BK120.out 2
    have hfz30_3:=qqi BK120.out 3
    go_wp2
    refine bodyPost_ret (results_ct rfl _ _ gb120 28 #[.string (⟨#[]⟩ : ByteArray),.int .u16 0,.int .u16 0,.bool false] (0,0) _ rfl (by (with_reducible repeat first|apply qqa|apply qqb|apply qqc);refine blk_put (cs:=#[.string (⟨#[]⟩ : ByteArray),.int .u16 0,.int .u16 0,.bool false]) ?_ 3 _ rfl;(with_reducible repeat first|apply qqa|apply qqb|apply qqc);refine blk_put (cs:=#[.string (⟨#[]⟩ : ByteArray),.int .u16 0,.int .u16 0,.bool false]) ?_ 2 _ rfl;(with_reducible repeat first|apply qqa|apply qqb|apply qqc);refine blk_put (cs:=#[.string (⟨#[]⟩ : ByteArray),.int .u16 0,.int .u16 0,.bool false]) ?_ 1 _ rfl;(with_reducible repeat first|apply qqa|apply qqb|apply qqc);refine blk_put (cs:=#[.string (⟨#[]⟩ : ByteArray),.int .u16 0,.int .u16 0,.bool false]) ?_ 0 _ rfl;(with_reducible repeat first|apply qqa|apply qqb|apply qqc);exact BK120.out) Try.underlying28 rfl (by kernel_rfl)) rfl ?_
    exact ⟨by first|rfl|(simp [errW_none,errW_some] <;> rfl)|(simp [*,errW_none,errW_some] <;> rfl),by repeat (first|(with_reducible first|exact HB.out|apply qqf|apply qqd|apply qqe|refine qqg ?_ GE119.out|refine qqg ?_ GE120.out)|exact HB.out)⟩
   ·
    replace c28:=Bool.eq_false_iff.mpr c28
    subst c28
    have H1 : ((query_key.f kj1 a0_0 a0_1 l0_2 l0_3 l0_4 l0_5).bind fun bt123 => (if bt123.1.toList = ([] : List UInt8) then (some ((⟨#[]⟩ : ByteArray),0,0,false,107)) else ((query_do.f kj1 a0_0 a0_1 l0_2 l0_3 l0_4 l0_5).bind fun t128 => (some (bt123.1,bt123.2.1,bt123.2.2.1,t128,0))))) = some (r1,r2,r3,r4,r5):=by rw [if_neg (show ¬ (false = true) by decide)] at H;exact H
    clear H
    have H:=H1
    clear H1
    replace H:=Option.bind_eq_some_iff.mp H
    obtain ⟨⟨t123,t124,t125,t126⟩,A310,H⟩:=H
    replace H : (if t123.toList = ([] : List UInt8) then (some ((⟨#[]⟩ : ByteArray),0,0,false,107)) else ((query_do.f kj1 a0_0 a0_1 l0_2 l0_3 l0_4 l0_5).bind fun t128 => (some (t123,t124,t125,t128,0)))) = some (r1,r2,r3,r4,r5):=H
    have A31:=Aside0.mk A310
    clear A310
    by_cases c32 : t123.toList = ([] : List UInt8)
    ·
     rw [if_pos c32] at H
     have c32b0 : (t123.toList == ([] : List UInt8)) = true:=beq_iff_eq.mpr c32
     have c32b1 : (t123.toList != ([] : List UInt8)) = false:=bne_eq_false_iff_eq.mpr c32
     clear c32
     simp only [Option.some.injEq,Prod.mk.injEq] at H
     obtain ⟨rfl,rfl,rfl,rfl,rfl⟩:=H
     have hnb33:=NB119_120.out
     have hnc33:=NB120_119.out
     have hcz34_0 : wc.cell? ⟨gb119,0,none⟩ = some (.int .u16 a0_0):=(qqh BK119.out 0).trans rfl
     have hcz34_1 : wc.cell? ⟨gb119,1,none⟩ = some (.int .u16 a0_1):=(qqh BK119.out 1).trans rfl
     have hcz34_2 : wc.cell? ⟨gb119,2,none⟩ = some (.slice A0_2 l0_2.length c0_2):=(qqh BK119.out 2).trans rfl
     have hcz34_3 : wc.cell? ⟨gb119,3,none⟩ = some (.slice A0_3 l0_3.length c0_3):=(qqh BK119.out 3).trans rfl
     have hcz34_4 : wc.cell? ⟨gb119,4,none⟩ = some (.slice A0_4 l0_4.length c0_4):=(qqh BK119.out 4).trans rfl
     have hcz34_5 : wc.cell? ⟨gb119,5,none⟩ = some (.slice A0_5 l0_5.length c0_5):=(qqh BK119.out 5).trans rfl
     have hfz34_0:=qqi BK119.out 0
     have hfz34_1:=qqi BK119.out 1
     have hfz34_2:=qqi BK119.out 2
     have hfz34_3:=qqi BK119.out 3
     have hfz34_4:=qqi BK119.out 4
     have hfz34_5:=qqi BK119.out 5
     go_wp2_with (first|((with_reducible refine gate_callee (f:=34) rfl ?_);refine goesL_ (some 40) rfl rfl Try.func34 (by kernel_rfl) rfl #[.agg #[.int .u16 a0_0,.int .u16 a0_1,.slice A0_2 l0_2.length c0_2,.slice A0_3 l0_3.length c0_3,.slice A0_4 l0_4.length c0_4,.slice A0_5 l0_5.length c0_5]] rfl (by (try simp only [List.map_toArray,List.map_cons,List.map_nil]);first|done|rfl|(simp only [List.length_drop,List.length_take];rfl)) ?_;(with_reducible refine (query_key.calls kj1 a0_0 a0_1 _ _ l0_2 _ _ l0_3 _ _ l0_4 _ _ l0_5 t123 t124 t125 t126 _ ?side1 ?side2 ?side3 ?side4 ?side5 ?side6 ?side7 ?side8 A31.out).mono ?_);(case side1 => repeat (first|exact (Kd.C_below HR0_2.out HB.out)|(with_reducible refine Kd.C_alloc ?_ _)|(with_reducible refine Kd.C_drewN ?_ _)|(with_reducible refine Kd.C_drew ?_)));(case side2 => exact HC0_2.out);(case side3 => repeat (first|exact (Kd.C_below HR0_3.out HB.out)|(with_reducible refine Kd.C_alloc ?_ _)|(with_reducible refine Kd.C_drewN ?_ _)|(with_reducible refine Kd.C_drew ?_)));(case side4 => exact HC0_3.out);(case side5 => repeat (first|exact (Kd.C_below HR0_4.out HB.out)|(with_reducible refine Kd.C_alloc ?_ _)|(with_reducible refine Kd.C_drewN ?_ _)|(with_reducible refine Kd.C_drew ?_)));(case side6 => exact HC0_4.out);(case side7 => repeat (first|exact (Kd.C_below HR0_5.out HB.out)|(with_reducible refine Kd.C_alloc ?_ _)|(with_reducible refine Kd.C_drewN ?_ _)|(with_reducible refine Kd.C_drew ?_)));(case side8 => exact HC0_5.out);rintro e w35 ⟨rfl,hb⟩;refine ⟨_,rfl,?_⟩;have n0_:=Aside0.mk (blk_below (g:=gb119) (o:=.cells #[.int .u16 a0_0,.int .u16 a0_1,.slice A0_2 l0_2.length c0_2,.slice A0_3 l0_3.length c0_3,.slice A0_4 l0_4.length c0_4,.slice A0_5 l0_5.length c0_5] 26 (0,0)) (by (with_reducible repeat first|apply qqa|apply qqb|apply qqc);exact BK119.out) hb);have n1_:=Aside0.mk (blk_below (g:=gb120) (o:=.cells #[.string (⟨#[]⟩ : ByteArray),.int .u16 0,.int .u16 0,.bool false] 28 (0,0)) (by (with_reducible repeat first|apply qqa|apply qqb|apply qqc);exact BK120.out) hb);have n2_:=Aside0.mk (below_step (by repeat (first|(with_reducible first|exact HB.out|apply qqf|apply qqd|apply qqe|refine qqg ?_ GE119.out|refine qqg ?_ GE120.out)|exact HB.out)) hb);clear BK119;clear BK120;clear HB;have BK119:=n0_;have BK120:=n1_;have HB:=n2_;clear n0_ n1_ n2_;(try clear hb);(try clear hb2);(try clear hk);(try clear hi))|((with_reducible refine gate_dst (N:=4) rfl ?_);(try (refine gate_guard (by rfl) ?_;dsimp only));refine box_event ?hg (N:=4) ?hd (cs:=#[.string (⟨#[]⟩ : ByteArray),.int .u16 0,.int .u16 0,.bool false]) (t:=28) ?hr ?_;(case hd => rfl);(case hg => rfl);(case hr => first|(go_simp;done)|(go_simp;rfl));intro gb127 hg w36 hbox hb;have n0_:=Aside0.mk (blk_below (g:=gb119) (o:=.cells #[.int .u16 a0_0,.int .u16 a0_1,.slice A0_2 l0_2.length c0_2,.slice A0_3 l0_3.length c0_3,.slice A0_4 l0_4.length c0_4,.slice A0_5 l0_5.length c0_5] 26 (0,0)) (by (with_reducible repeat first|apply qqa|apply qqb|apply qqc);exact BK119.out) hb);have n1_:=Aside0.mk (blk_below (g:=gb120) (o:=.cells #[.string (⟨#[]⟩ : ByteArray),.int .u16 0,.int .u16 0,.bool false] 28 (0,0)) (by (with_reducible repeat first|apply qqa|apply qqb|apply qqc);exact BK120.out) hb);have n2_:=Aside0.mk (below_step (by repeat (first|(with_reducible first|exact HB.out|apply qqf|apply qqd|apply qqe|refine qqg ?_ GE119.out|refine qqg ?_ GE120.out)|exact HB.out)) hb);have n3_:=Aside0.mk (hbox);have n4_:=Aside0.mk ((by rw [hg];exact (below_size (by repeat (first|(with_reducible first|exact HB.out|apply qqf|apply qqd|apply qqe|refine qqg ?_ GE119.out|refine qqg ?_ GE120.out)|exact HB.out))) : w.heap.size ≤ gb127));have n5_:=Aside0.mk ((by rw [hg];exact (below_size (by repeat (first|(with_reducible first|exact HB.out|apply qqf|apply qqd|apply qqe|refine qqg ?_ GE119.out|refine qqg ?_ GE120.out)|exact HB.out))) : w.heap.size ≤ gb127));have n6_:=Aside0.mk ((by rw [hg];exact Nat.ne_of_lt (blk_lt (g:=gb119) (o:=.cells #[.int .u16 a0_0,.int .u16 a0_1,.slice A0_2 l0_2.length c0_2,.slice A0_3 l0_3.length c0_3,.slice A0_4 l0_4.length c0_4,.slice A0_5 l0_5.length c0_5] 26 (0,0)) (by (with_reducible repeat first|apply qqa|apply qqb|apply qqc);exact BK119.out)) : gb119 ≠ gb127));have n7_:=Aside0.mk ((by rw [hg];exact Nat.ne_of_gt (blk_lt (g:=gb119) (o:=.cells #[.int .u16 a0_0,.int .u16 a0_1,.slice A0_2 l0_2.length c0_2,.slice A0_3 l0_3.length c0_3,.slice A0_4 l0_4.length c0_4,.slice A0_5 l0_5.length c0_5] 26 (0,0)) (by (with_reducible repeat first|apply qqa|apply qqb|apply qqc);exact BK119.out)) : gb127 ≠ gb119));have n8_:=Aside0.mk ((by rw [hg];exact Nat.ne_of_lt (blk_lt (g:=gb120) (o:=.cells #[.string (⟨#[]⟩ : ByteArray),.int .u16 0,.int .u16 0,.bool false] 28 (0,0)) (by (with_reducible repeat first|apply qqa|apply qqb|apply qqc);exact BK120.out)) : gb120 ≠ gb127));have n9_:=Aside0.mk ((by rw [hg];exact Nat.ne_of_gt (blk_lt (g:=gb120) (o:=.cells #[.string (⟨#[]⟩ : ByteArray),.int .u16 0,.int .u16 0,.bool false] 28 (0,0)) (by (with_reducible repeat first|apply qqa|apply qqb|apply qqc);exact BK120.out)) : gb127 ≠ gb120));clear BK119;clear BK120;clear HB;have BK119:=n0_;have BK120:=n1_;have HB:=n2_;have BK127:=n3_;have GW127:=n4_;have GE127:=n5_;have NB119_127:=n6_;have NB127_119:=n7_;have NB120_127:=n8_;have NB127_120:=n9_;clear n0_ n1_ n2_ n3_ n4_ n5_ n6_ n7_ n8_ n9_;clear hb hbox hg;have hnb37:=NB127_119.out;have hnc37:=NB119_127.out;have hnb38:=NB127_120.out;have hnc38:=NB120_127.out;have hcz39_0 : w36.cell? ⟨gb127,0,none⟩ = some (.string (⟨#[]⟩ : ByteArray)):=(qqh BK127.out 0).trans rfl;have hcz39_1 : w36.cell? ⟨gb127,1,none⟩ = some (.int .u16 0):=(qqh BK127.out 1).trans rfl;have hcz39_2 : w36.cell? ⟨gb127,2,none⟩ = some (.int .u16 0):=(qqh BK127.out 2).trans rfl;have hcz39_3 : w36.cell? ⟨gb127,3,none⟩ = some (.bool false):=(qqh BK127.out 3).trans rfl;have hfz39_0:=qqi BK127.out 0;have hfz39_1:=qqi BK127.out 1;have hfz39_2:=qqi BK127.out 2;have hfz39_3:=qqi BK127.out 3;have hcz40_0 : w36.cell? ⟨gb120,0,none⟩ = some (.string (⟨#[]⟩ : ByteArray)):=(qqh BK120.out 0).trans rfl;have hcz40_1 : w36.cell? ⟨gb120,1,none⟩ = some (.int .u16 0):=(qqh BK120.out 1).trans rfl;have hcz40_2 : w36.cell? ⟨gb120,2,none⟩ = some (.int .u16 0):=(qqh BK120.out 2).trans rfl;have hcz40_3 : w36.cell? ⟨gb120,3,none⟩ = some (.bool false):=(qqh BK120.out 3).trans rfl;have hfz40_0:=qqi BK120.out 0;have hfz40_1:=qqi BK120.out 1;have hfz40_2:=qqi BK120.out 2;have hfz40_3:=qqi BK120.out 3))
     refine bodyPost_ret (results_ct rfl _ _ gb120 28 #[.string (⟨#[]⟩ : ByteArray),.int .u16 0,.int .u16 0,.bool false] (0,0) _ rfl (by (with_reducible repeat first|apply qqa|apply qqb|apply qqc);refine blk_put (cs:=#[.string (⟨#[]⟩ : ByteArray),.int .u16 0,.int .u16 0,.bool false]) ?_ 3 _ rfl;(with_reducible repeat first|apply qqa|apply qqb|apply qqc);refine blk_put (cs:=#[.string (⟨#[]⟩ : ByteArray),.int .u16 0,.int .u16 0,.bool false]) ?_ 2 _ rfl;(with_reducible repeat first|apply qqa|apply qqb|apply qqc);refine blk_put (cs:=#[.string (⟨#[]⟩ : ByteArray),.int .u16 0,.int .u16 0,.bool false]) ?_ 1 _ rfl;(with_reducible repeat first|apply qqa|apply qqb|apply qqc);refine blk_put (cs:=#[.string (⟨#[]⟩ : ByteArray),.int .u16 0,.int .u16 0,.bool false]) ?_ 0 _ rfl;(with_reducible repeat first|apply qqa|apply qqb|apply qqc);refine blk_far ?_ NB120_127.out _;(with_reducible repeat first|apply qqa|apply qqb|apply qqc);refine blk_far ?_ NB120_127.out _;(with_reducible repeat first|apply qqa|apply qqb|apply qqc);refine blk_far ?_ NB120_127.out _;(with_reducible repeat first|apply qqa|apply qqb|apply qqc);refine blk_far ?_ NB120_127.out _;(with_reducible repeat first|apply qqa|apply qqb|apply qqc);exact BK120.out) Try.underlying28 rfl (by kernel_rfl)) rfl ?_
     exact ⟨by first|rfl|(simp [errW_none,errW_some] <;> rfl)|(simp [*,errW_none,errW_some] <;> rfl),by repeat (first|(with_reducible first|exact HB.out|apply qqf|apply qqd|apply qqe|refine qqg ?_ GE119.out|refine qqg ?_ GE120.out|refine qqg ?_ GE127.out)|exact HB.out)⟩
    ·
     rw [if_neg c32] at H
     have c32b0 : (t123.toList == ([] : List UInt8)) = false:=beq_eq_false_iff_ne.mpr c32
     have c32b1 : (t123.toList != ([] : List UInt8)) = true:=bne_iff_ne.mpr c32
     replace H:=Option.bind_eq_some_iff.mp H
     obtain ⟨t128,A410,H⟩:=H
     replace H : (some (t123,t124,t125,t128,0)) = some (r1,r2,r3,r4,r5):=H
     have A41:=Aside0.mk A410
     clear A410
     simp only [Option.some.injEq,Prod.mk.injEq] at H
     obtain ⟨rfl,rfl,rfl,rfl,rfl⟩:=H
     have hnb42:=NB119_120.out
     have hnc42:=NB120_119.out
     have hcz43_0 : wc.cell? ⟨gb119,0,none⟩ = some (.int .u16 a0_0):=(qqh BK119.out 0).trans rfl
     have hcz43_1 : wc.cell? ⟨gb119,1,none⟩ = some (.int .u16 a0_1):=(qqh BK119.out 1).trans rfl
     have hcz43_2 : wc.cell? ⟨gb119,2,none⟩ = some (.slice A0_2 l0_2.length c0_2):=(qqh BK119.out 2).trans rfl
     have hcz43_3 : wc.cell? ⟨gb119,3,none⟩ = some (.slice A0_3 l0_3.length c0_3):=(qqh BK119.out 3).trans rfl
     have hcz43_4 : wc.cell? ⟨gb119,4,none⟩ = some (.slice A0_4 l0_4.length c0_4):=(qqh BK119.out 4).trans rfl
     have hcz43_5 : wc.cell? ⟨gb119,5,none⟩ = some (.slice A0_5 l0_5.length c0_5):=(qqh BK119.out 5).trans rfl
     have hfz43_0:=qqi BK119.out 0
     have hfz43_1:=qqi BK119.out 1
     have hfz43_2:=qqi BK119.out 2
     have hfz43_3:=qqi BK119.out 3
     have hfz43_4:=qqi BK119.out 4
     have hfz43_5:=qqi BK119.out 5
     go_wp2_with (first|((with_reducible refine gate_callee (f:=34) rfl ?_);refine goesL_ (some 40) rfl rfl Try.func34 (by kernel_rfl) rfl #[.agg #[.int .u16 a0_0,.int .u16 a0_1,.slice A0_2 l0_2.length c0_2,.slice A0_3 l0_3.length c0_3,.slice A0_4 l0_4.length c0_4,.slice A0_5 l0_5.length c0_5]] rfl (by (try simp only [List.map_toArray,List.map_cons,List.map_nil]);first|done|rfl|(simp only [List.length_drop,List.length_take];rfl)) ?_;(with_reducible refine (query_key.calls kj1 a0_0 a0_1 _ _ l0_2 _ _ l0_3 _ _ l0_4 _ _ l0_5 t123 t124 t125 t126 _ ?side1 ?side2 ?side3 ?side4 ?side5 ?side6 ?side7 ?side8 A31.out).mono ?_);(case side1 => repeat (first|exact (Kd.C_below HR0_2.out HB.out)|(with_reducible refine Kd.C_alloc ?_ _)|(with_reducible refine Kd.C_drewN ?_ _)|(with_reducible refine Kd.C_drew ?_)));(case side2 => exact HC0_2.out);(case side3 => repeat (first|exact (Kd.C_below HR0_3.out HB.out)|(with_reducible refine Kd.C_alloc ?_ _)|(with_reducible refine Kd.C_drewN ?_ _)|(with_reducible refine Kd.C_drew ?_)));(case side4 => exact HC0_3.out);(case side5 => repeat (first|exact (Kd.C_below HR0_4.out HB.out)|(with_reducible refine Kd.C_alloc ?_ _)|(with_reducible refine Kd.C_drewN ?_ _)|(with_reducible refine Kd.C_drew ?_)));(case side6 => exact HC0_4.out);(case side7 => repeat (first|exact (Kd.C_below HR0_5.out HB.out)|(with_reducible refine Kd.C_alloc ?_ _)|(with_reducible refine Kd.C_drewN ?_ _)|(with_reducible refine Kd.C_drew ?_)));(case side8 => exact HC0_5.out);rintro e w44 ⟨rfl,hb⟩;refine ⟨_,rfl,?_⟩;have n0_:=Aside0.mk (blk_below (g:=gb119) (o:=.cells #[.int .u16 a0_0,.int .u16 a0_1,.slice A0_2 l0_2.length c0_2,.slice A0_3 l0_3.length c0_3,.slice A0_4 l0_4.length c0_4,.slice A0_5 l0_5.length c0_5] 26 (0,0)) (by (with_reducible repeat first|apply qqa|apply qqb|apply qqc);exact BK119.out) hb);have n1_:=Aside0.mk (blk_below (g:=gb120) (o:=.cells #[.string (⟨#[]⟩ : ByteArray),.int .u16 0,.int .u16 0,.bool false] 28 (0,0)) (by (with_reducible repeat first|apply qqa|apply qqb|apply qqc);exact BK120.out) hb);have n2_:=Aside0.mk (below_step (by repeat (first|(with_reducible first|exact HB.out|apply qqf|apply qqd|apply qqe|refine qqg ?_ GE119.out|refine qqg ?_ GE120.out)|exact HB.out)) hb);clear BK119;clear BK120;clear HB;have BK119:=n0_;have BK120:=n1_;have HB:=n2_;clear n0_ n1_ n2_;(try clear hb);(try clear hb2);(try clear hk);(try clear hi))|((with_reducible refine gate_dst (N:=4) rfl ?_);(try (refine gate_guard (by rfl) ?_;dsimp only));refine box_event ?hg (N:=4) ?hd (cs:=#[.string (⟨#[]⟩ : ByteArray),.int .u16 0,.int .u16 0,.bool false]) (t:=28) ?hr ?_;(case hd => rfl);(case hg => rfl);(case hr => first|(go_simp;done)|(go_simp;rfl));intro gb127 hg w45 hbox hb;have n0_:=Aside0.mk (blk_below (g:=gb119) (o:=.cells #[.int .u16 a0_0,.int .u16 a0_1,.slice A0_2 l0_2.length c0_2,.slice A0_3 l0_3.length c0_3,.slice A0_4 l0_4.length c0_4,.slice A0_5 l0_5.length c0_5] 26 (0,0)) (by (with_reducible repeat first|apply qqa|apply qqb|apply qqc);exact BK119.out) hb);have n1_:=Aside0.mk (blk_below (g:=gb120) (o:=.cells #[.string (⟨#[]⟩ : ByteArray),.int .u16 0,.int .u16 0,.bool false] 28 (0,0)) (by (with_reducible repeat first|apply qqa|apply qqb|apply qqc);exact BK120.out) hb);have n2_:=Aside0.mk (below_step (by repeat (first|(with_reducible first|exact HB.out|apply qqf|apply qqd|apply qqe|refine qqg ?_ GE119.out|refine qqg ?_ GE120.out)|exact HB.out)) hb);have n3_:=Aside0.mk (hbox);have n4_:=Aside0.mk ((by rw [hg];exact (below_size (by repeat (first|(with_reducible first|exact HB.out|apply qqf|apply qqd|apply qqe|refine qqg ?_ GE119.out|refine qqg ?_ GE120.out)|exact HB.out))) : w.heap.size ≤ gb127));have n5_:=Aside0.mk ((by rw [hg];exact (below_size (by repeat (first|(with_reducible first|exact HB.out|apply qqf|apply qqd|apply qqe|refine qqg ?_ GE119.out|refine qqg ?_ GE120.out)|exact HB.out))) : w.heap.size ≤ gb127));have n6_:=Aside0.mk ((by rw [hg];exact Nat.ne_of_lt (blk_lt (g:=gb119) (o:=.cells #[.int .u16 a0_0,.int .u16 a0_1,.slice A0_2 l0_2.length c0_2,.slice A0_3 l0_3.length c0_3,.slice A0_4 l0_4.length c0_4,.slice A0_5 l0_5.length c0_5] 26 (0,0)) (by (with_reducible repeat first|apply qqa|apply qqb|apply qqc);exact BK119.out)) : gb119 ≠ gb127));have n7_:=Aside0.mk ((by rw [hg];exact Nat.ne_of_gt (blk_lt (g:=gb119) (o:=.cells #[.int .u16 a0_0,.int .u16 a0_1,.slice A0_2 l0_2.length c0_2,.slice A0_3 l0_3.length c0_3,.slice A0_4 l0_4.length c0_4,.slice A0_5 l0_5.length c0_5] 26 (0,0)) (by (with_reducible repeat first|apply qqa|apply qqb|apply qqc);exact BK119.out)) : gb127 ≠ gb119));have n8_:=Aside0.mk ((by rw [hg];exact Nat.ne_of_lt (blk_lt (g:=gb120) (o:=.cells #[.string (⟨#[]⟩ : ByteArray),.int .u16 0,.int .u16 0,.bool false] 28 (0,0)) (by (with_reducible repeat first|apply qqa|apply qqb|apply qqc);exact BK120.out)) : gb120 ≠ gb127));have n9_:=Aside0.mk ((by rw [hg];exact Nat.ne_of_gt (blk_lt (g:=gb120) (o:=.cells #[.string (⟨#[]⟩ : ByteArray),.int .u16 0,.int .u16 0,.bool false] 28 (0,0)) (by (with_reducible repeat first|apply qqa|apply qqb|apply qqc);exact BK120.out)) : gb127 ≠ gb120));clear BK119;clear BK120;clear HB;have BK119:=n0_;have BK120:=n1_;have HB:=n2_;have BK127:=n3_;have GW127:=n4_;have GE127:=n5_;have NB119_127:=n6_;have NB127_119:=n7_;have NB120_127:=n8_;have NB127_120:=n9_;clear n0_ n1_ n2_ n3_ n4_ n5_ n6_ n7_ n8_ n9_;clear hb hbox hg;have hnb46:=NB127_119.out;have hnc46:=NB119_127.out;have hnb47:=NB127_120.out;have hnc47:=NB120_127.out;have hcz48_0 : w45.cell? ⟨gb127,0,none⟩ = some (.string (⟨#[]⟩ : ByteArray)):=(qqh BK127.out 0).trans rfl;have hcz48_1 : w45.cell? ⟨gb127,1,none⟩ = some (.int .u16 0):=(qqh BK127.out 1).trans rfl;have hcz48_2 : w45.cell? ⟨gb127,2,none⟩ = some (.int .u16 0):=(qqh BK127.out 2).trans rfl;have hcz48_3 : w45.cell? ⟨gb127,3,none⟩ = some (.bool false):=(qqh BK127.out 3).trans rfl;have hfz48_0:=qqi BK127.out 0;have hfz48_1:=qqi BK127.out 1;have hfz48_2:=qqi BK127.out 2;have hfz48_3:=qqi BK127.out 3;have hcz49_0 : w45.cell? ⟨gb119,0,none⟩ = some (.int .u16 a0_0):=(qqh BK119.out 0).trans rfl;have hcz49_1 : w45.cell? ⟨gb119,1,none⟩ = some (.int .u16 a0_1):=(qqh BK119.out 1).trans rfl;have hcz49_2 : w45.cell? ⟨gb119,2,none⟩ = some (.slice A0_2 l0_2.length c0_2):=(qqh BK119.out 2).trans rfl;have hcz49_3 : w45.cell? ⟨gb119,3,none⟩ = some (.slice A0_3 l0_3.length c0_3):=(qqh BK119.out 3).trans rfl;have hcz49_4 : w45.cell? ⟨gb119,4,none⟩ = some (.slice A0_4 l0_4.length c0_4):=(qqh BK119.out 4).trans rfl;have hcz49_5 : w45.cell? ⟨gb119,5,none⟩ = some (.slice A0_5 l0_5.length c0_5):=(qqh BK119.out 5).trans rfl;have hfz49_0:=qqi BK119.out 0;have hfz49_1:=qqi BK119.out 1;have hfz49_2:=qqi BK119.out 2;have hfz49_3:=qqi BK119.out 3;have hfz49_4:=qqi BK119.out 4;have hfz49_5:=qqi BK119.out 5)|((with_reducible refine gate_callee (f:=35) rfl ?_);refine goesL_ (some 46) rfl rfl Try.func35 (by kernel_rfl) rfl #[.agg #[.int .u16 a0_0,.int .u16 a0_1,.slice A0_2 l0_2.length c0_2,.slice A0_3 l0_3.length c0_3,.slice A0_4 l0_4.length c0_4,.slice A0_5 l0_5.length c0_5]] rfl (by (try simp only [List.map_toArray,List.map_cons,List.map_nil]);first|done|rfl|(simp only [List.length_drop,List.length_take];rfl)) ?_;(with_reducible refine (query_do.calls kj1 a0_0 a0_1 _ _ l0_2 _ _ l0_3 _ _ l0_4 _ _ l0_5 t128 _ ?side1 ?side2 ?side3 ?side4 ?side5 ?side6 ?side7 ?side8 A41.out).mono ?_);(case side1 => exact Kd.C_below HR0_2.out (by repeat (first|(with_reducible first|exact HB.out|apply qqf|apply qqd|apply qqe|refine qqg ?_ GE119.out|refine qqg ?_ GE120.out|refine qqg ?_ GE127.out)|exact HB.out)));(case side2 => exact HC0_2.out);(case side3 => exact Kd.C_below HR0_3.out (by repeat (first|(with_reducible first|exact HB.out|apply qqf|apply qqd|apply qqe|refine qqg ?_ GE119.out|refine qqg ?_ GE120.out|refine qqg ?_ GE127.out)|exact HB.out)));(case side4 => exact HC0_3.out);(case side5 => exact Kd.C_below HR0_4.out (by repeat (first|(with_reducible first|exact HB.out|apply qqf|apply qqd|apply qqe|refine qqg ?_ GE119.out|refine qqg ?_ GE120.out|refine qqg ?_ GE127.out)|exact HB.out)));(case side6 => exact HC0_4.out);(case side7 => exact Kd.C_below HR0_5.out (by repeat (first|(with_reducible first|exact HB.out|apply qqf|apply qqd|apply qqe|refine qqg ?_ GE119.out|refine qqg ?_ GE120.out|refine qqg ?_ GE127.out)|exact HB.out)));(case side8 => exact HC0_5.out);rintro e w50 ⟨rfl,hb⟩;refine ⟨_,rfl,?_⟩;have n0_:=Aside0.mk (blk_below (g:=gb119) (o:=.cells #[.int .u16 a0_0,.int .u16 a0_1,.slice A0_2 l0_2.length c0_2,.slice A0_3 l0_3.length c0_3,.slice A0_4 l0_4.length c0_4,.slice A0_5 l0_5.length c0_5] 26 (0,0)) (by (with_reducible repeat first|apply qqa|apply qqb|apply qqc);refine blk_far ?_ NB119_127.out _;(with_reducible repeat first|apply qqa|apply qqb|apply qqc);refine blk_far ?_ NB119_127.out _;(with_reducible repeat first|apply qqa|apply qqb|apply qqc);refine blk_far ?_ NB119_127.out _;(with_reducible repeat first|apply qqa|apply qqb|apply qqc);refine blk_far ?_ NB119_127.out _;(with_reducible repeat first|apply qqa|apply qqb|apply qqc);exact BK119.out) hb);have n1_:=Aside0.mk (blk_below (g:=gb120) (o:=.cells #[.string (⟨#[]⟩ : ByteArray),.int .u16 0,.int .u16 0,.bool false] 28 (0,0)) (by (with_reducible repeat first|apply qqa|apply qqb|apply qqc);refine blk_far ?_ NB120_127.out _;(with_reducible repeat first|apply qqa|apply qqb|apply qqc);refine blk_far ?_ NB120_127.out _;(with_reducible repeat first|apply qqa|apply qqb|apply qqc);refine blk_far ?_ NB120_127.out _;(with_reducible repeat first|apply qqa|apply qqb|apply qqc);refine blk_far ?_ NB120_127.out _;(with_reducible repeat first|apply qqa|apply qqb|apply qqc);exact BK120.out) hb);have n2_:=Aside0.mk (blk_below (g:=gb127) (o:=.cells #[.string t123,.int .u16 t124,.int .u16 t125,.bool t126] 28 (0,0)) (by (with_reducible repeat first|apply qqa|apply qqb|apply qqc);refine blk_put (cs:=#[.string t123,.int .u16 t124,.int .u16 t125,.bool false]) ?_ 3 _ rfl;(with_reducible repeat first|apply qqa|apply qqb|apply qqc);refine blk_put (cs:=#[.string t123,.int .u16 t124,.int .u16 0,.bool false]) ?_ 2 _ rfl;(with_reducible repeat first|apply qqa|apply qqb|apply qqc);refine blk_put (cs:=#[.string t123,.int .u16 0,.int .u16 0,.bool false]) ?_ 1 _ rfl;(with_reducible repeat first|apply qqa|apply qqb|apply qqc);refine blk_put (cs:=#[.string (⟨#[]⟩ : ByteArray),.int .u16 0,.int .u16 0,.bool false]) ?_ 0 _ rfl;(with_reducible repeat first|apply qqa|apply qqb|apply qqc);exact BK127.out) hb);have n3_:=Aside0.mk (below_step (by repeat (first|(with_reducible first|exact HB.out|apply qqf|apply qqd|apply qqe|refine qqg ?_ GE119.out|refine qqg ?_ GE120.out|refine qqg ?_ GE127.out)|exact HB.out)) hb);clear BK119;clear BK120;clear BK127;clear HB;have BK119:=n0_;have BK120:=n1_;have BK127:=n2_;have HB:=n3_;clear n0_ n1_ n2_ n3_;(try clear hb);(try clear hb2);(try clear hk);(try clear hi);have hcz51_0 : w50.cell? ⟨gb127,0,none⟩ = some (.string t123):=(qqh BK127.out 0).trans rfl;have hcz51_1 : w50.cell? ⟨gb127,1,none⟩ = some (.int .u16 t124):=(qqh BK127.out 1).trans rfl;have hcz51_2 : w50.cell? ⟨gb127,2,none⟩ = some (.int .u16 t125):=(qqh BK127.out 2).trans rfl;have hcz51_3 : w50.cell? ⟨gb127,3,none⟩ = some (.bool t126):=(qqh BK127.out 3).trans rfl;have hfz51_0:=qqi BK127.out 0;have hfz51_1:=qqi BK127.out 1;have hfz51_2:=qqi BK127.out 2;have hfz51_3:=qqi BK127.out 3;have hcz52_0 : w50.cell? ⟨gb120,0,none⟩ = some (.string (⟨#[]⟩ : ByteArray)):=(qqh BK120.out 0).trans rfl;have hcz52_1 : w50.cell? ⟨gb120,1,none⟩ = some (.int .u16 0):=(qqh BK120.out 1).trans rfl;have hcz52_2 : w50.cell? ⟨gb120,2,none⟩ = some (.int .u16 0):=(qqh BK120.out 2).trans rfl;have hcz52_3 : w50.cell? ⟨gb120,3,none⟩ = some (.bool false):=(qqh BK120.out 3).trans rfl;have hfz52_0:=qqi BK120.out 0;have hfz52_1:=qqi BK120.out 1;have hfz52_2:=qqi BK120.out 2;have hfz52_3:=qqi BK120.out 3))
     refine bodyPost_ret (results_ct rfl _ _ gb120 28 #[.string t123,.int .u16 t124,.int .u16 t125,.bool t128] (0,0) _ rfl (by (with_reducible repeat first|apply qqa|apply qqb|apply qqc);refine blk_put (cs:=#[.string t123,.int .u16 t124,.int .u16 t125,.bool false]) ?_ 3 _ rfl;(with_reducible repeat first|apply qqa|apply qqb|apply qqc);refine blk_put (cs:=#[.string t123,.int .u16 t124,.int .u16 0,.bool false]) ?_ 2 _ rfl;(with_reducible repeat first|apply qqa|apply qqb|apply qqc);refine blk_put (cs:=#[.string t123,.int .u16 0,.int .u16 0,.bool false]) ?_ 1 _ rfl;(with_reducible repeat first|apply qqa|apply qqb|apply qqc);refine blk_put (cs:=#[.string (⟨#[]⟩ : ByteArray),.int .u16 0,.int .u16 0,.bool false]) ?_ 0 _ rfl;(with_reducible repeat first|apply qqa|apply qqb|apply qqc);refine blk_far ?_ NB120_127.out _;(with_reducible repeat first|apply qqa|apply qqb|apply qqc);exact BK120.out) Try.underlying28 rfl (by kernel_rfl)) rfl ?_
     exact ⟨by first|rfl|(simp [errW_none,errW_some] <;> rfl)|(simp [*,errW_none,errW_some] <;> rfl),by repeat (first|(with_reducible first|exact HB.out|apply qqf|apply qqd|apply qqe|refine qqg ?_ GE119.out|refine qqg ?_ GE120.out|refine qqg ?_ GE127.out)|exact HB.out)⟩

end Go.Proofs.Ythkdfnbhlinhiaa.Mine
