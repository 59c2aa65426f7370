-- Written by this repo's own printer (wip/print), which builds on the kit's.
import Derived.Test.YthkdfnbhlinhiaaMinex0
namespace Go.Proofs.Ythkdfnbhlinhiaa.Mine
open Go.RowKit Go.Proofs.YthkdfnbhlinhiaaW.PrintWords Go.Proofs.YthkdfnbhlinhiaaW.PrintLast Go.Proofs.YthkdfnbhlinhiaaW.PrintMore
attribute [local go_sem] max2_int min2_int max_two min_two max_three min_three max_four min_four   -- for this text's walks alone
set_option linter.unusedVariables false
set_option linter.unusedSimpArgs false

/-! ### query_do: function 35 -/
def query_do.l0 : Nat → List (S51) → Int → Int → Option (Bool)
 | 0, _, _, _ => none
 | k + 1, x6, x7, x8 => if x8 < x7 then (if 0 ≤ x8 then (if x8 < (x6.length : Int) then (if ((rd_T51 x6 x8).f1) = 41 then (some ((Go.bits .and .u32 ((rd_T51 x6 x8).f3) 32768) != 0)) else (query_do.l0 k x6 x7 (wrap64 (x8 + 1)))) else (none)) else (none)) else (some false)
def query_do.f (k : Nat) (a0_0 : Int) (a0_1 : Int) (l0_2 : List (S53)) (l0_3 : List (S51)) (l0_4 : List (S51)) (l0_5 : List (S51)) : Option (Bool) := query_do.l0 k l0_5 (l0_5.length : Int) 0
theorem query_do.mono_l : ∀ k, (∀ y0 y1 y2, LeO (query_do.l0 k y0 y1 y2) (query_do.l0 (k + 1) y0 y1 y2))
 | 0 => fun _ _ _ r h => by simp [query_do.l0] at h
 | k + 1 => by
  have ih0:=query_do.mono_l k
  ·
   intro y0 y1 y2
   unfold query_do.l0
   repeat' first
   | (with_reducible exact ih0 _ _ _)
   | (with_reducible exact LeO.refl _)
   | (with_reducible exact LeO.none _)
   | (with_reducible refine LeO.ite ?_ ?_)
   | (with_reducible refine LeO.bind ?_ (fun _ => ?_))
   | exact ih0 _ _ _
   | exact LeO.none _
   | refine LeO.ite ?_ ?_
   | refine LeO.bind ?_ (fun _ => ?_)
theorem query_do.mono : ∀ a0 a1 a2 a3 a4 a5 k, LeO (query_do.f k a0 a1 a2 a3 a4 a5) (query_do.f (k + 1) a0 a1 a2 a3 a4 a5) := by
 intro a0 a1 a2 a3 a4 a5 k
 have ih0:=query_do.mono_l k
 unfold query_do.f
 repeat' first
   | (with_reducible exact ih0 _ _ _)
   | (with_reducible exact LeO.refl _)
   | (with_reducible exact LeO.none _)
   | (with_reducible refine LeO.ite ?_ ?_)
   | (with_reducible refine LeO.bind ?_ (fun _ => ?_))
   | exact ih0 _ _ _
   | exact LeO.none _
   | refine LeO.ite ?_ ?_
   | refine LeO.bind ?_ (fun _ => ?_)
set_option maxHeartbeats 8000000 in
set_option maxRecDepth 100000 in
theorem query_do.calls (k : Nat) (a0_0 : Int) (a0_1 : Int) (A0_2 : Option Addr) (c0_2 : Nat) (l0_2 : List (S53)) (A0_3 : Option Addr) (c0_3 : Nat) (l0_3 : List (S51)) (A0_4 : Option Addr) (c0_4 : Nat) (l0_4 : List (S51)) (A0_5 : Option Addr) (c0_5 : Nat) (l0_5 : List (S51)) (r : Bool) (w : World) (hr0_2 : Kd.C k53 w A0_2 l0_2.length l0_2) (hc0_2 : l0_2.length ≤ c0_2) (hr0_3 : Kd.C k51 w A0_3 l0_3.length l0_3) (hc0_3 : l0_3.length ≤ c0_3) (hr0_4 : Kd.C k51 w A0_4 l0_4.length l0_4) (hc0_4 : l0_4.length ≤ c0_4) (hr0_5 : Kd.C k51 w A0_5 l0_5.length l0_5) (hc0_5 : l0_5.length ≤ c0_5) (h : query_do.f k a0_0 a0_1 l0_2 l0_3 l0_4 l0_5 = some r) :
  Calls Try.prog 35 #[.agg #[.int .u16 a0_0,.int .u16 a0_1,.slice A0_2 l0_2.length c0_2,.slice A0_3 l0_3.length c0_3,.slice A0_4 l0_4.length c0_4,.slice A0_5 l0_5.length c0_5]] w fun e w'=>e = .returned (.bool r)∧Below w.heap.size w w':=by
 have hu26:=Try.underlying26
 have hu51:=Try.underlying51
 have HR0_2:=qqm hr0_2
 have HC0_2:=qqm hc0_2
 clear hr0_2 hc0_2
 have HR0_3:=qqm hr0_3
 have HC0_3:=qqm hc0_3
 clear hr0_3 hc0_3
 have HR0_4:=qqm hr0_4
 have HC0_4:=qqm hc0_4
 clear hr0_4 hc0_4
 have HR0_5:=qqm hr0_5
 have HC0_5:=qqm hc0_5
 clear hr0_5 hc0_5
 have HB:=qqm (Below.refl w.heap.size w)
 have H:(query_do.l0 k l0_5 (l0_5.length:Int) 0) = some r:=h
 clear h
 have H':=qqm H
 clear H
 go_enter Try.func35,Try.ntmps35
 go_wp2_with (first|((with_reducible refine gate_dst (N:=1) rfl ?_);refine box_event ?hg (N:=1) ?hd (cs:=#[.int .u16 a0_0,.int .u16 a0_1,.slice A0_2 l0_2.length c0_2,.slice A0_3 l0_3.length c0_3,.slice A0_4 l0_4.length c0_4,.slice A0_5 l0_5.length c0_5]) (t:=26) ?hr ?_;(case hd=>rfl);(case hg=>rfl);(case hr=>first|(go_simp;done)|(go_simp;rfl));intro gb116 hg w2 hbox hb;have n0_:=qqm (below_step (by with_reducible repeat first|exact HB.out|apply qqf|apply qqd|apply qqe) hb);have n1_:=qqm (hbox);have n2_:=qqm ((by rw [hg];exact (below_size (by with_reducible repeat first|exact HB.out|apply qqf|apply qqd|apply qqe)):w.heap.size ≤ gb116));have n3_:=n2_;clear HB;have HB:=n0_;have BK116:=n1_;have GW116:=n2_;have GE116:=n3_;clear n0_ n1_ n2_ n3_ hb hbox hg;obtain ⟨hcz3_0,hcz3_1,hcz3_2,hcz3_3,hcz3_4,hcz3_5⟩:=qc6 BK116.out;obtain ⟨hfz3_0,hfz3_1,hfz3_2,hfz3_3,hfz3_4,hfz3_5⟩:=qf6 BK116.out))
 go_loopg [8] k (fun kq v8 w'=>∃ (x8_1:Int),v8 = .int .i64 x8_1∧Aside0 (query_do.l0 kq l0_5 (l0_5.length:Int) x8_1 = some r)∧Aside0 (kq ≤ k)∧Aside0 (w'.heap[gb116]? = some (.cells #[.int .u16 a0_0,.int .u16 a0_1,(.slice A0_2 l0_2.length c0_2),(.slice A0_3 l0_3.length c0_3),(.slice A0_4 l0_4.length c0_4),(.slice A0_5 l0_5.length c0_5)] 26 (0,0)))∧Aside0 (Below w.heap.size w w'))
 case atStart=>exact ⟨(0),(by first|rfl|(simp;done)|(simp [*];done)),H',⟨Nat.le_refl _⟩,⟨by (with_reducible repeat first|apply qqa|apply qqb|apply qqc);exact BK116.out⟩,⟨by with_reducible repeat first|exact HB.out|apply qqf|apply qqd|apply qqe|refine qqg ?_ GE116.out⟩⟩
 case round =>
  clear H'
  try clear p2
  try clear c3
  try clear hcz3_0 hcz3_1 hcz3_2 hcz3_3 hcz3_4 hcz3_5
  try clear hfz3_0 hfz3_1 hfz3_2 hfz3_3 hfz3_4 hfz3_5
  obtain ⟨x8_1,rfl,HA,HK1,BK116,HB⟩:=hrel
  cases gk with
  | zero => exact absurd HA.out (by simp [query_do.l0])
  | succ k1 =>
   have H:=HA.out
   clear HA
   simp only [query_do.l0] at H
   by_cases c4:x8_1 < (l0_5.length:Int)
   ·
    rw [if_pos c4] at H
    have c4b0:decide (x8_1 < (l0_5.length:Int)) = true:=decide_eq_true c4
    clear c4
    by_cases c5:0 ≤ x8_1
    ·
     rw [if_pos c5] at H
     have c5b0:decide (0 ≤ x8_1) = true:=decide_eq_true c5
     clear c5
     by_cases c6:x8_1 < (l0_5.length:Int)
     ·
      rw [if_pos c6] at H
      have c6b0:decide (x8_1 < (l0_5.length:Int)) = true:=decide_eq_true c6
      clear c6
      by_cases c7:((rd_T51 l0_5 x8_1).f1) = 41
      ·
       rw [if_pos c7] at H
       have c7b0:(((rd_T51 l0_5 x8_1).f1) == 41) = true:=beq_iff_eq.mpr c7
       have c7b1:(((rd_T51 l0_5 x8_1).f1) != 41) = false:=bne_eq_false_iff_eq.mpr c7
       clear c7
       obtain rfl:=Option.some.inj H
       have p117:0 ≤ (x8_1:Int):=of_decide_eq_true (by first|(with_reducible assumption)|assumption)
       have q117:x8_1 < (l0_5.length:Int):=of_decide_eq_true (by first|(with_reducible assumption)|assumption)
       obtain ⟨ad117,A117_4,c117_4,A117_5,c117_5,A117_6,c117_6,e117,hx117_0,hx117_1,hx117_2,hx117_3,hx117_4,hx117_5,hx117_6,hl117_4,hi117_4,hl117_5,hi117_5,hl117_6,hi117_6⟩:=at_T51 HR0_5.out x8_1 p117 q117
       cases e117
       replace hx117_0:=qqo HB.out hx117_0
       replace hx117_1:=qqo HB.out hx117_1
       replace hx117_2:=qqo HB.out hx117_2
       replace hx117_3:=qqo HB.out hx117_3
       replace hx117_4:=qqo HB.out hx117_4
       replace hx117_5:=qqo HB.out hx117_5
       replace hx117_6:=qqo HB.out hx117_6
       have HR117_4:=qqm hi117_4
       have HC117_4:=qqm hl117_4
       clear hi117_4 hl117_4
       have HR117_5:=qqm hi117_5
       have HC117_5:=qqm hl117_5
       clear hi117_5 hl117_5
       have HR117_6:=qqm hi117_6
       have HC117_6:=qqm hl117_6
       clear hi117_6 hl117_6
       replace p117:=eq_true p117
       replace q117:=eq_true q117
       go_wp2_with (first|((with_reducible refine gate_dst (N:=4) rfl ?_);refine box_event ?hg (N:=4) ?hd (cs:=#[.string (⟨#[]⟩:ByteArray),.int .u16 0,.int .u16 0,.int .u32 0,.slice none 0 0,.slice none 0 0,.slice none 0 0]) (t:=51) ?hr ?_;(case hd=>rfl);(case hg=>rfl);(case hr=>first|(go_simp;done)|(go_simp;rfl));intro gb118 hg w8 hbox hb;have n0_:=qqm (blk_below (g:=gb116) (o:=.cells #[.int .u16 a0_0,.int .u16 a0_1,.slice A0_2 l0_2.length c0_2,.slice A0_3 l0_3.length c0_3,.slice A0_4 l0_4.length c0_4,.slice (some ad117) l0_5.length c0_5] 26 (0,0)) (by (with_reducible repeat first|apply qqa|apply qqb|apply qqc);exact BK116.out) hb);have n1_:=qqm (below_step (by with_reducible repeat first|exact HB.out|apply qqf|apply qqd|apply qqe|refine qqg ?_ GE116.out) hb);have n2_:=qqm (hbox);have n3_:=qqm ((by rw [hg];exact (below_size (by with_reducible repeat first|exact HB.out|apply qqf|apply qqd|apply qqe|refine qqg ?_ GE116.out)):w.heap.size ≤ gb118));have n4_:=n3_;have n5_:=qqm ((by rw [hg];exact Nat.ne_of_lt (blk_lt (by (with_reducible repeat first|apply qqa|apply qqb|apply qqc);exact BK116.out)):gb116 ≠ gb118));have n6_:=qqm (Ne.symm n5_.out);clear BK116 HB;have BK116:=n0_;have HB:=n1_;have BK118:=n2_;have GW118:=n3_;have GE118:=n4_;have NB116_118:=n5_;have NB118_116:=n6_;clear n0_ n1_ n2_ n3_ n4_ n5_ n6_ hb hbox hg;have hnb9:=NB118_116.out;have hnc9:=NB116_118.out;obtain ⟨hcz10_0,hcz10_1,hcz10_2,hcz10_3,hcz10_4,hcz10_5,hcz10_6⟩:=qc7 BK118.out;obtain ⟨hfz10_0,hfz10_1,hfz10_2,hfz10_3,hfz10_4,hfz10_5,hfz10_6⟩:=qf7 BK118.out))
       go_ret
       exact ⟨by first|rfl|(simp [errW_none,errW_some] <;> rfl)|(simp [*,errW_none,errW_some] <;> rfl),by with_reducible repeat first|exact HB.out|apply qqf|apply qqd|apply qqe|refine qqg ?_ GE116.out|refine qqg ?_ GE118.out⟩
      ·
       rw [if_neg c7] at H
       have c7b0:(((rd_T51 l0_5 x8_1).f1) == 41) = false:=beq_eq_false_iff_ne.mpr c7
       have c7b1:(((rd_T51 l0_5 x8_1).f1) != 41) = true:=bne_iff_ne.mpr c7
       have H':=qqm H
       clear H
       have p117:0 ≤ (x8_1:Int):=of_decide_eq_true (by first|(with_reducible assumption)|assumption)
       have q117:x8_1 < (l0_5.length:Int):=of_decide_eq_true (by first|(with_reducible assumption)|assumption)
       obtain ⟨ad117,A117_4,c117_4,A117_5,c117_5,A117_6,c117_6,e117,hx117_0,hx117_1,hx117_2,hx117_3,hx117_4,hx117_5,hx117_6,hl117_4,hi117_4,hl117_5,hi117_5,hl117_6,hi117_6⟩:=at_T51 HR0_5.out x8_1 p117 q117
       cases e117
       replace hx117_0:=qqo HB.out hx117_0
       replace hx117_1:=qqo HB.out hx117_1
       replace hx117_2:=qqo HB.out hx117_2
       replace hx117_3:=qqo HB.out hx117_3
       replace hx117_4:=qqo HB.out hx117_4
       replace hx117_5:=qqo HB.out hx117_5
       replace hx117_6:=qqo HB.out hx117_6
       have HR117_4:=qqm hi117_4
       have HC117_4:=qqm hl117_4
       clear hi117_4 hl117_4
       have HR117_5:=qqm hi117_5
       have HC117_5:=qqm hl117_5
       clear hi117_5 hl117_5
       have HR117_6:=qqm hi117_6
       have HC117_6:=qqm hl117_6
       clear hi117_6 hl117_6
       replace p117:=eq_true p117
       replace q117:=eq_true q117
       go_wp2_with (first|((with_reducible refine gate_dst (N:=4) rfl ?_);refine box_event ?hg (N:=4) ?hd (cs:=#[.string (⟨#[]⟩:ByteArray),.int .u16 0,.int .u16 0,.int .u32 0,.slice none 0 0,.slice none 0 0,.slice none 0 0]) (t:=51) ?hr ?_;(case hd=>rfl);(case hg=>rfl);(case hr=>first|(go_simp;done)|(go_simp;rfl));intro gb118 hg w11 hbox hb;have n0_:=qqm (blk_below (g:=gb116) (o:=.cells #[.int .u16 a0_0,.int .u16 a0_1,.slice A0_2 l0_2.length c0_2,.slice A0_3 l0_3.length c0_3,.slice A0_4 l0_4.length c0_4,.slice (some ad117) l0_5.length c0_5] 26 (0,0)) (by (with_reducible repeat first|apply qqa|apply qqb|apply qqc);exact BK116.out) hb);have n1_:=qqm (below_step (by with_reducible repeat first|exact HB.out|apply qqf|apply qqd|apply qqe|refine qqg ?_ GE116.out) hb);have n2_:=qqm (hbox);have n3_:=qqm ((by rw [hg];exact (below_size (by with_reducible repeat first|exact HB.out|apply qqf|apply qqd|apply qqe|refine qqg ?_ GE116.out)):w.heap.size ≤ gb118));have n4_:=n3_;have n5_:=qqm ((by rw [hg];exact Nat.ne_of_lt (blk_lt (by (with_reducible repeat first|apply qqa|apply qqb|apply qqc);exact BK116.out)):gb116 ≠ gb118));have n6_:=qqm (Ne.symm n5_.out);clear BK116 HB;have BK116:=n0_;have HB:=n1_;have BK118:=n2_;have GW118:=n3_;have GE118:=n4_;have NB116_118:=n5_;have NB118_116:=n6_;clear n0_ n1_ n2_ n3_ n4_ n5_ n6_ hb hbox hg;have hnb12:=NB118_116.out;have hnc12:=NB116_118.out;obtain ⟨hcz13_0,hcz13_1,hcz13_2,hcz13_3,hcz13_4,hcz13_5,hcz13_6⟩:=qc7 BK118.out;obtain ⟨hfz13_0,hfz13_1,hfz13_2,hfz13_3,hfz13_4,hfz13_5,hfz13_6⟩:=qf7 BK118.out))
       go_roundg k1
       case measure=>have:=HK1.out;omega
       case rel=>exact ⟨(wrap64 (x8_1 + 1)),(by first|rfl|(simp;done)|(simp [*];done)),H',⟨by have:=HK1.out;omega⟩,⟨by (with_reducible repeat first|apply qqa|apply qqb|apply qqc);refine blk_far ?_ NB116_118.out _;(with_reducible repeat first|apply qqa|apply qqb|apply qqc);refine blk_far ?_ NB116_118.out _;(with_reducible repeat first|apply qqa|apply qqb|apply qqc);refine blk_far ?_ NB116_118.out _;(with_reducible repeat first|apply qqa|apply qqb|apply qqc);refine blk_far ?_ NB116_118.out _;(with_reducible repeat first|apply qqa|apply qqb|apply qqc);refine blk_far ?_ NB116_118.out _;(with_reducible repeat first|apply qqa|apply qqb|apply qqc);refine blk_far ?_ NB116_118.out _;(with_reducible repeat first|apply qqa|apply qqb|apply qqc);refine blk_far ?_ NB116_118.out _;(with_reducible repeat first|apply qqa|apply qqb|apply qqc);exact BK116.out⟩,⟨by with_reducible repeat first|exact HB.out|apply qqf|apply qqd|apply qqe|refine qqg ?_ GE116.out|refine qqg ?_ GE118.out⟩⟩
     ·
      rw [if_neg c6] at H
      exact absurd H (by simp)
    ·
     rw [if_neg c5] at H
     exact absurd H (by simp)
   ·
    rw [if_neg c4] at H
    have c4b0:decide (x8_1 < (l0_5.length:Int)) = false:=decide_eq_false c4
    clear c4
    obtain rfl:=Option.some.inj H
    go_wp2
    go_ret
    exact ⟨by first|rfl|(simp [errW_none,errW_some] <;> rfl)|(simp [*,errW_none,errW_some] <;> rfl),by with_reducible repeat first|exact HB.out|apply qqf|apply qqd|apply qqe|refine qqg ?_ GE116.out⟩

end Go.Proofs.Ythkdfnbhlinhiaa.Mine
