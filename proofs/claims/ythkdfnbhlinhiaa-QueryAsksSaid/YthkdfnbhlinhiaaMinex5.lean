-- Written by this repo's own printer (wip/print), which builds on the kit's.
import Derived.Test.YthkdfnbhlinhiaaMinex0
import Derived.Test.YthkdfnbhlinhiaaMinex4
namespace Go.Proofs.Ythkdfnbhlinhiaa.Mine
open Go.RowKit Go.Proofs.YthkdfnbhlinhiaaW.PrintWords Go.Proofs.YthkdfnbhlinhiaaW.PrintLast Go.Proofs.YthkdfnbhlinhiaaW.PrintMore
attribute [local go_sem] max2_int min2_int max_two min_two max_three min_three max_four min_four   -- for this text's walks alone
set_option linter.unusedVariables false
set_option linter.unusedSimpArgs false

/-! ### query_key: function 34 -/
def query_key.f (k : Nat) (a0_0 : Int) (a0_1 : Int) (l0_2 : List (S53)) (l0_3 : List (S51)) (l0_4 : List (S51)) (l0_5 : List (S51)) : Option (ByteArray × Int × Int × Bool) := if 0 < (l0_2.length : Int) then ((name_Fold.f k ((rd_T53 l0_2 0).f0)).bind fun t115 => (some (t115, (rd_T53 l0_2 0).f1, (rd_T53 l0_2 0).f2, false))) else (none)
theorem query_key.mono : ∀ a0 a1 a2 a3 a4 a5 k, LeO (query_key.f k a0 a1 a2 a3 a4 a5) (query_key.f (k + 1) a0 a1 a2 a3 a4 a5) := by
 intro a0 a1 a2 a3 a4 a5 k
 unfold query_key.f
 repeat' first
   | (with_reducible exact name_Fold.mono _ _)
   | (with_reducible exact LeO.refl _)
   | (with_reducible exact LeO.none _)
   | (with_reducible refine LeO.ite ?_ ?_)
   | (with_reducible refine LeO.bind ?_ (fun _ => ?_))
   | exact name_Fold.mono _ _
   | exact LeO.none _
   | refine LeO.ite ?_ ?_
   | refine LeO.bind ?_ (fun _ => ?_)
def query_key.T2 : Bool × List (List Nat × List Nat) := (true, [([], []), ([0], [0]), ([1], [1]), ([], []), ([3], [3]), ([], []), ([5], [5]), ([2, 4, 6], [2, 4, 6]), ([7, 2, 0, 1, 2, 3, 4, 5, 6, 7], [7])])
def query_key.B2 : List Nat := [0, 1, 3, 0, 8, 0, 32, 127, 255]
theorem query_key.tab2 : rtab .any (opsOf Try.f34 2) = query_key.T2 := by kernel_rfl
theorem query_key.bits2 : waitsOk query_key.T2.2 query_key.B2 = true := by kernel_rfl
set_option maxHeartbeats 8000000 in
set_option maxRecDepth 100000 in
theorem query_key.calls (k : Nat) (a0_0 : Int) (a0_1 : Int) (A0_2 : Option Addr) (c0_2 : Nat) (l0_2 : List (S53)) (A0_3 : Option Addr) (c0_3 : Nat) (l0_3 : List (S51)) (A0_4 : Option Addr) (c0_4 : Nat) (l0_4 : List (S51)) (A0_5 : Option Addr) (c0_5 : Nat) (l0_5 : List (S51)) (r1 : ByteArray) (r2 : Int) (r3 : Int) (r4 : Bool) (w : World) (hr0_2 : Kd.C k53 w A0_2 l0_2.length l0_2) (hc0_2 : l0_2.length ≤ c0_2) (hr0_3 : Kd.C k51 w A0_3 l0_3.length l0_3) (hc0_3 : l0_3.length ≤ c0_3) (hr0_4 : Kd.C k51 w A0_4 l0_4.length l0_4) (hc0_4 : l0_4.length ≤ c0_4) (hr0_5 : Kd.C k51 w A0_5 l0_5.length l0_5) (hc0_5 : l0_5.length ≤ c0_5) (h : query_key.f k a0_0 a0_1 l0_2 l0_3 l0_4 l0_5 = some (r1, r2, r3, r4)) :
  Calls Try.prog 34 #[.agg #[.int .u16 a0_0,.int .u16 a0_1,.slice A0_2 l0_2.length c0_2,.slice A0_3 l0_3.length c0_3,.slice A0_4 l0_4.length c0_4,.slice A0_5 l0_5.length c0_5]] w fun e w'=>e = .returned (.agg #[.string r1,.int .u16 r2,.int .u16 r3,.bool r4])∧Below w.heap.size w w':=by
 have hu26:=Try.underlying26
 have hu28:=Try.underlying28
 have hu53:=Try.underlying53
 have HR0_2:=qqm hr0_2
 have HC0_2:=qqm hc0_2
 clear hr0_2 hc0_2
 have HR0_3:=qqm hr0_3
 have HC0_3:=qqm hc0_3
 clear hr0_3 hc0_3
 have HR0_4:=qqm hr0_4
 have HC0_4:=qqm hc0_4
 clear hr0_4 hc0_4
 have HR0_5:=qqm hr0_5
 have HC0_5:=qqm hc0_5
 clear hr0_5 hc0_5
 have HB:=qqm (Below.refl w.heap.size w)
 have H:(if 0 < (l0_2.length:Int) then ((name_Fold.f k ((rd_T53 l0_2 0).f0)).bind fun t115=>(some (t115,(rd_T53 l0_2 0).f1,(rd_T53 l0_2 0).f2,false))) else (none)) = some (r1,r2,r3,r4):=h
 clear h
 by_cases c2:0 < (l0_2.length:Int)
 rotate_left
 ·
  rw [if_neg c2] at H
  exact absurd H (by simp)
 rw [if_pos c2] at H
 have c2b0:decide (0 < (l0_2.length:Int)) = true:=decide_eq_true c2
 have c2b1:decide (0 < l0_2.length) = true:=decide_eq_true (by omega)
 clear c2
 replace H:=Option.bind_eq_some_iff.mp H
 obtain ⟨t115,A30,H⟩:=H
 replace H:(some (t115,(rd_T53 l0_2 0).f1,(rd_T53 l0_2 0).f2,false)) = some (r1,r2,r3,r4):=H
 have A3:=qqm A30
 clear A30
 simp only [Option.some.injEq,Prod.mk.injEq] at H
 obtain ⟨rfl,rfl,rfl,rfl⟩:=H
 go_enter Try.func34,Try.ntmps34
 try go_wp2_with (first|((with_reducible refine gate_dst (N:=1) rfl ?_);refine box_event ?hg (N:=1) ?hd (cs:=#[.int .u16 a0_0,.int .u16 a0_1,.slice A0_2 l0_2.length c0_2,.slice A0_3 l0_3.length c0_3,.slice A0_4 l0_4.length c0_4,.slice A0_5 l0_5.length c0_5]) (t:=26) ?hr ?_;(case hd=>rfl);(case hg=>rfl);(case hr=>first|(go_simp;done)|(go_simp;rfl));intro gb111 hg w4 hbox hb;have n0_:=qqm (below_step (by with_reducible repeat first|exact HB.out|apply qqf|apply qqd|apply qqe) hb);have n1_:=qqm (hbox);have n2_:=qqm ((by rw [hg];exact (below_size (by with_reducible repeat first|exact HB.out|apply qqf|apply qqd|apply qqe)):w.heap.size ≤ gb111));have n3_:=n2_;clear HB;have HB:=n0_;have BK111:=n1_;have GW111:=n2_;have GE111:=n3_;clear n0_ n1_ n2_ n3_ hb hbox hg)|((with_reducible refine gate_dst (N:=2) rfl ?_);refine box_event ?hg (N:=2) ?hd (cs:=#[.string (⟨#[]⟩:ByteArray),.int .u16 0,.int .u16 0,.bool false]) (t:=28) ?hr ?_;(case hd=>rfl);(case hg=>rfl);(case hr=>first|(go_simp;done)|(go_simp;rfl));intro gb112 hg w5 hbox hb;have n0_:=qqm (blk_below (g:=gb111) (o:=.cells #[.int .u16 a0_0,.int .u16 a0_1,.slice A0_2 l0_2.length c0_2,.slice A0_3 l0_3.length c0_3,.slice A0_4 l0_4.length c0_4,.slice A0_5 l0_5.length c0_5] 26 (0,0)) (by (with_reducible repeat first|apply qqa|apply qqb|apply qqc);exact BK111.out) hb);have n1_:=qqm (below_step (by with_reducible repeat first|exact HB.out|apply qqf|apply qqd|apply qqe|refine qqg ?_ GE111.out) hb);have n2_:=qqm (hbox);have n3_:=qqm ((by rw [hg];exact (below_size (by with_reducible repeat first|exact HB.out|apply qqf|apply qqd|apply qqe|refine qqg ?_ GE111.out)):w.heap.size ≤ gb112));have n4_:=n3_;have n5_:=qqm ((by rw [hg];exact Nat.ne_of_lt (blk_lt (by (with_reducible repeat first|apply qqa|apply qqb|apply qqc);exact BK111.out)):gb111 ≠ gb112));have n6_:=qqm (Ne.symm n5_.out);clear BK111 HB;have BK111:=n0_;have HB:=n1_;have BK112:=n2_;have GW112:=n3_;have GE112:=n4_;have NB111_112:=n5_;have NB112_111:=n6_;clear n0_ n1_ n2_ n3_ n4_ n5_ n6_ hb hbox hg;have hnb6:=NB111_112.out;have hnc6:=NB112_111.out;obtain ⟨hcz7_0,hcz7_1,hcz7_2,hcz7_3,hcz7_4,hcz7_5⟩:=qc6 BK111.out;obtain ⟨hfz7_0,hfz7_1,hfz7_2,hfz7_3,hfz7_4,hfz7_5⟩:=qf6 BK111.out;have p113:0 ≤ (0:Int):=(by omega);have q113:0 < (l0_2.length:Int):=of_decide_eq_true (by first|(with_reducible assumption)|assumption);obtain ⟨ad113,e113,hx113_0,hx113_1,hx113_2⟩:=at_T53 HR0_2.out 0 p113 q113;cases e113;have qi113:(0 < l0_2.length) = True:=eq_true (by omega);(try rw [show ((0:Int)).toNat = 0 from rfl] at hx113_0);(try rw [show 0 * 3 = 0 from rfl] at hx113_0);(try rw [Addr.add_zero'] at hx113_0);(try rw [show ((0:Int)).toNat = 0 from rfl] at hx113_1);(try rw [show 0 * 3 = 0 from rfl] at hx113_1);(try rw [Addr.add_zero'] at hx113_1);(try rw [show ((0:Int)).toNat = 0 from rfl] at hx113_2);(try rw [show 0 * 3 = 0 from rfl] at hx113_2);(try rw [Addr.add_zero'] at hx113_2);replace hx113_0:=qqo HB.out hx113_0;replace hx113_1:=qqo HB.out hx113_1;replace hx113_2:=qqo HB.out hx113_2;replace p113:=eq_true p113;replace q113:=eq_true q113)|((with_reducible refine gate_dst (N:=3) rfl ?_);refine box_event ?hg (N:=3) ?hd (cs:=#[.string (⟨#[]⟩:ByteArray),.int .u16 0,.int .u16 0]) (t:=53) ?hr ?_;(case hd=>rfl);(case hg=>rfl);(case hr=>first|(go_simp;done)|(go_simp;rfl));intro gb114 hg w8 hbox hb;have n0_:=qqm (blk_below (g:=gb111) (o:=.cells #[.int .u16 a0_0,.int .u16 a0_1,.slice (some ad113) l0_2.length c0_2,.slice A0_3 l0_3.length c0_3,.slice A0_4 l0_4.length c0_4,.slice A0_5 l0_5.length c0_5] 26 (0,0)) (by (with_reducible repeat first|apply qqa|apply qqb|apply qqc);exact BK111.out) hb);have n1_:=qqm (blk_below (g:=gb112) (o:=.cells #[.string (⟨#[]⟩:ByteArray),.int .u16 0,.int .u16 0,.bool false] 28 (0,0)) (by (with_reducible repeat first|apply qqa|apply qqb|apply qqc);exact BK112.out) hb);have n2_:=qqm (below_step (by with_reducible repeat first|exact HB.out|apply qqf|apply qqd|apply qqe|refine qqg ?_ GE111.out|refine qqg ?_ GE112.out) hb);have n3_:=qqm (hbox);have n4_:=qqm ((by rw [hg];exact (below_size (by with_reducible repeat first|exact HB.out|apply qqf|apply qqd|apply qqe|refine qqg ?_ GE111.out|refine qqg ?_ GE112.out)):w.heap.size ≤ gb114));have n5_:=n4_;have n6_:=qqm ((by rw [hg];exact Nat.ne_of_lt (blk_lt (by (with_reducible repeat first|apply qqa|apply qqb|apply qqc);exact BK111.out)):gb111 ≠ gb114));have n7_:=qqm (Ne.symm n6_.out);have n8_:=qqm ((by rw [hg];exact Nat.ne_of_lt (blk_lt (by (with_reducible repeat first|apply qqa|apply qqb|apply qqc);exact BK112.out)):gb112 ≠ gb114));have n9_:=qqm (Ne.symm n8_.out);clear BK111 BK112 HB;have BK111:=n0_;have BK112:=n1_;have HB:=n2_;have BK114:=n3_;have GW114:=n4_;have GE114:=n5_;have NB111_114:=n6_;have NB114_111:=n7_;have NB112_114:=n8_;have NB114_112:=n9_;clear n0_ n1_ n2_ n3_ n4_ n5_ n6_ n7_ n8_ n9_ hb hbox hg;have hnb9:=NB114_111.out;have hnc9:=NB111_114.out;have hnb10:=NB114_112.out;have hnc10:=NB112_114.out;obtain ⟨hcz11_0,hcz11_1,hcz11_2⟩:=qc3 BK114.out;obtain ⟨hfz11_0,hfz11_1,hfz11_2⟩:=qf3 BK114.out))
 have n0_:Aside0 ((((w8.setCell ⟨gb114,0,none⟩ (.string ((rd_T53 l0_2 0).f0))).setCell ⟨gb114,1,none⟩ (.int .u16 ((rd_T53 l0_2 0).f1))).setCell ⟨gb114,2,none⟩ (.int .u16 ((rd_T53 l0_2 0).f2))).heap[gb111]? = some (.cells #[.int .u16 a0_0,.int .u16 a0_1,.slice (some ad113) l0_2.length c0_2,.slice A0_3 l0_3.length c0_3,.slice A0_4 l0_4.length c0_4,.slice A0_5 l0_5.length c0_5] 26 (0,0))):=⟨by (with_reducible repeat first|apply qqa|apply qqb|apply qqc);refine blk_far ?_ NB111_114.out _;(with_reducible repeat first|apply qqa|apply qqb|apply qqc);refine blk_far ?_ NB111_114.out _;(with_reducible repeat first|apply qqa|apply qqb|apply qqc);refine blk_far ?_ NB111_114.out _;(with_reducible repeat first|apply qqa|apply qqb|apply qqc);exact BK111.out⟩
 have n1_:Aside0 ((((w8.setCell ⟨gb114,0,none⟩ (.string ((rd_T53 l0_2 0).f0))).setCell ⟨gb114,1,none⟩ (.int .u16 ((rd_T53 l0_2 0).f1))).setCell ⟨gb114,2,none⟩ (.int .u16 ((rd_T53 l0_2 0).f2))).heap[gb112]? = some (.cells #[.string (⟨#[]⟩:ByteArray),.int .u16 0,.int .u16 0,.bool false] 28 (0,0))):=⟨by (with_reducible repeat first|apply qqa|apply qqb|apply qqc);refine blk_far ?_ NB112_114.out _;(with_reducible repeat first|apply qqa|apply qqb|apply qqc);refine blk_far ?_ NB112_114.out _;(with_reducible repeat first|apply qqa|apply qqb|apply qqc);refine blk_far ?_ NB112_114.out _;(with_reducible repeat first|apply qqa|apply qqb|apply qqc);exact BK112.out⟩
 have n2_:Aside0 ((((w8.setCell ⟨gb114,0,none⟩ (.string ((rd_T53 l0_2 0).f0))).setCell ⟨gb114,1,none⟩ (.int .u16 ((rd_T53 l0_2 0).f1))).setCell ⟨gb114,2,none⟩ (.int .u16 ((rd_T53 l0_2 0).f2))).heap[gb114]? = some (.cells #[.string ((rd_T53 l0_2 0).f0),.int .u16 ((rd_T53 l0_2 0).f1),.int .u16 ((rd_T53 l0_2 0).f2)] 53 (0,0))):=⟨by (with_reducible repeat first|apply qqa|apply qqb|apply qqc);refine blk_put (cs:=#[.string ((rd_T53 l0_2 0).f0),.int .u16 ((rd_T53 l0_2 0).f1),.int .u16 0]) ?_ 2 _ rfl;(with_reducible repeat first|apply qqa|apply qqb|apply qqc);refine blk_put (cs:=#[.string ((rd_T53 l0_2 0).f0),.int .u16 0,.int .u16 0]) ?_ 1 _ rfl;(with_reducible repeat first|apply qqa|apply qqb|apply qqc);refine blk_put (cs:=#[.string (⟨#[]⟩:ByteArray),.int .u16 0,.int .u16 0]) ?_ 0 _ rfl;(with_reducible repeat first|apply qqa|apply qqb|apply qqc);exact BK114.out⟩
 have n3_:Aside0 (Below w.heap.size w (((w8.setCell ⟨gb114,0,none⟩ (.string ((rd_T53 l0_2 0).f0))).setCell ⟨gb114,1,none⟩ (.int .u16 ((rd_T53 l0_2 0).f1))).setCell ⟨gb114,2,none⟩ (.int .u16 ((rd_T53 l0_2 0).f2)))):=⟨by with_reducible repeat first|exact HB.out|apply qqf|apply qqd|apply qqe|refine qqg ?_ GE111.out|refine qqg ?_ GE112.out|refine qqg ?_ GE114.out⟩
 (try clear BK111)
 (try clear BK112)
 (try clear BK114)
 (try clear HB)
 generalize (((w8.setCell ⟨gb114,0,none⟩ (.string ((rd_T53 l0_2 0).f0))).setCell ⟨gb114,1,none⟩ (.int .u16 ((rd_T53 l0_2 0).f1))).setCell ⟨gb114,2,none⟩ (.int .u16 ((rd_T53 l0_2 0).f2))) = w12 at n0_ n1_ n2_ n3_ ⊢
 have BK111:=n0_
 have BK112:=n1_
 have BK114:=n2_
 have HB:=n3_
 clear n0_ n1_ n2_ n3_
 have n0_:=qqm (qqb BK111.out)
 have n1_:=qqm (qqb BK112.out)
 have n2_:=qqm (qqb BK114.out)
 have n3_:=qqm (qqe HB.out)
 clear BK111
 clear BK112
 clear BK114
 clear HB
 have BK111:=n0_
 have BK112:=n1_
 have BK114:=n2_
 have HB:=n3_
 clear n0_ n1_ n2_ n3_
 refine start_ (n:=9) (S:=fun w'=>w'.cell? ⟨gb114,0,none⟩ = some (.string ((rd_T53 l0_2 0).f0))∧w'.cell? ⟨gb114,1,none⟩ = some (.int .u16 ((rd_T53 l0_2 0).f1))∧w'.cell? ⟨gb114,2,none⟩ = some (.int .u16 ((rd_T53 l0_2 0).f2))) (ds:=[]) (qqz 9 0) (by kernel_rfl) rfl rfl ⟨(qqh BK114.out 0).trans rfl,(qqh BK114.out 1).trans rfl,(qqh BK114.out 2).trans rfl⟩ (fun hHeld=>?_);refine with_tabW query_key.tab2 query_key.bits2 (fun HT_ HW_=>?_)
 generalize w12.drew = w13 at BK111 BK112 BK114 HB hHeld ⊢
 refine pure_ (i:=0) (N:=some 8) (qqz 9 1) rfl rfl (any_of HT_.out (by kernel_rfl)) (fun _ _ _ h=>h) (Or.inl ⟨by rfl,by intro w';go_simp;with_reducible rfl⟩) (by simp only [Act.put,qqj,qqk,qql,i64_w,i32_w];rfl) ?_
 refine pure_ (i:=3) (N:=some 11) (qqz 9 9) rfl rfl (any_of HT_.out (by kernel_rfl)) (fun _ _ _ h=>h) (Or.inl ⟨by rfl,by intro w';go_simp;with_reducible rfl⟩) (by simp only [Act.put,qqj,qqk,qql,i64_w,i32_w];rfl) ?_
 refine pure_ (i:=5) (N:=some 13) (qqz 9 41) rfl rfl (any_of HT_.out (by kernel_rfl)) (fun _ _ _ h=>h) (Or.inl ⟨by rfl,by intro w';go_simp;with_reducible rfl⟩) (by simp only [Act.put,qqj,qqk,qql,i64_w,i32_w];rfl) ?_
 refine take_ (i:=1) (N:=some 9) (qqz 9 43) rfl rfl (take_ofW HT_.out HW_.out (by kernel_rfl)) (fun _ _ _ h=>h) (Or.inl ⟨by rfl,by rintro w' ⟨s0,s1,s2⟩;go_simp;with_reducible rfl⟩) hHeld (by simp only [Act.put,qqj,qqk,qql,i64_w,i32_w];rfl) ?_
 refine take_ (i:=4) (N:=some 12) (qqz 9 59) rfl rfl (take_ofW HT_.out HW_.out (by kernel_rfl)) (fun _ _ _ h=>h) (Or.inl ⟨by rfl,by rintro w' ⟨s0,s1,s2⟩;go_simp;with_reducible rfl⟩) hHeld (by simp only [Act.put,qqj,qqk,qql,i64_w,i32_w];rfl) ?_
 refine take_ (i:=6) (N:=some 14) (qqz 9 123) rfl rfl (take_ofW HT_.out HW_.out (by kernel_rfl)) (fun _ _ _ h=>h) (Or.inl ⟨by rfl,by rintro w' ⟨s0,s1,s2⟩;go_simp;with_reducible rfl⟩) hHeld (by simp only [Act.put,qqj,qqk,qql,i64_w,i32_w];rfl) ?_
 refine one_ (i:=2) (N:=some 10) (qqz 9 127) rfl rfl (one_of HT_.out (by kernel_rfl)) (by decide) (fun K hK=>?_)
 refine goes_ Try.func52 (by kernel_rfl) rfl #[.string ((rd_T53 l0_2 0).f0)] (by rfl) rfl rfl (by (try simp only [List.map_toArray,List.map_cons,List.map_nil]);first|done|rfl|(simp only [List.length_drop,List.length_take];rfl)) ?_
 with_reducible refine (name_Fold.calls k ((rd_T53 l0_2 0).f0) t115 _ A3.out).mono ?_
 rintro e w14 ⟨rfl,hb⟩
 refine ⟨_,rfl,?_⟩
 have n0_:=qqm (blk_below (g:=gb111) (o:=.cells #[.int .u16 a0_0,.int .u16 a0_1,.slice (some ad113) l0_2.length c0_2,.slice A0_3 l0_3.length c0_3,.slice A0_4 l0_4.length c0_4,.slice A0_5 l0_5.length c0_5] 26 (0,0)) (by (with_reducible repeat first|apply qqa|apply qqb|apply qqc);exact BK111.out) hb)
 have n1_:=qqm (blk_below (g:=gb112) (o:=.cells #[.string (⟨#[]⟩:ByteArray),.int .u16 0,.int .u16 0,.bool false] 28 (0,0)) (by (with_reducible repeat first|apply qqa|apply qqb|apply qqc);exact BK112.out) hb)
 have n2_:=qqm (blk_below (g:=gb114) (o:=.cells #[.string ((rd_T53 l0_2 0).f0),.int .u16 ((rd_T53 l0_2 0).f1),.int .u16 ((rd_T53 l0_2 0).f2)] 53 (0,0)) (by (with_reducible repeat first|apply qqa|apply qqb|apply qqc);exact BK114.out) hb)
 have n3_:=qqm (below_step (by with_reducible repeat first|exact HB.out|apply qqf|apply qqd|apply qqe|refine qqg ?_ GE111.out|refine qqg ?_ GE112.out|refine qqg ?_ GE114.out) hb)
 clear BK111
 clear BK112
 clear BK114
 clear HB
 have BK111:=n0_
 have BK112:=n1_
 have BK114:=n2_
 have HB:=n3_
 clear n0_ n1_ n2_ n3_
 (try clear hb)
 (try clear hb2)
 (try clear hk)
 (try clear hi)
 refine hK.out _ _ ⟨(qqh BK114.out 0).trans rfl,(qqh BK114.out 1).trans rfl,(qqh BK114.out 2).trans rfl⟩ (fun hHeld=>?_)
 clear hK K
 refine norm_ (a':=?_) ?_ ?_
 rotate_left
 ·
  show Act.put _ (some 10) _ = _
  simp only [Act.put,qqj,qqk,qql,i64_w,i32_w]
  rfl
 refine pure_ (i:=7) (N:=some 15) (qqz 9 255) rfl rfl (any_of HT_.out (by kernel_rfl)) (fun _ _ _ h=>h) (Or.inl ⟨by rfl,by intro w';go_simp;with_reducible rfl⟩) (by simp only [Act.put,qqj,qqk,qql,i64_w,i32_w];rfl) ?_
 refine one_ (i:=8) (N:=none) (qqz 9 511) rfl rfl (one_of HT_.out (by kernel_rfl)) (by decide) (fun K hK=>?_)
 have hs15:w14.cell? ⟨gb112,0,none⟩ = some (.string (⟨#[]⟩:ByteArray)):=(qqh BK112.out 0).trans rfl
 have hfs15:=qqi BK112.out 0
 have hns15_0:=NB111_112.out
 have hns15_2:=NB114_112.out
 have hms15_0:=NB112_111.out
 have hms15_2:=NB112_114.out
 have hs16:w14.cell? ⟨gb112,1,none⟩ = some (.int .u16 0):=(qqh BK112.out 1).trans rfl
 have hfs16:=qqi BK112.out 1
 have hns16_0:=NB111_112.out
 have hns16_2:=NB114_112.out
 have hms16_0:=NB112_111.out
 have hms16_2:=NB112_114.out
 have hs17:w14.cell? ⟨gb112,2,none⟩ = some (.int .u16 0):=(qqh BK112.out 2).trans rfl
 have hfs17:=qqi BK112.out 2
 have hns17_0:=NB111_112.out
 have hns17_2:=NB114_112.out
 have hms17_0:=NB112_111.out
 have hms17_2:=NB112_114.out
 have hs18:w14.cell? ⟨gb112,3,none⟩ = some (.bool false):=(qqh BK112.out 3).trans rfl
 have hfs18:=qqi BK112.out 3
 have hns18_0:=NB111_112.out
 have hns18_2:=NB114_112.out
 have hms18_0:=NB112_111.out
 have hms18_2:=NB112_114.out
 refine skip_ (w1:=?_) (by rfl) rfl ?_ ?_
 rotate_left
 ·
  go_simp
  rfl
 refine hK.out _ _ ⟨((cell_far (p:=⟨gb112,_,none⟩) NB114_112.out _).trans (((cell_far (p:=⟨gb112,_,none⟩) NB114_112.out _).trans (((cell_far (p:=⟨gb112,_,none⟩) NB114_112.out _).trans (((cell_far (p:=⟨gb112,_,none⟩) NB114_112.out _).trans (hHeld.1)))))))),((cell_far (p:=⟨gb112,_,none⟩) NB114_112.out _).trans (((cell_far (p:=⟨gb112,_,none⟩) NB114_112.out _).trans (((cell_far (p:=⟨gb112,_,none⟩) NB114_112.out _).trans (((cell_far (p:=⟨gb112,_,none⟩) NB114_112.out _).trans (hHeld.2.1)))))))),((cell_far (p:=⟨gb112,_,none⟩) NB114_112.out _).trans (((cell_far (p:=⟨gb112,_,none⟩) NB114_112.out _).trans (((cell_far (p:=⟨gb112,_,none⟩) NB114_112.out _).trans (((cell_far (p:=⟨gb112,_,none⟩) NB114_112.out _).trans (hHeld.2.2))))))))⟩ (fun hHeld=>?_)
 clear hK K
 refine done_ (done_of HT_.out (by kernel_rfl)) ?_
 try go_wp2
 refine bodyPost_ret (results_cell_row rfl _ _ gb112 28 #[.string t115,.int .u16 ((rd_T53 l0_2 0).f1),.int .u16 ((rd_T53 l0_2 0).f2),.bool false] (0,0) _ rfl (by (with_reducible repeat first|apply qqa|apply qqb|apply qqc);refine blk_put (cs:=#[.string t115,.int .u16 ((rd_T53 l0_2 0).f1),.int .u16 ((rd_T53 l0_2 0).f2),.bool false]) ?_ 3 _ rfl;(with_reducible repeat first|apply qqa|apply qqb|apply qqc);refine blk_put (cs:=#[.string t115,.int .u16 ((rd_T53 l0_2 0).f1),.int .u16 0,.bool false]) ?_ 2 _ rfl;(with_reducible repeat first|apply qqa|apply qqb|apply qqc);refine blk_put (cs:=#[.string t115,.int .u16 0,.int .u16 0,.bool false]) ?_ 1 _ rfl;(with_reducible repeat first|apply qqa|apply qqb|apply qqc);refine blk_put (cs:=#[.string (⟨#[]⟩:ByteArray),.int .u16 0,.int .u16 0,.bool false]) ?_ 0 _ rfl;(with_reducible repeat first|apply qqa|apply qqb|apply qqc);exact BK112.out) Try.underlying28 rfl (by kernel_rfl)) rfl ?_
 exact ⟨by first|rfl|(simp [errW_none,errW_some] <;> rfl)|(simp [*,errW_none,errW_some] <;> rfl),by with_reducible repeat first|exact HB.out|apply qqf|apply qqd|apply qqe|refine qqg ?_ GE111.out|refine qqg ?_ GE112.out|refine qqg ?_ GE114.out⟩

end Go.Proofs.Ythkdfnbhlinhiaa.Mine
