-- Written by this repo's own printer (wip/print), which builds on the kit's.
import Derived.Test.YthkdfnbhlinhiaaMinex0
import Derived.Test.YthkdfnbhlinhiaaMinex12
import Derived.Test.YthkdfnbhlinhiaaMinex14
namespace Go.Proofs.Ythkdfnbhlinhiaa.Mine
open Go.RowKit Go.Proofs.YthkdfnbhlinhiaaW.PrintWords Go.Proofs.YthkdfnbhlinhiaaW.PrintLast Go.Proofs.YthkdfnbhlinhiaaW.PrintMore
attribute [local go_sem] max2_int min2_int max_two min_two max_three min_three max_four min_four   -- for this text's walks alone
set_option linter.unusedVariables false
set_option linter.unusedSimpArgs false

/-! ### query_Age: function 23 -/
def query_Age.f (k : Nat) (a0_0 : Int) (a0_1 : Int) (l0_2 : List (S53)) (l0_3 : List (S51)) (l0_4 : List (S51)) (l0_5 : List (S51)) (a1 : Int) : Option (Int × Int × (List (S53)) × (List (S51)) × (List (S51)) × (List (S51))) := (api_Question.f l0_2).bind fun t189 => ((query_aged.f k l0_3 a1).bind fun t192 => ((query_aged.f k l0_4 a1).bind fun t195 => ((query_aged.f k l0_5 a1).bind fun t198 => (some (a0_0, a0_1, t189, t192, t195, t198)))))
theorem query_Age.mono : ∀ a0 a1 a2 a3 a4 a5 a6 k, LeO (query_Age.f k a0 a1 a2 a3 a4 a5 a6) (query_Age.f (k + 1) a0 a1 a2 a3 a4 a5 a6) := by
 intro a0 a1 a2 a3 a4 a5 a6 k
 unfold query_Age.f
 repeat' first
   | (with_reducible exact query_aged.mono _ _ _)
   | (with_reducible exact LeO.refl _)
   | (with_reducible exact LeO.none _)
   | (with_reducible refine LeO.ite ?_ ?_)
   | (with_reducible refine LeO.bind ?_ (fun _ => ?_))
   | exact query_aged.mono _ _ _
   | exact LeO.none _
   | refine LeO.ite ?_ ?_
   | refine LeO.bind ?_ (fun _ => ?_)
def query_Age.T2 : Bool × List (List Nat × List Nat) := (true, [([], []), ([0], [0]), ([], []), ([1, 2], [1, 2]), ([], []), ([4], [4]), ([], []), ([5, 6, 3], [5, 6]), ([], []), ([8], [8]), ([], []), ([9, 10, 7], [9, 10]), ([0, 1, 2, 3, 4, 5, 8, 9], []), ([12, 3, 11, 0, 1, 2, 3, 4, 5, 8, 9], [3, 12]), ([0, 1, 2, 3, 4, 5, 6, 7, 8, 9, 12, 13], []), ([14, 7, 13, 0, 1, 2, 3, 4, 5, 6, 7, 8, 9, 12, 13], [7, 14]), ([0, 1, 2, 3, 4, 5, 6, 7, 8, 9, 10, 11, 12, 13, 14, 15], []), ([16, 11, 15, 0, 1, 2, 3, 4, 5, 6, 7, 8, 9, 10, 11, 12, 13, 14, 15], [11, 16])])
def query_Age.B2 : List Nat := [0, 1, 0, 7, 0, 16, 0, 127, 0, 256, 0, 2047, 831, 8191, 16383, 32767, 65535, 131071]
theorem query_Age.tab2 : rtab .any (opsOf Try.f23 2) = query_Age.T2 := by kernel_rfl
theorem query_Age.bits2 : waitsOk query_Age.T2.2 query_Age.B2 = true := by kernel_rfl
set_option maxHeartbeats 8000000 in
set_option maxRecDepth 100000 in
theorem query_Age.calls (k : Nat) (a0_0 : Int) (a0_1 : Int) (A0_2 : Option Addr) (c0_2 : Nat) (l0_2 : List (S53)) (A0_3 : Option Addr) (c0_3 : Nat) (l0_3 : List (S51)) (A0_4 : Option Addr) (c0_4 : Nat) (l0_4 : List (S51)) (A0_5 : Option Addr) (c0_5 : Nat) (l0_5 : List (S51)) (a1 : Int) (r1 : Int) (r2 : Int) (r3 : List (S53)) (r4 : List (S51)) (r5 : List (S51)) (r6 : List (S51)) (w : World) (hr0_2 : Kd.C k53 w A0_2 l0_2.length l0_2) (hc0_2 : l0_2.length ≤ c0_2) (hr0_3 : Kd.C k51 w A0_3 l0_3.length l0_3) (hc0_3 : l0_3.length ≤ c0_3) (hr0_4 : Kd.C k51 w A0_4 l0_4.length l0_4) (hc0_4 : l0_4.length ≤ c0_4) (hr0_5 : Kd.C k51 w A0_5 l0_5.length l0_5) (hc0_5 : l0_5.length ≤ c0_5) (h : query_Age.f k a0_0 a0_1 l0_2 l0_3 l0_4 l0_5 a1 = some (r1, r2, r3, r4, r5, r6)) :
  Calls Try.prog 23 #[.agg #[.int .u16 a0_0,.int .u16 a0_1,.slice A0_2 l0_2.length c0_2,.slice A0_3 l0_3.length c0_3,.slice A0_4 l0_4.length c0_4,.slice A0_5 l0_5.length c0_5],.int .u64 a1] w fun e w'=>∃ v2_ v3_ v4_ v5_:Value,e = .returned (.agg #[.int .u16 r1,.int .u16 r2,v2_,v3_,v4_,v5_])∧Kd.R k53 53 w' w.heap.size (fun _=>True) v2_ r3∧Kd.S k51 51 w' w.heap.size (fun k_=>some k_ ≠ (v4_:Value).ownBlock∧some k_ ≠ (v5_:Value).ownBlock) v3_ r4∧Kd.S k51 51 w' w.heap.size (fun k_=>some k_ ≠ (v3_:Value).ownBlock∧some k_ ≠ (v5_:Value).ownBlock) v4_ r5∧Kd.S k51 51 w' w.heap.size (fun k_=>some k_ ≠ (v3_:Value).ownBlock∧some k_ ≠ (v4_:Value).ownBlock) v5_ r6∧Below w.heap.size w w':=by
 have hu26:=Try.underlying26
 have HR0_2:=qqm hr0_2
 have HC0_2:=qqm hc0_2
 clear hr0_2 hc0_2
 have HR0_3:=qqm hr0_3
 have HC0_3:=qqm hc0_3
 clear hr0_3 hc0_3
 have HR0_4:=qqm hr0_4
 have HC0_4:=qqm hc0_4
 clear hr0_4 hc0_4
 have HR0_5:=qqm hr0_5
 have HC0_5:=qqm hc0_5
 clear hr0_5 hc0_5
 have HB:=qqm (Below.refl w.heap.size w)
 have H:((api_Question.f l0_2).bind fun t189=>((query_aged.f k l0_3 a1).bind fun t192=>((query_aged.f k l0_4 a1).bind fun t195=>((query_aged.f k l0_5 a1).bind fun t198=>(some (a0_0,a0_1,t189,t192,t195,t198)))))) = some (r1,r2,r3,r4,r5,r6):=h
 clear h
 replace H:=Option.bind_eq_some_iff.mp H
 obtain ⟨t189,A30,H⟩:=H
 replace H:((query_aged.f k l0_3 a1).bind fun t192=>((query_aged.f k l0_4 a1).bind fun t195=>((query_aged.f k l0_5 a1).bind fun t198=>(some (a0_0,a0_1,t189,t192,t195,t198))))) = some (r1,r2,r3,r4,r5,r6):=H
 have A3:=qqm A30
 clear A30
 replace H:=Option.bind_eq_some_iff.mp H
 obtain ⟨t192,A40,H⟩:=H
 replace H:((query_aged.f k l0_4 a1).bind fun t195=>((query_aged.f k l0_5 a1).bind fun t198=>(some (a0_0,a0_1,t189,t192,t195,t198)))) = some (r1,r2,r3,r4,r5,r6):=H
 have A4:=qqm A40
 clear A40
 replace H:=Option.bind_eq_some_iff.mp H
 obtain ⟨t195,A50,H⟩:=H
 replace H:((query_aged.f k l0_5 a1).bind fun t198=>(some (a0_0,a0_1,t189,t192,t195,t198))) = some (r1,r2,r3,r4,r5,r6):=H
 have A5:=qqm A50
 clear A50
 replace H:=Option.bind_eq_some_iff.mp H
 obtain ⟨t198,A60,H⟩:=H
 replace H:(some (a0_0,a0_1,t189,t192,t195,t198)) = some (r1,r2,r3,r4,r5,r6):=H
 have A6:=qqm A60
 clear A60
 simp only [Option.some.injEq,Prod.mk.injEq] at H
 obtain ⟨rfl,rfl,rfl,rfl,rfl,rfl⟩:=H
 go_enter Try.func23,Try.ntmps23
 try go_wp2_with (first|((with_reducible refine gate_dst (N:=2) rfl ?_);refine box_event ?hg (N:=2) ?hd (cs:=#[.int .u16 a0_0,.int .u16 a0_1,.slice A0_2 l0_2.length c0_2,.slice A0_3 l0_3.length c0_3,.slice A0_4 l0_4.length c0_4,.slice A0_5 l0_5.length c0_5]) (t:=26) ?hr ?_;(case hd=>rfl);(case hg=>rfl);(case hr=>first|(go_simp;done)|(go_simp;rfl));intro gb187 hg w7 hbox hb;have n0_:=qqm (below_step (by with_reducible repeat first|exact HB.out|apply qqf|apply qqd|apply qqe) hb);have n1_:=qqm (hbox);have n2_:=qqm ((by rw [hg];exact (below_size (by with_reducible repeat first|exact HB.out|apply qqf|apply qqd|apply qqe)):w.heap.size ≤ gb187));have n3_:=n2_;clear HB;have HB:=n0_;have BK187:=n1_;have GW187:=n2_;have GE187:=n3_;clear n0_ n1_ n2_ n3_ hb hbox hg)|((with_reducible refine gate_dst (N:=4) rfl ?_);refine box_event ?hg (N:=4) ?hd (cs:=#[.int .u16 0,.int .u16 0,.slice none 0 0,.slice none 0 0,.slice none 0 0,.slice none 0 0]) (t:=26) ?hr ?_;(case hd=>rfl);(case hg=>rfl);(case hr=>first|(go_simp;done)|(go_simp;rfl));intro gb188 hg w8 hbox hb;have n0_:=qqm (blk_below (g:=gb187) (o:=.cells #[.int .u16 a0_0,.int .u16 a0_1,.slice A0_2 l0_2.length c0_2,.slice A0_3 l0_3.length c0_3,.slice A0_4 l0_4.length c0_4,.slice A0_5 l0_5.length c0_5] 26 (0,0)) (by (with_reducible repeat first|apply qqa|apply qqb|apply qqc);exact BK187.out) hb);have n1_:=qqm (below_step (by with_reducible repeat first|exact HB.out|apply qqf|apply qqd|apply qqe|refine qqg ?_ GE187.out) hb);have n2_:=qqm (hbox);have n3_:=qqm ((by rw [hg];exact (below_size (by with_reducible repeat first|exact HB.out|apply qqf|apply qqd|apply qqe|refine qqg ?_ GE187.out)):w.heap.size ≤ gb188));have n4_:=n3_;have n5_:=qqm ((by rw [hg];exact Nat.ne_of_lt (blk_lt (by (with_reducible repeat first|apply qqa|apply qqb|apply qqc);exact BK187.out)):gb187 ≠ gb188));have n6_:=qqm (Ne.symm n5_.out);clear BK187 HB;have BK187:=n0_;have HB:=n1_;have BK188:=n2_;have GW188:=n3_;have GE188:=n4_;have NB187_188:=n5_;have NB188_187:=n6_;clear n0_ n1_ n2_ n3_ n4_ n5_ n6_ hb hbox hg;have hnb9:=NB187_188.out;have hnc9:=NB188_187.out;obtain ⟨hcz10_0,hcz10_1,hcz10_2,hcz10_3,hcz10_4,hcz10_5⟩:=qc6 BK187.out;obtain ⟨hfz10_0,hfz10_1,hfz10_2,hfz10_3,hfz10_4,hfz10_5⟩:=qf6 BK187.out)|((with_reducible refine gate_callee (f:=45) rfl ?_);refine goesL_ (some 7) rfl rfl Try.func45 (by kernel_rfl) rfl #[.slice A0_2 l0_2.length c0_2] rfl (by (try simp only [List.map_toArray,List.map_cons,List.map_nil]);first|done|rfl|(simp only [List.length_drop,List.length_take];rfl)) ?_;(with_reducible refine (api_Question.calls _ _ l0_2 t189 _ ?side1 ?side2 A3.out).mono ?_);(case side1=>repeat (first|exact (Kd.C_below HR0_2.out HB.out)|(with_reducible first|apply Kd.C_alloc|apply Kd.C_drewN|apply Kd.C_drew)));(case side2=>exact HC0_2.out);rintro e w11 ⟨v190,rfl,ho0,hb⟩;refine ⟨_,rfl,?_⟩;have n0_:=qqm (Kd.R_lower ho0 (below_size (by with_reducible repeat first|exact HB.out|apply qqf|apply qqd|apply qqe|refine qqg ?_ GE187.out|refine qqg ?_ GE188.out)));have n1_:=qqm (blk_below (g:=gb187) (o:=.cells #[.int .u16 a0_0,.int .u16 a0_1,.slice A0_2 l0_2.length c0_2,.slice A0_3 l0_3.length c0_3,.slice A0_4 l0_4.length c0_4,.slice A0_5 l0_5.length c0_5] 26 (0,0)) (by (with_reducible repeat first|apply qqa|apply qqb|apply qqc);exact BK187.out) hb);have n2_:=qqm (blk_below (g:=gb188) (o:=.cells #[.int .u16 0,.int .u16 0,.slice none 0 0,.slice none 0 0,.slice none 0 0,.slice none 0 0] 26 (0,0)) (by (with_reducible repeat first|apply qqa|apply qqb|apply qqc);exact BK188.out) hb);have n3_:=qqm (below_step (by with_reducible repeat first|exact HB.out|apply qqf|apply qqd|apply qqe|refine qqg ?_ GE187.out|refine qqg ?_ GE188.out) hb);clear BK187 BK188 HB;have HO191:=n0_;have BK187:=n1_;have BK188:=n2_;have HB:=n3_;clear n0_ n1_ n2_ n3_;(try clear hb);(try clear hb2);(try clear hk);(try clear hi);(try clear ho0);obtain ⟨Ao12,co12,eo12⟩:=Kd.R_slice HO191.out;subst eo12;obtain ⟨hcz13_0,hcz13_1,hcz13_2,hcz13_3,hcz13_4,hcz13_5⟩:=qc6 BK187.out;obtain ⟨hfz13_0,hfz13_1,hfz13_2,hfz13_3,hfz13_4,hfz13_5⟩:=qf6 BK187.out))
 have n0_:Aside0 (Kd.R k53 53 (w11.setCell ⟨gb187,2,none⟩ (.slice Ao12 t189.length co12)) w.heap.size (fun _=>True) (.slice Ao12 t189.length co12) t189):=⟨by (with_reducible repeat (first|apply Kd.R_alloc|apply Kd.R_drewN|apply Kd.R_drew));exact Kd.R_mono (Kd.R_far (p:=⟨gb187,2,none⟩) (Kd.R_types HO191.out BK187.out (by decide)) (fun _ hk=>hk.2) (.slice Ao12 t189.length co12)) (fun _ hk=>trivial)⟩
 have n1_:Aside0 ((w11.setCell ⟨gb187,2,none⟩ (.slice Ao12 t189.length co12)).heap[gb187]? = some (.cells #[.int .u16 a0_0,.int .u16 a0_1,.slice Ao12 t189.length co12,.slice A0_3 l0_3.length c0_3,.slice A0_4 l0_4.length c0_4,.slice A0_5 l0_5.length c0_5] 26 (0,0))):=⟨by (with_reducible repeat first|apply qqa|apply qqb|apply qqc);refine blk_put (cs:=#[.int .u16 a0_0,.int .u16 a0_1,.slice A0_2 l0_2.length c0_2,.slice A0_3 l0_3.length c0_3,.slice A0_4 l0_4.length c0_4,.slice A0_5 l0_5.length c0_5]) ?_ 2 _ rfl;(with_reducible repeat first|apply qqa|apply qqb|apply qqc);exact BK187.out⟩
 have n2_:Aside0 ((w11.setCell ⟨gb187,2,none⟩ (.slice Ao12 t189.length co12)).heap[gb188]? = some (.cells #[.int .u16 0,.int .u16 0,.slice none 0 0,.slice none 0 0,.slice none 0 0,.slice none 0 0] 26 (0,0))):=⟨by (with_reducible repeat first|apply qqa|apply qqb|apply qqc);refine blk_far ?_ NB188_187.out _;(with_reducible repeat first|apply qqa|apply qqb|apply qqc);exact BK188.out⟩
 have n3_:Aside0 (Below w.heap.size w (w11.setCell ⟨gb187,2,none⟩ (.slice Ao12 t189.length co12))):=⟨by with_reducible repeat first|exact HB.out|apply qqf|apply qqd|apply qqe|refine qqg ?_ GE187.out|refine qqg ?_ GE188.out⟩
 (try clear HO191)
 (try clear BK187)
 (try clear BK188)
 (try clear HB)
 generalize (w11.setCell ⟨gb187,2,none⟩ (.slice Ao12 t189.length co12)) = w14 at n0_ n1_ n2_ n3_ ⊢
 have HO191:=n0_
 have BK187:=n1_
 have BK188:=n2_
 have HB:=n3_
 clear n0_ n1_ n2_ n3_
 have n0_:=qqm (Kd.R_drew HO191.out)
 have n1_:=qqm (qqb BK187.out)
 have n2_:=qqm (qqb BK188.out)
 have n3_:=qqm (qqe HB.out)
 clear HO191
 clear BK187
 clear BK188
 clear HB
 have HO191:=n0_
 have BK187:=n1_
 have BK188:=n2_
 have HB:=n3_
 clear n0_ n1_ n2_ n3_
 refine start_ (n:=18) (S:=fun w'=>w'.cell? ⟨gb187,0,none⟩ = some (.int .u16 a0_0)∧w'.cell? ⟨gb187,1,none⟩ = some (.int .u16 a0_1)∧w'.cell? ⟨gb187,2,none⟩ = some (.slice Ao12 t189.length co12)∧w'.cell? ⟨gb187,3,none⟩ = some (.slice A0_3 l0_3.length c0_3)∧w'.cell? ⟨gb187,4,none⟩ = some (.slice A0_4 l0_4.length c0_4)∧w'.cell? ⟨gb187,5,none⟩ = some (.slice A0_5 l0_5.length c0_5)) (ds:=[13,15,17]) (qqz 18 0) (by kernel_rfl) rfl rfl ⟨(qqh BK187.out 0).trans rfl,(qqh BK187.out 1).trans rfl,(qqh BK187.out 2).trans rfl,(qqh BK187.out 3).trans rfl,(qqh BK187.out 4).trans rfl,(qqh BK187.out 5).trans rfl⟩ (fun hHeld=>?_);refine with_tabW query_Age.tab2 query_Age.bits2 (fun HT_ HW_=>?_)
 generalize w14.drew = w15 at HO191 BK187 BK188 HB hHeld ⊢
 refine pure_ (i:=0) (N:=some 9) (qqz 18 1) rfl rfl (any_of HT_.out (by kernel_rfl)) (fun _ _ _ h=>h) (Or.inl ⟨by rfl,by intro w';go_simp;with_reducible rfl⟩) (by simp only [Act.put,qqj,qqk,qql,i64_w,i32_w];rfl) ?_
 refine pure_ (i:=2) (N:=some 11) (qqz 18 5) rfl rfl (any_of HT_.out (by kernel_rfl)) (fun _ _ _ h=>h) (Or.inl ⟨by rfl,by intro w';go_simp;with_reducible rfl⟩) (by simp only [Act.put,qqj,qqk,qql,i64_w,i32_w];rfl) ?_
 refine pure_ (i:=4) (N:=some 13) (qqz 18 21) rfl rfl (any_of HT_.out (by kernel_rfl)) (fun _ _ _ h=>h) (Or.inl ⟨by rfl,by intro w';go_simp;with_reducible rfl⟩) (by simp only [Act.put,qqj,qqk,qql,i64_w,i32_w];rfl) ?_
 refine pure_ (i:=6) (N:=some 15) (qqz 18 85) rfl rfl (any_of HT_.out (by kernel_rfl)) (fun _ _ _ h=>h) (Or.inl ⟨by rfl,by intro w';go_simp;with_reducible rfl⟩) (by simp only [Act.put,qqj,qqk,qql,i64_w,i32_w];rfl) ?_
 refine pure_ (i:=8) (N:=some 17) (qqz 18 341) rfl rfl (any_of HT_.out (by kernel_rfl)) (fun _ _ _ h=>h) (Or.inl ⟨by rfl,by intro w';go_simp;with_reducible rfl⟩) (by simp only [Act.put,qqj,qqk,qql,i64_w,i32_w];rfl) ?_
 refine pure_ (i:=10) (N:=some 19) (qqz 18 1365) rfl rfl (any_of HT_.out (by kernel_rfl)) (fun _ _ _ h=>h) (Or.inl ⟨by rfl,by intro w';go_simp;with_reducible rfl⟩) (by simp only [Act.put,qqj,qqk,qql,i64_w,i32_w];rfl) ?_
 refine take_ (i:=1) (N:=some 10) (qqz 18 1367) rfl rfl (take_ofW HT_.out HW_.out (by kernel_rfl)) (fun _ _ _ h=>h) (Or.inl ⟨by rfl,by rintro w' ⟨s0,s1,s2,s3,s4,s5⟩;go_simp;with_reducible rfl⟩) hHeld (by simp only [Act.put,qqj,qqk,qql,i64_w,i32_w];rfl) ?_
 refine take_ (i:=5) (N:=some 14) (qqz 18 1399) rfl rfl (take_ofW HT_.out HW_.out (by kernel_rfl)) (fun _ _ _ h=>h) (Or.inl ⟨by rfl,by rintro w' ⟨s0,s1,s2,s3,s4,s5⟩;go_simp;with_reducible rfl⟩) hHeld (by simp only [Act.put,qqj,qqk,qql,i64_w,i32_w];rfl) ?_
 refine take_ (i:=9) (N:=some 18) (qqz 18 1911) rfl rfl (take_ofW HT_.out HW_.out (by kernel_rfl)) (fun _ _ _ h=>h) (Or.inl ⟨by rfl,by rintro w' ⟨s0,s1,s2,s3,s4,s5⟩;go_simp;with_reducible rfl⟩) hHeld (by simp only [Act.put,qqj,qqk,qql,i64_w,i32_w];rfl) ?_
 refine one_ (i:=3) (N:=some 12) (qqz 18 1919) rfl rfl (one_of HT_.out (by kernel_rfl)) (by decide) (fun K hK=>?_)
 refine goes_ Try.func46 (by kernel_rfl) rfl #[.slice A0_3 l0_3.length c0_3,.int .u64 a1] (by rfl) rfl rfl (by (try simp only [List.map_toArray,List.map_cons,List.map_nil]);first|done|rfl|(simp only [List.length_drop,List.length_take];rfl)) ?_
 with_reducible refine (query_aged.calls k _ _ l0_3 a1 t192 _ ?side1 ?side2 A4.out).mono ?_
 (case side1=>repeat (first|exact (Kd.C_below HR0_3.out HB.out)|(with_reducible first|apply Kd.C_alloc|apply Kd.C_drewN|apply Kd.C_drew)))
 (case side2=>exact HC0_3.out)
 rintro e w16 ⟨v193,rfl,ho0,hb⟩
 refine ⟨_,rfl,?_⟩
 have n0_:=qqm (Kd.R_below (by (with_reducible repeat (first|apply Kd.R_alloc|apply Kd.R_drewN|apply Kd.R_drew));exact HO191.out) hb)
 have n1_:=qqm (Kd.S_lower ho0 (below_size (by with_reducible repeat first|exact HB.out|apply qqf|apply qqd|apply qqe|refine qqg ?_ GE187.out|refine qqg ?_ GE188.out)))
 have n2_:=qqm (blk_below (g:=gb187) (o:=.cells #[.int .u16 a0_0,.int .u16 a0_1,.slice Ao12 t189.length co12,.slice A0_3 l0_3.length c0_3,.slice A0_4 l0_4.length c0_4,.slice A0_5 l0_5.length c0_5] 26 (0,0)) (by (with_reducible repeat first|apply qqa|apply qqb|apply qqc);exact BK187.out) hb)
 have n3_:=qqm (blk_below (g:=gb188) (o:=.cells #[.int .u16 0,.int .u16 0,.slice none 0 0,.slice none 0 0,.slice none 0 0,.slice none 0 0] 26 (0,0)) (by (with_reducible repeat first|apply qqa|apply qqb|apply qqc);exact BK188.out) hb)
 have n4_:=qqm (below_step (by with_reducible repeat first|exact HB.out|apply qqf|apply qqd|apply qqe|refine qqg ?_ GE187.out|refine qqg ?_ GE188.out) hb)
 clear HO191
 clear BK187
 clear BK188
 clear HB
 have HO191:=n0_
 have HO194:=n1_
 have BK187:=n2_
 have BK188:=n3_
 have HB:=n4_
 clear n0_ n1_ n2_ n3_ n4_
 (try clear hb)
 (try clear hb2)
 (try clear hk)
 (try clear hi)
 (try clear ho0)
 refine hK.out _ _ ⟨(qqh BK187.out 0).trans rfl,(qqh BK187.out 1).trans rfl,(qqh BK187.out 2).trans rfl,(qqh BK187.out 3).trans rfl,(qqh BK187.out 4).trans rfl,(qqh BK187.out 5).trans rfl⟩ (fun hHeld=>?_)
 clear hK K
 refine norm_ (a':=?_) ?_ ?_
 rotate_left
 ·
  show Act.put _ (some 12) _ = _
  simp only [Act.put,qqj,qqk,qql,i64_w,i32_w]
  rfl
 refine pure_ (i:=12) (N:=some 21) (qqz 18 6015) rfl rfl (any_of HT_.out (by kernel_rfl)) (fun _ _ _ h=>h) (Or.inl ⟨by rfl,by intro w';go_simp;with_reducible rfl⟩) (by simp only [Act.put,qqj,qqk,qql,i64_w,i32_w];rfl) ?_
 refine one_ (i:=7) (N:=some 16) (qqz 18 6143) rfl rfl (one_of HT_.out (by kernel_rfl)) (by decide) (fun K hK=>?_)
 refine goes_ Try.func46 (by kernel_rfl) rfl #[.slice A0_4 l0_4.length c0_4,.int .u64 a1] (by rfl) rfl rfl (by (try simp only [List.map_toArray,List.map_cons,List.map_nil]);first|done|rfl|(simp only [List.length_drop,List.length_take];rfl)) ?_
 with_reducible refine (query_aged.calls k _ _ l0_4 a1 t195 _ ?side1 ?side2 A5.out).mono ?_
 (case side1=>repeat (first|exact (Kd.C_below HR0_4.out HB.out)|(with_reducible first|apply Kd.C_alloc|apply Kd.C_drewN|apply Kd.C_drew)))
 (case side2=>exact HC0_4.out)
 rintro e w17 ⟨v196,rfl,ho0,hb⟩
 refine ⟨_,rfl,?_⟩
 have n0_:=qqm (Kd.R_below (by (with_reducible repeat (first|apply Kd.R_alloc|apply Kd.R_drewN|apply Kd.R_drew));exact HO191.out) hb)
 have n1_:=qqm (Kd.S_elder' (by (with_reducible repeat (first|apply Kd.S_alloc|apply Kd.S_drewN|apply Kd.S_drew));exact HO194.out) (Kd.S_base ho0) hb)
 have n2_:=qqm (Kd.S_lower (Kd.S_new' ho0 (Kd.S_lt (by (with_reducible repeat (first|apply Kd.S_alloc|apply Kd.S_drewN|apply Kd.S_drew));exact HO194.out))) (below_size (by with_reducible repeat first|exact HB.out|apply qqf|apply qqd|apply qqe|refine qqg ?_ GE187.out|refine qqg ?_ GE188.out)))
 have n3_:=qqm (blk_below (g:=gb187) (o:=.cells #[.int .u16 a0_0,.int .u16 a0_1,.slice Ao12 t189.length co12,.slice A0_3 l0_3.length c0_3,.slice A0_4 l0_4.length c0_4,.slice A0_5 l0_5.length c0_5] 26 (0,0)) (by (with_reducible repeat first|apply qqa|apply qqb|apply qqc);exact BK187.out) hb)
 have n4_:=qqm (blk_below (g:=gb188) (o:=.cells #[.int .u16 0,.int .u16 0,.slice none 0 0,.slice none 0 0,.slice none 0 0,.slice none 0 0] 26 (0,0)) (by (with_reducible repeat first|apply qqa|apply qqb|apply qqc);exact BK188.out) hb)
 have n5_:=qqm (below_step (by with_reducible repeat first|exact HB.out|apply qqf|apply qqd|apply qqe|refine qqg ?_ GE187.out|refine qqg ?_ GE188.out) hb)
 clear HO191
 clear HO194
 clear BK187
 clear BK188
 clear HB
 have HO191:=n0_
 have HO194:=n1_
 have HO197:=n2_
 have BK187:=n3_
 have BK188:=n4_
 have HB:=n5_
 clear n0_ n1_ n2_ n3_ n4_ n5_
 (try clear hb)
 (try clear hb2)
 (try clear hk)
 (try clear hi)
 (try clear ho0)
 refine hK.out _ _ ⟨(qqh BK187.out 0).trans rfl,(qqh BK187.out 1).trans rfl,(qqh BK187.out 2).trans rfl,(qqh BK187.out 3).trans rfl,(qqh BK187.out 4).trans rfl,(qqh BK187.out 5).trans rfl⟩ (fun hHeld=>?_)
 clear hK K
 refine norm_ (a':=?_) ?_ ?_
 rotate_left
 ·
  show Act.put _ (some 16) _ = _
  simp only [Act.put,qqj,qqk,qql,i64_w,i32_w]
  rfl
 refine one_ (i:=11) (N:=some 20) (qqz 18 8191) rfl rfl (one_of HT_.out (by kernel_rfl)) (by decide) (fun K hK=>?_)
 refine goes_ Try.func46 (by kernel_rfl) rfl #[.slice A0_5 l0_5.length c0_5,.int .u64 a1] (by rfl) rfl rfl (by (try simp only [List.map_toArray,List.map_cons,List.map_nil]);first|done|rfl|(simp only [List.length_drop,List.length_take];rfl)) ?_
 with_reducible refine (query_aged.calls k _ _ l0_5 a1 t198 _ ?side1 ?side2 A6.out).mono ?_
 (case side1=>repeat (first|exact (Kd.C_below HR0_5.out HB.out)|(with_reducible first|apply Kd.C_alloc|apply Kd.C_drewN|apply Kd.C_drew)))
 (case side2=>exact HC0_5.out)
 rintro e w18 ⟨v199,rfl,ho0,hb⟩
 refine ⟨_,rfl,?_⟩
 have n0_:=qqm (Kd.R_below (by (with_reducible repeat (first|apply Kd.R_alloc|apply Kd.R_drewN|apply Kd.R_drew));exact HO191.out) hb)
 have n1_:=qqm (Kd.S_elder' (by (with_reducible repeat (first|apply Kd.S_alloc|apply Kd.S_drewN|apply Kd.S_drew));exact HO194.out) (Kd.S_base ho0) hb)
 have n2_:=qqm (Kd.S_elder' (by (with_reducible repeat (first|apply Kd.S_alloc|apply Kd.S_drewN|apply Kd.S_drew));exact HO197.out) (Kd.S_base ho0) hb)
 have n3_:=qqm (Kd.S_lower (Kd.S_new' (Kd.S_new' ho0 (Kd.S_lt (by (with_reducible repeat (first|apply Kd.S_alloc|apply Kd.S_drewN|apply Kd.S_drew));exact HO194.out))) (Kd.S_lt (by (with_reducible repeat (first|apply Kd.S_alloc|apply Kd.S_drewN|apply Kd.S_drew));exact HO197.out))) (below_size (by with_reducible repeat first|exact HB.out|apply qqf|apply qqd|apply qqe|refine qqg ?_ GE187.out|refine qqg ?_ GE188.out)))
 have n4_:=qqm (blk_below (g:=gb187) (o:=.cells #[.int .u16 a0_0,.int .u16 a0_1,.slice Ao12 t189.length co12,.slice A0_3 l0_3.length c0_3,.slice A0_4 l0_4.length c0_4,.slice A0_5 l0_5.length c0_5] 26 (0,0)) (by (with_reducible repeat first|apply qqa|apply qqb|apply qqc);exact BK187.out) hb)
 have n5_:=qqm (blk_below (g:=gb188) (o:=.cells #[.int .u16 0,.int .u16 0,.slice none 0 0,.slice none 0 0,.slice none 0 0,.slice none 0 0] 26 (0,0)) (by (with_reducible repeat first|apply qqa|apply qqb|apply qqc);exact BK188.out) hb)
 have n6_:=qqm (below_step (by with_reducible repeat first|exact HB.out|apply qqf|apply qqd|apply qqe|refine qqg ?_ GE187.out|refine qqg ?_ GE188.out) hb)
 clear HO191
 clear HO194
 clear HO197
 clear BK187
 clear BK188
 clear HB
 have HO191:=n0_
 have HO194:=n1_
 have HO197:=n2_
 have HO200:=n3_
 have BK187:=n4_
 have BK188:=n5_
 have HB:=n6_
 clear n0_ n1_ n2_ n3_ n4_ n5_ n6_
 (try clear hb)
 (try clear hb2)
 (try clear hk)
 (try clear hi)
 (try clear ho0)
 obtain ⟨Ao19,co19,eo19⟩:=Kd.S_slice HO194.out
 (first|subst eo19|(injection eo19 with f1_ f2_ f3_;have f4_:=f1_.symm;have f5_:=f3_.symm;clear f1_ f2_ f3_;subst f4_;subst f5_))
 obtain ⟨Ao21,co21,eo21⟩:=Kd.S_slice HO197.out
 (first|subst eo21|(injection eo21 with f1_ f2_ f3_;have f4_:=f1_.symm;have f5_:=f3_.symm;clear f1_ f2_ f3_;subst f4_;subst f5_))
 obtain ⟨Ao23,co23,eo23⟩:=Kd.S_slice HO200.out
 (first|subst eo23|(injection eo23 with f1_ f2_ f3_;have f4_:=f1_.symm;have f5_:=f3_.symm;clear f1_ f2_ f3_;subst f4_;subst f5_))
 refine hK.out _ _ ⟨(qqh BK187.out 0).trans rfl,(qqh BK187.out 1).trans rfl,(qqh BK187.out 2).trans rfl,(qqh BK187.out 3).trans rfl,(qqh BK187.out 4).trans rfl,(qqh BK187.out 5).trans rfl⟩ (fun hHeld=>?_)
 clear hK K
 refine norm_ (a':=?_) ?_ ?_
 rotate_left
 ·
  show Act.put _ (some 20) _ = _
  simp only [Act.put,qqj,qqk,qql,i64_w,i32_w]
  rfl
 refine last_ (i:=13) (N:=none) (qqz 18 16383) rfl rfl (one_of HT_.out (by kernel_rfl)) (by decide) (fun K hK=>?_)
 have hs20:w18.cell? ⟨gb187,3,none⟩ = some (.slice A0_3 l0_3.length c0_3):=(qqh BK187.out 3).trans rfl
 have hfs20:=qqi BK187.out 3
 have hns20_1:=NB188_187.out
 have hms20_1:=NB187_188.out
 refine skip_ (w1:=?_) (by rfl) rfl ?_ ?_
 rotate_left
 ·
  go_simp
  rfl
 refine hK.out _ _ ?_
 clear hK K
 refine pure_ (i:=14) (N:=some 22) (qqz 18 32767) rfl rfl (any_of HT_.out (by kernel_rfl)) (fun _ _ _ h=>h) (Or.inl ⟨by rfl,by intro w';go_simp;with_reducible rfl⟩) (by simp only [Act.put,qqj,qqk,qql,i64_w,i32_w];rfl) ?_
 refine last_ (i:=15) (N:=none) (qqz 18 65535) rfl rfl (one_of HT_.out (by kernel_rfl)) (by decide) (fun K hK=>?_)
 have hs22:w18.cell? ⟨gb187,4,none⟩ = some (.slice A0_4 l0_4.length c0_4):=(qqh BK187.out 4).trans rfl
 have hfs22:=qqi BK187.out 4
 have hns22_1:=NB188_187.out
 have hms22_1:=NB187_188.out
 refine skip_ (w1:=?_) (by rfl) rfl ?_ ?_
 rotate_left
 ·
  go_simp
  rfl
 refine hK.out _ _ ?_
 clear hK K
 refine pure_ (i:=16) (N:=some 23) (qqz 18 131071) rfl rfl (any_of HT_.out (by kernel_rfl)) (fun _ _ _ h=>h) (Or.inl ⟨by rfl,by intro w';go_simp;with_reducible rfl⟩) (by simp only [Act.put,qqj,qqk,qql,i64_w,i32_w];rfl) ?_
 refine last_ (i:=17) (N:=none) (qqz 18 262143) rfl rfl (one_of HT_.out (by kernel_rfl)) (by decide) (fun K hK=>?_)
 have hs24:w18.cell? ⟨gb187,5,none⟩ = some (.slice A0_5 l0_5.length c0_5):=(qqh BK187.out 5).trans rfl
 have hfs24:=qqi BK187.out 5
 have hns24_1:=NB188_187.out
 have hms24_1:=NB187_188.out
 refine skip_ (w1:=?_) (by rfl) rfl ?_ ?_
 rotate_left
 ·
  go_simp
  rfl
 refine hK.out _ _ ?_
 clear hK K
 refine done_ (done_of HT_.out (by kernel_rfl)) ?_
 obtain ⟨hcz25_0,hcz25_1,hcz25_2,hcz25_3,hcz25_4,hcz25_5⟩:=qc6 BK187.out
 obtain ⟨hfz25_0,hfz25_1,hfz25_2,hfz25_3,hfz25_4,hfz25_5⟩:=qf6 BK187.out
 obtain ⟨hcz26_0,hcz26_1,hcz26_2,hcz26_3,hcz26_4,hcz26_5⟩:=qc6 BK188.out
 obtain ⟨hfz26_0,hfz26_1,hfz26_2,hfz26_3,hfz26_4,hfz26_5⟩:=qf6 BK188.out
 try go_wp2
 refine bodyPost_ret (results_cell_row rfl _ _ gb188 26 #[.int .u16 a0_0,.int .u16 a0_1,.slice Ao12 t189.length co12,.slice Ao19 t192.length co19,.slice Ao21 t195.length co21,.slice Ao23 t198.length co23] (0,0) _ rfl (by (with_reducible repeat first|apply qqa|apply qqb|apply qqc);refine blk_put (cs:=#[.int .u16 a0_0,.int .u16 a0_1,.slice Ao12 t189.length co12,.slice Ao19 t192.length co19,.slice Ao21 t195.length co21,.slice none 0 0]) ?_ 5 _ rfl;(with_reducible repeat first|apply qqa|apply qqb|apply qqc);refine blk_put (cs:=#[.int .u16 a0_0,.int .u16 a0_1,.slice Ao12 t189.length co12,.slice Ao19 t192.length co19,.slice none 0 0,.slice none 0 0]) ?_ 4 _ rfl;(with_reducible repeat first|apply qqa|apply qqb|apply qqc);refine blk_put (cs:=#[.int .u16 a0_0,.int .u16 a0_1,.slice Ao12 t189.length co12,.slice none 0 0,.slice none 0 0,.slice none 0 0]) ?_ 3 _ rfl;(with_reducible repeat first|apply qqa|apply qqb|apply qqc);refine blk_put (cs:=#[.int .u16 a0_0,.int .u16 a0_1,.slice none 0 0,.slice none 0 0,.slice none 0 0,.slice none 0 0]) ?_ 2 _ rfl;(with_reducible repeat first|apply qqa|apply qqb|apply qqc);refine blk_put (cs:=#[.int .u16 a0_0,.int .u16 0,.slice none 0 0,.slice none 0 0,.slice none 0 0,.slice none 0 0]) ?_ 1 _ rfl;(with_reducible repeat first|apply qqa|apply qqb|apply qqc);refine blk_put (cs:=#[.int .u16 0,.int .u16 0,.slice none 0 0,.slice none 0 0,.slice none 0 0,.slice none 0 0]) ?_ 0 _ rfl;(with_reducible repeat first|apply qqa|apply qqb|apply qqc);refine blk_far ?_ NB188_187.out _;(with_reducible repeat first|apply qqa|apply qqb|apply qqc);refine blk_far ?_ NB188_187.out _;(with_reducible repeat first|apply qqa|apply qqb|apply qqc);refine blk_far ?_ NB188_187.out _;(with_reducible repeat first|apply qqa|apply qqb|apply qqc);exact BK188.out) Try.underlying26 rfl (by kernel_rfl)) rfl ?_
 exact ⟨_,_,_,_,by first|rfl|(simp [errW_none,errW_some] <;> rfl)|(simp [*,errW_none,errW_some] <;> rfl),by (with_reducible repeat (first|apply Kd.R_alloc|apply Kd.R_drewN|apply Kd.R_drew));exact Kd.R_mono (Kd.R_far (p:=⟨gb188,5,none⟩) (Kd.R_far (p:=⟨gb188,4,none⟩) (Kd.R_far (p:=⟨gb188,3,none⟩) (Kd.R_far (p:=⟨gb188,2,none⟩) (Kd.R_far (p:=⟨gb188,1,none⟩) (Kd.R_far (p:=⟨gb188,0,none⟩) (Kd.R_far (p:=⟨gb187,5,none⟩) (Kd.R_far (p:=⟨gb187,4,none⟩) (Kd.R_far (p:=⟨gb187,3,none⟩) (Kd.R_types (Kd.R_types HO191.out BK187.out (by decide)) BK188.out (by decide)) (fun _ hk=>hk.1.2) (.slice Ao19 t192.length co19)) (fun _ hk=>hk.1.2) (.slice Ao21 t195.length co21)) (fun _ hk=>hk.1.2) (.slice Ao23 t198.length co23)) (fun _ hk=>hk.2) (.int .u16 a0_0)) (fun _ hk=>hk.2) (.int .u16 a0_1)) (fun _ hk=>hk.2) (.slice Ao12 t189.length co12)) (fun _ hk=>hk.2) (.slice Ao19 t192.length co19)) (fun _ hk=>hk.2) (.slice Ao21 t195.length co21)) (fun _ hk=>hk.2) (.slice Ao23 t198.length co23)) (fun _ hk=>trivial),by (with_reducible repeat (first|apply Kd.S_alloc|apply Kd.S_drewN|apply Kd.S_drew));exact Kd.S_mono (Kd.S_far (p:=⟨gb188,5,none⟩) (Kd.S_far (p:=⟨gb188,4,none⟩) (Kd.S_far (p:=⟨gb188,3,none⟩) (Kd.S_far (p:=⟨gb188,2,none⟩) (Kd.S_far (p:=⟨gb188,1,none⟩) (Kd.S_far (p:=⟨gb188,0,none⟩) (Kd.S_far (p:=⟨gb187,5,none⟩) (Kd.S_far (p:=⟨gb187,4,none⟩) (Kd.S_far (p:=⟨gb187,3,none⟩) (Kd.S_types (Kd.S_types HO194.out BK187.out (by decide)) BK188.out (by decide)) (fun _ hk=>hk.1.2) (.slice Ao19 t192.length co19)) (fun _ hk=>hk.1.2) (.slice Ao21 t195.length co21)) (fun _ hk=>hk.1.2) (.slice Ao23 t198.length co23)) (fun _ hk=>hk.2) (.int .u16 a0_0)) (fun _ hk=>hk.2) (.int .u16 a0_1)) (fun _ hk=>hk.2) (.slice Ao12 t189.length co12)) (fun _ hk=>hk.2) (.slice Ao19 t192.length co19)) (fun _ hk=>hk.2) (.slice Ao21 t195.length co21)) (fun _ hk=>hk.2) (.slice Ao23 t198.length co23)) (fun _ hk=>⟨hk.1.1.1.2,hk.1.1.2⟩),by (with_reducible repeat (first|apply Kd.S_alloc|apply Kd.S_drewN|apply Kd.S_drew));exact Kd.S_mono (Kd.S_far (p:=⟨gb188,5,none⟩) (Kd.S_far (p:=⟨gb188,4,none⟩) (Kd.S_far (p:=⟨gb188,3,none⟩) (Kd.S_far (p:=⟨gb188,2,none⟩) (Kd.S_far (p:=⟨gb188,1,none⟩) (Kd.S_far (p:=⟨gb188,0,none⟩) (Kd.S_far (p:=⟨gb187,5,none⟩) (Kd.S_far (p:=⟨gb187,4,none⟩) (Kd.S_far (p:=⟨gb187,3,none⟩) (Kd.S_types (Kd.S_types HO197.out BK187.out (by decide)) BK188.out (by decide)) (fun _ hk=>hk.1.2) (.slice Ao19 t192.length co19)) (fun _ hk=>hk.1.2) (.slice Ao21 t195.length co21)) (fun _ hk=>hk.1.2) (.slice Ao23 t198.length co23)) (fun _ hk=>hk.2) (.int .u16 a0_0)) (fun _ hk=>hk.2) (.int .u16 a0_1)) (fun _ hk=>hk.2) (.slice Ao12 t189.length co12)) (fun _ hk=>hk.2) (.slice Ao19 t192.length co19)) (fun _ hk=>hk.2) (.slice Ao21 t195.length co21)) (fun _ hk=>hk.2) (.slice Ao23 t198.length co23)) (fun _ hk=>⟨hk.1.1.1.2,hk.1.1.2⟩),by (with_reducible repeat (first|apply Kd.S_alloc|apply Kd.S_drewN|apply Kd.S_drew));exact Kd.S_mono (Kd.S_far (p:=⟨gb188,5,none⟩) (Kd.S_far (p:=⟨gb188,4,none⟩) (Kd.S_far (p:=⟨gb188,3,none⟩) (Kd.S_far (p:=⟨gb188,2,none⟩) (Kd.S_far (p:=⟨gb188,1,none⟩) (Kd.S_far (p:=⟨gb188,0,none⟩) (Kd.S_far (p:=⟨gb187,5,none⟩) (Kd.S_far (p:=⟨gb187,4,none⟩) (Kd.S_far (p:=⟨gb187,3,none⟩) (Kd.S_types (Kd.S_types HO200.out BK187.out (by decide)) BK188.out (by decide)) (fun _ hk=>hk.1.2) (.slice Ao19 t192.length co19)) (fun _ hk=>hk.1.2) (.slice Ao21 t195.length co21)) (fun _ hk=>hk.1.2) (.slice Ao23 t198.length co23)) (fun _ hk=>hk.2) (.int .u16 a0_0)) (fun _ hk=>hk.2) (.int .u16 a0_1)) (fun _ hk=>hk.2) (.slice Ao12 t189.length co12)) (fun _ hk=>hk.2) (.slice Ao19 t192.length co19)) (fun _ hk=>hk.2) (.slice Ao21 t195.length co21)) (fun _ hk=>hk.2) (.slice Ao23 t198.length co23)) (fun _ hk=>⟨hk.1.1.1.2,hk.1.1.2⟩),by with_reducible repeat first|exact HB.out|apply qqf|apply qqd|apply qqe|refine qqg ?_ GE187.out|refine qqg ?_ GE188.out⟩

end Go.Proofs.Ythkdfnbhlinhiaa.Mine
