-- Written by this repo's own printer (wip/print), which builds on the kit's.
import Derived.Test.YthkdfnbhlinhiaaMinex0
import Derived.Test.YthkdfnbhlinhiaaMinex1
import Derived.Test.YthkdfnbhlinhiaaMinex7
import Derived.Test.YthkdfnbhlinhiaaMinex8
import Derived.Test.YthkdfnbhlinhiaaMinex9
import Derived.Test.YthkdfnbhlinhiaaMinex10
import Derived.Test.YthkdfnbhlinhiaaMinex11
import Derived.Test.YthkdfnbhlinhiaaMinex12
import Derived.Test.YthkdfnbhlinhiaaMinex15
namespace Go.Proofs.Ythkdfnbhlinhiaa.Mine
open Go.RowKit Go.Proofs.YthkdfnbhlinhiaaW.PrintWords Go.Proofs.YthkdfnbhlinhiaaW.PrintLast Go.Proofs.YthkdfnbhlinhiaaW.PrintMore
attribute [local go_sem] max2_int min2_int max_two min_two max_three min_three max_four min_four   -- for this text's walks alone
set_option linter.unusedVariables false
set_option linter.unusedSimpArgs false

/-! ### query_Fail: function 24 -/
def query_Fail.f (a0 : Int) (a1_0 : Int) (a1_1 : Int) (l1_2 : List (S53)) (l1_3 : List (S51)) (l1_4 : List (S51)) (l1_5 : List (S51)) : Option (Int × Int × (List (S53)) × (List (S51)) × (List (S51)) × (List (S51))) := (api_Question.f l1_2).bind fun t203 => (some (a0, Go.bits .or .u16 (Go.bits .or .u16 32896 (Go.bits .and .u16 a1_1 256)) 2, t203, ([] : List (S51)), ([] : List (S51)), ([] : List (S51))))
def query_Fail.T1 : Bool × List (List Nat × List Nat) := (true, [([], []), ([], []), ([1], [1]), ([2], [2]), ([3], [3]), ([4], [4]), ([], []), ([6], [6]), ([7], [7]), ([0, 5, 8], [0, 5, 8]), ([9, 8, 0, 1, 2, 3, 4, 5, 6, 7, 8, 9], [9])])
def query_Fail.B1 : List Nat := [0, 0, 2, 6, 14, 30, 0, 64, 192, 511, 1023]
theorem query_Fail.tab1 : rtab .any (opsOf Try.f24 1) = query_Fail.T1 := by kernel_rfl
theorem query_Fail.bits1 : waitsOk query_Fail.T1.2 query_Fail.B1 = true := by kernel_rfl
set_option maxHeartbeats 8000000 in
set_option maxRecDepth 100000 in
theorem query_Fail.calls (a0 : Int) (a1_0 : Int) (a1_1 : Int) (A1_2 : Option Addr) (c1_2 : Nat) (l1_2 : List (S53)) (A1_3 : Option Addr) (c1_3 : Nat) (l1_3 : List (S51)) (A1_4 : Option Addr) (c1_4 : Nat) (l1_4 : List (S51)) (A1_5 : Option Addr) (c1_5 : Nat) (l1_5 : List (S51)) (r1 : Int) (r2 : Int) (r3 : List (S53)) (r4 : List (S51)) (r5 : List (S51)) (r6 : List (S51)) (w : World) (hr1_2 : Kd.C k53 w A1_2 l1_2.length l1_2) (hc1_2 : l1_2.length ≤ c1_2) (hr1_3 : Kd.C k51 w A1_3 l1_3.length l1_3) (hc1_3 : l1_3.length ≤ c1_3) (hr1_4 : Kd.C k51 w A1_4 l1_4.length l1_4) (hc1_4 : l1_4.length ≤ c1_4) (hr1_5 : Kd.C k51 w A1_5 l1_5.length l1_5) (hc1_5 : l1_5.length ≤ c1_5) (h : query_Fail.f a0 a1_0 a1_1 l1_2 l1_3 l1_4 l1_5 = some (r1, r2, r3, r4, r5, r6)) :
  Calls Try.prog 24 #[.int .u16 a0,.agg #[.int .u16 a1_0,.int .u16 a1_1,.slice A1_2 l1_2.length c1_2,.slice A1_3 l1_3.length c1_3,.slice A1_4 l1_4.length c1_4,.slice A1_5 l1_5.length c1_5]] w fun e w'=>∃ v2_ v3_ v4_ v5_:Value,e = .returned (.agg #[.int .u16 r1,.int .u16 r2,v2_,v3_,v4_,v5_])∧Kd.R k53 53 w' w.heap.size (fun _=>True) v2_ r3∧Kd.S k51 51 w' w.heap.size (fun k_=>some k_ ≠ (v4_:Value).ownBlock∧some k_ ≠ (v5_:Value).ownBlock) v3_ r4∧Kd.S k51 51 w' w.heap.size (fun k_=>some k_ ≠ (v3_:Value).ownBlock∧some k_ ≠ (v5_:Value).ownBlock) v4_ r5∧Kd.S k51 51 w' w.heap.size (fun k_=>some k_ ≠ (v3_:Value).ownBlock∧some k_ ≠ (v4_:Value).ownBlock) v5_ r6∧Below w.heap.size w w':=by
 have hu26:=Try.underlying26
 have HR1_2:=qqm hr1_2
 have HC1_2:=qqm hc1_2
 clear hr1_2 hc1_2
 have HR1_3:=qqm hr1_3
 have HC1_3:=qqm hc1_3
 clear hr1_3 hc1_3
 have HR1_4:=qqm hr1_4
 have HC1_4:=qqm hc1_4
 clear hr1_4 hc1_4
 have HR1_5:=qqm hr1_5
 have HC1_5:=qqm hc1_5
 clear hr1_5 hc1_5
 have HB:=qqm (Below.refl w.heap.size w)
 have H:((api_Question.f l1_2).bind fun t203=>(some (a0,Go.bits .or .u16 (Go.bits .or .u16 32896 (Go.bits .and .u16 a1_1 256)) 2,t203,([]:List (S51)),([]:List (S51)),([]:List (S51))))) = some (r1,r2,r3,r4,r5,r6):=h
 clear h
 replace H:=Option.bind_eq_some_iff.mp H
 obtain ⟨t203,A30,H⟩:=H
 replace H:(some (a0,Go.bits .or .u16 (Go.bits .or .u16 32896 (Go.bits .and .u16 a1_1 256)) 2,t203,([]:List (S51)),([]:List (S51)),([]:List (S51)))) = some (r1,r2,r3,r4,r5,r6):=H
 have A3:=qqm A30
 clear A30
 simp only [Option.some.injEq,Prod.mk.injEq] at H
 obtain ⟨rfl,rfl,rfl,rfl,rfl,rfl⟩:=H
 go_enter Try.func24,Try.ntmps24
 try go_wp2_with (first|((with_reducible refine gate_dst (N:=3) rfl ?_);refine box_event ?hg (N:=3) ?hd (cs:=#[.int .u16 a1_0,.int .u16 a1_1,.slice A1_2 l1_2.length c1_2,.slice A1_3 l1_3.length c1_3,.slice A1_4 l1_4.length c1_4,.slice A1_5 l1_5.length c1_5]) (t:=26) ?hr ?_;(case hd=>rfl);(case hg=>rfl);(case hr=>first|(go_simp;done)|(go_simp;rfl));intro gb201 hg w4 hbox hb;have n0_:=qqm (below_step (by with_reducible repeat first|exact HB.out|apply qqf|apply qqd|apply qqe) hb);have n1_:=qqm (hbox);have n2_:=qqm ((by rw [hg];exact (below_size (by with_reducible repeat first|exact HB.out|apply qqf|apply qqd|apply qqe)):w.heap.size ≤ gb201));have n3_:=n2_;clear HB;have HB:=n0_;have BK201:=n1_;have GW201:=n2_;have GE201:=n3_;clear n0_ n1_ n2_ n3_ hb hbox hg)|((with_reducible refine gate_dst (N:=4) rfl ?_);refine box_event ?hg (N:=4) ?hd (cs:=#[.int .u16 0,.int .u16 0,.slice none 0 0,.slice none 0 0,.slice none 0 0,.slice none 0 0]) (t:=26) ?hr ?_;(case hd=>rfl);(case hg=>rfl);(case hr=>first|(go_simp;done)|(go_simp;rfl));intro gb202 hg w5 hbox hb;have n0_:=qqm (blk_below (g:=gb201) (o:=.cells #[.int .u16 a1_0,.int .u16 a1_1,.slice A1_2 l1_2.length c1_2,.slice A1_3 l1_3.length c1_3,.slice A1_4 l1_4.length c1_4,.slice A1_5 l1_5.length c1_5] 26 (0,0)) (by (with_reducible repeat first|apply qqa|apply qqb|apply qqc);exact BK201.out) hb);have n1_:=qqm (below_step (by with_reducible repeat first|exact HB.out|apply qqf|apply qqd|apply qqe|refine qqg ?_ GE201.out) hb);have n2_:=qqm (hbox);have n3_:=qqm ((by rw [hg];exact (below_size (by with_reducible repeat first|exact HB.out|apply qqf|apply qqd|apply qqe|refine qqg ?_ GE201.out)):w.heap.size ≤ gb202));have n4_:=n3_;have n5_:=qqm ((by rw [hg];exact Nat.ne_of_lt (blk_lt (by (with_reducible repeat first|apply qqa|apply qqb|apply qqc);exact BK201.out)):gb201 ≠ gb202));have n6_:=qqm (Ne.symm n5_.out);clear BK201 HB;have BK201:=n0_;have HB:=n1_;have BK202:=n2_;have GW202:=n3_;have GE202:=n4_;have NB201_202:=n5_;have NB202_201:=n6_;clear n0_ n1_ n2_ n3_ n4_ n5_ n6_ hb hbox hg))
 have n0_:=qqm (qqb BK201.out)
 have n1_:=qqm (qqb BK202.out)
 have n2_:=qqm (qqe HB.out)
 clear BK201
 clear BK202
 clear HB
 have BK201:=n0_
 have BK202:=n1_
 have HB:=n2_
 clear n0_ n1_ n2_
 refine start_ (n:=11) (S:=fun w'=>w'.cell? ⟨gb201,0,none⟩ = some (.int .u16 a1_0)∧w'.cell? ⟨gb201,1,none⟩ = some (.int .u16 a1_1)∧w'.cell? ⟨gb201,2,none⟩ = some (.slice A1_2 l1_2.length c1_2)∧w'.cell? ⟨gb201,3,none⟩ = some (.slice A1_3 l1_3.length c1_3)∧w'.cell? ⟨gb201,4,none⟩ = some (.slice A1_4 l1_4.length c1_4)∧w'.cell? ⟨gb201,5,none⟩ = some (.slice A1_5 l1_5.length c1_5)) (ds:=[]) (qqz 11 0) (by kernel_rfl) rfl rfl ⟨(qqh BK201.out 0).trans rfl,(qqh BK201.out 1).trans rfl,(qqh BK201.out 2).trans rfl,(qqh BK201.out 3).trans rfl,(qqh BK201.out 4).trans rfl,(qqh BK201.out 5).trans rfl⟩ (fun hHeld=>?_);refine with_tabW query_Fail.tab1 query_Fail.bits1 (fun HT_ HW_=>?_)
 generalize w5.drew = w6 at BK201 BK202 HB hHeld ⊢
 refine pure_ (i:=0) (N:=some 5) (qqz 11 1) rfl rfl (any_of HT_.out (by kernel_rfl)) (fun _ _ _ h=>h) (Or.inl ⟨by rfl,by intro w';go_simp;with_reducible rfl⟩) (by simp only [Act.put,qqj,qqk,qql,i64_w,i32_w];rfl) ?_
 refine pure_ (i:=1) (N:=some 6) (qqz 11 3) rfl rfl (any_of HT_.out (by kernel_rfl)) (fun _ _ _ h=>h) (Or.inl ⟨by rfl,by intro w';go_simp;with_reducible rfl⟩) (by simp only [Act.put,qqj,qqk,qql,i64_w,i32_w];rfl) ?_
 refine pure_ (i:=6) (N:=some 11) (qqz 11 67) rfl rfl (any_of HT_.out (by kernel_rfl)) (fun _ _ _ h=>h) (Or.inl ⟨by rfl,by intro w';go_simp;with_reducible rfl⟩) (by simp only [Act.put,qqj,qqk,qql,i64_w,i32_w];rfl) ?_
 refine take_ (i:=2) (N:=some 7) (qqz 11 71) rfl rfl (take_ofW HT_.out HW_.out (by kernel_rfl)) (fun _ _ _ h=>h) (Or.inl ⟨by rfl,by rintro w' ⟨s0,s1,s2,s3,s4,s5⟩;go_simp;with_reducible rfl⟩) hHeld (by simp only [Act.put,qqj,qqk,qql,i64_w,i32_w];rfl) ?_
 refine pure_ (i:=3) (N:=some 8) (qqz 11 79) rfl rfl (any_of HT_.out (by kernel_rfl)) (fun _ _ _ h=>h) (Or.inl ⟨by rfl,by intro w';go_simp;with_reducible rfl⟩) (by simp only [Act.put,qqj,qqk,qql,i64_w,i32_w];rfl) ?_
 refine pure_ (i:=4) (N:=some 9) (qqz 11 95) rfl rfl (any_of HT_.out (by kernel_rfl)) (fun _ _ _ h=>h) (Or.inl ⟨by rfl,by intro w';go_simp;with_reducible rfl⟩) (by simp only [Act.put,qqj,qqk,qql,i64_w,i32_w];rfl) ?_
 refine pure_ (i:=5) (N:=some 10) (qqz 11 127) rfl rfl (any_of HT_.out (by kernel_rfl)) (fun _ _ _ h=>h) (Or.inl ⟨by rfl,by intro w';go_simp;with_reducible rfl⟩) (by simp only [Act.put,qqj,qqk,qql,i64_w,i32_w];rfl) ?_
 refine take_ (i:=7) (N:=some 12) (qqz 11 255) rfl rfl (take_ofW HT_.out HW_.out (by kernel_rfl)) (fun _ _ _ h=>h) (Or.inl ⟨by rfl,by rintro w' ⟨s0,s1,s2,s3,s4,s5⟩;go_simp;with_reducible rfl⟩) hHeld (by simp only [Act.put,qqj,qqk,qql,i64_w,i32_w];rfl) ?_
 refine one_ (i:=8) (N:=some 13) (qqz 11 511) rfl rfl (one_of HT_.out (by kernel_rfl)) (by decide) (fun K hK=>?_)
 refine goes_ Try.func45 (by kernel_rfl) rfl #[.slice A1_2 l1_2.length c1_2] (by rfl) rfl rfl (by (try simp only [List.map_toArray,List.map_cons,List.map_nil]);first|done|rfl|(simp only [List.length_drop,List.length_take];rfl)) ?_
 with_reducible refine (api_Question.calls _ _ l1_2 t203 _ ?side1 ?side2 A3.out).mono ?_
 (case side1=>repeat (first|exact (Kd.C_below HR1_2.out HB.out)|(with_reducible first|apply Kd.C_alloc|apply Kd.C_drewN|apply Kd.C_drew)))
 (case side2=>exact HC1_2.out)
 rintro e w7 ⟨v204,rfl,ho0,hb⟩
 refine ⟨_,rfl,?_⟩
 have n0_:=qqm (Kd.R_lower ho0 (below_size (by with_reducible repeat first|exact HB.out|apply qqf|apply qqd|apply qqe|refine qqg ?_ GE201.out|refine qqg ?_ GE202.out)))
 have n1_:=qqm (blk_below (g:=gb201) (o:=.cells #[.int .u16 a1_0,.int .u16 a1_1,.slice A1_2 l1_2.length c1_2,.slice A1_3 l1_3.length c1_3,.slice A1_4 l1_4.length c1_4,.slice A1_5 l1_5.length c1_5] 26 (0,0)) (by (with_reducible repeat first|apply qqa|apply qqb|apply qqc);exact BK201.out) hb)
 have n2_:=qqm (blk_below (g:=gb202) (o:=.cells #[.int .u16 0,.int .u16 0,.slice none 0 0,.slice none 0 0,.slice none 0 0,.slice none 0 0] 26 (0,0)) (by (with_reducible repeat first|apply qqa|apply qqb|apply qqc);exact BK202.out) hb)
 have n3_:=qqm (below_step (by with_reducible repeat first|exact HB.out|apply qqf|apply qqd|apply qqe|refine qqg ?_ GE201.out|refine qqg ?_ GE202.out) hb)
 clear BK201
 clear BK202
 clear HB
 have HO205:=n0_
 have BK201:=n1_
 have BK202:=n2_
 have HB:=n3_
 clear n0_ n1_ n2_ n3_
 (try clear hb)
 (try clear hb2)
 (try clear hk)
 (try clear hi)
 (try clear ho0)
 obtain ⟨Ao8,co8,eo8⟩:=Kd.R_slice HO205.out
 (first|subst eo8|(injection eo8 with f1_ f2_ f3_;have f4_:=f1_.symm;have f5_:=f3_.symm;clear f1_ f2_ f3_;subst f4_;subst f5_))
 refine hK.out _ _ ⟨(qqh BK201.out 0).trans rfl,(qqh BK201.out 1).trans rfl,(qqh BK201.out 2).trans rfl,(qqh BK201.out 3).trans rfl,(qqh BK201.out 4).trans rfl,(qqh BK201.out 5).trans rfl⟩ (fun hHeld=>?_)
 clear hK K
 refine norm_ (a':=?_) ?_ ?_
 rotate_left
 ·
  show Act.put _ (some 13) _ = _
  simp only [Act.put,qqj,qqk,qql,i64_w,i32_w]
  rfl
 refine pure_ (i:=9) (N:=some 14) (qqz 11 1023) rfl rfl (any_of HT_.out (by kernel_rfl)) (fun _ _ _ h=>h) (Or.inl ⟨by rfl,by intro w';go_simp;with_reducible rfl⟩) (by simp only [Act.put,qqj,qqk,qql,i64_w,i32_w];rfl) ?_
 refine one_ (i:=10) (N:=none) (qqz 11 2047) rfl rfl (one_of HT_.out (by kernel_rfl)) (by decide) (fun K hK=>?_)
 have hs9:w7.cell? ⟨gb202,0,none⟩ = some (.int .u16 0):=(qqh BK202.out 0).trans rfl
 have hfs9:=qqi BK202.out 0
 have hns9_0:=NB201_202.out
 have hms9_0:=NB202_201.out
 have hs10:w7.cell? ⟨gb202,1,none⟩ = some (.int .u16 0):=(qqh BK202.out 1).trans rfl
 have hfs10:=qqi BK202.out 1
 have hns10_0:=NB201_202.out
 have hms10_0:=NB202_201.out
 have hs11:w7.cell? ⟨gb202,2,none⟩ = some (.slice none 0 0):=(qqh BK202.out 2).trans rfl
 have hfs11:=qqi BK202.out 2
 have hns11_0:=NB201_202.out
 have hms11_0:=NB202_201.out
 have hs12:w7.cell? ⟨gb202,3,none⟩ = some (.slice none 0 0):=(qqh BK202.out 3).trans rfl
 have hfs12:=qqi BK202.out 3
 have hns12_0:=NB201_202.out
 have hms12_0:=NB202_201.out
 have hs13:w7.cell? ⟨gb202,4,none⟩ = some (.slice none 0 0):=(qqh BK202.out 4).trans rfl
 have hfs13:=qqi BK202.out 4
 have hns13_0:=NB201_202.out
 have hms13_0:=NB202_201.out
 have hs14:w7.cell? ⟨gb202,5,none⟩ = some (.slice none 0 0):=(qqh BK202.out 5).trans rfl
 have hfs14:=qqi BK202.out 5
 have hns14_0:=NB201_202.out
 have hms14_0:=NB202_201.out
 refine skip_ (w1:=?_) (by rfl) rfl ?_ ?_
 rotate_left
 ·
  go_simp
  rfl
 refine hK.out _ _ ⟨((cell_far (p:=⟨gb202,_,none⟩) NB201_202.out _).trans (((cell_far (p:=⟨gb202,_,none⟩) NB201_202.out _).trans (((cell_far (p:=⟨gb202,_,none⟩) NB201_202.out _).trans (((cell_far (p:=⟨gb202,_,none⟩) NB201_202.out _).trans (((cell_far (p:=⟨gb202,_,none⟩) NB201_202.out _).trans (((cell_far (p:=⟨gb202,_,none⟩) NB201_202.out _).trans (hHeld.1)))))))))))),((cell_far (p:=⟨gb202,_,none⟩) NB201_202.out _).trans (((cell_far (p:=⟨gb202,_,none⟩) NB201_202.out _).trans (((cell_far (p:=⟨gb202,_,none⟩) NB201_202.out _).trans (((cell_far (p:=⟨gb202,_,none⟩) NB201_202.out _).trans (((cell_far (p:=⟨gb202,_,none⟩) NB201_202.out _).trans (((cell_far (p:=⟨gb202,_,none⟩) NB201_202.out _).trans (hHeld.2.1)))))))))))),((cell_far (p:=⟨gb202,_,none⟩) NB201_202.out _).trans (((cell_far (p:=⟨gb202,_,none⟩) NB201_202.out _).trans (((cell_far (p:=⟨gb202,_,none⟩) NB201_202.out _).trans (((cell_far (p:=⟨gb202,_,none⟩) NB201_202.out _).trans (((cell_far (p:=⟨gb202,_,none⟩) NB201_202.out _).trans (((cell_far (p:=⟨gb202,_,none⟩) NB201_202.out _).trans (hHeld.2.2.1)))))))))))),((cell_far (p:=⟨gb202,_,none⟩) NB201_202.out _).trans (((cell_far (p:=⟨gb202,_,none⟩) NB201_202.out _).trans (((cell_far (p:=⟨gb202,_,none⟩) NB201_202.out _).trans (((cell_far (p:=⟨gb202,_,none⟩) NB201_202.out _).trans (((cell_far (p:=⟨gb202,_,none⟩) NB201_202.out _).trans (((cell_far (p:=⟨gb202,_,none⟩) NB201_202.out _).trans (hHeld.2.2.2.1)))))))))))),((cell_far (p:=⟨gb202,_,none⟩) NB201_202.out _).trans (((cell_far (p:=⟨gb202,_,none⟩) NB201_202.out _).trans (((cell_far (p:=⟨gb202,_,none⟩) NB201_202.out _).trans (((cell_far (p:=⟨gb202,_,none⟩) NB201_202.out _).trans (((cell_far (p:=⟨gb202,_,none⟩) NB201_202.out _).trans (((cell_far (p:=⟨gb202,_,none⟩) NB201_202.out _).trans (hHeld.2.2.2.2.1)))))))))))),((cell_far (p:=⟨gb202,_,none⟩) NB201_202.out _).trans (((cell_far (p:=⟨gb202,_,none⟩) NB201_202.out _).trans (((cell_far (p:=⟨gb202,_,none⟩) NB201_202.out _).trans (((cell_far (p:=⟨gb202,_,none⟩) NB201_202.out _).trans (((cell_far (p:=⟨gb202,_,none⟩) NB201_202.out _).trans (((cell_far (p:=⟨gb202,_,none⟩) NB201_202.out _).trans (hHeld.2.2.2.2.2))))))))))))⟩ (fun hHeld=>?_)
 clear hK K
 refine done_ (done_of HT_.out (by kernel_rfl)) ?_
 try go_wp2
 refine bodyPost_ret (results_cell_row rfl _ _ gb202 26 #[.int .u16 a0,.int .u16 (Go.bits .or .u16 (Go.bits .or .u16 32896 (Go.bits .and .u16 a1_1 256)) 2),.slice Ao8 t203.length co8,.slice none 0 0,.slice none 0 0,.slice none 0 0] (0,0) _ rfl (by (with_reducible repeat first|apply qqa|apply qqb|apply qqc);refine blk_put (cs:=#[.int .u16 a0,.int .u16 (Go.bits .or .u16 (Go.bits .or .u16 32896 (Go.bits .and .u16 a1_1 256)) 2),.slice Ao8 t203.length co8,.slice none 0 0,.slice none 0 0,.slice none 0 0]) ?_ 5 _ rfl;(with_reducible repeat first|apply qqa|apply qqb|apply qqc);refine blk_put (cs:=#[.int .u16 a0,.int .u16 (Go.bits .or .u16 (Go.bits .or .u16 32896 (Go.bits .and .u16 a1_1 256)) 2),.slice Ao8 t203.length co8,.slice none 0 0,.slice none 0 0,.slice none 0 0]) ?_ 4 _ rfl;(with_reducible repeat first|apply qqa|apply qqb|apply qqc);refine blk_put (cs:=#[.int .u16 a0,.int .u16 (Go.bits .or .u16 (Go.bits .or .u16 32896 (Go.bits .and .u16 a1_1 256)) 2),.slice Ao8 t203.length co8,.slice none 0 0,.slice none 0 0,.slice none 0 0]) ?_ 3 _ rfl;(with_reducible repeat first|apply qqa|apply qqb|apply qqc);refine blk_put (cs:=#[.int .u16 a0,.int .u16 (Go.bits .or .u16 (Go.bits .or .u16 32896 (Go.bits .and .u16 a1_1 256)) 2),.slice none 0 0,.slice none 0 0,.slice none 0 0,.slice none 0 0]) ?_ 2 _ rfl;(with_reducible repeat first|apply qqa|apply qqb|apply qqc);refine blk_put (cs:=#[.int .u16 a0,.int .u16 0,.slice none 0 0,.slice none 0 0,.slice none 0 0,.slice none 0 0]) ?_ 1 _ rfl;(with_reducible repeat first|apply qqa|apply qqb|apply qqc);refine blk_put (cs:=#[.int .u16 0,.int .u16 0,.slice none 0 0,.slice none 0 0,.slice none 0 0,.slice none 0 0]) ?_ 0 _ rfl;(with_reducible repeat first|apply qqa|apply qqb|apply qqc);exact BK202.out) Try.underlying26 rfl (by kernel_rfl)) rfl ?_
 exact ⟨_,_,_,_,by first|rfl|(simp [errW_none,errW_some] <;> rfl)|(simp [*,errW_none,errW_some] <;> rfl),by (with_reducible repeat (first|apply Kd.R_alloc|apply Kd.R_drewN|apply Kd.R_drew));exact Kd.R_mono (Kd.R_far (p:=⟨gb202,5,none⟩) (Kd.R_far (p:=⟨gb202,4,none⟩) (Kd.R_far (p:=⟨gb202,3,none⟩) (Kd.R_far (p:=⟨gb202,2,none⟩) (Kd.R_far (p:=⟨gb202,1,none⟩) (Kd.R_far (p:=⟨gb202,0,none⟩) (Kd.R_types HO205.out BK202.out (by decide)) (fun _ hk=>hk.2) (.int .u16 a0)) (fun _ hk=>hk.2) (.int .u16 (Go.bits .or .u16 (Go.bits .or .u16 32896 (Go.bits .and .u16 a1_1 256)) 2))) (fun _ hk=>hk.2) (.slice Ao8 t203.length co8)) (fun _ hk=>hk.2) (.slice none 0 0)) (fun _ hk=>hk.2) (.slice none 0 0)) (fun _ hk=>hk.2) (.slice none 0 0)) (fun _ hk=>trivial),by first|exact Kd.S_nil _ _ _ _ _|exact Kd.N_nil _ _ _ _ _|exact Kd.V_nil _ _ _ _ _|exact Kd.Q_nil _ _ _ _ _|exact Kd.R_nil _ _ _ _ _,by first|exact Kd.S_nil _ _ _ _ _|exact Kd.N_nil _ _ _ _ _|exact Kd.V_nil _ _ _ _ _|exact Kd.Q_nil _ _ _ _ _|exact Kd.R_nil _ _ _ _ _,by first|exact Kd.S_nil _ _ _ _ _|exact Kd.N_nil _ _ _ _ _|exact Kd.V_nil _ _ _ _ _|exact Kd.Q_nil _ _ _ _ _|exact Kd.R_nil _ _ _ _ _,by with_reducible repeat first|exact HB.out|apply qqf|apply qqd|apply qqe|refine qqg ?_ GE201.out|refine qqg ?_ GE202.out⟩

/-! ### nunciolaw08_awake: function 9 (by hand) -/
def nunciolaw08_awake.f (k : Nat) : Option Bool := some true
theorem nunciolaw08_awake.mono : ∀ k, LeO (nunciolaw08_awake.f k) (nunciolaw08_awake.f (k + 1)) := fun _ => LeO.refl _
theorem aw_fld3 (w : World) (v0 v1 v2 v3 v4 v5 : Value) : (Instr.field 26 (.agg #[v0, v1, v2, v3, v4, v5]) 3).run Try.prog w = .ok v3 w := by
 have hu:=Try.underlying26
 have hf:=Try.underlying24
 simp [Go.Instr.field,run_underlying hu,asAgg,part,isAgg,run_underlying hf]
attribute [local go_sem high] aw_fld3
theorem aw_fld1 (w : World) (v0 v1 v2 v3 v4 v5 : Value) : (Instr.field 26 (.agg #[v0, v1, v2, v3, v4, v5]) 1).run Try.prog w = .ok v1 w := by
 have hu:=Try.underlying26
 have hf:=Try.underlying22
 simp [Go.Instr.field,run_underlying hu,asAgg,part,isAgg,run_underlying hf]
attribute [local go_sem high] aw_fld1
attribute [local go_sem high] eqA28
set_option maxHeartbeats 4000000 in
set_option maxRecDepth 100000 in
theorem nunciolaw08_awake.calls (k : Nat) (r : Bool) (w : World) (h : nunciolaw08_awake.f k = some r) : Calls Try.prog 9 #[] w fun e w' => e = .returned (.bool r) ∧ Below w.heap.size w w' := by
 obtain rfl:=Option.some.inj h
 clear h
 have hu28:=Try.underlying28
 have hu26:=Try.underlying26
 have hu51:=Try.underlying51
 obtain ⟨qs,hqs⟩:∃ q:List S53,q = ([(⟨(⟨#[2,101,120,0]⟩:ByteArray),1,1⟩:S53)]:List S53):=⟨_,rfl⟩
 obtain ⟨e3,he3⟩:∃ q:List S51,q = ([]:List S51):=⟨_,rfl⟩
 obtain ⟨e4,he4⟩:∃ q:List S51,q = ([]:List S51):=⟨_,rfl⟩
 obtain ⟨ad,had⟩:∃ q:List S51,q = ([(⟨(⟨#[0]⟩:ByteArray),41,65535,32768,([]:List ByteArray),([]:List Int),[(⟨#[]⟩:ByteArray)]⟩:S51)]:List S51):=⟨_,rfl⟩
 obtain ⟨ys,hys⟩:∃ q:List S51,q = ([(⟨(⟨#[]⟩:ByteArray),1,0,300,([]:List ByteArray),([]:List Int),([]:List ByteArray)⟩:S51),(⟨(⟨#[]⟩:ByteArray),5,0,60,([]:List ByteArray),([]:List Int),([]:List ByteArray)⟩:S51)]:List S51):=⟨_,rfl⟩
 obtain ⟨zs,hzs⟩:∃ q:List S51,q = ([(⟨(⟨#[]⟩:ByteArray),1,0,200,([]:List ByteArray),([]:List Int),([]:List ByteArray)⟩:S51),(⟨(⟨#[]⟩:ByteArray),5,0,0,([]:List ByteArray),([]:List Int),([]:List ByteArray)⟩:S51)]:List S51):=⟨_,rfl⟩
 have M1:Aside0 (query_Make.f 7 (⟨#[2,101,120,0]⟩:ByteArray) 1 1 true = some (7,256,qs,e3,e4,ad)):=⟨by subst hqs he3 he4 had hys hzs;rfl⟩
 have M2:Aside0 (query_Ask.f 400 7 256 qs e3 e4 ad = some ((⟨#[2,101,120,0]⟩:ByteArray),1,1,true,0)):=⟨by subst hqs he3 he4 had hys hzs;decide +kernel⟩
 have M3:Aside0 (query_Fits.f 400 (⟨#[2,101,120,0]⟩:ByteArray) 1 1 true 7 7 32768 qs ys ([]:List S51) ([]:List S51) = some true):=⟨by subst hqs he3 he4 had hys hzs;decide +kernel⟩
 have M4:Aside0 (query_Fits.f 400 (⟨#[2,101,120,0]⟩:ByteArray) 1 1 true 8 7 32768 qs ys ([]:List S51) ([]:List S51) = some false):=⟨by subst hqs he3 he4 had hys hzs;decide +kernel⟩
 have M5:Aside0 (query_Negative.f 7 32768 qs ys ([]:List S51) ([]:List S51) = some false):=⟨by subst hqs he3 he4 had hys hzs;decide +kernel⟩
 have M6:Aside0 (query_Least.f 7 32768 qs ys ([]:List S51) ([]:List S51) = some 60):=⟨by subst hqs he3 he4 had hys hzs;decide +kernel⟩
 have M7:Aside0 (query_Age.f 400 7 32768 qs ys ([]:List S51) ([]:List S51) 100 = some (7,32768,qs,zs,([]:List S51),([]:List S51))):=⟨by subst hqs he3 he4 had hys hzs;kernel_rfl⟩
 have M8:Aside0 (query_Fail.f 1 7 32768 qs ys ([]:List S51) ([]:List S51) = some (1,32898,qs,([]:List S51),([]:List S51),([]:List S51))):=⟨by subst hqs he3 he4 had hys hzs;rfl⟩
 have L1:((ad.length:Int) == 1) = true:=by rw [had];rfl
 have ZN:Aside0 (0 < zs.length):=⟨by rw [hzs];decide⟩
 have ZR:Aside0 ((rd_T51 zs 0).f3 = 200):=⟨by rw [hzs];rfl⟩
 have YL:Aside0 (ys = ([(⟨(⟨#[]⟩:ByteArray),1,0,300,([]:List ByteArray),([]:List Int),([]:List ByteArray)⟩:S51),(⟨(⟨#[]⟩:ByteArray),5,0,60,([]:List ByteArray),([]:List Int),([]:List ByteArray)⟩:S51)]:List S51)):=⟨hys⟩
 clear hqs he3 he4 had hys hzs
 have HB:=qqm (Below.refl w.heap.size w)
 go_enter Try.func9,Try.ntmps9
 go_upto_region 2 with (first|((with_reducible refine gate_dst (N:=1) rfl ?_);refine box_event ?hg (N:=1) ?hd (cs:=#[.string (⟨#[]⟩:ByteArray),.int .u16 0,.int .u16 0,.bool false]) (t:=28) ?hr ?_;(case hd=>rfl);(case hg=>rfl);(case hr=>first|(go_simp;done)|(go_simp;rfl));intro g1 hg w1 hbox hb;have yg1_0:w1.cell? ⟨g1,0,none⟩ = some (.string (⟨#[]⟩:ByteArray)):=(qqh hbox 0).trans rfl;have yg1_1:w1.cell? ⟨g1,1,none⟩ = some (.int .u16 0):=(qqh hbox 1).trans rfl;have yg1_2:w1.cell? ⟨g1,2,none⟩ = some (.int .u16 0):=(qqh hbox 2).trans rfl;have yg1_3:w1.cell? ⟨g1,3,none⟩ = some (.bool false):=(qqh hbox 3).trans rfl;have fg1_0:=qqi hbox 0;have fg1_1:=qqi hbox 1;have fg1_2:=qqi hbox 2;have fg1_3:=qqi hbox 3;have BQ:=qqm hbox;have GE:=qqm (show w.heap.size ≤ g1 by rw [hg];exact HB.out.size);have n3_:=qqm (below_step HB.out hb);clear hbox hb hg HB;have HB:=n3_;clear n3_))
 (try simp only [Act.put,qqj,qqk,qql])
 have n1_:=qqm (show ((((w1.setCell ⟨g1,0,none⟩ (.string (⟨#[2,101,120,0]⟩:ByteArray))).setCell ⟨g1,1,none⟩ (.int .u16 1)).setCell ⟨g1,2,none⟩ (.int .u16 1)).setCell ⟨g1,3,none⟩ (.bool true)).heap[g1]? = some (.cells #[.string (⟨#[2,101,120,0]⟩:ByteArray),.int .u16 1,.int .u16 1,.bool true] 28 (0,0)) from (blk_put (blk_put (blk_put (blk_put BQ.out 0 _ rfl) 1 _ rfl) 2 _ rfl) 3 _ rfl))
 have n2_:=qqm (show Below w.heap.size w ((((w1.setCell ⟨g1,0,none⟩ (.string (⟨#[2,101,120,0]⟩:ByteArray))).setCell ⟨g1,1,none⟩ (.int .u16 1)).setCell ⟨g1,2,none⟩ (.int .u16 1)).setCell ⟨g1,3,none⟩ (.bool true)) from (qqg (qqg (qqg (qqg HB.out GE.out) GE.out) GE.out) GE.out))
 clear BQ GE HB yg1_0 yg1_1 yg1_2 yg1_3 fg1_0 fg1_1 fg1_2 fg1_3
 generalize ((((w1.setCell ⟨g1,0,none⟩ (.string (⟨#[2,101,120,0]⟩:ByteArray))).setCell ⟨g1,1,none⟩ (.int .u16 1)).setCell ⟨g1,2,none⟩ (.int .u16 1)).setCell ⟨g1,3,none⟩ (.bool true)) = W1 at n1_ n2_ ⊢
 have BKg1:=n1_
 have HB:=n2_
 clear n1_ n2_
 have zg1_0:W1.cell? ⟨g1,0,none⟩ = some (.string (⟨#[2,101,120,0]⟩:ByteArray)):=(qqh BKg1.out 0).trans rfl
 have zg1_1:W1.cell? ⟨g1,1,none⟩ = some (.int .u16 1):=(qqh BKg1.out 1).trans rfl
 have zg1_2:W1.cell? ⟨g1,2,none⟩ = some (.int .u16 1):=(qqh BKg1.out 2).trans rfl
 have zg1_3:W1.cell? ⟨g1,3,none⟩ = some (.bool true):=(qqh BKg1.out 3).trans rfl
 have HC:=qqm (Below.refl W1.heap.size W1)
 go_upto_region 3 with (first|((with_reducible refine gate_callee (f:=14) rfl ?_);refine goesL_ (some 8) rfl rfl Try.func14 (by kernel_rfl) rfl #[.int .u16 7,.agg #[.string (⟨#[2,101,120,0]⟩:ByteArray),.int .u16 1,.int .u16 1,.bool true]] rfl (by (try simp only [List.map_toArray,List.map_cons,List.map_nil]);first|done|rfl) ?_;(with_reducible refine (query_Make.calls 7 (⟨#[2,101,120,0]⟩:ByteArray) 1 1 true 7 256 qs e3 e4 ad _ M1.out).mono ?_);rintro e w2 ⟨v2,v3,v4,v5,rfl,ho2,ho3,ho4,ho5,hb⟩;refine ⟨_,rfl,?_⟩;obtain ⟨A2,c2,rfl⟩:=Kd.R_slice ho2;obtain ⟨A3,c3,rfl⟩:=Kd.N_slice ho3;obtain ⟨A4,c4,rfl⟩:=Kd.N_slice ho4;obtain ⟨A5,c5,rfl⟩:=Kd.N_slice ho5;have HL2:=qqm (Kd.R_reads' ho2).2.1;have HR2:=qqm (Kd.R_reads' ho2).2.2;have HL3:=qqm (Kd.N_reads' ho3).2.1;have HR3:=qqm (Kd.N_reads' ho3).2.2;have HL4:=qqm (Kd.N_reads' ho4).2.1;have HR4:=qqm (Kd.N_reads' ho4).2.2;have HL5:=qqm (Kd.N_reads' ho5).2.1;have HR5:=qqm (Kd.N_reads' ho5).2.2;have n1_:=qqm (below_step HC.out hb);clear HC;have HC:=n1_;have HD:=qqm (Below.refl w2.heap.size w2);clear n1_ ho2 ho3 ho4 ho5 hb zg1_0 zg1_1 zg1_2 zg1_3)|((with_reducible refine gate_dst (N:=2) rfl ?_);refine box_event ?hg (N:=2) ?hd (cs:=#[.int .u16 0,.int .u16 0,.slice none 0 0,.slice none 0 0,.slice none 0 0,.slice none 0 0]) (t:=26) ?hr ?_;(case hd=>rfl);(case hg=>rfl);(case hr=>first|(go_simp;done)|(go_simp;rfl));intro g2 hg w3 hbox hb;have yg2_0:w3.cell? ⟨g2,0,none⟩ = some (.int .u16 0):=(qqh hbox 0).trans rfl;have yg2_1:w3.cell? ⟨g2,1,none⟩ = some (.int .u16 0):=(qqh hbox 1).trans rfl;have yg2_2:w3.cell? ⟨g2,2,none⟩ = some (.slice none 0 0):=(qqh hbox 2).trans rfl;have yg2_3:w3.cell? ⟨g2,3,none⟩ = some (.slice none 0 0):=(qqh hbox 3).trans rfl;have yg2_4:w3.cell? ⟨g2,4,none⟩ = some (.slice none 0 0):=(qqh hbox 4).trans rfl;have yg2_5:w3.cell? ⟨g2,5,none⟩ = some (.slice none 0 0):=(qqh hbox 5).trans rfl;have fg2_0:=qqi hbox 0;have fg2_1:=qqi hbox 1;have fg2_2:=qqi hbox 2;have fg2_3:=qqi hbox 3;have fg2_4:=qqi hbox 4;have fg2_5:=qqi hbox 5;have BQ:=qqm hbox;have GE:=qqm (show w2.heap.size ≤ g2 by rw [hg];exact HD.out.size);have n3_:=qqm (below_step HD.out hb);clear hbox hb hg HD;have HD:=n3_;clear n3_))
 (try simp only [Act.put,qqj,qqk,qql])
 have n1_:=qqm (show ((((((w3.setCell ⟨g2,0,none⟩ (.int .u16 7)).setCell ⟨g2,1,none⟩ (.int .u16 256)).setCell ⟨g2,2,none⟩ (.slice A2 qs.length c2)).setCell ⟨g2,3,none⟩ (.slice A3 e3.length c3)).setCell ⟨g2,4,none⟩ (.slice A4 e4.length c4)).setCell ⟨g2,5,none⟩ (.slice A5 ad.length c5)).heap[g2]? = some (.cells #[.int .u16 7,.int .u16 256,.slice A2 qs.length c2,.slice A3 e3.length c3,.slice A4 e4.length c4,.slice A5 ad.length c5] 26 (0,0)) from (blk_put (blk_put (blk_put (blk_put (blk_put (blk_put BQ.out 0 _ rfl) 1 _ rfl) 2 _ rfl) 3 _ rfl) 4 _ rfl) 5 _ rfl))
 have n2_:=qqm (show Below w2.heap.size w2 ((((((w3.setCell ⟨g2,0,none⟩ (.int .u16 7)).setCell ⟨g2,1,none⟩ (.int .u16 256)).setCell ⟨g2,2,none⟩ (.slice A2 qs.length c2)).setCell ⟨g2,3,none⟩ (.slice A3 e3.length c3)).setCell ⟨g2,4,none⟩ (.slice A4 e4.length c4)).setCell ⟨g2,5,none⟩ (.slice A5 ad.length c5)) from (qqg (qqg (qqg (qqg (qqg (qqg HD.out GE.out) GE.out) GE.out) GE.out) GE.out) GE.out))
 clear BQ GE HD yg2_0 yg2_1 yg2_2 yg2_3 yg2_4 yg2_5 fg2_0 fg2_1 fg2_2 fg2_3 fg2_4 fg2_5
 generalize ((((((w3.setCell ⟨g2,0,none⟩ (.int .u16 7)).setCell ⟨g2,1,none⟩ (.int .u16 256)).setCell ⟨g2,2,none⟩ (.slice A2 qs.length c2)).setCell ⟨g2,3,none⟩ (.slice A3 e3.length c3)).setCell ⟨g2,4,none⟩ (.slice A4 e4.length c4)).setCell ⟨g2,5,none⟩ (.slice A5 ad.length c5)) = W2 at n1_ n2_ ⊢
 have BKg2:=n1_
 have HD:=n2_
 clear n1_ n2_
 have n1_:=qqm (Kd.C_below HR2.out HD.out);clear HR2;have HR2:=n1_;clear n1_
 have n1_:=qqm (Kd.C_below HR3.out HD.out);clear HR3;have HR3:=n1_;clear n1_
 have n1_:=qqm (Kd.C_below HR4.out HD.out);clear HR4;have HR4:=n1_;clear n1_
 have n1_:=qqm (Kd.C_below HR5.out HD.out);clear HR5;have HR5:=n1_;clear n1_
 have n1_:=qqm (below_step HC.out HD.out);clear HC HD;have HC:=n1_;clear n1_
 have n1_:=qqm (blk_below BKg1.out HC.out);clear BKg1;have BKg1:=n1_;clear n1_
 have n1_:=qqm (below_step HB.out HC.out);clear HB HC;have HB:=n1_;clear n1_
 have zg2_0:W2.cell? ⟨g2,0,none⟩ = some (.int .u16 7):=(qqh BKg2.out 0).trans rfl
 have zg2_1:W2.cell? ⟨g2,1,none⟩ = some (.int .u16 256):=(qqh BKg2.out 1).trans rfl
 have zg2_2:W2.cell? ⟨g2,2,none⟩ = some (.slice A2 qs.length c2):=(qqh BKg2.out 2).trans rfl
 have zg2_3:W2.cell? ⟨g2,3,none⟩ = some (.slice A3 e3.length c3):=(qqh BKg2.out 3).trans rfl
 have zg2_4:W2.cell? ⟨g2,4,none⟩ = some (.slice A4 e4.length c4):=(qqh BKg2.out 4).trans rfl
 have zg2_5:W2.cell? ⟨g2,5,none⟩ = some (.slice A5 ad.length c5):=(qqh BKg2.out 5).trans rfl
 have HC:=qqm (Below.refl W2.heap.size W2)
 go_upto_region 4 with (first|((with_reducible refine gate_callee (f:=11) rfl ?_);refine goesL_ (some 11) rfl rfl Try.func11 (by kernel_rfl) rfl #[.agg #[.int .u16 7,.int .u16 256,.slice A2 qs.length c2,.slice A3 e3.length c3,.slice A4 e4.length c4,.slice A5 ad.length c5]] rfl (by (try simp only [List.map_toArray,List.map_cons,List.map_nil]);first|done|rfl) ?_;(with_reducible refine (query_Ask.calls 400 7 256 A2 c2 qs A3 c3 e3 A4 c4 e4 A5 c5 ad (⟨#[2,101,120,0]⟩:ByteArray) 1 1 true 0 _ (Kd.C_below HR2.out HC.out) HL2.out (Kd.C_below HR3.out HC.out) HL3.out (Kd.C_below HR4.out HC.out) HL4.out (Kd.C_below HR5.out HC.out) HL5.out M2.out).mono ?_);rintro e w4 ⟨rfl,hb⟩;refine ⟨_,rfl,?_⟩;have n1_:=qqm (below_step HC.out hb);clear HC hb zg2_0 zg2_1 zg2_2 zg2_3 zg2_4 zg2_5;have HC:=n1_;clear n1_)|((with_reducible refine gate_dst (N:=3) rfl ?_);refine box_event ?hg (N:=3) ?hd (cs:=#[.string (⟨#[]⟩:ByteArray),.int .u16 0,.int .u16 0,.bool false]) (t:=28) ?hr ?_;(case hd=>rfl);(case hg=>rfl);(case hr=>first|(go_simp;done)|(go_simp;rfl));intro g3 hg w5 hbox hb;have yg3_0:w5.cell? ⟨g3,0,none⟩ = some (.string (⟨#[]⟩:ByteArray)):=(qqh hbox 0).trans rfl;have yg3_1:w5.cell? ⟨g3,1,none⟩ = some (.int .u16 0):=(qqh hbox 1).trans rfl;have yg3_2:w5.cell? ⟨g3,2,none⟩ = some (.int .u16 0):=(qqh hbox 2).trans rfl;have yg3_3:w5.cell? ⟨g3,3,none⟩ = some (.bool false):=(qqh hbox 3).trans rfl;have fg3_0:=qqi hbox 0;have fg3_1:=qqi hbox 1;have fg3_2:=qqi hbox 2;have fg3_3:=qqi hbox 3;have BQ:=qqm hbox;have GE:=qqm (show W2.heap.size ≤ g3 by rw [hg];exact HC.out.size);have n3_:=qqm (below_step HC.out hb);clear hbox hb hg HC;have HC:=n3_;clear n3_))
 (try simp only [Act.put,qqj,qqk,qql])
 have n1_:=qqm (show ((((w5.setCell ⟨g3,0,none⟩ (.string (⟨#[2,101,120,0]⟩:ByteArray))).setCell ⟨g3,1,none⟩ (.int .u16 1)).setCell ⟨g3,2,none⟩ (.int .u16 1)).setCell ⟨g3,3,none⟩ (.bool true)).heap[g3]? = some (.cells #[.string (⟨#[2,101,120,0]⟩:ByteArray),.int .u16 1,.int .u16 1,.bool true] 28 (0,0)) from (blk_put (blk_put (blk_put (blk_put BQ.out 0 _ rfl) 1 _ rfl) 2 _ rfl) 3 _ rfl))
 have n2_:=qqm (show Below W2.heap.size W2 ((((w5.setCell ⟨g3,0,none⟩ (.string (⟨#[2,101,120,0]⟩:ByteArray))).setCell ⟨g3,1,none⟩ (.int .u16 1)).setCell ⟨g3,2,none⟩ (.int .u16 1)).setCell ⟨g3,3,none⟩ (.bool true)) from (qqg (qqg (qqg (qqg HC.out GE.out) GE.out) GE.out) GE.out))
 clear BQ GE HC yg3_0 yg3_1 yg3_2 yg3_3 fg3_0 fg3_1 fg3_2 fg3_3
 generalize ((((w5.setCell ⟨g3,0,none⟩ (.string (⟨#[2,101,120,0]⟩:ByteArray))).setCell ⟨g3,1,none⟩ (.int .u16 1)).setCell ⟨g3,2,none⟩ (.int .u16 1)).setCell ⟨g3,3,none⟩ (.bool true)) = W3 at n1_ n2_ ⊢
 have BKg3:=n1_
 have HC:=n2_
 clear n1_ n2_
 have n1_:=qqm (Kd.C_below HR2.out HC.out);clear HR2;have HR2:=n1_;clear n1_
 have n1_:=qqm (Kd.C_below HR3.out HC.out);clear HR3;have HR3:=n1_;clear n1_
 have n1_:=qqm (Kd.C_below HR4.out HC.out);clear HR4;have HR4:=n1_;clear n1_
 have n1_:=qqm (Kd.C_below HR5.out HC.out);clear HR5;have HR5:=n1_;clear n1_
 have n1_:=qqm (blk_below BKg1.out HC.out);clear BKg1;have BKg1:=n1_;clear n1_
 have n1_:=qqm (blk_below BKg2.out HC.out);clear BKg2;have BKg2:=n1_;clear n1_
 have n1_:=qqm (below_step HB.out HC.out);clear HB HC;have HB:=n1_;clear n1_
 have zg2_0:W3.cell? ⟨g2,0,none⟩ = some (.int .u16 7):=(qqh BKg2.out 0).trans rfl
 have zg2_1:W3.cell? ⟨g2,1,none⟩ = some (.int .u16 256):=(qqh BKg2.out 1).trans rfl
 have zg2_2:W3.cell? ⟨g2,2,none⟩ = some (.slice A2 qs.length c2):=(qqh BKg2.out 2).trans rfl
 have zg2_3:W3.cell? ⟨g2,3,none⟩ = some (.slice A3 e3.length c3):=(qqh BKg2.out 3).trans rfl
 have zg2_4:W3.cell? ⟨g2,4,none⟩ = some (.slice A4 e4.length c4):=(qqh BKg2.out 4).trans rfl
 have zg2_5:W3.cell? ⟨g2,5,none⟩ = some (.slice A5 ad.length c5):=(qqh BKg2.out 5).trans rfl
 have HC:=qqm (Below.refl W3.heap.size W3)
 go_upto_region 5 with (first|((with_reducible refine gate_dst (N:=18) rfl ?_);refine Kd.N_lit k51 W3.heap.size 51 ?hg (N':=18) ?hd (xs:=([(⟨(⟨#[]⟩:ByteArray),1,0,300,([]:List ByteArray),([]:List Int),([]:List ByteArray)⟩:S51),(⟨(⟨#[]⟩:ByteArray),5,0,60,([]:List ByteArray),([]:List Int),([]:List ByteArray)⟩:S51)]:List S51)) (inner:=[.string (⟨#[]⟩:ByteArray),.int .u16 1,.int .u16 0,.int .u32 300,.slice none 0 0,.slice none 0 0,.slice none 0 0,.string (⟨#[]⟩:ByteArray),.int .u16 5,.int .u16 0,.int .u32 60,.slice none 0 0,.slice none 0 0,.slice none 0 0]) (ok:=fun _=>True) (okp:=fun _=>True) ?hr ?hp (fun _ hk=>hk) trivial HC.out HC.out.size (by decide) ?_;rotate_right;(case hg=>rfl);(case hd=>rfl);(case hr=>first|(go_simp;done)|(go_simp;rfl));(case hp=>exact (Reps.c7 (show Kd.FK k51 _ _ (⟨(⟨#[]⟩:ByteArray),1,0,300,([]:List ByteArray),([]:List Int),([]:List ByteArray)⟩:S51) [.string (⟨#[]⟩:ByteArray),.int .u16 1,.int .u16 0,.int .u32 300,.slice none 0 0,.slice none 0 0,.slice none 0 0] from (k51_mkF _ _ (⟨(⟨#[]⟩:ByteArray),1,0,300,([]:List ByteArray),([]:List Int),([]:List ByteArray)⟩:S51) (Nat.le_refl _) (Kd.F_nil _ _ _) (Nat.le_refl _) (Kd.F_nil _ _ _) (Nat.le_refl _) (Kd.F_nil _ _ _))) (Reps.c7 (show Kd.FK k51 _ _ (⟨(⟨#[]⟩:ByteArray),5,0,60,([]:List ByteArray),([]:List Int),([]:List ByteArray)⟩:S51) [.string (⟨#[]⟩:ByteArray),.int .u16 5,.int .u16 0,.int .u32 60,.slice none 0 0,.slice none 0 0,.slice none 0 0] from (k51_mkF _ _ (⟨(⟨#[]⟩:ByteArray),5,0,60,([]:List ByteArray),([]:List Int),([]:List ByteArray)⟩:S51) (Nat.le_refl _) (Kd.F_nil _ _ _) (Nat.le_refl _) (Kd.F_nil _ _ _) (Nat.le_refl _) (Kd.F_nil _ _ _))) (Reps.none _ _))));intro v6 w6 ho hb hg_ hn_;clear hg_ hn_;rw [← YL.out] at ho;obtain ⟨A6,c6,rfl⟩:=Kd.N_slice ho;have HL6:=qqm (Kd.N_reads' ho).2.1;have HR6:=qqm (Kd.N_reads' ho).2.2;have n1_:=qqm hb;have HD:=qqm (Below.refl w6.heap.size w6);clear HC ho hb zg2_0 zg2_1 zg2_2 zg2_3 zg2_4 zg2_5;have HC:=n1_;clear n1_)|((with_reducible refine gate_dst (N:=5) rfl ?_);refine box_event ?hg (N:=5) ?hd (cs:=#[.int .u16 0,.int .u16 0,.slice none 0 0,.slice none 0 0,.slice none 0 0,.slice none 0 0]) (t:=26) ?hr ?_;(case hd=>rfl);(case hg=>rfl);(case hr=>first|(go_simp;done)|(go_simp;rfl));intro g5 hg w7 hbox hb;have yg5_0:w7.cell? ⟨g5,0,none⟩ = some (.int .u16 0):=(qqh hbox 0).trans rfl;have yg5_1:w7.cell? ⟨g5,1,none⟩ = some (.int .u16 0):=(qqh hbox 1).trans rfl;have yg5_2:w7.cell? ⟨g5,2,none⟩ = some (.slice none 0 0):=(qqh hbox 2).trans rfl;have yg5_3:w7.cell? ⟨g5,3,none⟩ = some (.slice none 0 0):=(qqh hbox 3).trans rfl;have yg5_4:w7.cell? ⟨g5,4,none⟩ = some (.slice none 0 0):=(qqh hbox 4).trans rfl;have yg5_5:w7.cell? ⟨g5,5,none⟩ = some (.slice none 0 0):=(qqh hbox 5).trans rfl;have fg5_0:=qqi hbox 0;have fg5_1:=qqi hbox 1;have fg5_2:=qqi hbox 2;have fg5_3:=qqi hbox 3;have fg5_4:=qqi hbox 4;have fg5_5:=qqi hbox 5;have BQ:=qqm hbox;have GE:=qqm (show w6.heap.size ≤ g5 by rw [hg];exact HD.out.size);have n3_:=qqm (below_step HD.out hb);clear hbox hb hg HD;have HD:=n3_;clear n3_))
 (try simp only [Act.put,qqj,qqk,qql])
 have n1_:=qqm (show ((((((w7.setCell ⟨g5,0,none⟩ (.int .u16 7)).setCell ⟨g5,1,none⟩ (.int .u16 32768)).setCell ⟨g5,2,none⟩ (.slice A2 qs.length c2)).setCell ⟨g5,3,none⟩ (.slice A6 ys.length c6)).setCell ⟨g5,4,none⟩ (.slice none 0 0)).setCell ⟨g5,5,none⟩ (.slice none 0 0)).heap[g5]? = some (.cells #[.int .u16 7,.int .u16 32768,.slice A2 qs.length c2,.slice A6 ys.length c6,.slice none 0 0,.slice none 0 0] 26 (0,0)) from (blk_put (blk_put (blk_put (blk_put (blk_put (blk_put BQ.out 0 _ rfl) 1 _ rfl) 2 _ rfl) 3 _ rfl) 4 _ rfl) 5 _ rfl))
 have n2_:=qqm (show Below w6.heap.size w6 ((((((w7.setCell ⟨g5,0,none⟩ (.int .u16 7)).setCell ⟨g5,1,none⟩ (.int .u16 32768)).setCell ⟨g5,2,none⟩ (.slice A2 qs.length c2)).setCell ⟨g5,3,none⟩ (.slice A6 ys.length c6)).setCell ⟨g5,4,none⟩ (.slice none 0 0)).setCell ⟨g5,5,none⟩ (.slice none 0 0)) from (qqg (qqg (qqg (qqg (qqg (qqg HD.out GE.out) GE.out) GE.out) GE.out) GE.out) GE.out))
 clear BQ GE HD yg5_0 yg5_1 yg5_2 yg5_3 yg5_4 yg5_5 fg5_0 fg5_1 fg5_2 fg5_3 fg5_4 fg5_5
 generalize ((((((w7.setCell ⟨g5,0,none⟩ (.int .u16 7)).setCell ⟨g5,1,none⟩ (.int .u16 32768)).setCell ⟨g5,2,none⟩ (.slice A2 qs.length c2)).setCell ⟨g5,3,none⟩ (.slice A6 ys.length c6)).setCell ⟨g5,4,none⟩ (.slice none 0 0)).setCell ⟨g5,5,none⟩ (.slice none 0 0)) = W4 at n1_ n2_ ⊢
 have BKg5:=n1_
 have HD:=n2_
 clear n1_ n2_
 have n1_:=qqm (Kd.C_below HR6.out HD.out);clear HR6;have HR6:=n1_;clear n1_
 have n1_:=qqm (below_step HC.out HD.out);clear HC HD;have HC:=n1_;clear n1_
 have n1_:=qqm (Kd.C_below HR2.out HC.out);clear HR2 HR3 HR4 HR5 HL3 HL4 HL5;have HR2:=n1_;clear n1_
 have n1_:=qqm (blk_below BKg1.out HC.out);clear BKg1;have BKg1:=n1_;clear n1_
 have n1_:=qqm (blk_below BKg2.out HC.out);clear BKg2;have BKg2:=n1_;clear n1_
 have n1_:=qqm (blk_below BKg3.out HC.out);clear BKg3;have BKg3:=n1_;clear n1_
 have n1_:=qqm (below_step HB.out HC.out);clear HB HC;have HB:=n1_;clear n1_
 have zg1_0:W4.cell? ⟨g1,0,none⟩ = some (.string (⟨#[2,101,120,0]⟩:ByteArray)):=(qqh BKg1.out 0).trans rfl
 have zg1_1:W4.cell? ⟨g1,1,none⟩ = some (.int .u16 1):=(qqh BKg1.out 1).trans rfl
 have zg1_2:W4.cell? ⟨g1,2,none⟩ = some (.int .u16 1):=(qqh BKg1.out 2).trans rfl
 have zg1_3:W4.cell? ⟨g1,3,none⟩ = some (.bool true):=(qqh BKg1.out 3).trans rfl
 have zg2_0:W4.cell? ⟨g2,0,none⟩ = some (.int .u16 7):=(qqh BKg2.out 0).trans rfl
 have zg2_1:W4.cell? ⟨g2,1,none⟩ = some (.int .u16 256):=(qqh BKg2.out 1).trans rfl
 have zg2_2:W4.cell? ⟨g2,2,none⟩ = some (.slice A2 qs.length c2):=(qqh BKg2.out 2).trans rfl
 have zg2_3:W4.cell? ⟨g2,3,none⟩ = some (.slice A3 e3.length c3):=(qqh BKg2.out 3).trans rfl
 have zg2_4:W4.cell? ⟨g2,4,none⟩ = some (.slice A4 e4.length c4):=(qqh BKg2.out 4).trans rfl
 have zg2_5:W4.cell? ⟨g2,5,none⟩ = some (.slice A5 ad.length c5):=(qqh BKg2.out 5).trans rfl
 have zg3_0:W4.cell? ⟨g3,0,none⟩ = some (.string (⟨#[2,101,120,0]⟩:ByteArray)):=(qqh BKg3.out 0).trans rfl
 have zg3_1:W4.cell? ⟨g3,1,none⟩ = some (.int .u16 1):=(qqh BKg3.out 1).trans rfl
 have zg3_2:W4.cell? ⟨g3,2,none⟩ = some (.int .u16 1):=(qqh BKg3.out 2).trans rfl
 have zg3_3:W4.cell? ⟨g3,3,none⟩ = some (.bool true):=(qqh BKg3.out 3).trans rfl
 have zg5_0:W4.cell? ⟨g5,0,none⟩ = some (.int .u16 7):=(qqh BKg5.out 0).trans rfl
 have zg5_1:W4.cell? ⟨g5,1,none⟩ = some (.int .u16 32768):=(qqh BKg5.out 1).trans rfl
 have zg5_2:W4.cell? ⟨g5,2,none⟩ = some (.slice A2 qs.length c2):=(qqh BKg5.out 2).trans rfl
 have zg5_3:W4.cell? ⟨g5,3,none⟩ = some (.slice A6 ys.length c6):=(qqh BKg5.out 3).trans rfl
 have zg5_4:W4.cell? ⟨g5,4,none⟩ = some (.slice none 0 0):=(qqh BKg5.out 4).trans rfl
 have zg5_5:W4.cell? ⟨g5,5,none⟩ = some (.slice none 0 0):=(qqh BKg5.out 5).trans rfl
 have HC:=qqm (Below.refl W4.heap.size W4)
 have Q41:Aside0 (∀ W:World,Below W4.heap.size W4 W → Calls Try.prog 16 #[.agg #[.string (⟨#[2,101,120,0]⟩:ByteArray),.int .u16 1,.int .u16 1,.bool true],.int .u16 7,.agg #[.int .u16 7,.int .u16 32768,.slice A2 qs.length c2,.slice A6 ys.length c6,.slice none 0 0,.slice none 0 0]] W fun e w'=>e = .returned (.bool true)∧Below W.heap.size W w'):=⟨fun W HC=>query_Fits.calls 400 (⟨#[2,101,120,0]⟩:ByteArray) 1 1 true 7 7 32768 A2 c2 qs A6 c6 ys none 0 ([]:List S51) none 0 ([]:List S51) true _ (Kd.C_below HR2.out HC) HL2.out (Kd.C_below HR6.out HC) HL6.out (Kd.C_nil _ _) (Nat.le_refl _) (Kd.C_nil _ _) (Nat.le_refl _) M3.out⟩
 have Q46:Aside0 (∀ W:World,Below W4.heap.size W4 W → Calls Try.prog 16 #[.agg #[.string (⟨#[2,101,120,0]⟩:ByteArray),.int .u16 1,.int .u16 1,.bool true],.int .u16 8,.agg #[.int .u16 7,.int .u16 32768,.slice A2 qs.length c2,.slice A6 ys.length c6,.slice none 0 0,.slice none 0 0]] W fun e w'=>e = .returned (.bool false)∧Below W.heap.size W w'):=⟨fun W HC=>query_Fits.calls 400 (⟨#[2,101,120,0]⟩:ByteArray) 1 1 true 8 7 32768 A2 c2 qs A6 c6 ys none 0 ([]:List S51) none 0 ([]:List S51) false _ (Kd.C_below HR2.out HC) HL2.out (Kd.C_below HR6.out HC) HL6.out (Kd.C_nil _ _) (Nat.le_refl _) (Kd.C_nil _ _) (Nat.le_refl _) M4.out⟩
 have Q51:Aside0 (∀ W:World,Below W4.heap.size W4 W → Calls Try.prog 18 #[.agg #[.int .u16 7,.int .u16 32768,.slice A2 qs.length c2,.slice A6 ys.length c6,.slice none 0 0,.slice none 0 0]] W fun e w'=>e = .returned (.bool false)∧Below W.heap.size W w'):=⟨fun W HC=>query_Negative.calls 7 32768 A2 c2 qs A6 c6 ys none 0 ([]:List S51) none 0 ([]:List S51) false _ (Kd.C_below HR2.out HC) HL2.out (Kd.C_below HR6.out HC) HL6.out (Kd.C_nil _ _) (Nat.le_refl _) (Kd.C_nil _ _) (Nat.le_refl _) M5.out⟩
 have Q56:Aside0 (∀ W:World,Below W4.heap.size W4 W → Calls Try.prog 20 #[.agg #[.int .u16 7,.int .u16 32768,.slice A2 qs.length c2,.slice A6 ys.length c6,.slice none 0 0,.slice none 0 0]] W fun e w'=>e = .returned (.int .u32 60)∧Below W.heap.size W w'):=⟨fun W HC=>query_Least.calls 7 32768 A2 c2 qs A6 c6 ys none 0 ([]:List S51) none 0 ([]:List S51) 60 _ (Kd.C_below HR2.out HC) HL2.out (Kd.C_below HR6.out HC) HL6.out (Kd.C_nil _ _) (Nat.le_refl _) (Kd.C_nil _ _) (Nat.le_refl _) M6.out⟩
 have Q61:Aside0 (∀ W:World,Below W4.heap.size W4 W → Calls Try.prog 23 #[.agg #[.int .u16 7,.int .u16 32768,.slice A2 qs.length c2,.slice A6 ys.length c6,.slice none 0 0,.slice none 0 0],.int .u64 100] W fun e w'=>∃ v2_ v3_ v4_ v5_:Value,e = .returned (.agg #[.int .u16 7,.int .u16 32768,v2_,v3_,v4_,v5_])∧Kd.R k53 53 w' W.heap.size (fun _=>True) v2_ qs∧Kd.S k51 51 w' W.heap.size (fun k_=>some k_ ≠ (v4_:Value).ownBlock∧some k_ ≠ (v5_:Value).ownBlock) v3_ zs∧Kd.S k51 51 w' W.heap.size (fun k_=>some k_ ≠ (v3_:Value).ownBlock∧some k_ ≠ (v5_:Value).ownBlock) v4_ ([]:List S51)∧Kd.S k51 51 w' W.heap.size (fun k_=>some k_ ≠ (v3_:Value).ownBlock∧some k_ ≠ (v4_:Value).ownBlock) v5_ ([]:List S51)∧Below W.heap.size W w'):=⟨fun W HC=>query_Age.calls 400 7 32768 A2 c2 qs A6 c6 ys none 0 ([]:List S51) none 0 ([]:List S51) 100 7 32768 qs zs ([]:List S51) ([]:List S51) _ (Kd.C_below HR2.out HC) HL2.out (Kd.C_below HR6.out HC) HL6.out (Kd.C_nil _ _) (Nat.le_refl _) (Kd.C_nil _ _) (Nat.le_refl _) M7.out⟩
 have Q70:Aside0 (∀ W:World,Below W4.heap.size W4 W → Calls Try.prog 24 #[.int .u16 1,.agg #[.int .u16 7,.int .u16 32768,.slice A2 qs.length c2,.slice A6 ys.length c6,.slice none 0 0,.slice none 0 0]] W fun e w'=>∃ v2_ v3_ v4_ v5_:Value,e = .returned (.agg #[.int .u16 1,.int .u16 32898,v2_,v3_,v4_,v5_])∧Kd.R k53 53 w' W.heap.size (fun _=>True) v2_ qs∧Kd.S k51 51 w' W.heap.size (fun k_=>some k_ ≠ (v4_:Value).ownBlock∧some k_ ≠ (v5_:Value).ownBlock) v3_ ([]:List S51)∧Kd.S k51 51 w' W.heap.size (fun k_=>some k_ ≠ (v3_:Value).ownBlock∧some k_ ≠ (v5_:Value).ownBlock) v4_ ([]:List S51)∧Kd.S k51 51 w' W.heap.size (fun k_=>some k_ ≠ (v3_:Value).ownBlock∧some k_ ≠ (v4_:Value).ownBlock) v5_ ([]:List S51)∧Below W.heap.size W w'):=⟨fun W HC=>query_Fail.calls 1 7 32768 A2 c2 qs A6 c6 ys none 0 ([]:List S51) none 0 ([]:List S51) 1 32898 qs ([]:List S51) ([]:List S51) ([]:List S51) _ (Kd.C_below HR2.out HC) HL2.out (Kd.C_below HR6.out HC) HL6.out (Kd.C_nil _ _) (Nat.le_refl _) (Kd.C_nil _ _) (Nat.le_refl _) M8.out⟩
 go_wp2_with (first|(go_at_call 16;(with_reducible refine (Q41.out _ HC.out).mono ?_);rintro e w11 ⟨rfl,hb⟩; have n1_:=qqm (below_step HC.out hb);clear HC hb zg1_0 zg1_1 zg1_2 zg1_3 zg2_0 zg2_1 zg2_2 zg2_3 zg2_4 zg2_5 zg3_0 zg3_1 zg3_2 zg3_3 zg5_0 zg5_1 zg5_2 zg5_3 zg5_4 zg5_5;have HC:=n1_;clear n1_;have zg1_0:w11.cell? ⟨g1,0,none⟩ = some (.string (⟨#[2,101,120,0]⟩:ByteArray)):=(qqh (blk_below BKg1.out HC.out) 0).trans rfl;have zg1_1:w11.cell? ⟨g1,1,none⟩ = some (.int .u16 1):=(qqh (blk_below BKg1.out HC.out) 1).trans rfl;have zg1_2:w11.cell? ⟨g1,2,none⟩ = some (.int .u16 1):=(qqh (blk_below BKg1.out HC.out) 2).trans rfl;have zg1_3:w11.cell? ⟨g1,3,none⟩ = some (.bool true):=(qqh (blk_below BKg1.out HC.out) 3).trans rfl;have zg5_0:w11.cell? ⟨g5,0,none⟩ = some (.int .u16 7):=(qqh (blk_below BKg5.out HC.out) 0).trans rfl;have zg5_1:w11.cell? ⟨g5,1,none⟩ = some (.int .u16 32768):=(qqh (blk_below BKg5.out HC.out) 1).trans rfl;have zg5_2:w11.cell? ⟨g5,2,none⟩ = some (.slice A2 qs.length c2):=(qqh (blk_below BKg5.out HC.out) 2).trans rfl;have zg5_3:w11.cell? ⟨g5,3,none⟩ = some (.slice A6 ys.length c6):=(qqh (blk_below BKg5.out HC.out) 3).trans rfl;have zg5_4:w11.cell? ⟨g5,4,none⟩ = some (.slice none 0 0):=(qqh (blk_below BKg5.out HC.out) 4).trans rfl;have zg5_5:w11.cell? ⟨g5,5,none⟩ = some (.slice none 0 0):=(qqh (blk_below BKg5.out HC.out) 5).trans rfl)|(go_at_call 16;(with_reducible refine (Q46.out _ HC.out).mono ?_);rintro e w12 ⟨rfl,hb⟩; have n1_:=qqm (below_step HC.out hb);clear HC hb zg1_0 zg1_1 zg1_2 zg1_3 zg5_0 zg5_1 zg5_2 zg5_3 zg5_4 zg5_5;have HC:=n1_;clear n1_;have zg1_0:w12.cell? ⟨g1,0,none⟩ = some (.string (⟨#[2,101,120,0]⟩:ByteArray)):=(qqh (blk_below BKg1.out HC.out) 0).trans rfl;have zg1_1:w12.cell? ⟨g1,1,none⟩ = some (.int .u16 1):=(qqh (blk_below BKg1.out HC.out) 1).trans rfl;have zg1_2:w12.cell? ⟨g1,2,none⟩ = some (.int .u16 1):=(qqh (blk_below BKg1.out HC.out) 2).trans rfl;have zg1_3:w12.cell? ⟨g1,3,none⟩ = some (.bool true):=(qqh (blk_below BKg1.out HC.out) 3).trans rfl;have zg5_0:w12.cell? ⟨g5,0,none⟩ = some (.int .u16 7):=(qqh (blk_below BKg5.out HC.out) 0).trans rfl;have zg5_1:w12.cell? ⟨g5,1,none⟩ = some (.int .u16 32768):=(qqh (blk_below BKg5.out HC.out) 1).trans rfl;have zg5_2:w12.cell? ⟨g5,2,none⟩ = some (.slice A2 qs.length c2):=(qqh (blk_below BKg5.out HC.out) 2).trans rfl;have zg5_3:w12.cell? ⟨g5,3,none⟩ = some (.slice A6 ys.length c6):=(qqh (blk_below BKg5.out HC.out) 3).trans rfl;have zg5_4:w12.cell? ⟨g5,4,none⟩ = some (.slice none 0 0):=(qqh (blk_below BKg5.out HC.out) 4).trans rfl;have zg5_5:w12.cell? ⟨g5,5,none⟩ = some (.slice none 0 0):=(qqh (blk_below BKg5.out HC.out) 5).trans rfl)|(go_at_call 18;(with_reducible refine (Q51.out _ HC.out).mono ?_);rintro e w13 ⟨rfl,hb⟩; have n1_:=qqm (below_step HC.out hb);clear HC hb zg1_0 zg1_1 zg1_2 zg1_3 zg5_0 zg5_1 zg5_2 zg5_3 zg5_4 zg5_5;have HC:=n1_;clear n1_;have zg1_0:w13.cell? ⟨g1,0,none⟩ = some (.string (⟨#[2,101,120,0]⟩:ByteArray)):=(qqh (blk_below BKg1.out HC.out) 0).trans rfl;have zg1_1:w13.cell? ⟨g1,1,none⟩ = some (.int .u16 1):=(qqh (blk_below BKg1.out HC.out) 1).trans rfl;have zg1_2:w13.cell? ⟨g1,2,none⟩ = some (.int .u16 1):=(qqh (blk_below BKg1.out HC.out) 2).trans rfl;have zg1_3:w13.cell? ⟨g1,3,none⟩ = some (.bool true):=(qqh (blk_below BKg1.out HC.out) 3).trans rfl;have zg5_0:w13.cell? ⟨g5,0,none⟩ = some (.int .u16 7):=(qqh (blk_below BKg5.out HC.out) 0).trans rfl;have zg5_1:w13.cell? ⟨g5,1,none⟩ = some (.int .u16 32768):=(qqh (blk_below BKg5.out HC.out) 1).trans rfl;have zg5_2:w13.cell? ⟨g5,2,none⟩ = some (.slice A2 qs.length c2):=(qqh (blk_below BKg5.out HC.out) 2).trans rfl;have zg5_3:w13.cell? ⟨g5,3,none⟩ = some (.slice A6 ys.length c6):=(qqh (blk_below BKg5.out HC.out) 3).trans rfl;have zg5_4:w13.cell? ⟨g5,4,none⟩ = some (.slice none 0 0):=(qqh (blk_below BKg5.out HC.out) 4).trans rfl;have zg5_5:w13.cell? ⟨g5,5,none⟩ = some (.slice none 0 0):=(qqh (blk_below BKg5.out HC.out) 5).trans rfl)|(go_at_call 20;(with_reducible refine (Q56.out _ HC.out).mono ?_);rintro e w14 ⟨rfl,hb⟩; have n1_:=qqm (below_step HC.out hb);clear HC hb zg1_0 zg1_1 zg1_2 zg1_3 zg5_0 zg5_1 zg5_2 zg5_3 zg5_4 zg5_5;have HC:=n1_;clear n1_;have zg1_0:w14.cell? ⟨g1,0,none⟩ = some (.string (⟨#[2,101,120,0]⟩:ByteArray)):=(qqh (blk_below BKg1.out HC.out) 0).trans rfl;have zg1_1:w14.cell? ⟨g1,1,none⟩ = some (.int .u16 1):=(qqh (blk_below BKg1.out HC.out) 1).trans rfl;have zg1_2:w14.cell? ⟨g1,2,none⟩ = some (.int .u16 1):=(qqh (blk_below BKg1.out HC.out) 2).trans rfl;have zg1_3:w14.cell? ⟨g1,3,none⟩ = some (.bool true):=(qqh (blk_below BKg1.out HC.out) 3).trans rfl;have zg5_0:w14.cell? ⟨g5,0,none⟩ = some (.int .u16 7):=(qqh (blk_below BKg5.out HC.out) 0).trans rfl;have zg5_1:w14.cell? ⟨g5,1,none⟩ = some (.int .u16 32768):=(qqh (blk_below BKg5.out HC.out) 1).trans rfl;have zg5_2:w14.cell? ⟨g5,2,none⟩ = some (.slice A2 qs.length c2):=(qqh (blk_below BKg5.out HC.out) 2).trans rfl;have zg5_3:w14.cell? ⟨g5,3,none⟩ = some (.slice A6 ys.length c6):=(qqh (blk_below BKg5.out HC.out) 3).trans rfl;have zg5_4:w14.cell? ⟨g5,4,none⟩ = some (.slice none 0 0):=(qqh (blk_below BKg5.out HC.out) 4).trans rfl;have zg5_5:w14.cell? ⟨g5,5,none⟩ = some (.slice none 0 0):=(qqh (blk_below BKg5.out HC.out) 5).trans rfl)|(go_at_call 23;(with_reducible refine (Q61.out _ HC.out).mono ?_);rintro e w15 ⟨v2,v3,v4,v5,rfl,ho2,ho3,ho4,ho5,hb⟩; have n1_:=qqm (below_step HC.out hb);clear HC hb zg1_0 zg1_1 zg1_2 zg1_3 zg5_0 zg5_1 zg5_2 zg5_3 zg5_4 zg5_5;have HC:=n1_;clear n1_;have zg1_0:w15.cell? ⟨g1,0,none⟩ = some (.string (⟨#[2,101,120,0]⟩:ByteArray)):=(qqh (blk_below BKg1.out HC.out) 0).trans rfl;have zg1_1:w15.cell? ⟨g1,1,none⟩ = some (.int .u16 1):=(qqh (blk_below BKg1.out HC.out) 1).trans rfl;have zg1_2:w15.cell? ⟨g1,2,none⟩ = some (.int .u16 1):=(qqh (blk_below BKg1.out HC.out) 2).trans rfl;have zg1_3:w15.cell? ⟨g1,3,none⟩ = some (.bool true):=(qqh (blk_below BKg1.out HC.out) 3).trans rfl;have zg5_0:w15.cell? ⟨g5,0,none⟩ = some (.int .u16 7):=(qqh (blk_below BKg5.out HC.out) 0).trans rfl;have zg5_1:w15.cell? ⟨g5,1,none⟩ = some (.int .u16 32768):=(qqh (blk_below BKg5.out HC.out) 1).trans rfl;have zg5_2:w15.cell? ⟨g5,2,none⟩ = some (.slice A2 qs.length c2):=(qqh (blk_below BKg5.out HC.out) 2).trans rfl;have zg5_3:w15.cell? ⟨g5,3,none⟩ = some (.slice A6 ys.length c6):=(qqh (blk_below BKg5.out HC.out) 3).trans rfl;have zg5_4:w15.cell? ⟨g5,4,none⟩ = some (.slice none 0 0):=(qqh (blk_below BKg5.out HC.out) 4).trans rfl;have zg5_5:w15.cell? ⟨g5,5,none⟩ = some (.slice none 0 0):=(qqh (blk_below BKg5.out HC.out) 5).trans rfl;obtain ⟨A7,c7,rfl⟩:=Kd.S_slice ho3;have HR7:=qqm (Kd.N_reads' (Kd.S_N ho3)).2.2;clear ho2 ho3 ho4 ho5;obtain ⟨ad7,_,_,_,_,_,_,e7,_,_,_,hx3,_⟩:=at_T51 HR7.out (0:Int) (by decide) (by have:=ZN.out;omega);subst e7;rw [ZR.out] at hx3;replace hx3:w15.cell? ⟨ad7.block,ad7.off + 3,none⟩ = some (.int .u32 200):=hx3;have zl:(0 < zs.length) = True:=eq_true ZN.out;have zl2:decide (0 < zs.length) = true:=decide_eq_true ZN.out)|(go_at_call 24;(with_reducible refine (Q70.out _ HC.out).mono ?_);rintro e w16 ⟨v2,v3,v4,v5,rfl,ho2,ho3,ho4,ho5,hb⟩; clear ho2 ho3 ho4 ho5;have n1_:=qqm (below_step HC.out hb);clear HC hb zg1_0 zg1_1 zg1_2 zg1_3 zg5_0 zg5_1 zg5_2 zg5_3 zg5_4 zg5_5;have HC:=n1_;clear n1_;have zg1_0:w16.cell? ⟨g1,0,none⟩ = some (.string (⟨#[2,101,120,0]⟩:ByteArray)):=(qqh (blk_below BKg1.out HC.out) 0).trans rfl;have zg1_1:w16.cell? ⟨g1,1,none⟩ = some (.int .u16 1):=(qqh (blk_below BKg1.out HC.out) 1).trans rfl;have zg1_2:w16.cell? ⟨g1,2,none⟩ = some (.int .u16 1):=(qqh (blk_below BKg1.out HC.out) 2).trans rfl;have zg1_3:w16.cell? ⟨g1,3,none⟩ = some (.bool true):=(qqh (blk_below BKg1.out HC.out) 3).trans rfl;have zg5_0:w16.cell? ⟨g5,0,none⟩ = some (.int .u16 7):=(qqh (blk_below BKg5.out HC.out) 0).trans rfl;have zg5_1:w16.cell? ⟨g5,1,none⟩ = some (.int .u16 32768):=(qqh (blk_below BKg5.out HC.out) 1).trans rfl;have zg5_2:w16.cell? ⟨g5,2,none⟩ = some (.slice A2 qs.length c2):=(qqh (blk_below BKg5.out HC.out) 2).trans rfl;have zg5_3:w16.cell? ⟨g5,3,none⟩ = some (.slice A6 ys.length c6):=(qqh (blk_below BKg5.out HC.out) 3).trans rfl;have zg5_4:w16.cell? ⟨g5,4,none⟩ = some (.slice none 0 0):=(qqh (blk_below BKg5.out HC.out) 4).trans rfl;have zg5_5:w16.cell? ⟨g5,5,none⟩ = some (.slice none 0 0):=(qqh (blk_below BKg5.out HC.out) 5).trans rfl))
 go_ret
 exact ⟨rfl,below_step HB.out HC.out⟩

end Go.Proofs.Ythkdfnbhlinhiaa.Mine
