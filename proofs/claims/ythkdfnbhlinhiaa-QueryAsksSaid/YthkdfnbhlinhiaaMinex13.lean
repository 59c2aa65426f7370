-- Written by this repo's own printer (wip/print), which builds on the kit's.
import Derived.Test.YthkdfnbhlinhiaaMinex0
import Derived.Test.YthkdfnbhlinhiaaMinex12
namespace Go.Proofs.Ythkdfnbhlinhiaa.Mine
open Go.RowKit Go.Proofs.YthkdfnbhlinhiaaW.PrintWords Go.Proofs.YthkdfnbhlinhiaaW.PrintLast Go.Proofs.YthkdfnbhlinhiaaW.PrintMore
attribute [local go_sem] max2_int min2_int max_two min_two max_three min_three max_four min_four   -- for this text's walks alone
set_option linter.unusedVariables false
set_option linter.unusedSimpArgs false

/-! ### rdata_Copy: function 56 -/
def rdata_Copy.f (a0_0 : ByteArray) (a0_1 : Int) (a0_2 : Int) (a0_3 : Int) (l0_4 : List ByteArray) (l0_5 : List Int) (l0_6 : List ByteArray) : Option (ByteArray × Int × Int × Int × List ByteArray × List Int × List ByteArray) := (slices_Clone_string_string.f l0_4).bind fun t156 => ((slices_Clone_uint32_uint32.f l0_5).bind fun t159 => ((slices_Clone_string_string.f l0_6).bind fun t162 => (some (a0_0, a0_1, a0_2, a0_3, t156, t159, t162))))
def rdata_Copy.T1 : Bool × List (List Nat × List Nat) := (true, [([], []), ([0], [0]), ([1], [1]), ([], []), ([3], [3]), ([4, 2], [4]), ([], []), ([6], [6]), ([7, 5], [7]), ([0, 1, 2, 3, 4, 6, 7], []), ([9, 2, 8, 0, 1, 2, 3, 4, 6, 7], [2, 9]), ([0, 1, 2, 3, 4, 5, 6, 7, 9, 10], []), ([11, 5, 10, 0, 1, 2, 3, 4, 5, 6, 7, 9, 10], [5, 11]), ([0, 1, 2, 3, 4, 5, 6, 7, 8, 9, 10, 11, 12], []), ([13, 8, 12, 0, 1, 2, 3, 4, 5, 6, 7, 8, 9, 10, 11, 12], [8, 13])])
def rdata_Copy.B1 : List Nat := [0, 1, 3, 0, 8, 31, 0, 64, 255, 223, 1023, 2047, 4095, 8191, 16383]
theorem rdata_Copy.tab1 : rtab .any (opsOf Try.f56 1) = rdata_Copy.T1 := by kernel_rfl
theorem rdata_Copy.bits1 : waitsOk rdata_Copy.T1.2 rdata_Copy.B1 = true := by kernel_rfl
set_option maxHeartbeats 8000000 in
set_option maxRecDepth 100000 in
theorem rdata_Copy.calls (a0_0 : ByteArray) (a0_1 : Int) (a0_2 : Int) (a0_3 : Int) (A0_4 : Option Addr) (c0_4 : Nat) (l0_4 : List ByteArray) (A0_5 : Option Addr) (c0_5 : Nat) (l0_5 : List Int) (A0_6 : Option Addr) (c0_6 : Nat) (l0_6 : List ByteArray) (r1 : ByteArray) (r2 : Int) (r3 : Int) (r4 : Int) (r5 : List ByteArray) (r6 : List Int) (r7 : List ByteArray) (w : World) (hr0_4 : Kd.C Kd.string w A0_4 l0_4.length l0_4) (hc0_4 : l0_4.length ≤ c0_4) (hr0_5 : Kd.C (Kd.int .u32) w A0_5 l0_5.length l0_5) (hc0_5 : l0_5.length ≤ c0_5) (hr0_6 : Kd.C Kd.string w A0_6 l0_6.length l0_6) (hc0_6 : l0_6.length ≤ c0_6) (h : rdata_Copy.f a0_0 a0_1 a0_2 a0_3 l0_4 l0_5 l0_6 = some (r1, r2, r3, r4, r5, r6, r7)) :
  Calls Try.prog 56 #[.agg #[.string a0_0,.int .u16 a0_1,.int .u16 a0_2,.int .u32 a0_3,.slice A0_4 l0_4.length c0_4,.slice A0_5 l0_5.length c0_5,.slice A0_6 l0_6.length c0_6]] w fun e w'=>∃ v4_ v5_ v6_:Value,e = .returned (.agg #[.string r1,.int .u16 r2,.int .u16 r3,.int .u32 r4,v4_,v5_,v6_])∧Kd.R Kd.string 9 w' w.heap.size (fun k_=>some k_ ≠ (v6_:Value).ownBlock) v4_ r5∧Kd.R (Kd.int .u32) 40 w' w.heap.size (fun _=>True) v5_ r6∧Kd.R Kd.string 9 w' w.heap.size (fun k_=>some k_ ≠ (v4_:Value).ownBlock) v6_ r7∧Below w.heap.size w w':=by
 have hu51:=Try.underlying51
 have HR0_4:=qqm hr0_4
 have HC0_4:=qqm hc0_4
 clear hr0_4 hc0_4
 have HR0_5:=qqm hr0_5
 have HC0_5:=qqm hc0_5
 clear hr0_5 hc0_5
 have HR0_6:=qqm hr0_6
 have HC0_6:=qqm hc0_6
 clear hr0_6 hc0_6
 have HB:=qqm (Below.refl w.heap.size w)
 have H:((slices_Clone_string_string.f l0_4).bind fun t156=>((slices_Clone_uint32_uint32.f l0_5).bind fun t159=>((slices_Clone_string_string.f l0_6).bind fun t162=>(some (a0_0,a0_1,a0_2,a0_3,t156,t159,t162))))) = some (r1,r2,r3,r4,r5,r6,r7):=h
 clear h
 replace H:=Option.bind_eq_some_iff.mp H
 obtain ⟨t156,A20,H⟩:=H
 replace H:((slices_Clone_uint32_uint32.f l0_5).bind fun t159=>((slices_Clone_string_string.f l0_6).bind fun t162=>(some (a0_0,a0_1,a0_2,a0_3,t156,t159,t162)))) = some (r1,r2,r3,r4,r5,r6,r7):=H
 have A2:=qqm A20
 clear A20
 replace H:=Option.bind_eq_some_iff.mp H
 obtain ⟨t159,A30,H⟩:=H
 replace H:((slices_Clone_string_string.f l0_6).bind fun t162=>(some (a0_0,a0_1,a0_2,a0_3,t156,t159,t162))) = some (r1,r2,r3,r4,r5,r6,r7):=H
 have A3:=qqm A30
 clear A30
 replace H:=Option.bind_eq_some_iff.mp H
 obtain ⟨t162,A40,H⟩:=H
 replace H:(some (a0_0,a0_1,a0_2,a0_3,t156,t159,t162)) = some (r1,r2,r3,r4,r5,r6,r7):=H
 have A4:=qqm A40
 clear A40
 simp only [Option.some.injEq,Prod.mk.injEq] at H
 obtain ⟨rfl,rfl,rfl,rfl,rfl,rfl,rfl⟩:=H
 go_enter Try.func56,Try.ntmps56
 try go_wp2_with (first|((with_reducible refine gate_dst (N:=1) rfl ?_);refine box_event ?hg (N:=1) ?hd (cs:=#[.string a0_0,.int .u16 a0_1,.int .u16 a0_2,.int .u32 a0_3,.slice A0_4 l0_4.length c0_4,.slice A0_5 l0_5.length c0_5,.slice A0_6 l0_6.length c0_6]) (t:=51) ?hr ?_;(case hd=>rfl);(case hg=>rfl);(case hr=>first|(go_simp;done)|(go_simp;rfl));intro gb154 hg w5 hbox hb;have n0_:=qqm (below_step (by with_reducible repeat first|exact HB.out|apply qqf|apply qqd|apply qqe) hb);have n1_:=qqm (hbox);have n2_:=qqm ((by rw [hg];exact (below_size (by with_reducible repeat first|exact HB.out|apply qqf|apply qqd|apply qqe)):w.heap.size ≤ gb154));have n3_:=n2_;clear HB;have HB:=n0_;have BK154:=n1_;have GW154:=n2_;have GE154:=n3_;clear n0_ n1_ n2_ n3_ hb hbox hg)|((with_reducible refine gate_dst (N:=2) rfl ?_);refine box_event ?hg (N:=2) ?hd (cs:=#[.string (⟨#[]⟩:ByteArray),.int .u16 0,.int .u16 0,.int .u32 0,.slice none 0 0,.slice none 0 0,.slice none 0 0]) (t:=51) ?hr ?_;(case hd=>rfl);(case hg=>rfl);(case hr=>first|(go_simp;done)|(go_simp;rfl));intro gb155 hg w6 hbox hb;have n0_:=qqm (blk_below (g:=gb154) (o:=.cells #[.string a0_0,.int .u16 a0_1,.int .u16 a0_2,.int .u32 a0_3,.slice A0_4 l0_4.length c0_4,.slice A0_5 l0_5.length c0_5,.slice A0_6 l0_6.length c0_6] 51 (0,0)) (by (with_reducible repeat first|apply qqa|apply qqb|apply qqc);exact BK154.out) hb);have n1_:=qqm (below_step (by with_reducible repeat first|exact HB.out|apply qqf|apply qqd|apply qqe|refine qqg ?_ GE154.out) hb);have n2_:=qqm (hbox);have n3_:=qqm ((by rw [hg];exact (below_size (by with_reducible repeat first|exact HB.out|apply qqf|apply qqd|apply qqe|refine qqg ?_ GE154.out)):w.heap.size ≤ gb155));have n4_:=n3_;have n5_:=qqm ((by rw [hg];exact Nat.ne_of_lt (blk_lt (by (with_reducible repeat first|apply qqa|apply qqb|apply qqc);exact BK154.out)):gb154 ≠ gb155));have n6_:=qqm (Ne.symm n5_.out);clear BK154 HB;have BK154:=n0_;have HB:=n1_;have BK155:=n2_;have GW155:=n3_;have GE155:=n4_;have NB154_155:=n5_;have NB155_154:=n6_;clear n0_ n1_ n2_ n3_ n4_ n5_ n6_ hb hbox hg))
 have n0_:=qqm (qqb BK154.out)
 have n1_:=qqm (qqb BK155.out)
 have n2_:=qqm (qqe HB.out)
 clear BK154
 clear BK155
 clear HB
 have BK154:=n0_
 have BK155:=n1_
 have HB:=n2_
 clear n0_ n1_ n2_
 refine start_ (n:=15) (S:=fun w'=>w'.cell? ⟨gb154,0,none⟩ = some (.string a0_0)∧w'.cell? ⟨gb154,1,none⟩ = some (.int .u16 a0_1)∧w'.cell? ⟨gb154,2,none⟩ = some (.int .u16 a0_2)∧w'.cell? ⟨gb154,3,none⟩ = some (.int .u32 a0_3)∧w'.cell? ⟨gb154,4,none⟩ = some (.slice A0_4 l0_4.length c0_4)∧w'.cell? ⟨gb154,5,none⟩ = some (.slice A0_5 l0_5.length c0_5)∧w'.cell? ⟨gb154,6,none⟩ = some (.slice A0_6 l0_6.length c0_6)) (ds:=[10,12,14]) (qqz 15 0) (by kernel_rfl) rfl rfl ⟨(qqh BK154.out 0).trans rfl,(qqh BK154.out 1).trans rfl,(qqh BK154.out 2).trans rfl,(qqh BK154.out 3).trans rfl,(qqh BK154.out 4).trans rfl,(qqh BK154.out 5).trans rfl,(qqh BK154.out 6).trans rfl⟩ (fun hHeld=>?_);refine with_tabW rdata_Copy.tab1 rdata_Copy.bits1 (fun HT_ HW_=>?_)
 generalize w6.drew = w7 at BK154 BK155 HB hHeld ⊢
 refine pure_ (i:=0) (N:=some 3) (qqz 15 1) rfl rfl (any_of HT_.out (by kernel_rfl)) (fun _ _ _ h=>h) (Or.inl ⟨by rfl,by intro w';go_simp;with_reducible rfl⟩) (by simp only [Act.put,qqj,qqk,qql,i64_w,i32_w];rfl) ?_
 refine pure_ (i:=3) (N:=some 6) (qqz 15 9) rfl rfl (any_of HT_.out (by kernel_rfl)) (fun _ _ _ h=>h) (Or.inl ⟨by rfl,by intro w';go_simp;with_reducible rfl⟩) (by simp only [Act.put,qqj,qqk,qql,i64_w,i32_w];rfl) ?_
 refine pure_ (i:=6) (N:=some 9) (qqz 15 73) rfl rfl (any_of HT_.out (by kernel_rfl)) (fun _ _ _ h=>h) (Or.inl ⟨by rfl,by intro w';go_simp;with_reducible rfl⟩) (by simp only [Act.put,qqj,qqk,qql,i64_w,i32_w];rfl) ?_
 refine take_ (i:=1) (N:=some 4) (qqz 15 75) rfl rfl (take_ofW HT_.out HW_.out (by kernel_rfl)) (fun _ _ _ h=>h) (Or.inl ⟨by rfl,by rintro w' ⟨s0,s1,s2,s3,s4,s5,s6⟩;go_simp;with_reducible rfl⟩) hHeld (by simp only [Act.put,qqj,qqk,qql,i64_w,i32_w];rfl) ?_
 refine take_ (i:=4) (N:=some 7) (qqz 15 91) rfl rfl (take_ofW HT_.out HW_.out (by kernel_rfl)) (fun _ _ _ h=>h) (Or.inl ⟨by rfl,by rintro w' ⟨s0,s1,s2,s3,s4,s5,s6⟩;go_simp;with_reducible rfl⟩) hHeld (by simp only [Act.put,qqj,qqk,qql,i64_w,i32_w];rfl) ?_
 refine take_ (i:=7) (N:=some 10) (qqz 15 219) rfl rfl (take_ofW HT_.out HW_.out (by kernel_rfl)) (fun _ _ _ h=>h) (Or.inl ⟨by rfl,by rintro w' ⟨s0,s1,s2,s3,s4,s5,s6⟩;go_simp;with_reducible rfl⟩) hHeld (by simp only [Act.put,qqj,qqk,qql,i64_w,i32_w];rfl) ?_
 refine one_ (i:=2) (N:=some 5) (qqz 15 223) rfl rfl (one_of HT_.out (by kernel_rfl)) (by decide) (fun K hK=>?_)
 refine goes_ Try.func62 (by kernel_rfl) rfl #[.slice A0_4 l0_4.length c0_4] (by rfl) rfl rfl (by (try simp only [List.map_toArray,List.map_cons,List.map_nil]);first|done|rfl|(simp only [List.length_drop,List.length_take];rfl)) ?_
 with_reducible refine (slices_Clone_string_string.calls _ _ l0_4 t156 _ ?side1 ?side2 A2.out).mono ?_
 (case side1=>repeat (first|exact (Kd.C_below HR0_4.out HB.out)|(with_reducible first|apply Kd.C_alloc|apply Kd.C_drewN|apply Kd.C_drew)))
 (case side2=>exact HC0_4.out)
 rintro e w8 ⟨v157,rfl,ho0,hb⟩
 refine ⟨_,rfl,?_⟩
 have n0_:=qqm (Kd.R_lower ho0 (below_size (by with_reducible repeat first|exact HB.out|apply qqf|apply qqd|apply qqe|refine qqg ?_ GE154.out|refine qqg ?_ GE155.out)))
 have n1_:=qqm (blk_below (g:=gb154) (o:=.cells #[.string a0_0,.int .u16 a0_1,.int .u16 a0_2,.int .u32 a0_3,.slice A0_4 l0_4.length c0_4,.slice A0_5 l0_5.length c0_5,.slice A0_6 l0_6.length c0_6] 51 (0,0)) (by (with_reducible repeat first|apply qqa|apply qqb|apply qqc);exact BK154.out) hb)
 have n2_:=qqm (blk_below (g:=gb155) (o:=.cells #[.string (⟨#[]⟩:ByteArray),.int .u16 0,.int .u16 0,.int .u32 0,.slice none 0 0,.slice none 0 0,.slice none 0 0] 51 (0,0)) (by (with_reducible repeat first|apply qqa|apply qqb|apply qqc);exact BK155.out) hb)
 have n3_:=qqm (below_step (by with_reducible repeat first|exact HB.out|apply qqf|apply qqd|apply qqe|refine qqg ?_ GE154.out|refine qqg ?_ GE155.out) hb)
 clear BK154
 clear BK155
 clear HB
 have HO158:=n0_
 have BK154:=n1_
 have BK155:=n2_
 have HB:=n3_
 clear n0_ n1_ n2_ n3_
 (try clear hb)
 (try clear hb2)
 (try clear hk)
 (try clear hi)
 (try clear ho0)
 refine hK.out _ _ ⟨(qqh BK154.out 0).trans rfl,(qqh BK154.out 1).trans rfl,(qqh BK154.out 2).trans rfl,(qqh BK154.out 3).trans rfl,(qqh BK154.out 4).trans rfl,(qqh BK154.out 5).trans rfl,(qqh BK154.out 6).trans rfl⟩ (fun hHeld=>?_)
 clear hK K
 refine norm_ (a':=?_) ?_ ?_
 rotate_left
 ·
  show Act.put _ (some 5) _ = _
  simp only [Act.put,qqj,qqk,qql,i64_w,i32_w]
  rfl
 refine pure_ (i:=9) (N:=some 12) (qqz 15 735) rfl rfl (any_of HT_.out (by kernel_rfl)) (fun _ _ _ h=>h) (Or.inl ⟨by rfl,by intro w';go_simp;with_reducible rfl⟩) (by simp only [Act.put,qqj,qqk,qql,i64_w,i32_w];rfl) ?_
 refine one_ (i:=5) (N:=some 8) (qqz 15 767) rfl rfl (one_of HT_.out (by kernel_rfl)) (by decide) (fun K hK=>?_)
 refine goes_ Try.func63 (by kernel_rfl) rfl #[.slice A0_5 l0_5.length c0_5] (by rfl) rfl rfl (by (try simp only [List.map_toArray,List.map_cons,List.map_nil]);first|done|rfl|(simp only [List.length_drop,List.length_take];rfl)) ?_
 with_reducible refine (slices_Clone_uint32_uint32.calls _ _ l0_5 t159 _ ?side1 ?side2 A3.out).mono ?_
 (case side1=>repeat (first|exact (Kd.C_below HR0_5.out HB.out)|(with_reducible first|apply Kd.C_alloc|apply Kd.C_drewN|apply Kd.C_drew)))
 (case side2=>exact HC0_5.out)
 rintro e w9 ⟨v160,rfl,ho0,hb⟩
 refine ⟨_,rfl,?_⟩
 have n0_:=qqm (Kd.R_below (by (with_reducible repeat (first|apply Kd.R_alloc|apply Kd.R_drewN|apply Kd.R_drew));exact HO158.out) hb)
 have n1_:=qqm (Kd.R_lower ho0 (below_size (by with_reducible repeat first|exact HB.out|apply qqf|apply qqd|apply qqe|refine qqg ?_ GE154.out|refine qqg ?_ GE155.out)))
 have n2_:=qqm (blk_below (g:=gb154) (o:=.cells #[.string a0_0,.int .u16 a0_1,.int .u16 a0_2,.int .u32 a0_3,.slice A0_4 l0_4.length c0_4,.slice A0_5 l0_5.length c0_5,.slice A0_6 l0_6.length c0_6] 51 (0,0)) (by (with_reducible repeat first|apply qqa|apply qqb|apply qqc);exact BK154.out) hb)
 have n3_:=qqm (blk_below (g:=gb155) (o:=.cells #[.string (⟨#[]⟩:ByteArray),.int .u16 0,.int .u16 0,.int .u32 0,.slice none 0 0,.slice none 0 0,.slice none 0 0] 51 (0,0)) (by (with_reducible repeat first|apply qqa|apply qqb|apply qqc);exact BK155.out) hb)
 have n4_:=qqm (below_step (by with_reducible repeat first|exact HB.out|apply qqf|apply qqd|apply qqe|refine qqg ?_ GE154.out|refine qqg ?_ GE155.out) hb)
 clear HO158
 clear BK154
 clear BK155
 clear HB
 have HO158:=n0_
 have HO161:=n1_
 have BK154:=n2_
 have BK155:=n3_
 have HB:=n4_
 clear n0_ n1_ n2_ n3_ n4_
 (try clear hb)
 (try clear hb2)
 (try clear hk)
 (try clear hi)
 (try clear ho0)
 refine hK.out _ _ ⟨(qqh BK154.out 0).trans rfl,(qqh BK154.out 1).trans rfl,(qqh BK154.out 2).trans rfl,(qqh BK154.out 3).trans rfl,(qqh BK154.out 4).trans rfl,(qqh BK154.out 5).trans rfl,(qqh BK154.out 6).trans rfl⟩ (fun hHeld=>?_)
 clear hK K
 refine norm_ (a':=?_) ?_ ?_
 rotate_left
 ·
  show Act.put _ (some 8) _ = _
  simp only [Act.put,qqj,qqk,qql,i64_w,i32_w]
  rfl
 refine one_ (i:=8) (N:=some 11) (qqz 15 1023) rfl rfl (one_of HT_.out (by kernel_rfl)) (by decide) (fun K hK=>?_)
 refine goes_ Try.func62 (by kernel_rfl) rfl #[.slice A0_6 l0_6.length c0_6] (by rfl) rfl rfl (by (try simp only [List.map_toArray,List.map_cons,List.map_nil]);first|done|rfl|(simp only [List.length_drop,List.length_take];rfl)) ?_
 with_reducible refine (slices_Clone_string_string.calls _ _ l0_6 t162 _ ?side1 ?side2 A4.out).mono ?_
 (case side1=>repeat (first|exact (Kd.C_below HR0_6.out HB.out)|(with_reducible first|apply Kd.C_alloc|apply Kd.C_drewN|apply Kd.C_drew)))
 (case side2=>exact HC0_6.out)
 rintro e w10 ⟨v163,rfl,ho0,hb⟩
 refine ⟨_,rfl,?_⟩
 have n0_:=qqm (Kd.R_elder' (by (with_reducible repeat (first|apply Kd.R_alloc|apply Kd.R_drewN|apply Kd.R_drew));exact HO158.out) (Kd.R_base ho0) hb)
 have n1_:=qqm (Kd.R_below (by (with_reducible repeat (first|apply Kd.R_alloc|apply Kd.R_drewN|apply Kd.R_drew));exact HO161.out) hb)
 have n2_:=qqm (Kd.R_lower (Kd.R_new' ho0 (Kd.R_lt (by (with_reducible repeat (first|apply Kd.R_alloc|apply Kd.R_drewN|apply Kd.R_drew));exact HO158.out))) (below_size (by with_reducible repeat first|exact HB.out|apply qqf|apply qqd|apply qqe|refine qqg ?_ GE154.out|refine qqg ?_ GE155.out)))
 have n3_:=qqm (blk_below (g:=gb154) (o:=.cells #[.string a0_0,.int .u16 a0_1,.int .u16 a0_2,.int .u32 a0_3,.slice A0_4 l0_4.length c0_4,.slice A0_5 l0_5.length c0_5,.slice A0_6 l0_6.length c0_6] 51 (0,0)) (by (with_reducible repeat first|apply qqa|apply qqb|apply qqc);exact BK154.out) hb)
 have n4_:=qqm (blk_below (g:=gb155) (o:=.cells #[.string (⟨#[]⟩:ByteArray),.int .u16 0,.int .u16 0,.int .u32 0,.slice none 0 0,.slice none 0 0,.slice none 0 0] 51 (0,0)) (by (with_reducible repeat first|apply qqa|apply qqb|apply qqc);exact BK155.out) hb)
 have n5_:=qqm (below_step (by with_reducible repeat first|exact HB.out|apply qqf|apply qqd|apply qqe|refine qqg ?_ GE154.out|refine qqg ?_ GE155.out) hb)
 clear HO158
 clear HO161
 clear BK154
 clear BK155
 clear HB
 have HO158:=n0_
 have HO161:=n1_
 have HO164:=n2_
 have BK154:=n3_
 have BK155:=n4_
 have HB:=n5_
 clear n0_ n1_ n2_ n3_ n4_ n5_
 (try clear hb)
 (try clear hb2)
 (try clear hk)
 (try clear hi)
 (try clear ho0)
 obtain ⟨Ao11,co11,eo11⟩:=Kd.R_slice HO158.out
 (first|subst eo11|(injection eo11 with f1_ f2_ f3_;have f4_:=f1_.symm;have f5_:=f3_.symm;clear f1_ f2_ f3_;subst f4_;subst f5_))
 obtain ⟨Ao13,co13,eo13⟩:=Kd.R_slice HO161.out
 (first|subst eo13|(injection eo13 with f1_ f2_ f3_;have f4_:=f1_.symm;have f5_:=f3_.symm;clear f1_ f2_ f3_;subst f4_;subst f5_))
 obtain ⟨Ao15,co15,eo15⟩:=Kd.R_slice HO164.out
 (first|subst eo15|(injection eo15 with f1_ f2_ f3_;have f4_:=f1_.symm;have f5_:=f3_.symm;clear f1_ f2_ f3_;subst f4_;subst f5_))
 refine hK.out _ _ ⟨(qqh BK154.out 0).trans rfl,(qqh BK154.out 1).trans rfl,(qqh BK154.out 2).trans rfl,(qqh BK154.out 3).trans rfl,(qqh BK154.out 4).trans rfl,(qqh BK154.out 5).trans rfl,(qqh BK154.out 6).trans rfl⟩ (fun hHeld=>?_)
 clear hK K
 refine norm_ (a':=?_) ?_ ?_
 rotate_left
 ·
  show Act.put _ (some 11) _ = _
  simp only [Act.put,qqj,qqk,qql,i64_w,i32_w]
  rfl
 refine last_ (i:=10) (N:=none) (qqz 15 2047) rfl rfl (one_of HT_.out (by kernel_rfl)) (by decide) (fun K hK=>?_)
 have hs12:w10.cell? ⟨gb154,4,none⟩ = some (.slice A0_4 l0_4.length c0_4):=(qqh BK154.out 4).trans rfl
 have hfs12:=qqi BK154.out 4
 have hns12_1:=NB155_154.out
 have hms12_1:=NB154_155.out
 refine skip_ (w1:=?_) (by rfl) rfl ?_ ?_
 rotate_left
 ·
  go_simp
  rfl
 refine hK.out _ _ ?_
 clear hK K
 refine pure_ (i:=11) (N:=some 13) (qqz 15 4095) rfl rfl (any_of HT_.out (by kernel_rfl)) (fun _ _ _ h=>h) (Or.inl ⟨by rfl,by intro w';go_simp;with_reducible rfl⟩) (by simp only [Act.put,qqj,qqk,qql,i64_w,i32_w];rfl) ?_
 refine last_ (i:=12) (N:=none) (qqz 15 8191) rfl rfl (one_of HT_.out (by kernel_rfl)) (by decide) (fun K hK=>?_)
 have hs14:w10.cell? ⟨gb154,5,none⟩ = some (.slice A0_5 l0_5.length c0_5):=(qqh BK154.out 5).trans rfl
 have hfs14:=qqi BK154.out 5
 have hns14_1:=NB155_154.out
 have hms14_1:=NB154_155.out
 refine skip_ (w1:=?_) (by rfl) rfl ?_ ?_
 rotate_left
 ·
  go_simp
  rfl
 refine hK.out _ _ ?_
 clear hK K
 refine pure_ (i:=13) (N:=some 14) (qqz 15 16383) rfl rfl (any_of HT_.out (by kernel_rfl)) (fun _ _ _ h=>h) (Or.inl ⟨by rfl,by intro w';go_simp;with_reducible rfl⟩) (by simp only [Act.put,qqj,qqk,qql,i64_w,i32_w];rfl) ?_
 refine last_ (i:=14) (N:=none) (qqz 15 32767) rfl rfl (one_of HT_.out (by kernel_rfl)) (by decide) (fun K hK=>?_)
 have hs16:w10.cell? ⟨gb154,6,none⟩ = some (.slice A0_6 l0_6.length c0_6):=(qqh BK154.out 6).trans rfl
 have hfs16:=qqi BK154.out 6
 have hns16_1:=NB155_154.out
 have hms16_1:=NB154_155.out
 refine skip_ (w1:=?_) (by rfl) rfl ?_ ?_
 rotate_left
 ·
  go_simp
  rfl
 refine hK.out _ _ ?_
 clear hK K
 refine done_ (done_of HT_.out (by kernel_rfl)) ?_
 have hnb17:=NB154_155.out
 have hnc17:=NB155_154.out
 obtain ⟨hcz18_0,hcz18_1,hcz18_2,hcz18_3,hcz18_4,hcz18_5,hcz18_6⟩:=qc7 BK154.out
 obtain ⟨hfz18_0,hfz18_1,hfz18_2,hfz18_3,hfz18_4,hfz18_5,hfz18_6⟩:=qf7 BK154.out
 obtain ⟨hcz19_0,hcz19_1,hcz19_2,hcz19_3,hcz19_4,hcz19_5,hcz19_6⟩:=qc7 BK155.out
 obtain ⟨hfz19_0,hfz19_1,hfz19_2,hfz19_3,hfz19_4,hfz19_5,hfz19_6⟩:=qf7 BK155.out
 try go_wp2
 refine bodyPost_ret (results_cell_row rfl _ _ gb155 51 #[.string a0_0,.int .u16 a0_1,.int .u16 a0_2,.int .u32 a0_3,.slice Ao11 t156.length co11,.slice Ao13 t159.length co13,.slice Ao15 t162.length co15] (0,0) _ rfl (by (with_reducible repeat first|apply qqa|apply qqb|apply qqc);refine blk_put (cs:=#[.string a0_0,.int .u16 a0_1,.int .u16 a0_2,.int .u32 a0_3,.slice Ao11 t156.length co11,.slice Ao13 t159.length co13,.slice none 0 0]) ?_ 6 _ rfl;(with_reducible repeat first|apply qqa|apply qqb|apply qqc);refine blk_put (cs:=#[.string a0_0,.int .u16 a0_1,.int .u16 a0_2,.int .u32 a0_3,.slice Ao11 t156.length co11,.slice none 0 0,.slice none 0 0]) ?_ 5 _ rfl;(with_reducible repeat first|apply qqa|apply qqb|apply qqc);refine blk_put (cs:=#[.string a0_0,.int .u16 a0_1,.int .u16 a0_2,.int .u32 a0_3,.slice none 0 0,.slice none 0 0,.slice none 0 0]) ?_ 4 _ rfl;(with_reducible repeat first|apply qqa|apply qqb|apply qqc);refine blk_put (cs:=#[.string a0_0,.int .u16 a0_1,.int .u16 a0_2,.int .u32 0,.slice none 0 0,.slice none 0 0,.slice none 0 0]) ?_ 3 _ rfl;(with_reducible repeat first|apply qqa|apply qqb|apply qqc);refine blk_put (cs:=#[.string a0_0,.int .u16 a0_1,.int .u16 0,.int .u32 0,.slice none 0 0,.slice none 0 0,.slice none 0 0]) ?_ 2 _ rfl;(with_reducible repeat first|apply qqa|apply qqb|apply qqc);refine blk_put (cs:=#[.string a0_0,.int .u16 0,.int .u16 0,.int .u32 0,.slice none 0 0,.slice none 0 0,.slice none 0 0]) ?_ 1 _ rfl;(with_reducible repeat first|apply qqa|apply qqb|apply qqc);refine blk_put (cs:=#[.string (⟨#[]⟩:ByteArray),.int .u16 0,.int .u16 0,.int .u32 0,.slice none 0 0,.slice none 0 0,.slice none 0 0]) ?_ 0 _ rfl;(with_reducible repeat first|apply qqa|apply qqb|apply qqc);refine blk_far ?_ NB155_154.out _;(with_reducible repeat first|apply qqa|apply qqb|apply qqc);refine blk_far ?_ NB155_154.out _;(with_reducible repeat first|apply qqa|apply qqb|apply qqc);refine blk_far ?_ NB155_154.out _;(with_reducible repeat first|apply qqa|apply qqb|apply qqc);exact BK155.out) Try.underlying51 rfl (by kernel_rfl)) rfl ?_
 exact ⟨_,_,_,by first|rfl|(simp [errW_none,errW_some] <;> rfl)|(simp [*,errW_none,errW_some] <;> rfl),by (with_reducible repeat (first|apply Kd.R_alloc|apply Kd.R_drewN|apply Kd.R_drew));exact Kd.R_mono (Kd.R_far (p:=⟨gb155,6,none⟩) (Kd.R_far (p:=⟨gb155,5,none⟩) (Kd.R_far (p:=⟨gb155,4,none⟩) (Kd.R_far (p:=⟨gb155,3,none⟩) (Kd.R_far (p:=⟨gb155,2,none⟩) (Kd.R_far (p:=⟨gb155,1,none⟩) (Kd.R_far (p:=⟨gb155,0,none⟩) (Kd.R_far (p:=⟨gb154,6,none⟩) (Kd.R_far (p:=⟨gb154,5,none⟩) (Kd.R_far (p:=⟨gb154,4,none⟩) (Kd.R_types (Kd.R_types HO158.out BK154.out (by decide)) BK155.out (by decide)) (fun _ hk=>hk.1.2) (.slice Ao11 t156.length co11)) (fun _ hk=>hk.1.2) (.slice Ao13 t159.length co13)) (fun _ hk=>hk.1.2) (.slice Ao15 t162.length co15)) (fun _ hk=>hk.2) (.string a0_0)) (fun _ hk=>hk.2) (.int .u16 a0_1)) (fun _ hk=>hk.2) (.int .u16 a0_2)) (fun _ hk=>hk.2) (.int .u32 a0_3)) (fun _ hk=>hk.2) (.slice Ao11 t156.length co11)) (fun _ hk=>hk.2) (.slice Ao13 t159.length co13)) (fun _ hk=>hk.2) (.slice Ao15 t162.length co15)) (fun _ hk=>hk.1.1.2),by (with_reducible repeat (first|apply Kd.R_alloc|apply Kd.R_drewN|apply Kd.R_drew));exact Kd.R_mono (Kd.R_far (p:=⟨gb155,6,none⟩) (Kd.R_far (p:=⟨gb155,5,none⟩) (Kd.R_far (p:=⟨gb155,4,none⟩) (Kd.R_far (p:=⟨gb155,3,none⟩) (Kd.R_far (p:=⟨gb155,2,none⟩) (Kd.R_far (p:=⟨gb155,1,none⟩) (Kd.R_far (p:=⟨gb155,0,none⟩) (Kd.R_far (p:=⟨gb154,6,none⟩) (Kd.R_far (p:=⟨gb154,5,none⟩) (Kd.R_far (p:=⟨gb154,4,none⟩) (Kd.R_types (Kd.R_types HO161.out BK154.out (by decide)) BK155.out (by decide)) (fun _ hk=>hk.1.2) (.slice Ao11 t156.length co11)) (fun _ hk=>hk.1.2) (.slice Ao13 t159.length co13)) (fun _ hk=>hk.1.2) (.slice Ao15 t162.length co15)) (fun _ hk=>hk.2) (.string a0_0)) (fun _ hk=>hk.2) (.int .u16 a0_1)) (fun _ hk=>hk.2) (.int .u16 a0_2)) (fun _ hk=>hk.2) (.int .u32 a0_3)) (fun _ hk=>hk.2) (.slice Ao11 t156.length co11)) (fun _ hk=>hk.2) (.slice Ao13 t159.length co13)) (fun _ hk=>hk.2) (.slice Ao15 t162.length co15)) (fun _ hk=>trivial),by (with_reducible repeat (first|apply Kd.R_alloc|apply Kd.R_drewN|apply Kd.R_drew));exact Kd.R_mono (Kd.R_far (p:=⟨gb155,6,none⟩) (Kd.R_far (p:=⟨gb155,5,none⟩) (Kd.R_far (p:=⟨gb155,4,none⟩) (Kd.R_far (p:=⟨gb155,3,none⟩) (Kd.R_far (p:=⟨gb155,2,none⟩) (Kd.R_far (p:=⟨gb155,1,none⟩) (Kd.R_far (p:=⟨gb155,0,none⟩) (Kd.R_far (p:=⟨gb154,6,none⟩) (Kd.R_far (p:=⟨gb154,5,none⟩) (Kd.R_far (p:=⟨gb154,4,none⟩) (Kd.R_types (Kd.R_types HO164.out BK154.out (by decide)) BK155.out (by decide)) (fun _ hk=>hk.1.2) (.slice Ao11 t156.length co11)) (fun _ hk=>hk.1.2) (.slice Ao13 t159.length co13)) (fun _ hk=>hk.1.2) (.slice Ao15 t162.length co15)) (fun _ hk=>hk.2) (.string a0_0)) (fun _ hk=>hk.2) (.int .u16 a0_1)) (fun _ hk=>hk.2) (.int .u16 a0_2)) (fun _ hk=>hk.2) (.int .u32 a0_3)) (fun _ hk=>hk.2) (.slice Ao11 t156.length co11)) (fun _ hk=>hk.2) (.slice Ao13 t159.length co13)) (fun _ hk=>hk.2) (.slice Ao15 t162.length co15)) (fun _ hk=>hk.1.1.2),by with_reducible repeat first|exact HB.out|apply qqf|apply qqd|apply qqe|refine qqg ?_ GE154.out|refine qqg ?_ GE155.out⟩

end Go.Proofs.Ythkdfnbhlinhiaa.Mine
