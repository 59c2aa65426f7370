-- Written by this repo's own printer (wip/print), which builds on the kit's.
import Derived.Test.YthkdfnbhlinhiaaMinex0
namespace Go.Proofs.Ythkdfnbhlinhiaa.Mine
open Go.RowKit Go.Proofs.YthkdfnbhlinhiaaW.PrintWords Go.Proofs.YthkdfnbhlinhiaaW.PrintLast Go.Proofs.YthkdfnbhlinhiaaW.PrintMore
attribute [local go_sem] max2_int min2_int max_two min_two max_three min_three max_four min_four   -- for this text's walks alone
set_option linter.unusedVariables false
set_option linter.unusedSimpArgs false

/-! ### nuncioref07_Records: function 27 -/
def nuncioref07_Records.f (a0_0 : Int) (a0_1 : Int) (l0_2 : List (S53)) (l0_3 : List (S51)) (l0_4 : List (S51)) (l0_5 : List (S51)) : Option ((List (S51))) := (some (([] : List (S51)) : List (S51))).bind fun y207 => (if y207.length + l0_3.length < 1466015503701 then ((some (y207 ++ l0_3 : List (S51))).bind fun y210 => (if y210.length + l0_4.length < 1466015503701 then ((some (y210 ++ l0_4 : List (S51))).bind fun y213 => (if y213.length + l0_5.length < 1466015503701 then (some (y213 ++ l0_5)) else (none))) else (none))) else (none))
def nuncioref07_Records.T1 : Bool × List (List Nat × List Nat) := (true, [([], []), ([], []), ([1], [1]), ([0, 2], [0, 2]), ([], []), ([4], [4]), ([3, 5, 3], [3, 5]), ([], []), ([7], [7]), ([6, 8, 6], [6, 8]), ([9, 9, 0, 1, 2, 3, 4, 5, 6, 7, 8, 9], [9])])
def nuncioref07_Records.B1 : List Nat := [0, 0, 2, 7, 0, 16, 63, 0, 128, 511, 1023]
theorem nuncioref07_Records.tab1 : rtab .any (opsOf Try.f27 1) = nuncioref07_Records.T1 := by kernel_rfl
theorem nuncioref07_Records.bits1 : waitsOk nuncioref07_Records.T1.2 nuncioref07_Records.B1 = true := by kernel_rfl
set_option maxHeartbeats 8000000 in
set_option maxRecDepth 100000 in
theorem nuncioref07_Records.calls (a0_0 : Int) (a0_1 : Int) (A0_2 : Option Addr) (c0_2 : Nat) (l0_2 : List (S53)) (P0_3_ : Nat → Prop) (A0_3 : Option Addr) (c0_3 : Nat) (l0_3 : List (S51)) (P0_4_ : Nat → Prop) (A0_4 : Option Addr) (c0_4 : Nat) (l0_4 : List (S51)) (P0_5_ : Nat → Prop) (A0_5 : Option Addr) (c0_5 : Nat) (l0_5 : List (S51)) (r : List (S51)) (w : World) (hr0_2 : Kd.C k53 w A0_2 l0_2.length l0_2) (hc0_2 : l0_2.length ≤ c0_2) (hs0_3 : Kd.V k51 51 w w.heap.size (fun k_ => P0_3_ k_) (.slice A0_3 l0_3.length c0_3) l0_3) (hs0_4 : Kd.V k51 51 w w.heap.size (fun k_ => P0_4_ k_) (.slice A0_4 l0_4.length c0_4) l0_4) (hs0_5 : Kd.V k51 51 w w.heap.size (fun k_ => P0_5_ k_) (.slice A0_5 l0_5.length c0_5) l0_5) (h : nuncioref07_Records.f a0_0 a0_1 l0_2 l0_3 l0_4 l0_5 = some r) :
  Calls Try.prog 27 #[.agg #[.int .u16 a0_0,.int .u16 a0_1,.slice A0_2 l0_2.length c0_2,.slice A0_3 l0_3.length c0_3,.slice A0_4 l0_4.length c0_4,.slice A0_5 l0_5.length c0_5]] w fun e w'=>∃ v0_:Value,e = .returned (v0_)∧Kd.N k51 51 w' w.heap.size (fun k_=>((P0_3_ k_ ∨ P0_4_ k_ ∨ P0_5_ k_) ∨ w.heap.size ≤ k_)) v0_ r∧Below w.heap.size w w':=by
 have hu26:=Try.underlying26
 have HR0_2:=qqm hr0_2
 have HC0_2:=qqm hc0_2
 clear hr0_2 hc0_2
 have HO0_3:=qqm (show Kd.V k51 51 w w.heap.size (fun k_=>((P0_3_ k_ ∨ P0_4_ k_ ∨ P0_5_ k_) ∨ w.heap.size ≤ k_)) (.slice A0_3 l0_3.length c0_3) l0_3 from Kd.V_mono hs0_3 (fun k_ hk=>.inl (.inl hk)))
 have HO0_4:=qqm (show Kd.V k51 51 w w.heap.size (fun k_=>((P0_3_ k_ ∨ P0_4_ k_ ∨ P0_5_ k_) ∨ w.heap.size ≤ k_)) (.slice A0_4 l0_4.length c0_4) l0_4 from Kd.V_mono hs0_4 (fun k_ hk=>.inl (.inr (.inl hk))))
 have HO0_5:=qqm (show Kd.V k51 51 w w.heap.size (fun k_=>((P0_3_ k_ ∨ P0_4_ k_ ∨ P0_5_ k_) ∨ w.heap.size ≤ k_)) (.slice A0_5 l0_5.length c0_5) l0_5 from Kd.V_mono hs0_5 (fun k_ hk=>.inl (.inr (.inr hk))))
 have HB:=qqm (Below.refl w.heap.size w)
 have H:((some (([]:List (S51)):List (S51))).bind fun y207=>(if y207.length + l0_3.length < 1466015503701 then ((some (y207 ++ l0_3:List (S51))).bind fun y210=>(if y210.length + l0_4.length < 1466015503701 then ((some (y210 ++ l0_4:List (S51))).bind fun y213=>(if y213.length + l0_5.length < 1466015503701 then (some (y213 ++ l0_5)) else (none))) else (none))) else (none))) = some r:=h
 clear h
 obtain ⟨y207,hy207⟩:∃ y_:List (S51),y_ = (([]:List (S51))):=⟨_,rfl⟩
 replace H:(if y207.length + l0_3.length < 1466015503701 then ((some (y207 ++ l0_3:List (S51))).bind fun y210=>(if y210.length + l0_4.length < 1466015503701 then ((some (y210 ++ l0_4:List (S51))).bind fun y213=>(if y213.length + l0_5.length < 1466015503701 then (some (y213 ++ l0_5)) else (none))) else (none))) else (none)) = some r:=by first|(rw [hy207];with_reducible exact H)|(have H2_:=(Option.bind_some _ _).symm.trans H;rw [hy207];with_reducible exact H2_)|(have H2_:=(Option.bind_some _ _).symm.trans H;with_reducible exact H2_)|with_reducible exact H|(rw [hy207];exact H)|exact H
 have Ny207:=qqm hy207
 clear hy207
 by_cases c2:y207.length + l0_3.length < 1466015503701
 rotate_left
 ·
  rw [if_neg c2] at H
  exact absurd H (by simp)
 rw [if_pos c2] at H
 have LMc2:=qqm c2
 clear c2
 obtain ⟨y210,hy210⟩:∃ y_:List (S51),y_ = (y207 ++ l0_3):=⟨_,rfl⟩
 replace H:(if y210.length + l0_4.length < 1466015503701 then ((some (y210 ++ l0_4:List (S51))).bind fun y213=>(if y213.length + l0_5.length < 1466015503701 then (some (y213 ++ l0_5)) else (none))) else (none)) = some r:=by first|(rw [hy210];with_reducible exact H)|(have H2_:=(Option.bind_some _ _).symm.trans H;rw [hy210];with_reducible exact H2_)|(have H2_:=(Option.bind_some _ _).symm.trans H;with_reducible exact H2_)|with_reducible exact H|(rw [hy210];exact H)|exact H
 have Ny210:=qqm hy210
 clear hy210
 by_cases c3:y210.length + l0_4.length < 1466015503701
 rotate_left
 ·
  rw [if_neg c3] at H
  exact absurd H (by simp)
 rw [if_pos c3] at H
 have LMc3:=qqm c3
 clear c3
 obtain ⟨y213,hy213⟩:∃ y_:List (S51),y_ = (y210 ++ l0_4):=⟨_,rfl⟩
 replace H:(if y213.length + l0_5.length < 1466015503701 then (some (y213 ++ l0_5)) else (none)) = some r:=by first|(rw [hy213];with_reducible exact H)|(have H2_:=(Option.bind_some _ _).symm.trans H;rw [hy213];with_reducible exact H2_)|(have H2_:=(Option.bind_some _ _).symm.trans H;with_reducible exact H2_)|with_reducible exact H|(rw [hy213];exact H)|exact H
 have Ny213:=qqm hy213
 clear hy213
 by_cases c4:y213.length + l0_5.length < 1466015503701
 rotate_left
 ·
  rw [if_neg c4] at H
  exact absurd H (by simp)
 rw [if_pos c4] at H
 have LMc4:=qqm c4
 clear c4
 obtain ⟨y216,hy216⟩:∃ y_:List (S51),y_ = (y213 ++ l0_5):=⟨_,rfl⟩
 replace H:(some y216) = some r:=by first|(rw [hy216];with_reducible exact H)|(have H2_:=(Option.bind_some _ _).symm.trans H;rw [hy216];with_reducible exact H2_)|(have H2_:=(Option.bind_some _ _).symm.trans H;with_reducible exact H2_)|with_reducible exact H|(rw [hy216];exact H)|exact H
 have Ny216:=qqm hy216
 clear hy216
 obtain rfl:=Option.some.inj H
 go_enter Try.func27,Try.ntmps27
 try go_wp2_with (first|((with_reducible refine gate_dst (N:=1) rfl ?_);refine box_event ?hg (N:=1) ?hd (cs:=#[.int .u16 a0_0,.int .u16 a0_1,.slice A0_2 l0_2.length c0_2,.slice A0_3 l0_3.length c0_3,.slice A0_4 l0_4.length c0_4,.slice A0_5 l0_5.length c0_5]) (t:=26) ?hr ?_;(case hd=>rfl);(case hg=>rfl);(case hr=>first|(go_simp;done)|(go_simp;rfl));intro gb206 hg w5 hbox hb;have n0_:=qqm (Kd.V_below (Kd.V_elderB (by (with_reducible repeat (first|apply Kd.V_alloc|apply Kd.V_drewN|apply Kd.V_drew));exact HO0_3.out) gb206 (Nat.le_of_eq hg.symm)) hb);have n1_:=qqm (Kd.V_below (Kd.V_elderB (by (with_reducible repeat (first|apply Kd.V_alloc|apply Kd.V_drewN|apply Kd.V_drew));exact HO0_4.out) gb206 (Nat.le_of_eq hg.symm)) hb);have n2_:=qqm (Kd.V_below (Kd.V_elderB (by (with_reducible repeat (first|apply Kd.V_alloc|apply Kd.V_drewN|apply Kd.V_drew));exact HO0_5.out) gb206 (Nat.le_of_eq hg.symm)) hb);have n3_:=qqm (below_step (by with_reducible repeat first|exact HB.out|apply qqf|apply qqd|apply qqe) hb);have n4_:=qqm (hbox);have n5_:=qqm ((by rw [hg];exact (below_size (by with_reducible repeat first|exact HB.out|apply qqf|apply qqd|apply qqe)):w.heap.size ≤ gb206));have n6_:=n5_;clear HO0_3 HO0_4 HO0_5 HB;have HO0_3:=n0_;have HO0_4:=n1_;have HO0_5:=n2_;have HB:=n3_;have BK206:=n4_;have GW206:=n5_;have GE206:=n6_;clear n0_ n1_ n2_ n3_ n4_ n5_ n6_ hb hbox hg))
 have n0_:=qqm (Kd.V_drew HO0_3.out)
 have n1_:=qqm (Kd.V_drew HO0_4.out)
 have n2_:=qqm (Kd.V_drew HO0_5.out)
 have n3_:=qqm (qqb BK206.out)
 have n4_:=qqm (qqe HB.out)
 clear HO0_3
 clear HO0_4
 clear HO0_5
 clear BK206
 clear HB
 have HO0_3:=n0_
 have HO0_4:=n1_
 have HO0_5:=n2_
 have BK206:=n3_
 have HB:=n4_
 clear n0_ n1_ n2_ n3_ n4_
 refine start_ (n:=11) (S:=fun w'=>w'.cell? ⟨gb206,0,none⟩ = some (.int .u16 a0_0)∧w'.cell? ⟨gb206,1,none⟩ = some (.int .u16 a0_1)∧w'.cell? ⟨gb206,2,none⟩ = some (.slice A0_2 l0_2.length c0_2)∧w'.cell? ⟨gb206,3,none⟩ = some (.slice A0_3 l0_3.length c0_3)∧w'.cell? ⟨gb206,4,none⟩ = some (.slice A0_4 l0_4.length c0_4)∧w'.cell? ⟨gb206,5,none⟩ = some (.slice A0_5 l0_5.length c0_5)) (ds:=[]) (qqz 11 0) (by kernel_rfl) rfl rfl ⟨(qqh BK206.out 0).trans rfl,(qqh BK206.out 1).trans rfl,(qqh BK206.out 2).trans rfl,(qqh BK206.out 3).trans rfl,(qqh BK206.out 4).trans rfl,(qqh BK206.out 5).trans rfl⟩ (fun hHeld=>?_);refine with_tabW nuncioref07_Records.tab1 nuncioref07_Records.bits1 (fun HT_ HW_=>?_)
 generalize w5.drew = w6 at HO0_3 HO0_4 HO0_5 BK206 HB hHeld ⊢
 refine pure_ (i:=1) (N:=some 4) (qqz 11 2) rfl rfl (any_of HT_.out (by kernel_rfl)) (fun _ _ _ h=>h) (Or.inl ⟨by rfl,by intro w';go_simp;with_reducible rfl⟩) (by simp only [Act.put,qqj,qqk,qql,i64_w,i32_w];rfl) ?_
 refine pure_ (i:=4) (N:=some 7) (qqz 11 18) rfl rfl (any_of HT_.out (by kernel_rfl)) (fun _ _ _ h=>h) (Or.inl ⟨by rfl,by intro w';go_simp;with_reducible rfl⟩) (by simp only [Act.put,qqj,qqk,qql,i64_w,i32_w];rfl) ?_
 refine pure_ (i:=7) (N:=some 10) (qqz 11 146) rfl rfl (any_of HT_.out (by kernel_rfl)) (fun _ _ _ h=>h) (Or.inl ⟨by rfl,by intro w';go_simp;with_reducible rfl⟩) (by simp only [Act.put,qqj,qqk,qql,i64_w,i32_w];rfl) ?_
 refine take_ (i:=2) (N:=some 5) (qqz 11 150) rfl rfl (take_ofW HT_.out HW_.out (by kernel_rfl)) (fun _ _ _ h=>h) (Or.inl ⟨by rfl,by rintro w' ⟨s0,s1,s2,s3,s4,s5⟩;go_simp;with_reducible rfl⟩) hHeld (by simp only [Act.put,qqj,qqk,qql,i64_w,i32_w];rfl) ?_
 refine take_ (i:=5) (N:=some 8) (qqz 11 182) rfl rfl (take_ofW HT_.out HW_.out (by kernel_rfl)) (fun _ _ _ h=>h) (Or.inl ⟨by rfl,by rintro w' ⟨s0,s1,s2,s3,s4,s5⟩;go_simp;with_reducible rfl⟩) hHeld (by simp only [Act.put,qqj,qqk,qql,i64_w,i32_w];rfl) ?_
 refine take_ (i:=8) (N:=some 11) (qqz 11 438) rfl rfl (take_ofW HT_.out HW_.out (by kernel_rfl)) (fun _ _ _ h=>h) (Or.inl ⟨by rfl,by rintro w' ⟨s0,s1,s2,s3,s4,s5⟩;go_simp;with_reducible rfl⟩) hHeld (by simp only [Act.put,qqj,qqk,qql,i64_w,i32_w];rfl) ?_
 refine one_ (i:=0) (N:=some 3) (qqz 11 439) rfl rfl (one_of HT_.out (by kernel_rfl)) (by decide) (fun K hK=>?_)
 refine Kd.N_lit_step k51 _ 51 ?hg (N':=3) ?hd (xs:=([]:List (S51))) (inner:=[]) (ok:=(fun k_=>((P0_3_ k_ ∨ P0_4_ k_ ∨ P0_5_ k_) ∨ w.heap.size ≤ k_)∧k_ ≠ gb206)) (okp:=(fun k_=>((P0_3_ k_ ∨ P0_4_ k_ ∨ P0_5_ k_) ∨ w.heap.size ≤ k_)∧k_ ≠ gb206)) ?hr ?hp (fun _ hk=>hk) ((show ∀ k_,w6.heap.size ≤ k_ → (fun k_=>((P0_3_ k_ ∨ P0_4_ k_ ∨ P0_5_ k_) ∨ w.heap.size ≤ k_)∧k_ ≠ gb206) k_ from fun k_ hk=>⟨(.inr (Nat.le_trans (below_size (by with_reducible repeat first|exact HB.out|apply qqf|apply qqd|apply qqe|refine qqg ?_ GE206.out)) hk)),Kd.freshB (g:=gb206) (o:=.cells #[.int .u16 a0_0,.int .u16 a0_1,.slice A0_2 l0_2.length c0_2,.slice A0_3 l0_3.length c0_3,.slice A0_4 l0_4.length c0_4,.slice A0_5 l0_5.length c0_5] 26 (0,0)) (by (with_reducible repeat first|apply qqa|apply qqb|apply qqc);exact BK206.out) k_ hk⟩) _ (Nat.le_refl _)) (Below.refl _ _) (Nat.le_refl _) (by simp) ?_;(case hd=>rfl);(case hg=>rfl);(case hr=>first|(go_simp;done)|(go_simp;rfl));(case hp=>exact (Reps.none _ _))
 intro v208 w7 ho8 hb hg_ hnew_
 clear hg_ hnew_
 (first|rw [← Ny207.out] at ho8|(simp only [Int.reduceToNat] at ho8;rw [← Ny207.out] at ho8))
 have n0_:=qqm (Kd.V_elder' (by (with_reducible repeat (first|apply Kd.V_alloc|apply Kd.V_drewN|apply Kd.V_drew));exact HO0_3.out) (Kd.N_base ho8) hb)
 have n1_:=qqm (Kd.V_elder' (by (with_reducible repeat (first|apply Kd.V_alloc|apply Kd.V_drewN|apply Kd.V_drew));exact HO0_4.out) (Kd.N_base ho8) hb)
 have n2_:=qqm (Kd.V_elder' (by (with_reducible repeat (first|apply Kd.V_alloc|apply Kd.V_drewN|apply Kd.V_drew));exact HO0_5.out) (Kd.N_base ho8) hb)
 have n3_:=qqm (Kd.N_lower ho8 (below_size (by with_reducible repeat first|exact HB.out|apply qqf|apply qqd|apply qqe|refine qqg ?_ GE206.out)))
 have n4_:=qqm (blk_below (g:=gb206) (o:=.cells #[.int .u16 a0_0,.int .u16 a0_1,.slice A0_2 l0_2.length c0_2,.slice A0_3 l0_3.length c0_3,.slice A0_4 l0_4.length c0_4,.slice A0_5 l0_5.length c0_5] 26 (0,0)) (by (with_reducible repeat first|apply qqa|apply qqb|apply qqc);exact BK206.out) hb)
 have n5_:=qqm (below_step (by with_reducible repeat first|exact HB.out|apply qqf|apply qqd|apply qqe|refine qqg ?_ GE206.out) hb)
 clear HO0_3
 clear HO0_4
 clear HO0_5
 clear BK206
 clear HB
 have HO0_3:=n0_
 have HO0_4:=n1_
 have HO0_5:=n2_
 have HO209:=n3_
 have BK206:=n4_
 have HB:=n5_
 clear n0_ n1_ n2_ n3_ n4_ n5_
 clear hb ho8
 refine hK.out _ _ ⟨(qqh BK206.out 0).trans rfl,(qqh BK206.out 1).trans rfl,(qqh BK206.out 2).trans rfl,(qqh BK206.out 3).trans rfl,(qqh BK206.out 4).trans rfl,(qqh BK206.out 5).trans rfl⟩ (fun hHeld=>?_)
 clear hK K
 refine norm_ (a':=?_) ?_ ?_
 rotate_left
 ·
  show Act.put _ (some 3) _ = _
  simp only [Act.put,qqj,qqk,qql,i64_w,i32_w]
  rfl
 refine one_ (i:=3) (N:=some 6) (qqz 11 447) rfl rfl (one_of HT_.out (by kernel_rfl)) (by decide) (fun K hK=>?_)
 refine Kd.N_append_rows_step k51 (w0:=w) w.heap.size (by rfl) (.tmp 3) (.tmp 5) 24 51 (.agg #[(.string ⟨#[]⟩),(.int .u16 0),(.int .u16 0),(.int .u32 0),(.slice none 0 0),(.slice none 0 0),(.slice none 0 0)]) 96 rfl Try.underlying24 info51 rfl (by decide) (by omega) v208 y207 l0_3 _ _ _ (fun k_=>((P0_3_ k_ ∨ P0_4_ k_ ∨ P0_5_ k_) ∨ w.heap.size ≤ k_)∧k_ ≠ gb206) (fun k_=>((fun k_=>((P0_3_ k_ ∨ P0_4_ k_ ∨ P0_5_ k_) ∨ w.heap.size ≤ k_)∧k_ ≠ gb206)) k_∧some k_ ≠ (v208:Value).ownBlock) rfl rfl ?aO ?aR (fun _ hk=>hk) ?aF ?aB ?aS ?aL ?_
 (case aR=>exact (by skip;exact Kd.V_F (Kd.V_mono (ok':=(fun k_=>((fun k_=>((P0_3_ k_ ∨ P0_4_ k_ ∨ P0_5_ k_) ∨ w.heap.size ≤ k_)∧k_ ≠ gb206)) k_∧some k_ ≠ (v208:Value).ownBlock)) (HO0_3.out) (fun k_ hk=>⟨⟨hk.1.1,hk.1.2⟩,hk.2⟩))))
 (case aB=>exact (by with_reducible repeat first|exact HB.out|apply qqf|apply qqd|apply qqe|refine qqg ?_ GE206.out))
 (case aF=>exact (fun k_ hk=>⟨(.inr (Nat.le_trans (below_size (by with_reducible repeat first|exact HB.out|apply qqf|apply qqd|apply qqe|refine qqg ?_ GE206.out)) hk)),Kd.freshB (g:=gb206) (o:=.cells #[.int .u16 a0_0,.int .u16 a0_1,.slice A0_2 l0_2.length c0_2,.slice A0_3 l0_3.length c0_3,.slice A0_4 l0_4.length c0_4,.slice A0_5 l0_5.length c0_5] 26 (0,0)) (by (with_reducible repeat first|apply qqa|apply qqb|apply qqc);exact BK206.out) k_ hk⟩))
 (case aO=>exact (by (with_reducible repeat (first|apply Kd.N_alloc|apply Kd.N_drewN|apply Kd.N_drew));exact HO209.out))
 (case aS=>exact (below_size (by with_reducible repeat first|exact HB.out|apply qqf|apply qqd|apply qqe|refine qqg ?_ GE206.out)))
 (case aL=>have:=LMc2.out;omega)
 intro v211 w9 ho hb hg hat
 rw [← Ny210.out] at ho
 have n0_:=qqm (Kd.V_afterv (ok:=(fun k_=>((P0_3_ k_ ∨ P0_4_ k_ ∨ P0_5_ k_) ∨ w.heap.size ≤ k_)∧k_ ≠ gb206)) (by (with_reducible repeat (first|apply Kd.V_alloc|apply Kd.V_drewN|apply Kd.V_drew));exact HO0_3.out) hg hat)
 have n1_:=qqm (Kd.V_afterv (ok:=(fun k_=>((P0_3_ k_ ∨ P0_4_ k_ ∨ P0_5_ k_) ∨ w.heap.size ≤ k_)∧k_ ≠ gb206)) (by (with_reducible repeat (first|apply Kd.V_alloc|apply Kd.V_drewN|apply Kd.V_drew));exact HO0_4.out) hg hat)
 have n2_:=qqm (Kd.V_afterv (ok:=(fun k_=>((P0_3_ k_ ∨ P0_4_ k_ ∨ P0_5_ k_) ∨ w.heap.size ≤ k_)∧k_ ≠ gb206)) (by (with_reducible repeat (first|apply Kd.V_alloc|apply Kd.V_drewN|apply Kd.V_drew));exact HO0_5.out) hg hat)
 have n3_:=qqm (blk_grown (g:=gb206) (o:=.cells #[.int .u16 a0_0,.int .u16 a0_1,.slice A0_2 l0_2.length c0_2,.slice A0_3 l0_3.length c0_3,.slice A0_4 l0_4.length c0_4,.slice A0_5 l0_5.length c0_5] 26 (0,0)) (by (with_reducible repeat first|apply qqa|apply qqb|apply qqc);exact BK206.out) hg (Kd.N_ne HO209.out BK206.out (by decide)))
 have n4_:=qqm (hb)
 have n5_:=qqm (ho)
 clear HO0_3
 clear HO0_4
 clear HO0_5
 clear BK206
 clear HB
 clear HO209
 have HO0_3:=n0_
 have HO0_4:=n1_
 have HO0_5:=n2_
 have BK206:=n3_
 have HB:=n4_
 have HO212:=n5_
 clear n0_ n1_ n2_ n3_ n4_ n5_
 clear ho hb hg hat
 refine hK.out _ _ ⟨(qqh BK206.out 0).trans rfl,(qqh BK206.out 1).trans rfl,(qqh BK206.out 2).trans rfl,(qqh BK206.out 3).trans rfl,(qqh BK206.out 4).trans rfl,(qqh BK206.out 5).trans rfl⟩ (fun hHeld=>?_)
 clear hK K
 refine norm_ (a':=?_) ?_ ?_
 rotate_left
 ·
  show Act.put _ (some 6) _ = _
  simp only [Act.put,qqj,qqk,qql,i64_w,i32_w]
  rfl
 refine one_ (i:=6) (N:=some 9) (qqz 11 511) rfl rfl (one_of HT_.out (by kernel_rfl)) (by decide) (fun K hK=>?_)
 refine Kd.N_append_rows_step k51 (w0:=w) w.heap.size (by rfl) (.tmp 6) (.tmp 8) 24 51 (.agg #[(.string ⟨#[]⟩),(.int .u16 0),(.int .u16 0),(.int .u32 0),(.slice none 0 0),(.slice none 0 0),(.slice none 0 0)]) 96 rfl Try.underlying24 info51 rfl (by decide) (by omega) v211 y210 l0_4 _ _ _ (fun k_=>((P0_3_ k_ ∨ P0_4_ k_ ∨ P0_5_ k_) ∨ w.heap.size ≤ k_)∧k_ ≠ gb206) (fun k_=>((fun k_=>((P0_3_ k_ ∨ P0_4_ k_ ∨ P0_5_ k_) ∨ w.heap.size ≤ k_)∧k_ ≠ gb206)) k_∧some k_ ≠ (v211:Value).ownBlock) rfl rfl ?aO ?aR (fun _ hk=>hk) ?aF ?aB ?aS ?aL ?_
 (case aR=>exact (by skip;exact Kd.V_F (Kd.V_mono (ok':=(fun k_=>((fun k_=>((P0_3_ k_ ∨ P0_4_ k_ ∨ P0_5_ k_) ∨ w.heap.size ≤ k_)∧k_ ≠ gb206)) k_∧some k_ ≠ (v211:Value).ownBlock)) (HO0_4.out) (fun k_ hk=>⟨⟨hk.1.1,hk.1.2⟩,hk.2⟩))))
 (case aB=>exact (by with_reducible repeat first|exact HB.out|apply qqf|apply qqd|apply qqe|refine qqg ?_ GE206.out))
 (case aF=>exact (fun k_ hk=>⟨(.inr (Nat.le_trans (below_size (by with_reducible repeat first|exact HB.out|apply qqf|apply qqd|apply qqe|refine qqg ?_ GE206.out)) hk)),Kd.freshB (g:=gb206) (o:=.cells #[.int .u16 a0_0,.int .u16 a0_1,.slice A0_2 l0_2.length c0_2,.slice A0_3 l0_3.length c0_3,.slice A0_4 l0_4.length c0_4,.slice A0_5 l0_5.length c0_5] 26 (0,0)) (by (with_reducible repeat first|apply qqa|apply qqb|apply qqc);exact BK206.out) k_ hk⟩))
 (case aO=>exact (by (with_reducible repeat (first|apply Kd.N_alloc|apply Kd.N_drewN|apply Kd.N_drew));exact HO212.out))
 (case aS=>exact (below_size (by with_reducible repeat first|exact HB.out|apply qqf|apply qqd|apply qqe|refine qqg ?_ GE206.out)))
 (case aL=>have:=LMc3.out;omega)
 intro v214 w10 ho hb hg hat
 rw [← Ny213.out] at ho
 have n0_:=qqm (Kd.V_afterv (ok:=(fun k_=>((P0_3_ k_ ∨ P0_4_ k_ ∨ P0_5_ k_) ∨ w.heap.size ≤ k_)∧k_ ≠ gb206)) (by (with_reducible repeat (first|apply Kd.V_alloc|apply Kd.V_drewN|apply Kd.V_drew));exact HO0_3.out) hg hat)
 have n1_:=qqm (Kd.V_afterv (ok:=(fun k_=>((P0_3_ k_ ∨ P0_4_ k_ ∨ P0_5_ k_) ∨ w.heap.size ≤ k_)∧k_ ≠ gb206)) (by (with_reducible repeat (first|apply Kd.V_alloc|apply Kd.V_drewN|apply Kd.V_drew));exact HO0_4.out) hg hat)
 have n2_:=qqm (Kd.V_afterv (ok:=(fun k_=>((P0_3_ k_ ∨ P0_4_ k_ ∨ P0_5_ k_) ∨ w.heap.size ≤ k_)∧k_ ≠ gb206)) (by (with_reducible repeat (first|apply Kd.V_alloc|apply Kd.V_drewN|apply Kd.V_drew));exact HO0_5.out) hg hat)
 have n3_:=qqm (blk_grown (g:=gb206) (o:=.cells #[.int .u16 a0_0,.int .u16 a0_1,.slice A0_2 l0_2.length c0_2,.slice A0_3 l0_3.length c0_3,.slice A0_4 l0_4.length c0_4,.slice A0_5 l0_5.length c0_5] 26 (0,0)) (by (with_reducible repeat first|apply qqa|apply qqb|apply qqc);exact BK206.out) hg (Kd.N_ne HO212.out BK206.out (by decide)))
 have n4_:=qqm (hb)
 have n5_:=qqm (ho)
 clear HO0_3
 clear HO0_4
 clear HO0_5
 clear BK206
 clear HB
 clear HO212
 have HO0_3:=n0_
 have HO0_4:=n1_
 have HO0_5:=n2_
 have BK206:=n3_
 have HB:=n4_
 have HO215:=n5_
 clear n0_ n1_ n2_ n3_ n4_ n5_
 clear ho hb hg hat
 refine hK.out _ _ ⟨(qqh BK206.out 0).trans rfl,(qqh BK206.out 1).trans rfl,(qqh BK206.out 2).trans rfl,(qqh BK206.out 3).trans rfl,(qqh BK206.out 4).trans rfl,(qqh BK206.out 5).trans rfl⟩ (fun hHeld=>?_)
 clear hK K
 refine norm_ (a':=?_) ?_ ?_
 rotate_left
 ·
  show Act.put _ (some 9) _ = _
  simp only [Act.put,qqj,qqk,qql,i64_w,i32_w]
  rfl
 refine one_ (i:=9) (N:=some 12) (qqz 11 1023) rfl rfl (one_of HT_.out (by kernel_rfl)) (by decide) (fun K hK=>?_)
 refine Kd.N_append_rows_step k51 (w0:=w) w.heap.size (by rfl) (.tmp 9) (.tmp 11) 24 51 (.agg #[(.string ⟨#[]⟩),(.int .u16 0),(.int .u16 0),(.int .u32 0),(.slice none 0 0),(.slice none 0 0),(.slice none 0 0)]) 96 rfl Try.underlying24 info51 rfl (by decide) (by omega) v214 y213 l0_5 _ _ _ (fun k_=>((P0_3_ k_ ∨ P0_4_ k_ ∨ P0_5_ k_) ∨ w.heap.size ≤ k_)∧k_ ≠ gb206) (fun k_=>((fun k_=>((P0_3_ k_ ∨ P0_4_ k_ ∨ P0_5_ k_) ∨ w.heap.size ≤ k_)∧k_ ≠ gb206)) k_∧some k_ ≠ (v214:Value).ownBlock) rfl rfl ?aO ?aR (fun _ hk=>hk) ?aF ?aB ?aS ?aL ?_
 (case aR=>exact (by skip;exact Kd.V_F (Kd.V_mono (ok':=(fun k_=>((fun k_=>((P0_3_ k_ ∨ P0_4_ k_ ∨ P0_5_ k_) ∨ w.heap.size ≤ k_)∧k_ ≠ gb206)) k_∧some k_ ≠ (v214:Value).ownBlock)) (HO0_5.out) (fun k_ hk=>⟨⟨hk.1.1,hk.1.2⟩,hk.2⟩))))
 (case aB=>exact (by with_reducible repeat first|exact HB.out|apply qqf|apply qqd|apply qqe|refine qqg ?_ GE206.out))
 (case aF=>exact (fun k_ hk=>⟨(.inr (Nat.le_trans (below_size (by with_reducible repeat first|exact HB.out|apply qqf|apply qqd|apply qqe|refine qqg ?_ GE206.out)) hk)),Kd.freshB (g:=gb206) (o:=.cells #[.int .u16 a0_0,.int .u16 a0_1,.slice A0_2 l0_2.length c0_2,.slice A0_3 l0_3.length c0_3,.slice A0_4 l0_4.length c0_4,.slice A0_5 l0_5.length c0_5] 26 (0,0)) (by (with_reducible repeat first|apply qqa|apply qqb|apply qqc);exact BK206.out) k_ hk⟩))
 (case aO=>exact (by (with_reducible repeat (first|apply Kd.N_alloc|apply Kd.N_drewN|apply Kd.N_drew));exact HO215.out))
 (case aS=>exact (below_size (by with_reducible repeat first|exact HB.out|apply qqf|apply qqd|apply qqe|refine qqg ?_ GE206.out)))
 (case aL=>have:=LMc4.out;omega)
 intro v217 w11 ho hb hg hat
 rw [← Ny216.out] at ho
 have n0_:=qqm (Kd.V_afterv (ok:=(fun k_=>((P0_3_ k_ ∨ P0_4_ k_ ∨ P0_5_ k_) ∨ w.heap.size ≤ k_)∧k_ ≠ gb206)) (by (with_reducible repeat (first|apply Kd.V_alloc|apply Kd.V_drewN|apply Kd.V_drew));exact HO0_3.out) hg hat)
 have n1_:=qqm (Kd.V_afterv (ok:=(fun k_=>((P0_3_ k_ ∨ P0_4_ k_ ∨ P0_5_ k_) ∨ w.heap.size ≤ k_)∧k_ ≠ gb206)) (by (with_reducible repeat (first|apply Kd.V_alloc|apply Kd.V_drewN|apply Kd.V_drew));exact HO0_4.out) hg hat)
 have n2_:=qqm (Kd.V_afterv (ok:=(fun k_=>((P0_3_ k_ ∨ P0_4_ k_ ∨ P0_5_ k_) ∨ w.heap.size ≤ k_)∧k_ ≠ gb206)) (by (with_reducible repeat (first|apply Kd.V_alloc|apply Kd.V_drewN|apply Kd.V_drew));exact HO0_5.out) hg hat)
 have n3_:=qqm (blk_grown (g:=gb206) (o:=.cells #[.int .u16 a0_0,.int .u16 a0_1,.slice A0_2 l0_2.length c0_2,.slice A0_3 l0_3.length c0_3,.slice A0_4 l0_4.length c0_4,.slice A0_5 l0_5.length c0_5] 26 (0,0)) (by (with_reducible repeat first|apply qqa|apply qqb|apply qqc);exact BK206.out) hg (Kd.N_ne HO215.out BK206.out (by decide)))
 have n4_:=qqm (hb)
 have n5_:=qqm (ho)
 clear HO0_3
 clear HO0_4
 clear HO0_5
 clear BK206
 clear HB
 clear HO215
 have HO0_3:=n0_
 have HO0_4:=n1_
 have HO0_5:=n2_
 have BK206:=n3_
 have HB:=n4_
 have HO218:=n5_
 clear n0_ n1_ n2_ n3_ n4_ n5_
 clear ho hb hg hat
 refine hK.out _ _ ⟨(qqh BK206.out 0).trans rfl,(qqh BK206.out 1).trans rfl,(qqh BK206.out 2).trans rfl,(qqh BK206.out 3).trans rfl,(qqh BK206.out 4).trans rfl,(qqh BK206.out 5).trans rfl⟩ (fun hHeld=>?_)
 clear hK K
 refine norm_ (a':=?_) ?_ ?_
 rotate_left
 ·
  show Act.put _ (some 12) _ = _
  simp only [Act.put,qqj,qqk,qql,i64_w,i32_w]
  rfl
 refine pure_ (i:=10) (N:=some 2) (qqz 11 2047) rfl rfl (any_of HT_.out (by kernel_rfl)) (fun _ _ _ h=>h) (Or.inl ⟨by rfl,by intro w';go_simp;with_reducible rfl⟩) (by simp only [Act.put,qqj,qqk,qql,i64_w,i32_w];rfl) ?_
 refine done_ (done_of HT_.out (by kernel_rfl)) ?_
 try go_wp2
 go_ret
 exact ⟨_,by first|rfl|(simp [errW_none,errW_some] <;> rfl)|(simp [*,errW_none,errW_some] <;> rfl),by (with_reducible repeat (first|apply Kd.N_alloc|apply Kd.N_drewN|apply Kd.N_drew));exact Kd.N_mono HO218.out (fun _ hk=>hk.1),by with_reducible repeat first|exact HB.out|apply qqf|apply qqd|apply qqe|refine qqg ?_ GE206.out⟩

end Go.Proofs.Ythkdfnbhlinhiaa.Mine
