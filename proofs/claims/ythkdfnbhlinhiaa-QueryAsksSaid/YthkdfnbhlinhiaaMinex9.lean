-- Written by this repo's own printer (wip/print), which builds on the kit's.
import Derived.Test.YthkdfnbhlinhiaaMinex0
import Derived.Test.YthkdfnbhlinhiaaMinex1
import Derived.Test.YthkdfnbhlinhiaaMinex3
import Derived.Test.YthkdfnbhlinhiaaMinex5
namespace Go.Proofs.Ythkdfnbhlinhiaa.Mine
open Go.RowKit Go.Proofs.YthkdfnbhlinhiaaW.PrintWords Go.Proofs.YthkdfnbhlinhiaaW.PrintLast Go.Proofs.YthkdfnbhlinhiaaW.PrintMore
attribute [local go_sem] max2_int min2_int max_two min_two max_three min_three max_four min_four   -- for this text's walks alone
set_option linter.unusedVariables false
set_option linter.unusedSimpArgs false

attribute [local go_sem high] eqA28
/-! ### query_Fits: function 16 -/
def query_Fits.f (k : Nat) (a0_0 : ByteArray) (a0_1 : Int) (a0_2 : Int) (a0_3 : Bool) (a1 : Int) (a2_0 : Int) (a2_1 : Int) (l2_2 : List (S53)) (l2_3 : List (S51)) (l2_4 : List (S51)) (l2_5 : List (S51)) : Option (Bool) := if a2_0 = a1 then (if (Go.bits .and .u16 a2_1 33280) = 32768 then ((query_opcode.f a2_0 a2_1 l2_2 l2_3 l2_4 l2_5).bind fun t143 => (if t143 = 0 then (if (l2_2.length : Int) = 1 then ((query_key.f k a2_0 a2_1 l2_2 l2_3 l2_4 l2_5).bind fun bt144 => (some (bt144.1.toList == a0_0.toList && (bt144.2.1 == a0_1 && (bt144.2.2.1 == a0_2 && (!bt144.2.2.2)))))) else (some false)) else (some false))) else (some false)) else (some false)
theorem query_Fits.mono : ∀ a0 a1 a2 a3 a4 a5 a6 a7 a8 a9 a10 k, LeO (query_Fits.f k a0 a1 a2 a3 a4 a5 a6 a7 a8 a9 a10) (query_Fits.f (k + 1) a0 a1 a2 a3 a4 a5 a6 a7 a8 a9 a10) := by
 intro a0 a1 a2 a3 a4 a5 a6 a7 a8 a9 a10 k
 unfold query_Fits.f
 repeat' first
   | (with_reducible exact query_key.mono _ _ _ _ _ _ _)
   | (with_reducible exact LeO.refl _)
   | (with_reducible exact LeO.none _)
   | (with_reducible refine LeO.ite ?_ ?_)
   | (with_reducible refine LeO.bind ?_ (fun _ => ?_))
   | exact query_key.mono _ _ _ _ _ _ _
   | exact LeO.none _
   | refine LeO.ite ?_ ?_
   | refine LeO.bind ?_ (fun _ => ?_)
def query_Fits.T2 : Bool × List (List Nat × List Nat) := (true, [([], []), ([0], [0]), ([], []), ([1, 2], [1, 2]), ([3], [3]), ([4], [4]), ([5, 4], [4, 5]), ([6, 4], [4, 6]), ([7, 4], [4, 7]), ([4, 8], [4, 8]), ([9, 4], [9]), ([10], [10]), ([11, 10, 10], [10, 11]), ([12, 10], [10, 12]), ([10, 13], [10, 13]), ([14, 12], [14]), ([15], [15]), ([16, 15], [15, 16]), ([17, 15], [15, 17]), ([18, 15], [15, 18]), ([15, 19], [15, 19]), ([20, 15], [20]), ([21], [21]), ([22, 21, 21], [21, 22]), ([21], [21]), ([23, 24, 21], [21, 23, 24]), ([21, 25], [21, 25]), ([26, 23, 0, 1, 2, 3, 4, 5, 6, 7, 8, 9, 10, 11, 12, 13, 14, 15, 16, 17, 18, 19, 20, 21, 22, 23, 24, 25, 26], [26])])
def query_Fits.B2 : List Nat := [0, 1, 0, 7, 15, 31, 63, 127, 255, 511, 1023, 2047, 4095, 8191, 16383, 32767, 65535, 131071, 262143, 524287, 1048575, 2097151, 4194303, 8388607, 4194303, 33554431, 67108863, 134217727]
theorem query_Fits.tab2 : rtab .any (opsOf Try.f16 2) = query_Fits.T2 := by kernel_rfl
theorem query_Fits.bits2 : waitsOk query_Fits.T2.2 query_Fits.B2 = true := by kernel_rfl
set_option maxHeartbeats 8000000 in
set_option maxRecDepth 100000 in
theorem query_Fits.calls (k : Nat) (a0_0 : ByteArray) (a0_1 : Int) (a0_2 : Int) (a0_3 : Bool) (a1 : Int) (a2_0 : Int) (a2_1 : Int) (A2_2 : Option Addr) (c2_2 : Nat) (l2_2 : List (S53)) (A2_3 : Option Addr) (c2_3 : Nat) (l2_3 : List (S51)) (A2_4 : Option Addr) (c2_4 : Nat) (l2_4 : List (S51)) (A2_5 : Option Addr) (c2_5 : Nat) (l2_5 : List (S51)) (r : Bool) (w : World) (hr2_2 : Kd.C k53 w A2_2 l2_2.length l2_2) (hc2_2 : l2_2.length ≤ c2_2) (hr2_3 : Kd.C k51 w A2_3 l2_3.length l2_3) (hc2_3 : l2_3.length ≤ c2_3) (hr2_4 : Kd.C k51 w A2_4 l2_4.length l2_4) (hc2_4 : l2_4.length ≤ c2_4) (hr2_5 : Kd.C k51 w A2_5 l2_5.length l2_5) (hc2_5 : l2_5.length ≤ c2_5) (h : query_Fits.f k a0_0 a0_1 a0_2 a0_3 a1 a2_0 a2_1 l2_2 l2_3 l2_4 l2_5 = some r) :
  Calls Try.prog 16 #[.agg #[.string a0_0,.int .u16 a0_1,.int .u16 a0_2,.bool a0_3],.int .u16 a1,.agg #[.int .u16 a2_0,.int .u16 a2_1,.slice A2_2 l2_2.length c2_2,.slice A2_3 l2_3.length c2_3,.slice A2_4 l2_4.length c2_4,.slice A2_5 l2_5.length c2_5]] w fun e w'=>e = .returned (.bool r)∧Below w.heap.size w w':=by
 have hu28:=Try.underlying28
 have hu26:=Try.underlying26
 have HR2_2:=qqm hr2_2
 have HC2_2:=qqm hc2_2
 clear hr2_2 hc2_2
 have HR2_3:=qqm hr2_3
 have HC2_3:=qqm hc2_3
 clear hr2_3 hc2_3
 have HR2_4:=qqm hr2_4
 have HC2_4:=qqm hc2_4
 clear hr2_4 hc2_4
 have HR2_5:=qqm hr2_5
 have HC2_5:=qqm hc2_5
 clear hr2_5 hc2_5
 have HB:=qqm (Below.refl w.heap.size w)
 have H:(if a2_0 = a1 then (if (Go.bits .and .u16 a2_1 33280) = 32768 then ((query_opcode.f a2_0 a2_1 l2_2 l2_3 l2_4 l2_5).bind fun t143=>(if t143 = 0 then (if (l2_2.length:Int) = 1 then ((query_key.f k a2_0 a2_1 l2_2 l2_3 l2_4 l2_5).bind fun bt144=>(some (bt144.1.toList == a0_0.toList && (bt144.2.1 == a0_1 && (bt144.2.2.1 == a0_2 && (!bt144.2.2.2)))))) else (some false)) else (some false))) else (some false)) else (some false)) = some r:=h
 clear h
 by_cases c4:a2_0 = a1
 rotate_left
 ·
  rw [if_neg c4] at H
  have c4b0:(a2_0 == a1) = false:=beq_eq_false_iff_ne.mpr c4
  have c4b1:(a2_0 != a1) = true:=bne_iff_ne.mpr c4
  obtain rfl:=Option.some.inj H
  go_enter Try.func16,Try.ntmps16
  try go_wp2_with (first|((with_reducible refine gate_dst (N:=3) rfl ?_);(try (refine gate_guard (by rfl) ?_;dsimp only));refine box_event ?hg (N:=3) ?hd (cs:=#[.string a0_0,.int .u16 a0_1,.int .u16 a0_2,.bool a0_3]) (t:=28) ?hr ?_;(case hd=>rfl);(case hg=>rfl);(case hr=>first|(go_simp;done)|(go_simp;rfl));intro gb141 hg w38 hbox hb;have n0_:=qqm (below_step (by with_reducible repeat first|exact HB.out|apply qqf|apply qqd|apply qqe) hb);have n1_:=qqm (hbox);have n2_:=qqm ((by rw [hg];exact (below_size (by with_reducible repeat first|exact HB.out|apply qqf|apply qqd|apply qqe)):w.heap.size ≤ gb141));have n3_:=n2_;clear HB;have HB:=n0_;have BK141:=n1_;have GW141:=n2_;have GE141:=n3_;clear n0_ n1_ n2_ n3_ hb hbox hg)|((with_reducible refine gate_dst (N:=5) rfl ?_);(try (refine gate_guard (by rfl) ?_;dsimp only));refine box_event ?hg (N:=5) ?hd (cs:=#[.int .u16 a2_0,.int .u16 a2_1,.slice A2_2 l2_2.length c2_2,.slice A2_3 l2_3.length c2_3,.slice A2_4 l2_4.length c2_4,.slice A2_5 l2_5.length c2_5]) (t:=26) ?hr ?_;(case hd=>rfl);(case hg=>rfl);(case hr=>first|(go_simp;done)|(go_simp;rfl));intro gb142 hg w39 hbox hb;have n0_:=qqm (blk_below (g:=gb141) (o:=.cells #[.string a0_0,.int .u16 a0_1,.int .u16 a0_2,.bool a0_3] 28 (0,0)) (by (with_reducible repeat first|apply qqa|apply qqb|apply qqc);exact BK141.out) hb);have n1_:=qqm (below_step (by with_reducible repeat first|exact HB.out|apply qqf|apply qqd|apply qqe|refine qqg ?_ GE141.out) hb);have n2_:=qqm (hbox);have n3_:=qqm ((by rw [hg];exact (below_size (by with_reducible repeat first|exact HB.out|apply qqf|apply qqd|apply qqe|refine qqg ?_ GE141.out)):w.heap.size ≤ gb142));have n4_:=n3_;have n5_:=qqm ((by rw [hg];exact Nat.ne_of_lt (blk_lt (by (with_reducible repeat first|apply qqa|apply qqb|apply qqc);exact BK141.out)):gb141 ≠ gb142));have n6_:=qqm (Ne.symm n5_.out);clear BK141 HB;have BK141:=n0_;have HB:=n1_;have BK142:=n2_;have GW142:=n3_;have GE142:=n4_;have NB141_142:=n5_;have NB142_141:=n6_;clear n0_ n1_ n2_ n3_ n4_ n5_ n6_ hb hbox hg;have hnb40:=NB141_142.out;have hnc40:=NB142_141.out;obtain ⟨hcz41_0,hcz41_1,hcz41_2,hcz41_3⟩:=qc4 BK141.out;obtain ⟨hfz41_0,hfz41_1,hfz41_2,hfz41_3⟩:=qf4 BK141.out))
  have n0_:Aside0 ((w39.setCell ⟨gb141,3,none⟩ (.bool false)).heap[gb141]? = some (.cells #[.string a0_0,.int .u16 a0_1,.int .u16 a0_2,.bool false] 28 (0,0))):=⟨by (with_reducible repeat first|apply qqa|apply qqb|apply qqc);refine blk_put (cs:=#[.string a0_0,.int .u16 a0_1,.int .u16 a0_2,.bool a0_3]) ?_ 3 _ rfl;(with_reducible repeat first|apply qqa|apply qqb|apply qqc);exact BK141.out⟩
  have n1_:Aside0 ((w39.setCell ⟨gb141,3,none⟩ (.bool false)).heap[gb142]? = some (.cells #[.int .u16 a2_0,.int .u16 a2_1,.slice A2_2 l2_2.length c2_2,.slice A2_3 l2_3.length c2_3,.slice A2_4 l2_4.length c2_4,.slice A2_5 l2_5.length c2_5] 26 (0,0))):=⟨by (with_reducible repeat first|apply qqa|apply qqb|apply qqc);refine blk_far ?_ NB142_141.out _;(with_reducible repeat first|apply qqa|apply qqb|apply qqc);exact BK142.out⟩
  have n2_:Aside0 (Below w.heap.size w (w39.setCell ⟨gb141,3,none⟩ (.bool false))):=⟨by with_reducible repeat first|exact HB.out|apply qqf|apply qqd|apply qqe|refine qqg ?_ GE141.out|refine qqg ?_ GE142.out⟩
  (try clear BK141)
  (try clear BK142)
  (try clear HB)
  generalize (w39.setCell ⟨gb141,3,none⟩ (.bool false)) = w42 at n0_ n1_ n2_ ⊢
  have BK141:=n0_
  have BK142:=n1_
  have HB:=n2_
  clear n0_ n1_ n2_
  have n0_:=qqm (qqb BK141.out)
  have n1_:=qqm (qqb BK142.out)
  have n2_:=qqm (qqe HB.out)
  clear BK141
  clear BK142
  clear HB
  have BK141:=n0_
  have BK142:=n1_
  have HB:=n2_
  clear n0_ n1_ n2_
  refine start_ (n:=28) (S:=fun w'=>w'.cell? ⟨gb142,0,none⟩ = some (.int .u16 a2_0)∧w'.cell? ⟨gb142,1,none⟩ = some (.int .u16 a2_1)∧w'.cell? ⟨gb142,2,none⟩ = some (.slice A2_2 l2_2.length c2_2)∧w'.cell? ⟨gb142,3,none⟩ = some (.slice A2_3 l2_3.length c2_3)∧w'.cell? ⟨gb142,4,none⟩ = some (.slice A2_4 l2_4.length c2_4)∧w'.cell? ⟨gb142,5,none⟩ = some (.slice A2_5 l2_5.length c2_5)) (ds:=[]) (qqz 28 0) (by kernel_rfl) rfl rfl ⟨(qqh BK142.out 0).trans rfl,(qqh BK142.out 1).trans rfl,(qqh BK142.out 2).trans rfl,(qqh BK142.out 3).trans rfl,(qqh BK142.out 4).trans rfl,(qqh BK142.out 5).trans rfl⟩ (fun hHeld=>?_);refine with_tabW query_Fits.tab2 query_Fits.bits2 (fun HT_ HW_=>?_)
  generalize w42.drew = w43 at BK141 BK142 HB hHeld ⊢
  refine pure_ (i:=0) (N:=some 8) (qqz 28 1) rfl rfl (any_of HT_.out (by kernel_rfl)) (fun _ _ _ h=>h) (Or.inl ⟨by rfl,by intro w';go_simp;with_reducible rfl⟩) (by simp only [Act.put,qqj,qqk,qql,i64_w,i32_w];rfl) ?_
  refine pure_ (i:=2) (N:=some 10) (qqz 28 5) rfl rfl (any_of HT_.out (by kernel_rfl)) (fun _ _ _ h=>h) (Or.inl ⟨by rfl,by intro w';go_simp;with_reducible rfl⟩) (by simp only [Act.put,qqj,qqk,qql,i64_w,i32_w];rfl) ?_
  refine take_ (i:=1) (N:=some 9) (qqz 28 7) rfl rfl (take_ofW HT_.out HW_.out (by kernel_rfl)) (fun _ _ _ h=>h) (Or.inl ⟨by rfl,by rintro w' ⟨s0,s1,s2,s3,s4,s5⟩;go_simp;with_reducible rfl⟩) hHeld (by simp only [Act.put,qqj,qqk,qql,i64_w,i32_w];rfl) ?_
  refine pure_ (i:=3) (N:=some 11) (qqz 28 15) rfl rfl (any_of HT_.out (by kernel_rfl)) (fun _ _ _ h=>h) (Or.inl ⟨by rfl,by intro w';go_simp;with_reducible rfl⟩) (by simp only [Act.put,qqj,qqk,qql,i64_w,i32_w];rfl) ?_
  refine pure_ (i:=4) (N:=some 12) (qqz 28 31) rfl rfl (any_of HT_.out (by kernel_rfl)) (fun _ _ _ h=>h) (Or.inl ⟨by rfl,by intro w';go_simp;with_reducible rfl⟩) (by simp only [Act.put,qqj,qqk,qql,i64_w,i32_w];rfl) ?_
  refine pure_ (i:=5) (N:=some 13) (v:=undef) (qqz 28 63) rfl rfl (any_of HT_.out (by kernel_rfl)) (fun _ _ _ h=>h) (Or.inr ⟨by rfl,rfl⟩) (by simp only [Act.put,qqj,qqk,qql,i64_w,i32_w];rfl) ?_
  refine pure_ (i:=6) (N:=some 14) (v:=undef) (qqz 28 127) rfl rfl (any_of HT_.out (by kernel_rfl)) (fun _ _ _ h=>h) (Or.inr ⟨by rfl,rfl⟩) (by simp only [Act.put,qqj,qqk,qql,i64_w,i32_w];rfl) ?_
  refine pure_ (i:=7) (N:=some 15) (v:=undef) (qqz 28 255) rfl rfl (any_of HT_.out (by kernel_rfl)) (fun _ _ _ h=>h) (Or.inr ⟨by rfl,rfl⟩) (by simp only [Act.put,qqj,qqk,qql,i64_w,i32_w];rfl) ?_
  refine pure_ (i:=8) (N:=some 16) (v:=undef) (qqz 28 511) rfl rfl (any_of HT_.out (by kernel_rfl)) (fun _ _ _ h=>h) (Or.inr ⟨by rfl,rfl⟩) (by simp only [Act.put,qqj,qqk,qql,i64_w,i32_w];rfl) ?_
  refine pure_ (i:=9) (N:=some 17) (qqz 28 1023) rfl rfl (any_of HT_.out (by kernel_rfl)) (fun _ _ _ h=>h) (Or.inl ⟨by rfl,by intro w';go_simp;with_reducible rfl⟩) (by simp only [Act.put,qqj,qqk,qql,i64_w,i32_w];rfl) ?_
  refine pure_ (i:=10) (N:=some 18) (qqz 28 2047) rfl rfl (any_of HT_.out (by kernel_rfl)) (fun _ _ _ h=>h) (Or.inl ⟨by rfl,by intro w';go_simp;with_reducible rfl⟩) (by simp only [Act.put,qqj,qqk,qql,i64_w,i32_w];rfl) ?_
  refine pure_ (i:=11) (N:=some 19) (v:=undef) (qqz 28 4095) rfl rfl (any_of HT_.out (by kernel_rfl)) (fun _ _ _ h=>h) (Or.inr ⟨by rfl,rfl⟩) (by simp only [Act.put,qqj,qqk,qql,i64_w,i32_w];rfl) ?_
  refine pure_ (i:=12) (N:=some 20) (v:=undef) (qqz 28 8191) rfl rfl (any_of HT_.out (by kernel_rfl)) (fun _ _ _ h=>h) (Or.inr ⟨by rfl,rfl⟩) (by simp only [Act.put,qqj,qqk,qql,i64_w,i32_w];rfl) ?_
  refine pure_ (i:=13) (N:=some 21) (v:=undef) (qqz 28 16383) rfl rfl (any_of HT_.out (by kernel_rfl)) (fun _ _ _ h=>h) (Or.inr ⟨by rfl,rfl⟩) (by simp only [Act.put,qqj,qqk,qql,i64_w,i32_w];rfl) ?_
  refine pure_ (i:=14) (N:=some 22) (qqz 28 32767) rfl rfl (any_of HT_.out (by kernel_rfl)) (fun _ _ _ h=>h) (Or.inl ⟨by rfl,by intro w';go_simp;with_reducible rfl⟩) (by simp only [Act.put,qqj,qqk,qql,i64_w,i32_w];rfl) ?_
  refine pure_ (i:=15) (N:=some 23) (qqz 28 65535) rfl rfl (any_of HT_.out (by kernel_rfl)) (fun _ _ _ h=>h) (Or.inl ⟨by rfl,by intro w';go_simp;with_reducible rfl⟩) (by simp only [Act.put,qqj,qqk,qql,i64_w,i32_w];rfl) ?_
  refine pure_ (i:=16) (N:=some 24) (v:=undef) (qqz 28 131071) rfl rfl (any_of HT_.out (by kernel_rfl)) (fun _ _ _ h=>h) (Or.inr ⟨by rfl,rfl⟩) (by simp only [Act.put,qqj,qqk,qql,i64_w,i32_w];rfl) ?_
  refine pure_ (i:=17) (N:=some 25) (v:=undef) (qqz 28 262143) rfl rfl (any_of HT_.out (by kernel_rfl)) (fun _ _ _ h=>h) (Or.inr ⟨by rfl,rfl⟩) (by simp only [Act.put,qqj,qqk,qql,i64_w,i32_w];rfl) ?_
  refine pure_ (i:=18) (N:=some 26) (v:=undef) (qqz 28 524287) rfl rfl (any_of HT_.out (by kernel_rfl)) (fun _ _ _ h=>h) (Or.inr ⟨by rfl,rfl⟩) (by simp only [Act.put,qqj,qqk,qql,i64_w,i32_w];rfl) ?_
  refine pure_ (i:=19) (N:=some 27) (v:=undef) (qqz 28 1048575) rfl rfl (any_of HT_.out (by kernel_rfl)) (fun _ _ _ h=>h) (Or.inr ⟨by rfl,rfl⟩) (by simp only [Act.put,qqj,qqk,qql,i64_w,i32_w];rfl) ?_
  refine pure_ (i:=20) (N:=some 28) (qqz 28 2097151) rfl rfl (any_of HT_.out (by kernel_rfl)) (fun _ _ _ h=>h) (Or.inl ⟨by rfl,by intro w';go_simp;with_reducible rfl⟩) (by simp only [Act.put,qqj,qqk,qql,i64_w,i32_w];rfl) ?_
  refine pure_ (i:=21) (N:=some 29) (qqz 28 4194303) rfl rfl (any_of HT_.out (by kernel_rfl)) (fun _ _ _ h=>h) (Or.inl ⟨by rfl,by intro w';go_simp;with_reducible rfl⟩) (by simp only [Act.put,qqj,qqk,qql,i64_w,i32_w];rfl) ?_
  refine pure_ (i:=22) (N:=some 30) (v:=undef) (qqz 28 8388607) rfl rfl (any_of HT_.out (by kernel_rfl)) (fun _ _ _ h=>h) (Or.inr ⟨by rfl,rfl⟩) (by simp only [Act.put,qqj,qqk,qql,i64_w,i32_w];rfl) ?_
  refine pure_ (i:=23) (N:=some 31) (v:=undef) (qqz 28 16777215) rfl rfl (any_of HT_.out (by kernel_rfl)) (fun _ _ _ h=>h) (Or.inr ⟨by rfl,rfl⟩) (by simp only [Act.put,qqj,qqk,qql,i64_w,i32_w];rfl) ?_
  refine pure_ (i:=24) (N:=some 32) (v:=undef) (qqz 28 33554431) rfl rfl (any_of HT_.out (by kernel_rfl)) (fun _ _ _ h=>h) (Or.inr ⟨by rfl,rfl⟩) (by simp only [Act.put,qqj,qqk,qql,i64_w,i32_w];rfl) ?_
  refine pure_ (i:=25) (N:=some 33) (v:=undef) (qqz 28 67108863) rfl rfl (any_of HT_.out (by kernel_rfl)) (fun _ _ _ h=>h) (Or.inr ⟨by rfl,rfl⟩) (by simp only [Act.put,qqj,qqk,qql,i64_w,i32_w];rfl) ?_
  refine pure_ (i:=26) (N:=some 34) (qqz 28 134217727) rfl rfl (any_of HT_.out (by kernel_rfl)) (fun _ _ _ h=>h) (Or.inl ⟨by rfl,by intro w';go_simp;with_reducible rfl⟩) (by simp only [Act.put,qqj,qqk,qql,i64_w,i32_w];rfl) ?_
  refine pure_ (i:=27) (N:=some 6) (qqz 28 268435455) rfl rfl (any_of HT_.out (by kernel_rfl)) (fun _ _ _ h=>h) (Or.inl ⟨by rfl,by intro w';go_simp;with_reducible rfl⟩) (by simp only [Act.put,qqj,qqk,qql,i64_w,i32_w];rfl) ?_
  refine done_ (done_of HT_.out (by kernel_rfl)) ?_
  try go_wp2
  go_ret
  exact ⟨by first|rfl|(simp [errW_none,errW_some] <;> rfl)|(simp [*,errW_none,errW_some] <;> rfl),by with_reducible repeat first|exact HB.out|apply qqf|apply qqd|apply qqe|refine qqg ?_ GE141.out|refine qqg ?_ GE142.out⟩
 rw [if_pos c4] at H
 have c4b0:(a2_0 == a1) = true:=beq_iff_eq.mpr c4
 have c4b1:(a2_0 != a1) = false:=bne_eq_false_iff_eq.mpr c4
 clear c4
 by_cases c5:(Go.bits .and .u16 a2_1 33280) = 32768
 rotate_left
 ·
  rw [if_neg c5] at H
  have c5b0:((Go.bits .and .u16 a2_1 33280) == 32768) = false:=beq_eq_false_iff_ne.mpr c5
  have c5b1:((Go.bits .and .u16 a2_1 33280) != 32768) = true:=bne_iff_ne.mpr c5
  obtain rfl:=Option.some.inj H
  go_enter Try.func16,Try.ntmps16
  try go_wp2_with (first|((with_reducible refine gate_dst (N:=3) rfl ?_);(try (refine gate_guard (by rfl) ?_;dsimp only));refine box_event ?hg (N:=3) ?hd (cs:=#[.string a0_0,.int .u16 a0_1,.int .u16 a0_2,.bool a0_3]) (t:=28) ?hr ?_;(case hd=>rfl);(case hg=>rfl);(case hr=>first|(go_simp;done)|(go_simp;rfl));intro gb141 hg w32 hbox hb;have n0_:=qqm (below_step (by with_reducible repeat first|exact HB.out|apply qqf|apply qqd|apply qqe) hb);have n1_:=qqm (hbox);have n2_:=qqm ((by rw [hg];exact (below_size (by with_reducible repeat first|exact HB.out|apply qqf|apply qqd|apply qqe)):w.heap.size ≤ gb141));have n3_:=n2_;clear HB;have HB:=n0_;have BK141:=n1_;have GW141:=n2_;have GE141:=n3_;clear n0_ n1_ n2_ n3_ hb hbox hg)|((with_reducible refine gate_dst (N:=5) rfl ?_);(try (refine gate_guard (by rfl) ?_;dsimp only));refine box_event ?hg (N:=5) ?hd (cs:=#[.int .u16 a2_0,.int .u16 a2_1,.slice A2_2 l2_2.length c2_2,.slice A2_3 l2_3.length c2_3,.slice A2_4 l2_4.length c2_4,.slice A2_5 l2_5.length c2_5]) (t:=26) ?hr ?_;(case hd=>rfl);(case hg=>rfl);(case hr=>first|(go_simp;done)|(go_simp;rfl));intro gb142 hg w33 hbox hb;have n0_:=qqm (blk_below (g:=gb141) (o:=.cells #[.string a0_0,.int .u16 a0_1,.int .u16 a0_2,.bool a0_3] 28 (0,0)) (by (with_reducible repeat first|apply qqa|apply qqb|apply qqc);exact BK141.out) hb);have n1_:=qqm (below_step (by with_reducible repeat first|exact HB.out|apply qqf|apply qqd|apply qqe|refine qqg ?_ GE141.out) hb);have n2_:=qqm (hbox);have n3_:=qqm ((by rw [hg];exact (below_size (by with_reducible repeat first|exact HB.out|apply qqf|apply qqd|apply qqe|refine qqg ?_ GE141.out)):w.heap.size ≤ gb142));have n4_:=n3_;have n5_:=qqm ((by rw [hg];exact Nat.ne_of_lt (blk_lt (by (with_reducible repeat first|apply qqa|apply qqb|apply qqc);exact BK141.out)):gb141 ≠ gb142));have n6_:=qqm (Ne.symm n5_.out);clear BK141 HB;have BK141:=n0_;have HB:=n1_;have BK142:=n2_;have GW142:=n3_;have GE142:=n4_;have NB141_142:=n5_;have NB142_141:=n6_;clear n0_ n1_ n2_ n3_ n4_ n5_ n6_ hb hbox hg;have hnb34:=NB141_142.out;have hnc34:=NB142_141.out;obtain ⟨hcz35_0,hcz35_1,hcz35_2,hcz35_3⟩:=qc4 BK141.out;obtain ⟨hfz35_0,hfz35_1,hfz35_2,hfz35_3⟩:=qf4 BK141.out))
  have n0_:Aside0 ((w33.setCell ⟨gb141,3,none⟩ (.bool false)).heap[gb141]? = some (.cells #[.string a0_0,.int .u16 a0_1,.int .u16 a0_2,.bool false] 28 (0,0))):=⟨by (with_reducible repeat first|apply qqa|apply qqb|apply qqc);refine blk_put (cs:=#[.string a0_0,.int .u16 a0_1,.int .u16 a0_2,.bool a0_3]) ?_ 3 _ rfl;(with_reducible repeat first|apply qqa|apply qqb|apply qqc);exact BK141.out⟩
  have n1_:Aside0 ((w33.setCell ⟨gb141,3,none⟩ (.bool false)).heap[gb142]? = some (.cells #[.int .u16 a2_0,.int .u16 a2_1,.slice A2_2 l2_2.length c2_2,.slice A2_3 l2_3.length c2_3,.slice A2_4 l2_4.length c2_4,.slice A2_5 l2_5.length c2_5] 26 (0,0))):=⟨by (with_reducible repeat first|apply qqa|apply qqb|apply qqc);refine blk_far ?_ NB142_141.out _;(with_reducible repeat first|apply qqa|apply qqb|apply qqc);exact BK142.out⟩
  have n2_:Aside0 (Below w.heap.size w (w33.setCell ⟨gb141,3,none⟩ (.bool false))):=⟨by with_reducible repeat first|exact HB.out|apply qqf|apply qqd|apply qqe|refine qqg ?_ GE141.out|refine qqg ?_ GE142.out⟩
  (try clear BK141)
  (try clear BK142)
  (try clear HB)
  generalize (w33.setCell ⟨gb141,3,none⟩ (.bool false)) = w36 at n0_ n1_ n2_ ⊢
  have BK141:=n0_
  have BK142:=n1_
  have HB:=n2_
  clear n0_ n1_ n2_
  have n0_:=qqm (qqb BK141.out)
  have n1_:=qqm (qqb BK142.out)
  have n2_:=qqm (qqe HB.out)
  clear BK141
  clear BK142
  clear HB
  have BK141:=n0_
  have BK142:=n1_
  have HB:=n2_
  clear n0_ n1_ n2_
  refine start_ (n:=28) (S:=fun w'=>w'.cell? ⟨gb142,0,none⟩ = some (.int .u16 a2_0)∧w'.cell? ⟨gb142,1,none⟩ = some (.int .u16 a2_1)∧w'.cell? ⟨gb142,2,none⟩ = some (.slice A2_2 l2_2.length c2_2)∧w'.cell? ⟨gb142,3,none⟩ = some (.slice A2_3 l2_3.length c2_3)∧w'.cell? ⟨gb142,4,none⟩ = some (.slice A2_4 l2_4.length c2_4)∧w'.cell? ⟨gb142,5,none⟩ = some (.slice A2_5 l2_5.length c2_5)) (ds:=[]) (qqz 28 0) (by kernel_rfl) rfl rfl ⟨(qqh BK142.out 0).trans rfl,(qqh BK142.out 1).trans rfl,(qqh BK142.out 2).trans rfl,(qqh BK142.out 3).trans rfl,(qqh BK142.out 4).trans rfl,(qqh BK142.out 5).trans rfl⟩ (fun hHeld=>?_);refine with_tabW query_Fits.tab2 query_Fits.bits2 (fun HT_ HW_=>?_)
  generalize w36.drew = w37 at BK141 BK142 HB hHeld ⊢
  refine pure_ (i:=0) (N:=some 8) (qqz 28 1) rfl rfl (any_of HT_.out (by kernel_rfl)) (fun _ _ _ h=>h) (Or.inl ⟨by rfl,by intro w';go_simp;with_reducible rfl⟩) (by simp only [Act.put,qqj,qqk,qql,i64_w,i32_w];rfl) ?_
  refine pure_ (i:=2) (N:=some 10) (qqz 28 5) rfl rfl (any_of HT_.out (by kernel_rfl)) (fun _ _ _ h=>h) (Or.inl ⟨by rfl,by intro w';go_simp;with_reducible rfl⟩) (by simp only [Act.put,qqj,qqk,qql,i64_w,i32_w];rfl) ?_
  refine take_ (i:=1) (N:=some 9) (qqz 28 7) rfl rfl (take_ofW HT_.out HW_.out (by kernel_rfl)) (fun _ _ _ h=>h) (Or.inl ⟨by rfl,by rintro w' ⟨s0,s1,s2,s3,s4,s5⟩;go_simp;with_reducible rfl⟩) hHeld (by simp only [Act.put,qqj,qqk,qql,i64_w,i32_w];rfl) ?_
  refine pure_ (i:=3) (N:=some 11) (qqz 28 15) rfl rfl (any_of HT_.out (by kernel_rfl)) (fun _ _ _ h=>h) (Or.inl ⟨by rfl,by intro w';go_simp;with_reducible rfl⟩) (by simp only [Act.put,qqj,qqk,qql,i64_w,i32_w];rfl) ?_
  refine pure_ (i:=4) (N:=some 12) (qqz 28 31) rfl rfl (any_of HT_.out (by kernel_rfl)) (fun _ _ _ h=>h) (Or.inl ⟨by rfl,by intro w';go_simp;with_reducible rfl⟩) (by simp only [Act.put,qqj,qqk,qql,i64_w,i32_w];rfl) ?_
  refine pure_ (i:=5) (N:=some 13) (qqz 28 63) rfl rfl (any_of HT_.out (by kernel_rfl)) (fun _ _ _ h=>h) (Or.inl ⟨by rfl,by intro w';go_simp;with_reducible rfl⟩) (by simp only [Act.put,qqj,qqk,qql,i64_w,i32_w];rfl) ?_
  refine take_ (i:=6) (N:=some 14) (qqz 28 127) rfl rfl (take_ofW HT_.out HW_.out (by kernel_rfl)) (fun _ _ _ h=>h) (Or.inl ⟨by rfl,by rintro w' ⟨s0,s1,s2,s3,s4,s5⟩;go_simp;with_reducible rfl⟩) hHeld (by simp only [Act.put,qqj,qqk,qql,i64_w,i32_w];rfl) ?_
  refine pure_ (i:=7) (N:=some 15) (qqz 28 255) rfl rfl (any_of HT_.out (by kernel_rfl)) (fun _ _ _ h=>h) (Or.inl ⟨by rfl,by intro w';go_simp;with_reducible rfl⟩) (by simp only [Act.put,qqj,qqk,qql,i64_w,i32_w];rfl) ?_
  refine pure_ (i:=8) (N:=some 16) (qqz 28 511) rfl rfl (any_of HT_.out (by kernel_rfl)) (fun _ _ _ h=>h) (Or.inl ⟨by rfl,by intro w';go_simp;with_reducible rfl⟩) (by simp only [Act.put,qqj,qqk,qql,i64_w,i32_w];rfl) ?_
  refine pure_ (i:=9) (N:=some 17) (qqz 28 1023) rfl rfl (any_of HT_.out (by kernel_rfl)) (fun _ _ _ h=>h) (Or.inl ⟨by rfl,by intro w';go_simp;with_reducible rfl⟩) (by simp only [Act.put,qqj,qqk,qql,i64_w,i32_w];rfl) ?_
  refine pure_ (i:=10) (N:=some 18) (qqz 28 2047) rfl rfl (any_of HT_.out (by kernel_rfl)) (fun _ _ _ h=>h) (Or.inl ⟨by rfl,by intro w';go_simp;with_reducible rfl⟩) (by simp only [Act.put,qqj,qqk,qql,i64_w,i32_w];rfl) ?_
  refine pure_ (i:=11) (N:=some 19) (v:=undef) (qqz 28 4095) rfl rfl (any_of HT_.out (by kernel_rfl)) (fun _ _ _ h=>h) (Or.inr ⟨by rfl,rfl⟩) (by simp only [Act.put,qqj,qqk,qql,i64_w,i32_w];rfl) ?_
  refine pure_ (i:=12) (N:=some 20) (v:=undef) (qqz 28 8191) rfl rfl (any_of HT_.out (by kernel_rfl)) (fun _ _ _ h=>h) (Or.inr ⟨by rfl,rfl⟩) (by simp only [Act.put,qqj,qqk,qql,i64_w,i32_w];rfl) ?_
  refine pure_ (i:=13) (N:=some 21) (v:=undef) (qqz 28 16383) rfl rfl (any_of HT_.out (by kernel_rfl)) (fun _ _ _ h=>h) (Or.inr ⟨by rfl,rfl⟩) (by simp only [Act.put,qqj,qqk,qql,i64_w,i32_w];rfl) ?_
  refine pure_ (i:=14) (N:=some 22) (qqz 28 32767) rfl rfl (any_of HT_.out (by kernel_rfl)) (fun _ _ _ h=>h) (Or.inl ⟨by rfl,by intro w';go_simp;with_reducible rfl⟩) (by simp only [Act.put,qqj,qqk,qql,i64_w,i32_w];rfl) ?_
  refine pure_ (i:=15) (N:=some 23) (qqz 28 65535) rfl rfl (any_of HT_.out (by kernel_rfl)) (fun _ _ _ h=>h) (Or.inl ⟨by rfl,by intro w';go_simp;with_reducible rfl⟩) (by simp only [Act.put,qqj,qqk,qql,i64_w,i32_w];rfl) ?_
  refine pure_ (i:=16) (N:=some 24) (v:=undef) (qqz 28 131071) rfl rfl (any_of HT_.out (by kernel_rfl)) (fun _ _ _ h=>h) (Or.inr ⟨by rfl,rfl⟩) (by simp only [Act.put,qqj,qqk,qql,i64_w,i32_w];rfl) ?_
  refine pure_ (i:=17) (N:=some 25) (v:=undef) (qqz 28 262143) rfl rfl (any_of HT_.out (by kernel_rfl)) (fun _ _ _ h=>h) (Or.inr ⟨by rfl,rfl⟩) (by simp only [Act.put,qqj,qqk,qql,i64_w,i32_w];rfl) ?_
  refine pure_ (i:=18) (N:=some 26) (v:=undef) (qqz 28 524287) rfl rfl (any_of HT_.out (by kernel_rfl)) (fun _ _ _ h=>h) (Or.inr ⟨by rfl,rfl⟩) (by simp only [Act.put,qqj,qqk,qql,i64_w,i32_w];rfl) ?_
  refine pure_ (i:=19) (N:=some 27) (v:=undef) (qqz 28 1048575) rfl rfl (any_of HT_.out (by kernel_rfl)) (fun _ _ _ h=>h) (Or.inr ⟨by rfl,rfl⟩) (by simp only [Act.put,qqj,qqk,qql,i64_w,i32_w];rfl) ?_
  refine pure_ (i:=20) (N:=some 28) (qqz 28 2097151) rfl rfl (any_of HT_.out (by kernel_rfl)) (fun _ _ _ h=>h) (Or.inl ⟨by rfl,by intro w';go_simp;with_reducible rfl⟩) (by simp only [Act.put,qqj,qqk,qql,i64_w,i32_w];rfl) ?_
  refine pure_ (i:=21) (N:=some 29) (qqz 28 4194303) rfl rfl (any_of HT_.out (by kernel_rfl)) (fun _ _ _ h=>h) (Or.inl ⟨by rfl,by intro w';go_simp;with_reducible rfl⟩) (by simp only [Act.put,qqj,qqk,qql,i64_w,i32_w];rfl) ?_
  refine pure_ (i:=22) (N:=some 30) (v:=undef) (qqz 28 8388607) rfl rfl (any_of HT_.out (by kernel_rfl)) (fun _ _ _ h=>h) (Or.inr ⟨by rfl,rfl⟩) (by simp only [Act.put,qqj,qqk,qql,i64_w,i32_w];rfl) ?_
  refine pure_ (i:=23) (N:=some 31) (v:=undef) (qqz 28 16777215) rfl rfl (any_of HT_.out (by kernel_rfl)) (fun _ _ _ h=>h) (Or.inr ⟨by rfl,rfl⟩) (by simp only [Act.put,qqj,qqk,qql,i64_w,i32_w];rfl) ?_
  refine pure_ (i:=24) (N:=some 32) (v:=undef) (qqz 28 33554431) rfl rfl (any_of HT_.out (by kernel_rfl)) (fun _ _ _ h=>h) (Or.inr ⟨by rfl,rfl⟩) (by simp only [Act.put,qqj,qqk,qql,i64_w,i32_w];rfl) ?_
  refine pure_ (i:=25) (N:=some 33) (v:=undef) (qqz 28 67108863) rfl rfl (any_of HT_.out (by kernel_rfl)) (fun _ _ _ h=>h) (Or.inr ⟨by rfl,rfl⟩) (by simp only [Act.put,qqj,qqk,qql,i64_w,i32_w];rfl) ?_
  refine pure_ (i:=26) (N:=some 34) (qqz 28 134217727) rfl rfl (any_of HT_.out (by kernel_rfl)) (fun _ _ _ h=>h) (Or.inl ⟨by rfl,by intro w';go_simp;with_reducible rfl⟩) (by simp only [Act.put,qqj,qqk,qql,i64_w,i32_w];rfl) ?_
  refine pure_ (i:=27) (N:=some 6) (qqz 28 268435455) rfl rfl (any_of HT_.out (by kernel_rfl)) (fun _ _ _ h=>h) (Or.inl ⟨by rfl,by intro w';go_simp;with_reducible rfl⟩) (by simp only [Act.put,qqj,qqk,qql,i64_w,i32_w];rfl) ?_
  refine done_ (done_of HT_.out (by kernel_rfl)) ?_
  try go_wp2
  go_ret
  exact ⟨by first|rfl|(simp [errW_none,errW_some] <;> rfl)|(simp [*,errW_none,errW_some] <;> rfl),by with_reducible repeat first|exact HB.out|apply qqf|apply qqd|apply qqe|refine qqg ?_ GE141.out|refine qqg ?_ GE142.out⟩
 rw [if_pos c5] at H
 have c5b0:((Go.bits .and .u16 a2_1 33280) == 32768) = true:=beq_iff_eq.mpr c5
 have c5b1:((Go.bits .and .u16 a2_1 33280) != 32768) = false:=bne_eq_false_iff_eq.mpr c5
 clear c5
 replace H:=Option.bind_eq_some_iff.mp H
 obtain ⟨t143,A60,H⟩:=H
 replace H:(if t143 = 0 then (if (l2_2.length:Int) = 1 then ((query_key.f k a2_0 a2_1 l2_2 l2_3 l2_4 l2_5).bind fun bt144=>(some (bt144.1.toList == a0_0.toList && (bt144.2.1 == a0_1 && (bt144.2.2.1 == a0_2 && (!bt144.2.2.2)))))) else (some false)) else (some false)) = some r:=H
 have A6:=qqm A60
 clear A60
 by_cases c7:t143 = 0
 rotate_left
 ·
  rw [if_neg c7] at H
  have c7b0:(t143 == 0) = false:=beq_eq_false_iff_ne.mpr c7
  have c7b1:(t143 != 0) = true:=bne_iff_ne.mpr c7
  obtain rfl:=Option.some.inj H
  go_enter Try.func16,Try.ntmps16
  try go_wp2_with (first|((with_reducible refine gate_dst (N:=3) rfl ?_);(try (refine gate_guard (by rfl) ?_;dsimp only));refine box_event ?hg (N:=3) ?hd (cs:=#[.string a0_0,.int .u16 a0_1,.int .u16 a0_2,.bool a0_3]) (t:=28) ?hr ?_;(case hd=>rfl);(case hg=>rfl);(case hr=>first|(go_simp;done)|(go_simp;rfl));intro gb141 hg w25 hbox hb;have n0_:=qqm (below_step (by with_reducible repeat first|exact HB.out|apply qqf|apply qqd|apply qqe) hb);have n1_:=qqm (hbox);have n2_:=qqm ((by rw [hg];exact (below_size (by with_reducible repeat first|exact HB.out|apply qqf|apply qqd|apply qqe)):w.heap.size ≤ gb141));have n3_:=n2_;clear HB;have HB:=n0_;have BK141:=n1_;have GW141:=n2_;have GE141:=n3_;clear n0_ n1_ n2_ n3_ hb hbox hg)|((with_reducible refine gate_dst (N:=5) rfl ?_);(try (refine gate_guard (by rfl) ?_;dsimp only));refine box_event ?hg (N:=5) ?hd (cs:=#[.int .u16 a2_0,.int .u16 a2_1,.slice A2_2 l2_2.length c2_2,.slice A2_3 l2_3.length c2_3,.slice A2_4 l2_4.length c2_4,.slice A2_5 l2_5.length c2_5]) (t:=26) ?hr ?_;(case hd=>rfl);(case hg=>rfl);(case hr=>first|(go_simp;done)|(go_simp;rfl));intro gb142 hg w26 hbox hb;have n0_:=qqm (blk_below (g:=gb141) (o:=.cells #[.string a0_0,.int .u16 a0_1,.int .u16 a0_2,.bool a0_3] 28 (0,0)) (by (with_reducible repeat first|apply qqa|apply qqb|apply qqc);exact BK141.out) hb);have n1_:=qqm (below_step (by with_reducible repeat first|exact HB.out|apply qqf|apply qqd|apply qqe|refine qqg ?_ GE141.out) hb);have n2_:=qqm (hbox);have n3_:=qqm ((by rw [hg];exact (below_size (by with_reducible repeat first|exact HB.out|apply qqf|apply qqd|apply qqe|refine qqg ?_ GE141.out)):w.heap.size ≤ gb142));have n4_:=n3_;have n5_:=qqm ((by rw [hg];exact Nat.ne_of_lt (blk_lt (by (with_reducible repeat first|apply qqa|apply qqb|apply qqc);exact BK141.out)):gb141 ≠ gb142));have n6_:=qqm (Ne.symm n5_.out);clear BK141 HB;have BK141:=n0_;have HB:=n1_;have BK142:=n2_;have GW142:=n3_;have GE142:=n4_;have NB141_142:=n5_;have NB142_141:=n6_;clear n0_ n1_ n2_ n3_ n4_ n5_ n6_ hb hbox hg;have hnb27:=NB141_142.out;have hnc27:=NB142_141.out;obtain ⟨hcz28_0,hcz28_1,hcz28_2,hcz28_3⟩:=qc4 BK141.out;obtain ⟨hfz28_0,hfz28_1,hfz28_2,hfz28_3⟩:=qf4 BK141.out))
  have n0_:Aside0 ((w26.setCell ⟨gb141,3,none⟩ (.bool false)).heap[gb141]? = some (.cells #[.string a0_0,.int .u16 a0_1,.int .u16 a0_2,.bool false] 28 (0,0))):=⟨by (with_reducible repeat first|apply qqa|apply qqb|apply qqc);refine blk_put (cs:=#[.string a0_0,.int .u16 a0_1,.int .u16 a0_2,.bool a0_3]) ?_ 3 _ rfl;(with_reducible repeat first|apply qqa|apply qqb|apply qqc);exact BK141.out⟩
  have n1_:Aside0 ((w26.setCell ⟨gb141,3,none⟩ (.bool false)).heap[gb142]? = some (.cells #[.int .u16 a2_0,.int .u16 a2_1,.slice A2_2 l2_2.length c2_2,.slice A2_3 l2_3.length c2_3,.slice A2_4 l2_4.length c2_4,.slice A2_5 l2_5.length c2_5] 26 (0,0))):=⟨by (with_reducible repeat first|apply qqa|apply qqb|apply qqc);refine blk_far ?_ NB142_141.out _;(with_reducible repeat first|apply qqa|apply qqb|apply qqc);exact BK142.out⟩
  have n2_:Aside0 (Below w.heap.size w (w26.setCell ⟨gb141,3,none⟩ (.bool false))):=⟨by with_reducible repeat first|exact HB.out|apply qqf|apply qqd|apply qqe|refine qqg ?_ GE141.out|refine qqg ?_ GE142.out⟩
  (try clear BK141)
  (try clear BK142)
  (try clear HB)
  generalize (w26.setCell ⟨gb141,3,none⟩ (.bool false)) = w29 at n0_ n1_ n2_ ⊢
  have BK141:=n0_
  have BK142:=n1_
  have HB:=n2_
  clear n0_ n1_ n2_
  have n0_:=qqm (qqb BK141.out)
  have n1_:=qqm (qqb BK142.out)
  have n2_:=qqm (qqe HB.out)
  clear BK141
  clear BK142
  clear HB
  have BK141:=n0_
  have BK142:=n1_
  have HB:=n2_
  clear n0_ n1_ n2_
  refine start_ (n:=28) (S:=fun w'=>w'.cell? ⟨gb142,0,none⟩ = some (.int .u16 a2_0)∧w'.cell? ⟨gb142,1,none⟩ = some (.int .u16 a2_1)∧w'.cell? ⟨gb142,2,none⟩ = some (.slice A2_2 l2_2.length c2_2)∧w'.cell? ⟨gb142,3,none⟩ = some (.slice A2_3 l2_3.length c2_3)∧w'.cell? ⟨gb142,4,none⟩ = some (.slice A2_4 l2_4.length c2_4)∧w'.cell? ⟨gb142,5,none⟩ = some (.slice A2_5 l2_5.length c2_5)) (ds:=[]) (qqz 28 0) (by kernel_rfl) rfl rfl ⟨(qqh BK142.out 0).trans rfl,(qqh BK142.out 1).trans rfl,(qqh BK142.out 2).trans rfl,(qqh BK142.out 3).trans rfl,(qqh BK142.out 4).trans rfl,(qqh BK142.out 5).trans rfl⟩ (fun hHeld=>?_);refine with_tabW query_Fits.tab2 query_Fits.bits2 (fun HT_ HW_=>?_)
  generalize w29.drew = w30 at BK141 BK142 HB hHeld ⊢
  refine pure_ (i:=0) (N:=some 8) (qqz 28 1) rfl rfl (any_of HT_.out (by kernel_rfl)) (fun _ _ _ h=>h) (Or.inl ⟨by rfl,by intro w';go_simp;with_reducible rfl⟩) (by simp only [Act.put,qqj,qqk,qql,i64_w,i32_w];rfl) ?_
  refine pure_ (i:=2) (N:=some 10) (qqz 28 5) rfl rfl (any_of HT_.out (by kernel_rfl)) (fun _ _ _ h=>h) (Or.inl ⟨by rfl,by intro w';go_simp;with_reducible rfl⟩) (by simp only [Act.put,qqj,qqk,qql,i64_w,i32_w];rfl) ?_
  refine take_ (i:=1) (N:=some 9) (qqz 28 7) rfl rfl (take_ofW HT_.out HW_.out (by kernel_rfl)) (fun _ _ _ h=>h) (Or.inl ⟨by rfl,by rintro w' ⟨s0,s1,s2,s3,s4,s5⟩;go_simp;with_reducible rfl⟩) hHeld (by simp only [Act.put,qqj,qqk,qql,i64_w,i32_w];rfl) ?_
  refine pure_ (i:=3) (N:=some 11) (qqz 28 15) rfl rfl (any_of HT_.out (by kernel_rfl)) (fun _ _ _ h=>h) (Or.inl ⟨by rfl,by intro w';go_simp;with_reducible rfl⟩) (by simp only [Act.put,qqj,qqk,qql,i64_w,i32_w];rfl) ?_
  refine pure_ (i:=4) (N:=some 12) (qqz 28 31) rfl rfl (any_of HT_.out (by kernel_rfl)) (fun _ _ _ h=>h) (Or.inl ⟨by rfl,by intro w';go_simp;with_reducible rfl⟩) (by simp only [Act.put,qqj,qqk,qql,i64_w,i32_w];rfl) ?_
  refine pure_ (i:=5) (N:=some 13) (qqz 28 63) rfl rfl (any_of HT_.out (by kernel_rfl)) (fun _ _ _ h=>h) (Or.inl ⟨by rfl,by intro w';go_simp;with_reducible rfl⟩) (by simp only [Act.put,qqj,qqk,qql,i64_w,i32_w];rfl) ?_
  refine take_ (i:=6) (N:=some 14) (qqz 28 127) rfl rfl (take_ofW HT_.out HW_.out (by kernel_rfl)) (fun _ _ _ h=>h) (Or.inl ⟨by rfl,by rintro w' ⟨s0,s1,s2,s3,s4,s5⟩;go_simp;with_reducible rfl⟩) hHeld (by simp only [Act.put,qqj,qqk,qql,i64_w,i32_w];rfl) ?_
  refine pure_ (i:=7) (N:=some 15) (qqz 28 255) rfl rfl (any_of HT_.out (by kernel_rfl)) (fun _ _ _ h=>h) (Or.inl ⟨by rfl,by intro w';go_simp;with_reducible rfl⟩) (by simp only [Act.put,qqj,qqk,qql,i64_w,i32_w];rfl) ?_
  refine pure_ (i:=8) (N:=some 16) (qqz 28 511) rfl rfl (any_of HT_.out (by kernel_rfl)) (fun _ _ _ h=>h) (Or.inl ⟨by rfl,by intro w';go_simp;with_reducible rfl⟩) (by simp only [Act.put,qqj,qqk,qql,i64_w,i32_w];rfl) ?_
  refine pure_ (i:=9) (N:=some 17) (qqz 28 1023) rfl rfl (any_of HT_.out (by kernel_rfl)) (fun _ _ _ h=>h) (Or.inl ⟨by rfl,by intro w';go_simp;with_reducible rfl⟩) (by simp only [Act.put,qqj,qqk,qql,i64_w,i32_w];rfl) ?_
  refine pure_ (i:=10) (N:=some 18) (qqz 28 2047) rfl rfl (any_of HT_.out (by kernel_rfl)) (fun _ _ _ h=>h) (Or.inl ⟨by rfl,by intro w';go_simp;with_reducible rfl⟩) (by simp only [Act.put,qqj,qqk,qql,i64_w,i32_w];rfl) ?_
  refine take_ (i:=11) (N:=some 19) (qqz 28 4095) rfl rfl (take_ofW HT_.out HW_.out (by kernel_rfl)) (fun _ _ _ h=>h) (Or.inl ⟨by rfl,by rintro w' ⟨s0,s1,s2,s3,s4,s5⟩;go_simp;with_reducible rfl⟩) hHeld (by simp only [Act.put,qqj,qqk,qql,i64_w,i32_w];rfl) ?_
  refine one_ (i:=12) (N:=some 20) (qqz 28 8191) rfl rfl (one_of HT_.out (by kernel_rfl)) (by decide) (fun K hK=>?_)
  refine goes_ Try.func33 (by kernel_rfl) rfl #[.agg #[.int .u16 a2_0,.int .u16 a2_1,.slice A2_2 l2_2.length c2_2,.slice A2_3 l2_3.length c2_3,.slice A2_4 l2_4.length c2_4,.slice A2_5 l2_5.length c2_5]] (by rfl) rfl rfl (by (try simp only [List.map_toArray,List.map_cons,List.map_nil]);first|done|rfl|(simp only [List.length_drop,List.length_take];rfl)) ?_
  with_reducible refine (query_opcode.calls a2_0 a2_1 _ _ l2_2 _ _ l2_3 _ _ l2_4 _ _ l2_5 t143 _ ?side1 ?side2 ?side3 ?side4 ?side5 ?side6 ?side7 ?side8 A6.out).mono ?_
  (case side1=>repeat (first|exact (Kd.C_below HR2_2.out HB.out)|(with_reducible first|apply Kd.C_alloc|apply Kd.C_drewN|apply Kd.C_drew)))
  (case side2=>exact HC2_2.out)
  (case side3=>repeat (first|exact (Kd.C_below HR2_3.out HB.out)|(with_reducible first|apply Kd.C_alloc|apply Kd.C_drewN|apply Kd.C_drew)))
  (case side4=>exact HC2_3.out)
  (case side5=>repeat (first|exact (Kd.C_below HR2_4.out HB.out)|(with_reducible first|apply Kd.C_alloc|apply Kd.C_drewN|apply Kd.C_drew)))
  (case side6=>exact HC2_4.out)
  (case side7=>repeat (first|exact (Kd.C_below HR2_5.out HB.out)|(with_reducible first|apply Kd.C_alloc|apply Kd.C_drewN|apply Kd.C_drew)))
  (case side8=>exact HC2_5.out)
  rintro e w31 ⟨rfl,hb⟩
  refine ⟨_,rfl,?_⟩
  have n0_:=qqm (blk_below (g:=gb141) (o:=.cells #[.string a0_0,.int .u16 a0_1,.int .u16 a0_2,.bool false] 28 (0,0)) (by (with_reducible repeat first|apply qqa|apply qqb|apply qqc);exact BK141.out) hb)
  have n1_:=qqm (blk_below (g:=gb142) (o:=.cells #[.int .u16 a2_0,.int .u16 a2_1,.slice A2_2 l2_2.length c2_2,.slice A2_3 l2_3.length c2_3,.slice A2_4 l2_4.length c2_4,.slice A2_5 l2_5.length c2_5] 26 (0,0)) (by (with_reducible repeat first|apply qqa|apply qqb|apply qqc);exact BK142.out) hb)
  have n2_:=qqm (below_step (by with_reducible repeat first|exact HB.out|apply qqf|apply qqd|apply qqe|refine qqg ?_ GE141.out|refine qqg ?_ GE142.out) hb)
  clear BK141
  clear BK142
  clear HB
  have BK141:=n0_
  have BK142:=n1_
  have HB:=n2_
  clear n0_ n1_ n2_
  (try clear hb)
  (try clear hb2)
  (try clear hk)
  (try clear hi)
  refine hK.out _ _ ⟨(qqh BK142.out 0).trans rfl,(qqh BK142.out 1).trans rfl,(qqh BK142.out 2).trans rfl,(qqh BK142.out 3).trans rfl,(qqh BK142.out 4).trans rfl,(qqh BK142.out 5).trans rfl⟩ (fun hHeld=>?_)
  clear hK K
  refine norm_ (a':=?_) ?_ ?_
  rotate_left
  ·
   show Act.put _ (some 20) _ = _
   simp only [Act.put,qqj,qqk,qql,i64_w,i32_w]
   rfl
  refine pure_ (i:=13) (N:=some 21) (qqz 28 16383) rfl rfl (any_of HT_.out (by kernel_rfl)) (fun _ _ _ h=>h) (Or.inl ⟨by rfl,by intro w';go_simp;with_reducible rfl⟩) (by simp only [Act.put,qqj,qqk,qql,i64_w,i32_w];rfl) ?_
  refine pure_ (i:=14) (N:=some 22) (qqz 28 32767) rfl rfl (any_of HT_.out (by kernel_rfl)) (fun _ _ _ h=>h) (Or.inl ⟨by rfl,by intro w';go_simp;with_reducible rfl⟩) (by simp only [Act.put,qqj,qqk,qql,i64_w,i32_w];rfl) ?_
  refine pure_ (i:=15) (N:=some 23) (qqz 28 65535) rfl rfl (any_of HT_.out (by kernel_rfl)) (fun _ _ _ h=>h) (Or.inl ⟨by rfl,by intro w';go_simp;with_reducible rfl⟩) (by simp only [Act.put,qqj,qqk,qql,i64_w,i32_w];rfl) ?_
  refine pure_ (i:=16) (N:=some 24) (v:=undef) (qqz 28 131071) rfl rfl (any_of HT_.out (by kernel_rfl)) (fun _ _ _ h=>h) (Or.inr ⟨by rfl,rfl⟩) (by simp only [Act.put,qqj,qqk,qql,i64_w,i32_w];rfl) ?_
  refine pure_ (i:=17) (N:=some 25) (v:=undef) (qqz 28 262143) rfl rfl (any_of HT_.out (by kernel_rfl)) (fun _ _ _ h=>h) (Or.inr ⟨by rfl,rfl⟩) (by simp only [Act.put,qqj,qqk,qql,i64_w,i32_w];rfl) ?_
  refine pure_ (i:=18) (N:=some 26) (v:=undef) (qqz 28 524287) rfl rfl (any_of HT_.out (by kernel_rfl)) (fun _ _ _ h=>h) (Or.inr ⟨by rfl,rfl⟩) (by simp only [Act.put,qqj,qqk,qql,i64_w,i32_w];rfl) ?_
  refine pure_ (i:=19) (N:=some 27) (v:=undef) (qqz 28 1048575) rfl rfl (any_of HT_.out (by kernel_rfl)) (fun _ _ _ h=>h) (Or.inr ⟨by rfl,rfl⟩) (by simp only [Act.put,qqj,qqk,qql,i64_w,i32_w];rfl) ?_
  refine pure_ (i:=20) (N:=some 28) (qqz 28 2097151) rfl rfl (any_of HT_.out (by kernel_rfl)) (fun _ _ _ h=>h) (Or.inl ⟨by rfl,by intro w';go_simp;with_reducible rfl⟩) (by simp only [Act.put,qqj,qqk,qql,i64_w,i32_w];rfl) ?_
  refine pure_ (i:=21) (N:=some 29) (qqz 28 4194303) rfl rfl (any_of HT_.out (by kernel_rfl)) (fun _ _ _ h=>h) (Or.inl ⟨by rfl,by intro w';go_simp;with_reducible rfl⟩) (by simp only [Act.put,qqj,qqk,qql,i64_w,i32_w];rfl) ?_
  refine pure_ (i:=22) (N:=some 30) (v:=undef) (qqz 28 8388607) rfl rfl (any_of HT_.out (by kernel_rfl)) (fun _ _ _ h=>h) (Or.inr ⟨by rfl,rfl⟩) (by simp only [Act.put,qqj,qqk,qql,i64_w,i32_w];rfl) ?_
  refine pure_ (i:=23) (N:=some 31) (v:=undef) (qqz 28 16777215) rfl rfl (any_of HT_.out (by kernel_rfl)) (fun _ _ _ h=>h) (Or.inr ⟨by rfl,rfl⟩) (by simp only [Act.put,qqj,qqk,qql,i64_w,i32_w];rfl) ?_
  refine pure_ (i:=24) (N:=some 32) (v:=undef) (qqz 28 33554431) rfl rfl (any_of HT_.out (by kernel_rfl)) (fun _ _ _ h=>h) (Or.inr ⟨by rfl,rfl⟩) (by simp only [Act.put,qqj,qqk,qql,i64_w,i32_w];rfl) ?_
  refine pure_ (i:=25) (N:=some 33) (v:=undef) (qqz 28 67108863) rfl rfl (any_of HT_.out (by kernel_rfl)) (fun _ _ _ h=>h) (Or.inr ⟨by rfl,rfl⟩) (by simp only [Act.put,qqj,qqk,qql,i64_w,i32_w];rfl) ?_
  refine pure_ (i:=26) (N:=some 34) (qqz 28 134217727) rfl rfl (any_of HT_.out (by kernel_rfl)) (fun _ _ _ h=>h) (Or.inl ⟨by rfl,by intro w';go_simp;with_reducible rfl⟩) (by simp only [Act.put,qqj,qqk,qql,i64_w,i32_w];rfl) ?_
  refine pure_ (i:=27) (N:=some 6) (qqz 28 268435455) rfl rfl (any_of HT_.out (by kernel_rfl)) (fun _ _ _ h=>h) (Or.inl ⟨by rfl,by intro w';go_simp;with_reducible rfl⟩) (by simp only [Act.put,qqj,qqk,qql,i64_w,i32_w];rfl) ?_
  refine done_ (done_of HT_.out (by kernel_rfl)) ?_
  try go_wp2
  go_ret
  exact ⟨by first|rfl|(simp [errW_none,errW_some] <;> rfl)|(simp [*,errW_none,errW_some] <;> rfl),by with_reducible repeat first|exact HB.out|apply qqf|apply qqd|apply qqe|refine qqg ?_ GE141.out|refine qqg ?_ GE142.out⟩
 rw [if_pos c7] at H
 have c7b0:(t143 == 0) = true:=beq_iff_eq.mpr c7
 have c7b1:(t143 != 0) = false:=bne_eq_false_iff_eq.mpr c7
 clear c7
 by_cases c8:(l2_2.length:Int) = 1
 rotate_left
 ·
  rw [if_neg c8] at H
  have c8b0:((l2_2.length:Int) == 1) = false:=beq_eq_false_iff_ne.mpr c8
  have c8b1:((l2_2.length:Int) != 1) = true:=bne_iff_ne.mpr c8
  obtain rfl:=Option.some.inj H
  go_enter Try.func16,Try.ntmps16
  try go_wp2_with (first|((with_reducible refine gate_dst (N:=3) rfl ?_);(try (refine gate_guard (by rfl) ?_;dsimp only));refine box_event ?hg (N:=3) ?hd (cs:=#[.string a0_0,.int .u16 a0_1,.int .u16 a0_2,.bool a0_3]) (t:=28) ?hr ?_;(case hd=>rfl);(case hg=>rfl);(case hr=>first|(go_simp;done)|(go_simp;rfl));intro gb141 hg w18 hbox hb;have n0_:=qqm (below_step (by with_reducible repeat first|exact HB.out|apply qqf|apply qqd|apply qqe) hb);have n1_:=qqm (hbox);have n2_:=qqm ((by rw [hg];exact (below_size (by with_reducible repeat first|exact HB.out|apply qqf|apply qqd|apply qqe)):w.heap.size ≤ gb141));have n3_:=n2_;clear HB;have HB:=n0_;have BK141:=n1_;have GW141:=n2_;have GE141:=n3_;clear n0_ n1_ n2_ n3_ hb hbox hg)|((with_reducible refine gate_dst (N:=5) rfl ?_);(try (refine gate_guard (by rfl) ?_;dsimp only));refine box_event ?hg (N:=5) ?hd (cs:=#[.int .u16 a2_0,.int .u16 a2_1,.slice A2_2 l2_2.length c2_2,.slice A2_3 l2_3.length c2_3,.slice A2_4 l2_4.length c2_4,.slice A2_5 l2_5.length c2_5]) (t:=26) ?hr ?_;(case hd=>rfl);(case hg=>rfl);(case hr=>first|(go_simp;done)|(go_simp;rfl));intro gb142 hg w19 hbox hb;have n0_:=qqm (blk_below (g:=gb141) (o:=.cells #[.string a0_0,.int .u16 a0_1,.int .u16 a0_2,.bool a0_3] 28 (0,0)) (by (with_reducible repeat first|apply qqa|apply qqb|apply qqc);exact BK141.out) hb);have n1_:=qqm (below_step (by with_reducible repeat first|exact HB.out|apply qqf|apply qqd|apply qqe|refine qqg ?_ GE141.out) hb);have n2_:=qqm (hbox);have n3_:=qqm ((by rw [hg];exact (below_size (by with_reducible repeat first|exact HB.out|apply qqf|apply qqd|apply qqe|refine qqg ?_ GE141.out)):w.heap.size ≤ gb142));have n4_:=n3_;have n5_:=qqm ((by rw [hg];exact Nat.ne_of_lt (blk_lt (by (with_reducible repeat first|apply qqa|apply qqb|apply qqc);exact BK141.out)):gb141 ≠ gb142));have n6_:=qqm (Ne.symm n5_.out);clear BK141 HB;have BK141:=n0_;have HB:=n1_;have BK142:=n2_;have GW142:=n3_;have GE142:=n4_;have NB141_142:=n5_;have NB142_141:=n6_;clear n0_ n1_ n2_ n3_ n4_ n5_ n6_ hb hbox hg;have hnb20:=NB141_142.out;have hnc20:=NB142_141.out;obtain ⟨hcz21_0,hcz21_1,hcz21_2,hcz21_3⟩:=qc4 BK141.out;obtain ⟨hfz21_0,hfz21_1,hfz21_2,hfz21_3⟩:=qf4 BK141.out))
  have n0_:Aside0 ((w19.setCell ⟨gb141,3,none⟩ (.bool false)).heap[gb141]? = some (.cells #[.string a0_0,.int .u16 a0_1,.int .u16 a0_2,.bool false] 28 (0,0))):=⟨by (with_reducible repeat first|apply qqa|apply qqb|apply qqc);refine blk_put (cs:=#[.string a0_0,.int .u16 a0_1,.int .u16 a0_2,.bool a0_3]) ?_ 3 _ rfl;(with_reducible repeat first|apply qqa|apply qqb|apply qqc);exact BK141.out⟩
  have n1_:Aside0 ((w19.setCell ⟨gb141,3,none⟩ (.bool false)).heap[gb142]? = some (.cells #[.int .u16 a2_0,.int .u16 a2_1,.slice A2_2 l2_2.length c2_2,.slice A2_3 l2_3.length c2_3,.slice A2_4 l2_4.length c2_4,.slice A2_5 l2_5.length c2_5] 26 (0,0))):=⟨by (with_reducible repeat first|apply qqa|apply qqb|apply qqc);refine blk_far ?_ NB142_141.out _;(with_reducible repeat first|apply qqa|apply qqb|apply qqc);exact BK142.out⟩
  have n2_:Aside0 (Below w.heap.size w (w19.setCell ⟨gb141,3,none⟩ (.bool false))):=⟨by with_reducible repeat first|exact HB.out|apply qqf|apply qqd|apply qqe|refine qqg ?_ GE141.out|refine qqg ?_ GE142.out⟩
  (try clear BK141)
  (try clear BK142)
  (try clear HB)
  generalize (w19.setCell ⟨gb141,3,none⟩ (.bool false)) = w22 at n0_ n1_ n2_ ⊢
  have BK141:=n0_
  have BK142:=n1_
  have HB:=n2_
  clear n0_ n1_ n2_
  have n0_:=qqm (qqb BK141.out)
  have n1_:=qqm (qqb BK142.out)
  have n2_:=qqm (qqe HB.out)
  clear BK141
  clear BK142
  clear HB
  have BK141:=n0_
  have BK142:=n1_
  have HB:=n2_
  clear n0_ n1_ n2_
  refine start_ (n:=28) (S:=fun w'=>w'.cell? ⟨gb142,0,none⟩ = some (.int .u16 a2_0)∧w'.cell? ⟨gb142,1,none⟩ = some (.int .u16 a2_1)∧w'.cell? ⟨gb142,2,none⟩ = some (.slice A2_2 l2_2.length c2_2)∧w'.cell? ⟨gb142,3,none⟩ = some (.slice A2_3 l2_3.length c2_3)∧w'.cell? ⟨gb142,4,none⟩ = some (.slice A2_4 l2_4.length c2_4)∧w'.cell? ⟨gb142,5,none⟩ = some (.slice A2_5 l2_5.length c2_5)) (ds:=[]) (qqz 28 0) (by kernel_rfl) rfl rfl ⟨(qqh BK142.out 0).trans rfl,(qqh BK142.out 1).trans rfl,(qqh BK142.out 2).trans rfl,(qqh BK142.out 3).trans rfl,(qqh BK142.out 4).trans rfl,(qqh BK142.out 5).trans rfl⟩ (fun hHeld=>?_);refine with_tabW query_Fits.tab2 query_Fits.bits2 (fun HT_ HW_=>?_)
  generalize w22.drew = w23 at BK141 BK142 HB hHeld ⊢
  refine pure_ (i:=0) (N:=some 8) (qqz 28 1) rfl rfl (any_of HT_.out (by kernel_rfl)) (fun _ _ _ h=>h) (Or.inl ⟨by rfl,by intro w';go_simp;with_reducible rfl⟩) (by simp only [Act.put,qqj,qqk,qql,i64_w,i32_w];rfl) ?_
  refine pure_ (i:=2) (N:=some 10) (qqz 28 5) rfl rfl (any_of HT_.out (by kernel_rfl)) (fun _ _ _ h=>h) (Or.inl ⟨by rfl,by intro w';go_simp;with_reducible rfl⟩) (by simp only [Act.put,qqj,qqk,qql,i64_w,i32_w];rfl) ?_
  refine take_ (i:=1) (N:=some 9) (qqz 28 7) rfl rfl (take_ofW HT_.out HW_.out (by kernel_rfl)) (fun _ _ _ h=>h) (Or.inl ⟨by rfl,by rintro w' ⟨s0,s1,s2,s3,s4,s5⟩;go_simp;with_reducible rfl⟩) hHeld (by simp only [Act.put,qqj,qqk,qql,i64_w,i32_w];rfl) ?_
  refine pure_ (i:=3) (N:=some 11) (qqz 28 15) rfl rfl (any_of HT_.out (by kernel_rfl)) (fun _ _ _ h=>h) (Or.inl ⟨by rfl,by intro w';go_simp;with_reducible rfl⟩) (by simp only [Act.put,qqj,qqk,qql,i64_w,i32_w];rfl) ?_
  refine pure_ (i:=4) (N:=some 12) (qqz 28 31) rfl rfl (any_of HT_.out (by kernel_rfl)) (fun _ _ _ h=>h) (Or.inl ⟨by rfl,by intro w';go_simp;with_reducible rfl⟩) (by simp only [Act.put,qqj,qqk,qql,i64_w,i32_w];rfl) ?_
  refine pure_ (i:=5) (N:=some 13) (qqz 28 63) rfl rfl (any_of HT_.out (by kernel_rfl)) (fun _ _ _ h=>h) (Or.inl ⟨by rfl,by intro w';go_simp;with_reducible rfl⟩) (by simp only [Act.put,qqj,qqk,qql,i64_w,i32_w];rfl) ?_
  refine take_ (i:=6) (N:=some 14) (qqz 28 127) rfl rfl (take_ofW HT_.out HW_.out (by kernel_rfl)) (fun _ _ _ h=>h) (Or.inl ⟨by rfl,by rintro w' ⟨s0,s1,s2,s3,s4,s5⟩;go_simp;with_reducible rfl⟩) hHeld (by simp only [Act.put,qqj,qqk,qql,i64_w,i32_w];rfl) ?_
  refine pure_ (i:=7) (N:=some 15) (qqz 28 255) rfl rfl (any_of HT_.out (by kernel_rfl)) (fun _ _ _ h=>h) (Or.inl ⟨by rfl,by intro w';go_simp;with_reducible rfl⟩) (by simp only [Act.put,qqj,qqk,qql,i64_w,i32_w];rfl) ?_
  refine pure_ (i:=8) (N:=some 16) (qqz 28 511) rfl rfl (any_of HT_.out (by kernel_rfl)) (fun _ _ _ h=>h) (Or.inl ⟨by rfl,by intro w';go_simp;with_reducible rfl⟩) (by simp only [Act.put,qqj,qqk,qql,i64_w,i32_w];rfl) ?_
  refine pure_ (i:=9) (N:=some 17) (qqz 28 1023) rfl rfl (any_of HT_.out (by kernel_rfl)) (fun _ _ _ h=>h) (Or.inl ⟨by rfl,by intro w';go_simp;with_reducible rfl⟩) (by simp only [Act.put,qqj,qqk,qql,i64_w,i32_w];rfl) ?_
  refine pure_ (i:=10) (N:=some 18) (qqz 28 2047) rfl rfl (any_of HT_.out (by kernel_rfl)) (fun _ _ _ h=>h) (Or.inl ⟨by rfl,by intro w';go_simp;with_reducible rfl⟩) (by simp only [Act.put,qqj,qqk,qql,i64_w,i32_w];rfl) ?_
  refine take_ (i:=11) (N:=some 19) (qqz 28 4095) rfl rfl (take_ofW HT_.out HW_.out (by kernel_rfl)) (fun _ _ _ h=>h) (Or.inl ⟨by rfl,by rintro w' ⟨s0,s1,s2,s3,s4,s5⟩;go_simp;with_reducible rfl⟩) hHeld (by simp only [Act.put,qqj,qqk,qql,i64_w,i32_w];rfl) ?_
  refine one_ (i:=12) (N:=some 20) (qqz 28 8191) rfl rfl (one_of HT_.out (by kernel_rfl)) (by decide) (fun K hK=>?_)
  refine goes_ Try.func33 (by kernel_rfl) rfl #[.agg #[.int .u16 a2_0,.int .u16 a2_1,.slice A2_2 l2_2.length c2_2,.slice A2_3 l2_3.length c2_3,.slice A2_4 l2_4.length c2_4,.slice A2_5 l2_5.length c2_5]] (by rfl) rfl rfl (by (try simp only [List.map_toArray,List.map_cons,List.map_nil]);first|done|rfl|(simp only [List.length_drop,List.length_take];rfl)) ?_
  with_reducible refine (query_opcode.calls a2_0 a2_1 _ _ l2_2 _ _ l2_3 _ _ l2_4 _ _ l2_5 t143 _ ?side1 ?side2 ?side3 ?side4 ?side5 ?side6 ?side7 ?side8 A6.out).mono ?_
  (case side1=>repeat (first|exact (Kd.C_below HR2_2.out HB.out)|(with_reducible first|apply Kd.C_alloc|apply Kd.C_drewN|apply Kd.C_drew)))
  (case side2=>exact HC2_2.out)
  (case side3=>repeat (first|exact (Kd.C_below HR2_3.out HB.out)|(with_reducible first|apply Kd.C_alloc|apply Kd.C_drewN|apply Kd.C_drew)))
  (case side4=>exact HC2_3.out)
  (case side5=>repeat (first|exact (Kd.C_below HR2_4.out HB.out)|(with_reducible first|apply Kd.C_alloc|apply Kd.C_drewN|apply Kd.C_drew)))
  (case side6=>exact HC2_4.out)
  (case side7=>repeat (first|exact (Kd.C_below HR2_5.out HB.out)|(with_reducible first|apply Kd.C_alloc|apply Kd.C_drewN|apply Kd.C_drew)))
  (case side8=>exact HC2_5.out)
  rintro e w24 ⟨rfl,hb⟩
  refine ⟨_,rfl,?_⟩
  have n0_:=qqm (blk_below (g:=gb141) (o:=.cells #[.string a0_0,.int .u16 a0_1,.int .u16 a0_2,.bool false] 28 (0,0)) (by (with_reducible repeat first|apply qqa|apply qqb|apply qqc);exact BK141.out) hb)
  have n1_:=qqm (blk_below (g:=gb142) (o:=.cells #[.int .u16 a2_0,.int .u16 a2_1,.slice A2_2 l2_2.length c2_2,.slice A2_3 l2_3.length c2_3,.slice A2_4 l2_4.length c2_4,.slice A2_5 l2_5.length c2_5] 26 (0,0)) (by (with_reducible repeat first|apply qqa|apply qqb|apply qqc);exact BK142.out) hb)
  have n2_:=qqm (below_step (by with_reducible repeat first|exact HB.out|apply qqf|apply qqd|apply qqe|refine qqg ?_ GE141.out|refine qqg ?_ GE142.out) hb)
  clear BK141
  clear BK142
  clear HB
  have BK141:=n0_
  have BK142:=n1_
  have HB:=n2_
  clear n0_ n1_ n2_
  (try clear hb)
  (try clear hb2)
  (try clear hk)
  (try clear hi)
  refine hK.out _ _ ⟨(qqh BK142.out 0).trans rfl,(qqh BK142.out 1).trans rfl,(qqh BK142.out 2).trans rfl,(qqh BK142.out 3).trans rfl,(qqh BK142.out 4).trans rfl,(qqh BK142.out 5).trans rfl⟩ (fun hHeld=>?_)
  clear hK K
  refine norm_ (a':=?_) ?_ ?_
  rotate_left
  ·
   show Act.put _ (some 20) _ = _
   simp only [Act.put,qqj,qqk,qql,i64_w,i32_w]
   rfl
  refine pure_ (i:=13) (N:=some 21) (qqz 28 16383) rfl rfl (any_of HT_.out (by kernel_rfl)) (fun _ _ _ h=>h) (Or.inl ⟨by rfl,by intro w';go_simp;with_reducible rfl⟩) (by simp only [Act.put,qqj,qqk,qql,i64_w,i32_w];rfl) ?_
  refine pure_ (i:=14) (N:=some 22) (qqz 28 32767) rfl rfl (any_of HT_.out (by kernel_rfl)) (fun _ _ _ h=>h) (Or.inl ⟨by rfl,by intro w';go_simp;with_reducible rfl⟩) (by simp only [Act.put,qqj,qqk,qql,i64_w,i32_w];rfl) ?_
  refine pure_ (i:=15) (N:=some 23) (qqz 28 65535) rfl rfl (any_of HT_.out (by kernel_rfl)) (fun _ _ _ h=>h) (Or.inl ⟨by rfl,by intro w';go_simp;with_reducible rfl⟩) (by simp only [Act.put,qqj,qqk,qql,i64_w,i32_w];rfl) ?_
  refine pure_ (i:=16) (N:=some 24) (qqz 28 131071) rfl rfl (any_of HT_.out (by kernel_rfl)) (fun _ _ _ h=>h) (Or.inl ⟨by rfl,by intro w';go_simp;with_reducible rfl⟩) (by simp only [Act.put,qqj,qqk,qql,i64_w,i32_w];rfl) ?_
  refine take_ (i:=17) (N:=some 25) (qqz 28 262143) rfl rfl (take_ofW HT_.out HW_.out (by kernel_rfl)) (fun _ _ _ h=>h) (Or.inl ⟨by rfl,by rintro w' ⟨s0,s1,s2,s3,s4,s5⟩;go_simp;with_reducible rfl⟩) hHeld (by simp only [Act.put,qqj,qqk,qql,i64_w,i32_w];rfl) ?_
  refine pure_ (i:=18) (N:=some 26) (qqz 28 524287) rfl rfl (any_of HT_.out (by kernel_rfl)) (fun _ _ _ h=>h) (Or.inl ⟨by rfl,by intro w';go_simp;with_reducible rfl⟩) (by simp only [Act.put,qqj,qqk,qql,i64_w,i32_w];rfl) ?_
  refine pure_ (i:=19) (N:=some 27) (qqz 28 1048575) rfl rfl (any_of HT_.out (by kernel_rfl)) (fun _ _ _ h=>h) (Or.inl ⟨by rfl,by intro w';go_simp;with_reducible rfl⟩) (by simp only [Act.put,qqj,qqk,qql,i64_w,i32_w];rfl) ?_
  refine pure_ (i:=20) (N:=some 28) (qqz 28 2097151) rfl rfl (any_of HT_.out (by kernel_rfl)) (fun _ _ _ h=>h) (Or.inl ⟨by rfl,by intro w';go_simp;with_reducible rfl⟩) (by simp only [Act.put,qqj,qqk,qql,i64_w,i32_w];rfl) ?_
  refine pure_ (i:=21) (N:=some 29) (qqz 28 4194303) rfl rfl (any_of HT_.out (by kernel_rfl)) (fun _ _ _ h=>h) (Or.inl ⟨by rfl,by intro w';go_simp;with_reducible rfl⟩) (by simp only [Act.put,qqj,qqk,qql,i64_w,i32_w];rfl) ?_
  refine pure_ (i:=22) (N:=some 30) (v:=undef) (qqz 28 8388607) rfl rfl (any_of HT_.out (by kernel_rfl)) (fun _ _ _ h=>h) (Or.inr ⟨by rfl,rfl⟩) (by simp only [Act.put,qqj,qqk,qql,i64_w,i32_w];rfl) ?_
  refine pure_ (i:=23) (N:=some 31) (v:=undef) (qqz 28 16777215) rfl rfl (any_of HT_.out (by kernel_rfl)) (fun _ _ _ h=>h) (Or.inr ⟨by rfl,rfl⟩) (by simp only [Act.put,qqj,qqk,qql,i64_w,i32_w];rfl) ?_
  refine pure_ (i:=24) (N:=some 32) (v:=undef) (qqz 28 33554431) rfl rfl (any_of HT_.out (by kernel_rfl)) (fun _ _ _ h=>h) (Or.inr ⟨by rfl,rfl⟩) (by simp only [Act.put,qqj,qqk,qql,i64_w,i32_w];rfl) ?_
  refine pure_ (i:=25) (N:=some 33) (v:=undef) (qqz 28 67108863) rfl rfl (any_of HT_.out (by kernel_rfl)) (fun _ _ _ h=>h) (Or.inr ⟨by rfl,rfl⟩) (by simp only [Act.put,qqj,qqk,qql,i64_w,i32_w];rfl) ?_
  refine pure_ (i:=26) (N:=some 34) (qqz 28 134217727) rfl rfl (any_of HT_.out (by kernel_rfl)) (fun _ _ _ h=>h) (Or.inl ⟨by rfl,by intro w';go_simp;with_reducible rfl⟩) (by simp only [Act.put,qqj,qqk,qql,i64_w,i32_w];rfl) ?_
  refine pure_ (i:=27) (N:=some 6) (qqz 28 268435455) rfl rfl (any_of HT_.out (by kernel_rfl)) (fun _ _ _ h=>h) (Or.inl ⟨by rfl,by intro w';go_simp;with_reducible rfl⟩) (by simp only [Act.put,qqj,qqk,qql,i64_w,i32_w];rfl) ?_
  refine done_ (done_of HT_.out (by kernel_rfl)) ?_
  try go_wp2
  go_ret
  exact ⟨by first|rfl|(simp [errW_none,errW_some] <;> rfl)|(simp [*,errW_none,errW_some] <;> rfl),by with_reducible repeat first|exact HB.out|apply qqf|apply qqd|apply qqe|refine qqg ?_ GE141.out|refine qqg ?_ GE142.out⟩
 rw [if_pos c8] at H
 have c8b0:((l2_2.length:Int) == 1) = true:=beq_iff_eq.mpr c8
 have c8b1:((l2_2.length:Int) != 1) = false:=bne_eq_false_iff_eq.mpr c8
 clear c8
 replace H:=Option.bind_eq_some_iff.mp H
 obtain ⟨⟨t144,t145,t146,t147⟩,A90,H⟩:=H
 replace H:(some (t144.toList == a0_0.toList && (t145 == a0_1 && (t146 == a0_2 && (!t147))))) = some r:=H
 have A9:=qqm A90
 clear A90
 obtain rfl:=Option.some.inj H
 go_enter Try.func16,Try.ntmps16
 try go_wp2_with (first|((with_reducible refine gate_dst (N:=3) rfl ?_);(try (refine gate_guard (by rfl) ?_;dsimp only));refine box_event ?hg (N:=3) ?hd (cs:=#[.string a0_0,.int .u16 a0_1,.int .u16 a0_2,.bool a0_3]) (t:=28) ?hr ?_;(case hd=>rfl);(case hg=>rfl);(case hr=>first|(go_simp;done)|(go_simp;rfl));intro gb141 hg w10 hbox hb;have n0_:=qqm (below_step (by with_reducible repeat first|exact HB.out|apply qqf|apply qqd|apply qqe) hb);have n1_:=qqm (hbox);have n2_:=qqm ((by rw [hg];exact (below_size (by with_reducible repeat first|exact HB.out|apply qqf|apply qqd|apply qqe)):w.heap.size ≤ gb141));have n3_:=n2_;clear HB;have HB:=n0_;have BK141:=n1_;have GW141:=n2_;have GE141:=n3_;clear n0_ n1_ n2_ n3_ hb hbox hg)|((with_reducible refine gate_dst (N:=5) rfl ?_);(try (refine gate_guard (by rfl) ?_;dsimp only));refine box_event ?hg (N:=5) ?hd (cs:=#[.int .u16 a2_0,.int .u16 a2_1,.slice A2_2 l2_2.length c2_2,.slice A2_3 l2_3.length c2_3,.slice A2_4 l2_4.length c2_4,.slice A2_5 l2_5.length c2_5]) (t:=26) ?hr ?_;(case hd=>rfl);(case hg=>rfl);(case hr=>first|(go_simp;done)|(go_simp;rfl));intro gb142 hg w11 hbox hb;have n0_:=qqm (blk_below (g:=gb141) (o:=.cells #[.string a0_0,.int .u16 a0_1,.int .u16 a0_2,.bool a0_3] 28 (0,0)) (by (with_reducible repeat first|apply qqa|apply qqb|apply qqc);exact BK141.out) hb);have n1_:=qqm (below_step (by with_reducible repeat first|exact HB.out|apply qqf|apply qqd|apply qqe|refine qqg ?_ GE141.out) hb);have n2_:=qqm (hbox);have n3_:=qqm ((by rw [hg];exact (below_size (by with_reducible repeat first|exact HB.out|apply qqf|apply qqd|apply qqe|refine qqg ?_ GE141.out)):w.heap.size ≤ gb142));have n4_:=n3_;have n5_:=qqm ((by rw [hg];exact Nat.ne_of_lt (blk_lt (by (with_reducible repeat first|apply qqa|apply qqb|apply qqc);exact BK141.out)):gb141 ≠ gb142));have n6_:=qqm (Ne.symm n5_.out);clear BK141 HB;have BK141:=n0_;have HB:=n1_;have BK142:=n2_;have GW142:=n3_;have GE142:=n4_;have NB141_142:=n5_;have NB142_141:=n6_;clear n0_ n1_ n2_ n3_ n4_ n5_ n6_ hb hbox hg;have hnb12:=NB141_142.out;have hnc12:=NB142_141.out;obtain ⟨hcz13_0,hcz13_1,hcz13_2,hcz13_3⟩:=qc4 BK141.out;obtain ⟨hfz13_0,hfz13_1,hfz13_2,hfz13_3⟩:=qf4 BK141.out))
 have n0_:Aside0 ((w11.setCell ⟨gb141,3,none⟩ (.bool false)).heap[gb141]? = some (.cells #[.string a0_0,.int .u16 a0_1,.int .u16 a0_2,.bool false] 28 (0,0))):=⟨by (with_reducible repeat first|apply qqa|apply qqb|apply qqc);refine blk_put (cs:=#[.string a0_0,.int .u16 a0_1,.int .u16 a0_2,.bool a0_3]) ?_ 3 _ rfl;(with_reducible repeat first|apply qqa|apply qqb|apply qqc);exact BK141.out⟩
 have n1_:Aside0 ((w11.setCell ⟨gb141,3,none⟩ (.bool false)).heap[gb142]? = some (.cells #[.int .u16 a2_0,.int .u16 a2_1,.slice A2_2 l2_2.length c2_2,.slice A2_3 l2_3.length c2_3,.slice A2_4 l2_4.length c2_4,.slice A2_5 l2_5.length c2_5] 26 (0,0))):=⟨by (with_reducible repeat first|apply qqa|apply qqb|apply qqc);refine blk_far ?_ NB142_141.out _;(with_reducible repeat first|apply qqa|apply qqb|apply qqc);exact BK142.out⟩
 have n2_:Aside0 (Below w.heap.size w (w11.setCell ⟨gb141,3,none⟩ (.bool false))):=⟨by with_reducible repeat first|exact HB.out|apply qqf|apply qqd|apply qqe|refine qqg ?_ GE141.out|refine qqg ?_ GE142.out⟩
 (try clear BK141)
 (try clear BK142)
 (try clear HB)
 generalize (w11.setCell ⟨gb141,3,none⟩ (.bool false)) = w14 at n0_ n1_ n2_ ⊢
 have BK141:=n0_
 have BK142:=n1_
 have HB:=n2_
 clear n0_ n1_ n2_
 have n0_:=qqm (qqb BK141.out)
 have n1_:=qqm (qqb BK142.out)
 have n2_:=qqm (qqe HB.out)
 clear BK141
 clear BK142
 clear HB
 have BK141:=n0_
 have BK142:=n1_
 have HB:=n2_
 clear n0_ n1_ n2_
 refine start_ (n:=28) (S:=fun w'=>w'.cell? ⟨gb142,0,none⟩ = some (.int .u16 a2_0)∧w'.cell? ⟨gb142,1,none⟩ = some (.int .u16 a2_1)∧w'.cell? ⟨gb142,2,none⟩ = some (.slice A2_2 l2_2.length c2_2)∧w'.cell? ⟨gb142,3,none⟩ = some (.slice A2_3 l2_3.length c2_3)∧w'.cell? ⟨gb142,4,none⟩ = some (.slice A2_4 l2_4.length c2_4)∧w'.cell? ⟨gb142,5,none⟩ = some (.slice A2_5 l2_5.length c2_5)∧w'.cell? ⟨gb141,0,none⟩ = some (.string a0_0)∧w'.cell? ⟨gb141,1,none⟩ = some (.int .u16 a0_1)∧w'.cell? ⟨gb141,2,none⟩ = some (.int .u16 a0_2)∧w'.cell? ⟨gb141,3,none⟩ = some (.bool false)) (ds:=[]) (qqz 28 0) (by kernel_rfl) rfl rfl ⟨(qqh BK142.out 0).trans rfl,(qqh BK142.out 1).trans rfl,(qqh BK142.out 2).trans rfl,(qqh BK142.out 3).trans rfl,(qqh BK142.out 4).trans rfl,(qqh BK142.out 5).trans rfl,(qqh BK141.out 0).trans rfl,(qqh BK141.out 1).trans rfl,(qqh BK141.out 2).trans rfl,(qqh BK141.out 3).trans rfl⟩ (fun hHeld=>?_);refine with_tabW query_Fits.tab2 query_Fits.bits2 (fun HT_ HW_=>?_)
 generalize w14.drew = w15 at BK141 BK142 HB hHeld ⊢
 refine pure_ (i:=0) (N:=some 8) (qqz 28 1) rfl rfl (any_of HT_.out (by kernel_rfl)) (fun _ _ _ h=>h) (Or.inl ⟨by rfl,by intro w';go_simp;with_reducible rfl⟩) (by simp only [Act.put,qqj,qqk,qql,i64_w,i32_w];rfl) ?_
 refine pure_ (i:=2) (N:=some 10) (qqz 28 5) rfl rfl (any_of HT_.out (by kernel_rfl)) (fun _ _ _ h=>h) (Or.inl ⟨by rfl,by intro w';go_simp;with_reducible rfl⟩) (by simp only [Act.put,qqj,qqk,qql,i64_w,i32_w];rfl) ?_
 refine take_ (i:=1) (N:=some 9) (qqz 28 7) rfl rfl (take_ofW HT_.out HW_.out (by kernel_rfl)) (fun _ _ _ h=>h) (Or.inl ⟨by rfl,by rintro w' ⟨s0,s1,s2,s3,s4,s5,s6,s7,s8,s9⟩;go_simp;with_reducible rfl⟩) hHeld (by simp only [Act.put,qqj,qqk,qql,i64_w,i32_w];rfl) ?_
 refine pure_ (i:=3) (N:=some 11) (qqz 28 15) rfl rfl (any_of HT_.out (by kernel_rfl)) (fun _ _ _ h=>h) (Or.inl ⟨by rfl,by intro w';go_simp;with_reducible rfl⟩) (by simp only [Act.put,qqj,qqk,qql,i64_w,i32_w];rfl) ?_
 refine pure_ (i:=4) (N:=some 12) (qqz 28 31) rfl rfl (any_of HT_.out (by kernel_rfl)) (fun _ _ _ h=>h) (Or.inl ⟨by rfl,by intro w';go_simp;with_reducible rfl⟩) (by simp only [Act.put,qqj,qqk,qql,i64_w,i32_w];rfl) ?_
 refine pure_ (i:=5) (N:=some 13) (qqz 28 63) rfl rfl (any_of HT_.out (by kernel_rfl)) (fun _ _ _ h=>h) (Or.inl ⟨by rfl,by intro w';go_simp;with_reducible rfl⟩) (by simp only [Act.put,qqj,qqk,qql,i64_w,i32_w];rfl) ?_
 refine take_ (i:=6) (N:=some 14) (qqz 28 127) rfl rfl (take_ofW HT_.out HW_.out (by kernel_rfl)) (fun _ _ _ h=>h) (Or.inl ⟨by rfl,by rintro w' ⟨s0,s1,s2,s3,s4,s5,s6,s7,s8,s9⟩;go_simp;with_reducible rfl⟩) hHeld (by simp only [Act.put,qqj,qqk,qql,i64_w,i32_w];rfl) ?_
 refine pure_ (i:=7) (N:=some 15) (qqz 28 255) rfl rfl (any_of HT_.out (by kernel_rfl)) (fun _ _ _ h=>h) (Or.inl ⟨by rfl,by intro w';go_simp;with_reducible rfl⟩) (by simp only [Act.put,qqj,qqk,qql,i64_w,i32_w];rfl) ?_
 refine pure_ (i:=8) (N:=some 16) (qqz 28 511) rfl rfl (any_of HT_.out (by kernel_rfl)) (fun _ _ _ h=>h) (Or.inl ⟨by rfl,by intro w';go_simp;with_reducible rfl⟩) (by simp only [Act.put,qqj,qqk,qql,i64_w,i32_w];rfl) ?_
 refine pure_ (i:=9) (N:=some 17) (qqz 28 1023) rfl rfl (any_of HT_.out (by kernel_rfl)) (fun _ _ _ h=>h) (Or.inl ⟨by rfl,by intro w';go_simp;with_reducible rfl⟩) (by simp only [Act.put,qqj,qqk,qql,i64_w,i32_w];rfl) ?_
 refine pure_ (i:=10) (N:=some 18) (qqz 28 2047) rfl rfl (any_of HT_.out (by kernel_rfl)) (fun _ _ _ h=>h) (Or.inl ⟨by rfl,by intro w';go_simp;with_reducible rfl⟩) (by simp only [Act.put,qqj,qqk,qql,i64_w,i32_w];rfl) ?_
 refine take_ (i:=11) (N:=some 19) (qqz 28 4095) rfl rfl (take_ofW HT_.out HW_.out (by kernel_rfl)) (fun _ _ _ h=>h) (Or.inl ⟨by rfl,by rintro w' ⟨s0,s1,s2,s3,s4,s5,s6,s7,s8,s9⟩;go_simp;with_reducible rfl⟩) hHeld (by simp only [Act.put,qqj,qqk,qql,i64_w,i32_w];rfl) ?_
 refine one_ (i:=12) (N:=some 20) (qqz 28 8191) rfl rfl (one_of HT_.out (by kernel_rfl)) (by decide) (fun K hK=>?_)
 refine goes_ Try.func33 (by kernel_rfl) rfl #[.agg #[.int .u16 a2_0,.int .u16 a2_1,.slice A2_2 l2_2.length c2_2,.slice A2_3 l2_3.length c2_3,.slice A2_4 l2_4.length c2_4,.slice A2_5 l2_5.length c2_5]] (by rfl) rfl rfl (by (try simp only [List.map_toArray,List.map_cons,List.map_nil]);first|done|rfl|(simp only [List.length_drop,List.length_take];rfl)) ?_
 with_reducible refine (query_opcode.calls a2_0 a2_1 _ _ l2_2 _ _ l2_3 _ _ l2_4 _ _ l2_5 t143 _ ?side1 ?side2 ?side3 ?side4 ?side5 ?side6 ?side7 ?side8 A6.out).mono ?_
 (case side1=>repeat (first|exact (Kd.C_below HR2_2.out HB.out)|(with_reducible first|apply Kd.C_alloc|apply Kd.C_drewN|apply Kd.C_drew)))
 (case side2=>exact HC2_2.out)
 (case side3=>repeat (first|exact (Kd.C_below HR2_3.out HB.out)|(with_reducible first|apply Kd.C_alloc|apply Kd.C_drewN|apply Kd.C_drew)))
 (case side4=>exact HC2_3.out)
 (case side5=>repeat (first|exact (Kd.C_below HR2_4.out HB.out)|(with_reducible first|apply Kd.C_alloc|apply Kd.C_drewN|apply Kd.C_drew)))
 (case side6=>exact HC2_4.out)
 (case side7=>repeat (first|exact (Kd.C_below HR2_5.out HB.out)|(with_reducible first|apply Kd.C_alloc|apply Kd.C_drewN|apply Kd.C_drew)))
 (case side8=>exact HC2_5.out)
 rintro e w16 ⟨rfl,hb⟩
 refine ⟨_,rfl,?_⟩
 have n0_:=qqm (blk_below (g:=gb141) (o:=.cells #[.string a0_0,.int .u16 a0_1,.int .u16 a0_2,.bool false] 28 (0,0)) (by (with_reducible repeat first|apply qqa|apply qqb|apply qqc);exact BK141.out) hb)
 have n1_:=qqm (blk_below (g:=gb142) (o:=.cells #[.int .u16 a2_0,.int .u16 a2_1,.slice A2_2 l2_2.length c2_2,.slice A2_3 l2_3.length c2_3,.slice A2_4 l2_4.length c2_4,.slice A2_5 l2_5.length c2_5] 26 (0,0)) (by (with_reducible repeat first|apply qqa|apply qqb|apply qqc);exact BK142.out) hb)
 have n2_:=qqm (below_step (by with_reducible repeat first|exact HB.out|apply qqf|apply qqd|apply qqe|refine qqg ?_ GE141.out|refine qqg ?_ GE142.out) hb)
 clear BK141
 clear BK142
 clear HB
 have BK141:=n0_
 have BK142:=n1_
 have HB:=n2_
 clear n0_ n1_ n2_
 (try clear hb)
 (try clear hb2)
 (try clear hk)
 (try clear hi)
 refine hK.out _ _ ⟨(qqh BK142.out 0).trans rfl,(qqh BK142.out 1).trans rfl,(qqh BK142.out 2).trans rfl,(qqh BK142.out 3).trans rfl,(qqh BK142.out 4).trans rfl,(qqh BK142.out 5).trans rfl,(qqh BK141.out 0).trans rfl,(qqh BK141.out 1).trans rfl,(qqh BK141.out 2).trans rfl,(qqh BK141.out 3).trans rfl⟩ (fun hHeld=>?_)
 clear hK K
 refine norm_ (a':=?_) ?_ ?_
 rotate_left
 ·
  show Act.put _ (some 20) _ = _
  simp only [Act.put,qqj,qqk,qql,i64_w,i32_w]
  rfl
 refine pure_ (i:=13) (N:=some 21) (qqz 28 16383) rfl rfl (any_of HT_.out (by kernel_rfl)) (fun _ _ _ h=>h) (Or.inl ⟨by rfl,by intro w';go_simp;with_reducible rfl⟩) (by simp only [Act.put,qqj,qqk,qql,i64_w,i32_w];rfl) ?_
 refine pure_ (i:=14) (N:=some 22) (qqz 28 32767) rfl rfl (any_of HT_.out (by kernel_rfl)) (fun _ _ _ h=>h) (Or.inl ⟨by rfl,by intro w';go_simp;with_reducible rfl⟩) (by simp only [Act.put,qqj,qqk,qql,i64_w,i32_w];rfl) ?_
 refine pure_ (i:=15) (N:=some 23) (qqz 28 65535) rfl rfl (any_of HT_.out (by kernel_rfl)) (fun _ _ _ h=>h) (Or.inl ⟨by rfl,by intro w';go_simp;with_reducible rfl⟩) (by simp only [Act.put,qqj,qqk,qql,i64_w,i32_w];rfl) ?_
 refine pure_ (i:=16) (N:=some 24) (qqz 28 131071) rfl rfl (any_of HT_.out (by kernel_rfl)) (fun _ _ _ h=>h) (Or.inl ⟨by rfl,by intro w';go_simp;with_reducible rfl⟩) (by simp only [Act.put,qqj,qqk,qql,i64_w,i32_w];rfl) ?_
 refine take_ (i:=17) (N:=some 25) (qqz 28 262143) rfl rfl (take_ofW HT_.out HW_.out (by kernel_rfl)) (fun _ _ _ h=>h) (Or.inl ⟨by rfl,by rintro w' ⟨s0,s1,s2,s3,s4,s5,s6,s7,s8,s9⟩;go_simp;with_reducible rfl⟩) hHeld (by simp only [Act.put,qqj,qqk,qql,i64_w,i32_w];rfl) ?_
 refine pure_ (i:=18) (N:=some 26) (qqz 28 524287) rfl rfl (any_of HT_.out (by kernel_rfl)) (fun _ _ _ h=>h) (Or.inl ⟨by rfl,by intro w';go_simp;with_reducible rfl⟩) (by simp only [Act.put,qqj,qqk,qql,i64_w,i32_w];rfl) ?_
 refine pure_ (i:=19) (N:=some 27) (qqz 28 1048575) rfl rfl (any_of HT_.out (by kernel_rfl)) (fun _ _ _ h=>h) (Or.inl ⟨by rfl,by intro w';go_simp;with_reducible rfl⟩) (by simp only [Act.put,qqj,qqk,qql,i64_w,i32_w];rfl) ?_
 refine pure_ (i:=20) (N:=some 28) (qqz 28 2097151) rfl rfl (any_of HT_.out (by kernel_rfl)) (fun _ _ _ h=>h) (Or.inl ⟨by rfl,by intro w';go_simp;with_reducible rfl⟩) (by simp only [Act.put,qqj,qqk,qql,i64_w,i32_w];rfl) ?_
 refine pure_ (i:=21) (N:=some 29) (qqz 28 4194303) rfl rfl (any_of HT_.out (by kernel_rfl)) (fun _ _ _ h=>h) (Or.inl ⟨by rfl,by intro w';go_simp;with_reducible rfl⟩) (by simp only [Act.put,qqj,qqk,qql,i64_w,i32_w];rfl) ?_
 refine take_ (i:=22) (N:=some 30) (qqz 28 8388607) rfl rfl (take_ofW HT_.out HW_.out (by kernel_rfl)) (fun _ _ _ h=>h) (Or.inl ⟨by rfl,by rintro w' ⟨s0,s1,s2,s3,s4,s5,s6,s7,s8,s9⟩;go_simp;with_reducible rfl⟩) hHeld (by simp only [Act.put,qqj,qqk,qql,i64_w,i32_w];rfl) ?_
 refine take_ (i:=24) (N:=some 32) (qqz 28 25165823) rfl rfl (take_ofW HT_.out HW_.out (by kernel_rfl)) (fun _ _ _ h=>h) (Or.inl ⟨by rfl,by rintro w' ⟨s0,s1,s2,s3,s4,s5,s6,s7,s8,s9⟩;go_simp;with_reducible rfl⟩) hHeld (by simp only [Act.put,qqj,qqk,qql,i64_w,i32_w];rfl) ?_
 refine one_ (i:=23) (N:=some 31) (qqz 28 33554431) rfl rfl (one_of HT_.out (by kernel_rfl)) (by decide) (fun K hK=>?_)
 refine goes_ Try.func34 (by kernel_rfl) rfl #[.agg #[.int .u16 a2_0,.int .u16 a2_1,.slice A2_2 l2_2.length c2_2,.slice A2_3 l2_3.length c2_3,.slice A2_4 l2_4.length c2_4,.slice A2_5 l2_5.length c2_5]] (by rfl) rfl rfl (by (try simp only [List.map_toArray,List.map_cons,List.map_nil]);first|done|rfl|(simp only [List.length_drop,List.length_take];rfl)) ?_
 with_reducible refine (query_key.calls k a2_0 a2_1 _ _ l2_2 _ _ l2_3 _ _ l2_4 _ _ l2_5 t144 t145 t146 t147 _ ?side1 ?side2 ?side3 ?side4 ?side5 ?side6 ?side7 ?side8 A9.out).mono ?_
 (case side1=>repeat (first|exact (Kd.C_below HR2_2.out HB.out)|(with_reducible first|apply Kd.C_alloc|apply Kd.C_drewN|apply Kd.C_drew)))
 (case side2=>exact HC2_2.out)
 (case side3=>repeat (first|exact (Kd.C_below HR2_3.out HB.out)|(with_reducible first|apply Kd.C_alloc|apply Kd.C_drewN|apply Kd.C_drew)))
 (case side4=>exact HC2_3.out)
 (case side5=>repeat (first|exact (Kd.C_below HR2_4.out HB.out)|(with_reducible first|apply Kd.C_alloc|apply Kd.C_drewN|apply Kd.C_drew)))
 (case side6=>exact HC2_4.out)
 (case side7=>repeat (first|exact (Kd.C_below HR2_5.out HB.out)|(with_reducible first|apply Kd.C_alloc|apply Kd.C_drewN|apply Kd.C_drew)))
 (case side8=>exact HC2_5.out)
 rintro e w17 ⟨rfl,hb⟩
 refine ⟨_,rfl,?_⟩
 have n0_:=qqm (blk_below (g:=gb141) (o:=.cells #[.string a0_0,.int .u16 a0_1,.int .u16 a0_2,.bool false] 28 (0,0)) (by (with_reducible repeat first|apply qqa|apply qqb|apply qqc);exact BK141.out) hb)
 have n1_:=qqm (blk_below (g:=gb142) (o:=.cells #[.int .u16 a2_0,.int .u16 a2_1,.slice A2_2 l2_2.length c2_2,.slice A2_3 l2_3.length c2_3,.slice A2_4 l2_4.length c2_4,.slice A2_5 l2_5.length c2_5] 26 (0,0)) (by (with_reducible repeat first|apply qqa|apply qqb|apply qqc);exact BK142.out) hb)
 have n2_:=qqm (below_step (by with_reducible repeat first|exact HB.out|apply qqf|apply qqd|apply qqe|refine qqg ?_ GE141.out|refine qqg ?_ GE142.out) hb)
 clear BK141
 clear BK142
 clear HB
 have BK141:=n0_
 have BK142:=n1_
 have HB:=n2_
 clear n0_ n1_ n2_
 (try clear hb)
 (try clear hb2)
 (try clear hk)
 (try clear hi)
 refine hK.out _ _ ⟨(qqh BK142.out 0).trans rfl,(qqh BK142.out 1).trans rfl,(qqh BK142.out 2).trans rfl,(qqh BK142.out 3).trans rfl,(qqh BK142.out 4).trans rfl,(qqh BK142.out 5).trans rfl,(qqh BK141.out 0).trans rfl,(qqh BK141.out 1).trans rfl,(qqh BK141.out 2).trans rfl,(qqh BK141.out 3).trans rfl⟩ (fun hHeld=>?_)
 clear hK K
 refine norm_ (a':=?_) ?_ ?_
 rotate_left
 ·
  show Act.put _ (some 31) _ = _
  simp only [Act.put,qqj,qqk,qql,i64_w,i32_w]
  rfl
 refine pure_ (i:=25) (N:=some 33) (qqz 28 67108863) rfl rfl (any_of HT_.out (by kernel_rfl)) (fun _ _ _ h=>h) (Or.inl ⟨by rfl,by intro w';go_simp;with_reducible rfl⟩) (by simp only [Act.put,qqj,qqk,qql,i64_w,i32_w];rfl) ?_
 refine pure_ (i:=26) (N:=some 34) (qqz 28 134217727) rfl rfl (any_of HT_.out (by kernel_rfl)) (fun _ _ _ h=>h) (Or.inl ⟨by rfl,by intro w';go_simp;with_reducible rfl⟩) (by simp only [Act.put,qqj,qqk,qql,i64_w,i32_w];rfl) ?_
 refine pure_ (i:=27) (N:=some 6) (qqz 28 268435455) rfl rfl (any_of HT_.out (by kernel_rfl)) (fun _ _ _ h=>h) (Or.inl ⟨by rfl,by intro w';go_simp;with_reducible rfl⟩) (by simp only [Act.put,qqj,qqk,qql,i64_w,i32_w];rfl) ?_
 refine done_ (done_of HT_.out (by kernel_rfl)) ?_
 try go_wp2
 go_ret
 exact ⟨by first|rfl|(simp [errW_none,errW_some] <;> rfl)|(simp [*,errW_none,errW_some] <;> rfl),by with_reducible repeat first|exact HB.out|apply qqf|apply qqd|apply qqe|refine qqg ?_ GE141.out|refine qqg ?_ GE142.out⟩

end Go.Proofs.Ythkdfnbhlinhiaa.Mine
