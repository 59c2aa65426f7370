-- Written by this repo's own printer (wip/print), which builds on the kit's.
import Derived.Test.YthkdfnbhlinhiaaMinex0
import Derived.Test.YthkdfnbhlinhiaaMinex2
import Derived.Test.YthkdfnbhlinhiaaMinex27
namespace Go.Proofs.Ythkdfnbhlinhiaa.Mine
open Go.RowKit Go.Proofs.YthkdfnbhlinhiaaW.PrintWords Go.Proofs.YthkdfnbhlinhiaaW.PrintLast Go.Proofs.YthkdfnbhlinhiaaW.PrintMore
attribute [local go_sem] max2_int min2_int max_two min_two max_three min_three max_four min_four   -- for this text's walks alone
set_option linter.unusedVariables false
set_option linter.unusedSimpArgs false

attribute [local go_sem high] eqA53
/-! ### nuncioref06_Same: function 13 -/
mutual
def nuncioref06_Same.j0 : Nat → Bool → Int → Int → List (S53) → List (S51) → List (S51) → List (S51) → Int → Int → List (S53) → List (S51) → List (S51) → List (S51) → Option (Bool)
 | 0, _, _, _, _, _, _, _, _, _, _, _, _, _ => none
 | k + 1, x50, x297000, x297001, x297002, x297003, x297004, x297005, x298000, x298001, x298002, x298003, x298004, x298005 => if x50 = true then (some false) else (nuncioref06_Same.l0 k 0 x297000 x297001 x297002 x297003 x297004 x297005 x298000 x298001 x298002 x298003 x298004 x298005)
def nuncioref06_Same.l0 : Nat → Int → Int → Int → List (S53) → List (S51) → List (S51) → List (S51) → Int → Int → List (S53) → List (S51) → List (S51) → List (S51) → Option (Bool)
 | 0, _, _, _, _, _, _, _, _, _, _, _, _, _ => none
 | k + 1, x5, x297000, x297001, x297002, x297003, x297004, x297005, x298000, x298001, x298002, x298003, x298004, x298005 => if x5 < (x297002.length : Int) then (if 0 ≤ x5 then (if x5 < (x298002.length : Int) then (if (!((((rd_T53 x297002 x5).f0).toList) == (((rd_T53 x298002 x5).f0).toList)) || (!(((rd_T53 x297002 x5).f1) == ((rd_T53 x298002 x5).f1)) || (!(((rd_T53 x297002 x5).f2) == ((rd_T53 x298002 x5).f2))))) = true then (some false) else (nuncioref06_Same.l0 k (wrap64 (x5 + 1)) x297000 x297001 x297002 x297003 x297004 x297005 x298000 x298001 x298002 x298003 x298004 x298005)) else (none)) else (none)) else (some true)
end
def nuncioref06_Same.f (k : Nat) (a0_0 : Int) (a0_1 : Int) (l0_2 : List (S53)) (l0_3 : List (S51)) (l0_4 : List (S51)) (l0_5 : List (S51)) (a1_0 : Int) (a1_1 : Int) (l1_2 : List (S53)) (l1_3 : List (S51)) (l1_4 : List (S51)) (l1_5 : List (S51)) : Option (Bool) := if a0_0 = a1_0 then (if a0_1 = a1_1 then (if (l0_2.length : Int) = (l1_2.length : Int) then ((nuncioref06_records.f k l0_3 l1_3).bind fun t298 => (if t298 = true then ((nuncioref06_records.f k l0_4 l1_4).bind fun t299 => (if t299 = true then ((nuncioref06_records.f k l0_5 l1_5).bind fun t300 => (nuncioref06_Same.j0 k (!t300) a0_0 a0_1 l0_2 l0_3 l0_4 l0_5 a1_0 a1_1 l1_2 l1_3 l1_4 l1_5)) else (nuncioref06_Same.j0 k true a0_0 a0_1 l0_2 l0_3 l0_4 l0_5 a1_0 a1_1 l1_2 l1_3 l1_4 l1_5))) else (nuncioref06_Same.j0 k true a0_0 a0_1 l0_2 l0_3 l0_4 l0_5 a1_0 a1_1 l1_2 l1_3 l1_4 l1_5))) else (nuncioref06_Same.j0 k true a0_0 a0_1 l0_2 l0_3 l0_4 l0_5 a1_0 a1_1 l1_2 l1_3 l1_4 l1_5)) else (nuncioref06_Same.j0 k true a0_0 a0_1 l0_2 l0_3 l0_4 l0_5 a1_0 a1_1 l1_2 l1_3 l1_4 l1_5)) else (nuncioref06_Same.j0 k true a0_0 a0_1 l0_2 l0_3 l0_4 l0_5 a1_0 a1_1 l1_2 l1_3 l1_4 l1_5)
theorem nuncioref06_Same.mono_l : ∀ k, (∀ y0 y1 y2 y3 y4 y5 y6 y7 y8 y9 y10 y11 y12, LeO (nuncioref06_Same.j0 k y0 y1 y2 y3 y4 y5 y6 y7 y8 y9 y10 y11 y12) (nuncioref06_Same.j0 (k + 1) y0 y1 y2 y3 y4 y5 y6 y7 y8 y9 y10 y11 y12)) ∧ (∀ y0 y1 y2 y3 y4 y5 y6 y7 y8 y9 y10 y11 y12, LeO (nuncioref06_Same.l0 k y0 y1 y2 y3 y4 y5 y6 y7 y8 y9 y10 y11 y12) (nuncioref06_Same.l0 (k + 1) y0 y1 y2 y3 y4 y5 y6 y7 y8 y9 y10 y11 y12))
 | 0 => ⟨fun _ _ _ _ _ _ _ _ _ _ _ _ _ r h => by simp [nuncioref06_Same.j0] at h, fun _ _ _ _ _ _ _ _ _ _ _ _ _ r h => by simp [nuncioref06_Same.l0] at h⟩
 | k + 1 => by
  obtain ⟨ih0,ih1⟩:=nuncioref06_Same.mono_l k
  refine ⟨?_,?_⟩
  ·
   intro y0 y1 y2 y3 y4 y5 y6 y7 y8 y9 y10 y11 y12
   unfold nuncioref06_Same.j0
   repeat' first
   | (with_reducible exact ih0 _ _ _ _ _ _ _ _ _ _ _ _ _)
   | (with_reducible exact ih1 _ _ _ _ _ _ _ _ _ _ _ _ _)
   | (with_reducible exact nuncioref06_records.mono _ _ _)
   | (with_reducible exact LeO.refl _)
   | (with_reducible exact LeO.none _)
   | (with_reducible refine LeO.ite ?_ ?_)
   | (with_reducible refine LeO.bind ?_ (fun _ => ?_))
   | exact ih0 _ _ _ _ _ _ _ _ _ _ _ _ _
   | exact ih1 _ _ _ _ _ _ _ _ _ _ _ _ _
   | exact nuncioref06_records.mono _ _ _
   | exact LeO.none _
   | refine LeO.ite ?_ ?_
   | refine LeO.bind ?_ (fun _ => ?_)
  ·
   intro y0 y1 y2 y3 y4 y5 y6 y7 y8 y9 y10 y11 y12
   unfold nuncioref06_Same.l0
   repeat' first
   | (with_reducible exact ih0 _ _ _ _ _ _ _ _ _ _ _ _ _)
   | (with_reducible exact ih1 _ _ _ _ _ _ _ _ _ _ _ _ _)
   | (with_reducible exact nuncioref06_records.mono _ _ _)
   | (with_reducible exact LeO.refl _)
   | (with_reducible exact LeO.none _)
   | (with_reducible refine LeO.ite ?_ ?_)
   | (with_reducible refine LeO.bind ?_ (fun _ => ?_))
   | exact ih0 _ _ _ _ _ _ _ _ _ _ _ _ _
   | exact ih1 _ _ _ _ _ _ _ _ _ _ _ _ _
   | exact nuncioref06_records.mono _ _ _
   | exact LeO.none _
   | refine LeO.ite ?_ ?_
   | refine LeO.bind ?_ (fun _ => ?_)
theorem nuncioref06_Same.mono : ∀ a0 a1 a2 a3 a4 a5 a6 a7 a8 a9 a10 a11 k, LeO (nuncioref06_Same.f k a0 a1 a2 a3 a4 a5 a6 a7 a8 a9 a10 a11) (nuncioref06_Same.f (k + 1) a0 a1 a2 a3 a4 a5 a6 a7 a8 a9 a10 a11) := by
 intro a0 a1 a2 a3 a4 a5 a6 a7 a8 a9 a10 a11 k
 obtain ⟨ih0,ih1⟩:=nuncioref06_Same.mono_l k
 unfold nuncioref06_Same.f
 repeat' first
   | (with_reducible exact ih0 _ _ _ _ _ _ _ _ _ _ _ _ _)
   | (with_reducible exact ih1 _ _ _ _ _ _ _ _ _ _ _ _ _)
   | (with_reducible exact nuncioref06_records.mono _ _ _)
   | (with_reducible exact LeO.refl _)
   | (with_reducible exact LeO.none _)
   | (with_reducible refine LeO.ite ?_ ?_)
   | (with_reducible refine LeO.bind ?_ (fun _ => ?_))
   | exact ih0 _ _ _ _ _ _ _ _ _ _ _ _ _
   | exact ih1 _ _ _ _ _ _ _ _ _ _ _ _ _
   | exact nuncioref06_records.mono _ _ _
   | exact LeO.none _
   | refine LeO.ite ?_ ?_
   | refine LeO.bind ?_ (fun _ => ?_)
set_option maxHeartbeats 8000000 in
set_option maxRecDepth 100000 in
theorem nuncioref06_Same.calls (k : Nat) (a0_0 : Int) (a0_1 : Int) (A0_2 : Option Addr) (c0_2 : Nat) (l0_2 : List (S53)) (A0_3 : Option Addr) (c0_3 : Nat) (l0_3 : List (S51)) (A0_4 : Option Addr) (c0_4 : Nat) (l0_4 : List (S51)) (A0_5 : Option Addr) (c0_5 : Nat) (l0_5 : List (S51)) (a1_0 : Int) (a1_1 : Int) (A1_2 : Option Addr) (c1_2 : Nat) (l1_2 : List (S53)) (A1_3 : Option Addr) (c1_3 : Nat) (l1_3 : List (S51)) (A1_4 : Option Addr) (c1_4 : Nat) (l1_4 : List (S51)) (A1_5 : Option Addr) (c1_5 : Nat) (l1_5 : List (S51)) (r : Bool) (w : World) (hr0_2 : Kd.C k53 w A0_2 l0_2.length l0_2) (hc0_2 : l0_2.length ≤ c0_2) (hr0_3 : Kd.C k51 w A0_3 l0_3.length l0_3) (hc0_3 : l0_3.length ≤ c0_3) (hr0_4 : Kd.C k51 w A0_4 l0_4.length l0_4) (hc0_4 : l0_4.length ≤ c0_4) (hr0_5 : Kd.C k51 w A0_5 l0_5.length l0_5) (hc0_5 : l0_5.length ≤ c0_5) (hr1_2 : Kd.C k53 w A1_2 l1_2.length l1_2) (hc1_2 : l1_2.length ≤ c1_2) (hr1_3 : Kd.C k51 w A1_3 l1_3.length l1_3) (hc1_3 : l1_3.length ≤ c1_3) (hr1_4 : Kd.C k51 w A1_4 l1_4.length l1_4) (hc1_4 : l1_4.length ≤ c1_4) (hr1_5 : Kd.C k51 w A1_5 l1_5.length l1_5) (hc1_5 : l1_5.length ≤ c1_5) (h : nuncioref06_Same.f k a0_0 a0_1 l0_2 l0_3 l0_4 l0_5 a1_0 a1_1 l1_2 l1_3 l1_4 l1_5 = some r) :
  Calls Try.prog 13 #[.agg #[.int .u16 a0_0,.int .u16 a0_1,.slice A0_2 l0_2.length c0_2,.slice A0_3 l0_3.length c0_3,.slice A0_4 l0_4.length c0_4,.slice A0_5 l0_5.length c0_5],.agg #[.int .u16 a1_0,.int .u16 a1_1,.slice A1_2 l1_2.length c1_2,.slice A1_3 l1_3.length c1_3,.slice A1_4 l1_4.length c1_4,.slice A1_5 l1_5.length c1_5]] w fun e w'=>e = .returned (.bool r)∧Below w.heap.size w w':=by
 have hu26:=Try.underlying26
 have hu53:=Try.underlying53
 have HR0_2:=qqm hr0_2
 have HC0_2:=qqm hc0_2
 clear hr0_2 hc0_2
 have HR0_3:=qqm hr0_3
 have HC0_3:=qqm hc0_3
 clear hr0_3 hc0_3
 have HR0_4:=qqm hr0_4
 have HC0_4:=qqm hc0_4
 clear hr0_4 hc0_4
 have HR0_5:=qqm hr0_5
 have HC0_5:=qqm hc0_5
 clear hr0_5 hc0_5
 have HR1_2:=qqm hr1_2
 have HC1_2:=qqm hc1_2
 clear hr1_2 hc1_2
 have HR1_3:=qqm hr1_3
 have HC1_3:=qqm hc1_3
 clear hr1_3 hc1_3
 have HR1_4:=qqm hr1_4
 have HC1_4:=qqm hc1_4
 clear hr1_4 hc1_4
 have HR1_5:=qqm hr1_5
 have HC1_5:=qqm hc1_5
 clear hr1_5 hc1_5
 have HB:=qqm (Below.refl w.heap.size w)
 have H:(if a0_0 = a1_0 then (if a0_1 = a1_1 then (if (l0_2.length:Int) = (l1_2.length:Int) then ((nuncioref06_records.f k l0_3 l1_3).bind fun t298=>(if t298 = true then ((nuncioref06_records.f k l0_4 l1_4).bind fun t299=>(if t299 = true then ((nuncioref06_records.f k l0_5 l1_5).bind fun t300=>(nuncioref06_Same.j0 k (!t300) a0_0 a0_1 l0_2 l0_3 l0_4 l0_5 a1_0 a1_1 l1_2 l1_3 l1_4 l1_5)) else (nuncioref06_Same.j0 k true a0_0 a0_1 l0_2 l0_3 l0_4 l0_5 a1_0 a1_1 l1_2 l1_3 l1_4 l1_5))) else (nuncioref06_Same.j0 k true a0_0 a0_1 l0_2 l0_3 l0_4 l0_5 a1_0 a1_1 l1_2 l1_3 l1_4 l1_5))) else (nuncioref06_Same.j0 k true a0_0 a0_1 l0_2 l0_3 l0_4 l0_5 a1_0 a1_1 l1_2 l1_3 l1_4 l1_5)) else (nuncioref06_Same.j0 k true a0_0 a0_1 l0_2 l0_3 l0_4 l0_5 a1_0 a1_1 l1_2 l1_3 l1_4 l1_5)) else (nuncioref06_Same.j0 k true a0_0 a0_1 l0_2 l0_3 l0_4 l0_5 a1_0 a1_1 l1_2 l1_3 l1_4 l1_5)) = some r:=h
 clear h
 have HC3:=qqm H
 clear H
 go_enter Try.func13,Try.ntmps13
 go_upto_region 1 with (first|((with_reducible refine gate_dst (N:=2) rfl ?_);(try (refine gate_guard (by rfl) ?_;dsimp only));refine box_event ?hg (N:=2) ?hd (cs:=#[.int .u16 a0_0,.int .u16 a0_1,.slice A0_2 l0_2.length c0_2,.slice A0_3 l0_3.length c0_3,.slice A0_4 l0_4.length c0_4,.slice A0_5 l0_5.length c0_5]) (t:=26) ?hr ?_;(case hd=>rfl);(case hg=>rfl);(case hr=>first|(go_simp;done)|(go_simp;rfl));intro gb296 hg w4 hbox hb;have n0_:=qqm (below_step (by with_reducible repeat first|exact HB.out|apply qqf|apply qqd|apply qqe) hb);have n1_:=qqm (hbox);have n2_:=qqm ((by rw [hg];exact (below_size (by with_reducible repeat first|exact HB.out|apply qqf|apply qqd|apply qqe)):w.heap.size ≤ gb296));have n3_:=n2_;clear HB;have HB:=n0_;have BK296:=n1_;have GW296:=n2_;have GE296:=n3_;clear n0_ n1_ n2_ n3_ hb hbox hg)|((with_reducible refine gate_dst (N:=3) rfl ?_);(try (refine gate_guard (by rfl) ?_;dsimp only));refine box_event ?hg (N:=3) ?hd (cs:=#[.int .u16 a1_0,.int .u16 a1_1,.slice A1_2 l1_2.length c1_2,.slice A1_3 l1_3.length c1_3,.slice A1_4 l1_4.length c1_4,.slice A1_5 l1_5.length c1_5]) (t:=26) ?hr ?_;(case hd=>rfl);(case hg=>rfl);(case hr=>first|(go_simp;done)|(go_simp;rfl));intro gb297 hg w5 hbox hb;have n0_:=qqm (blk_below (g:=gb296) (o:=.cells #[.int .u16 a0_0,.int .u16 a0_1,.slice A0_2 l0_2.length c0_2,.slice A0_3 l0_3.length c0_3,.slice A0_4 l0_4.length c0_4,.slice A0_5 l0_5.length c0_5] 26 (0,0)) (by (with_reducible repeat first|apply qqa|apply qqb|apply qqc);exact BK296.out) hb);have n1_:=qqm (below_step (by with_reducible repeat first|exact HB.out|apply qqf|apply qqd|apply qqe|refine qqg ?_ GE296.out) hb);have n2_:=qqm (hbox);have n3_:=qqm ((by rw [hg];exact (below_size (by with_reducible repeat first|exact HB.out|apply qqf|apply qqd|apply qqe|refine qqg ?_ GE296.out)):w.heap.size ≤ gb297));have n4_:=n3_;have n5_:=qqm ((by rw [hg];exact Nat.ne_of_lt (blk_lt (by (with_reducible repeat first|apply qqa|apply qqb|apply qqc);exact BK296.out)):gb296 ≠ gb297));have n6_:=qqm (Ne.symm n5_.out);clear BK296 HB;have BK296:=n0_;have HB:=n1_;have BK297:=n2_;have GW297:=n3_;have GE297:=n4_;have NB296_297:=n5_;have NB297_296:=n6_;clear n0_ n1_ n2_ n3_ n4_ n5_ n6_ hb hbox hg))
 repeat (go_quiet (first|((with_reducible refine gate_dst (N:=2) rfl ?_);(try (refine gate_guard (by rfl) ?_;dsimp only));refine box_event ?hg (N:=2) ?hd (cs:=#[.int .u16 a0_0,.int .u16 a0_1,.slice A0_2 l0_2.length c0_2,.slice A0_3 l0_3.length c0_3,.slice A0_4 l0_4.length c0_4,.slice A0_5 l0_5.length c0_5]) (t:=26) ?hr ?_;(case hd=>rfl);(case hg=>rfl);(case hr=>first|(go_simp;done)|(go_simp;rfl));intro gb296 hg w4 hbox hb;have n0_:=qqm (below_step (by with_reducible repeat first|exact HB.out|apply qqf|apply qqd|apply qqe) hb);have n1_:=qqm (hbox);have n2_:=qqm ((by rw [hg];exact (below_size (by with_reducible repeat first|exact HB.out|apply qqf|apply qqd|apply qqe)):w.heap.size ≤ gb296));have n3_:=n2_;clear HB;have HB:=n0_;have BK296:=n1_;have GW296:=n2_;have GE296:=n3_;clear n0_ n1_ n2_ n3_ hb hbox hg)|((with_reducible refine gate_dst (N:=3) rfl ?_);(try (refine gate_guard (by rfl) ?_;dsimp only));refine box_event ?hg (N:=3) ?hd (cs:=#[.int .u16 a1_0,.int .u16 a1_1,.slice A1_2 l1_2.length c1_2,.slice A1_3 l1_3.length c1_3,.slice A1_4 l1_4.length c1_4,.slice A1_5 l1_5.length c1_5]) (t:=26) ?hr ?_;(case hd=>rfl);(case hg=>rfl);(case hr=>first|(go_simp;done)|(go_simp;rfl));intro gb297 hg w5 hbox hb;have n0_:=qqm (blk_below (g:=gb296) (o:=.cells #[.int .u16 a0_0,.int .u16 a0_1,.slice A0_2 l0_2.length c0_2,.slice A0_3 l0_3.length c0_3,.slice A0_4 l0_4.length c0_4,.slice A0_5 l0_5.length c0_5] 26 (0,0)) (by (with_reducible repeat first|apply qqa|apply qqb|apply qqc);exact BK296.out) hb);have n1_:=qqm (below_step (by with_reducible repeat first|exact HB.out|apply qqf|apply qqd|apply qqe|refine qqg ?_ GE296.out) hb);have n2_:=qqm (hbox);have n3_:=qqm ((by rw [hg];exact (below_size (by with_reducible repeat first|exact HB.out|apply qqf|apply qqd|apply qqe|refine qqg ?_ GE296.out)):w.heap.size ≤ gb297));have n4_:=n3_;have n5_:=qqm ((by rw [hg];exact Nat.ne_of_lt (blk_lt (by (with_reducible repeat first|apply qqa|apply qqb|apply qqc);exact BK296.out)):gb296 ≠ gb297));have n6_:=qqm (Ne.symm n5_.out);clear BK296 HB;have BK296:=n0_;have HB:=n1_;have BK297:=n2_;have GW297:=n3_;have GE297:=n4_;have NB296_297:=n5_;have NB297_296:=n6_;clear n0_ n1_ n2_ n3_ n4_ n5_ n6_ hb hbox hg));go_upto_region 1 with (first|((with_reducible refine gate_dst (N:=2) rfl ?_);(try (refine gate_guard (by rfl) ?_;dsimp only));refine box_event ?hg (N:=2) ?hd (cs:=#[.int .u16 a0_0,.int .u16 a0_1,.slice A0_2 l0_2.length c0_2,.slice A0_3 l0_3.length c0_3,.slice A0_4 l0_4.length c0_4,.slice A0_5 l0_5.length c0_5]) (t:=26) ?hr ?_;(case hd=>rfl);(case hg=>rfl);(case hr=>first|(go_simp;done)|(go_simp;rfl));intro gb296 hg w4 hbox hb;have n0_:=qqm (below_step (by with_reducible repeat first|exact HB.out|apply qqf|apply qqd|apply qqe) hb);have n1_:=qqm (hbox);have n2_:=qqm ((by rw [hg];exact (below_size (by with_reducible repeat first|exact HB.out|apply qqf|apply qqd|apply qqe)):w.heap.size ≤ gb296));have n3_:=n2_;clear HB;have HB:=n0_;have BK296:=n1_;have GW296:=n2_;have GE296:=n3_;clear n0_ n1_ n2_ n3_ hb hbox hg)|((with_reducible refine gate_dst (N:=3) rfl ?_);(try (refine gate_guard (by rfl) ?_;dsimp only));refine box_event ?hg (N:=3) ?hd (cs:=#[.int .u16 a1_0,.int .u16 a1_1,.slice A1_2 l1_2.length c1_2,.slice A1_3 l1_3.length c1_3,.slice A1_4 l1_4.length c1_4,.slice A1_5 l1_5.length c1_5]) (t:=26) ?hr ?_;(case hd=>rfl);(case hg=>rfl);(case hr=>first|(go_simp;done)|(go_simp;rfl));intro gb297 hg w5 hbox hb;have n0_:=qqm (blk_below (g:=gb296) (o:=.cells #[.int .u16 a0_0,.int .u16 a0_1,.slice A0_2 l0_2.length c0_2,.slice A0_3 l0_3.length c0_3,.slice A0_4 l0_4.length c0_4,.slice A0_5 l0_5.length c0_5] 26 (0,0)) (by (with_reducible repeat first|apply qqa|apply qqb|apply qqc);exact BK296.out) hb);have n1_:=qqm (below_step (by with_reducible repeat first|exact HB.out|apply qqf|apply qqd|apply qqe|refine qqg ?_ GE296.out) hb);have n2_:=qqm (hbox);have n3_:=qqm ((by rw [hg];exact (below_size (by with_reducible repeat first|exact HB.out|apply qqf|apply qqd|apply qqe|refine qqg ?_ GE296.out)):w.heap.size ≤ gb297));have n4_:=n3_;have n5_:=qqm ((by rw [hg];exact Nat.ne_of_lt (blk_lt (by (with_reducible repeat first|apply qqa|apply qqb|apply qqc);exact BK296.out)):gb296 ≠ gb297));have n6_:=qqm (Ne.symm n5_.out);clear BK296 HB;have BK296:=n0_;have HB:=n1_;have BK297:=n2_;have GW297:=n3_;have GE297:=n4_;have NB296_297:=n5_;have NB297_296:=n6_;clear n0_ n1_ n2_ n3_ n4_ n5_ n6_ hb hbox hg)))
 (try simp only [Act.put,qqj,qqk,qql])
 go_cut [50] (fun v50 wc=>∃ (kq:Nat) (x50_2:Bool),v50 = .bool x50_2∧Aside0 (nuncioref06_Same.j0 kq x50_2 a0_0 a0_1 l0_2 l0_3 l0_4 l0_5 a1_0 a1_1 l1_2 l1_3 l1_4 l1_5 = some r)∧Aside0 (kq ≤ k)∧Aside0 (wc.heap[gb296]? = some (.cells #[.int .u16 a0_0,.int .u16 a0_1,(.slice A0_2 l0_2.length c0_2),(.slice A0_3 l0_3.length c0_3),(.slice A0_4 l0_4.length c0_4),(.slice A0_5 l0_5.length c0_5)] 26 (0,0)))∧Aside0 (wc.heap[gb297]? = some (.cells #[.int .u16 a1_0,.int .u16 a1_1,(.slice A1_2 l1_2.length c1_2),(.slice A1_3 l1_3.length c1_3),(.slice A1_4 l1_4.length c1_4),(.slice A1_5 l1_5.length c1_5)] 26 (0,0)))∧Aside0 (Below w.heap.size w wc))
 case first =>
  have H:=HC3.out
  clear HC3
  by_cases c6:a0_0 = a1_0
  ·
   rw [if_pos c6] at H
   have c6b0:(a0_0 == a1_0) = true:=beq_iff_eq.mpr c6
   have c6b1:(a0_0 != a1_0) = false:=bne_eq_false_iff_eq.mpr c6
   clear c6
   (first|rw [c6b0]|rw [c6b1]|(simp only [i64_w,i32_w];rw [c6b0])|skip)
   by_cases c7:a0_1 = a1_1
   ·
    rw [if_pos c7] at H
    have c7b0:(a0_1 == a1_1) = true:=beq_iff_eq.mpr c7
    have c7b1:(a0_1 != a1_1) = false:=bne_eq_false_iff_eq.mpr c7
    clear c7
    by_cases c8:(l0_2.length:Int) = (l1_2.length:Int)
    ·
     rw [if_pos c8] at H
     have c8b0:((l0_2.length:Int) == (l1_2.length:Int)) = true:=beq_iff_eq.mpr c8
     have c8b1:((l0_2.length:Int) != (l1_2.length:Int)) = false:=bne_eq_false_iff_eq.mpr c8
     have c8b2:(l0_2.length == l1_2.length) = true:=by first|simpa using c8|(simp at c8 ⊢;omega)
     clear c8
     replace H:=Option.bind_eq_some_iff.mp H
     obtain ⟨t298,A90,H⟩:=H
     replace H:(if t298 = true then ((nuncioref06_records.f k l0_4 l1_4).bind fun t299=>(if t299 = true then ((nuncioref06_records.f k l0_5 l1_5).bind fun t300=>(nuncioref06_Same.j0 k (!t300) a0_0 a0_1 l0_2 l0_3 l0_4 l0_5 a1_0 a1_1 l1_2 l1_3 l1_4 l1_5)) else (nuncioref06_Same.j0 k true a0_0 a0_1 l0_2 l0_3 l0_4 l0_5 a1_0 a1_1 l1_2 l1_3 l1_4 l1_5))) else (nuncioref06_Same.j0 k true a0_0 a0_1 l0_2 l0_3 l0_4 l0_5 a1_0 a1_1 l1_2 l1_3 l1_4 l1_5)) = some r:=H
     have A9:=qqm A90
     clear A90
     by_cases c10:t298 = true
     ·
      subst c10
      have H1:((nuncioref06_records.f k l0_4 l1_4).bind fun t299=>(if t299 = true then ((nuncioref06_records.f k l0_5 l1_5).bind fun t300=>(nuncioref06_Same.j0 k (!t300) a0_0 a0_1 l0_2 l0_3 l0_4 l0_5 a1_0 a1_1 l1_2 l1_3 l1_4 l1_5)) else (nuncioref06_Same.j0 k true a0_0 a0_1 l0_2 l0_3 l0_4 l0_5 a1_0 a1_1 l1_2 l1_3 l1_4 l1_5))) = some r:=by rw [if_pos rfl] at H;exact H
      clear H
      have H:=H1
      clear H1
      replace H:=Option.bind_eq_some_iff.mp H
      obtain ⟨t299,A110,H⟩:=H
      replace H:(if t299 = true then ((nuncioref06_records.f k l0_5 l1_5).bind fun t300=>(nuncioref06_Same.j0 k (!t300) a0_0 a0_1 l0_2 l0_3 l0_4 l0_5 a1_0 a1_1 l1_2 l1_3 l1_4 l1_5)) else (nuncioref06_Same.j0 k true a0_0 a0_1 l0_2 l0_3 l0_4 l0_5 a1_0 a1_1 l1_2 l1_3 l1_4 l1_5)) = some r:=H
      have A11:=qqm A110
      clear A110
      by_cases c12:t299 = true
      ·
       subst c12
       have H1:((nuncioref06_records.f k l0_5 l1_5).bind fun t300=>(nuncioref06_Same.j0 k (!t300) a0_0 a0_1 l0_2 l0_3 l0_4 l0_5 a1_0 a1_1 l1_2 l1_3 l1_4 l1_5)) = some r:=by rw [if_pos rfl] at H;exact H
       clear H
       have H:=H1
       clear H1
       replace H:=Option.bind_eq_some_iff.mp H
       obtain ⟨t300,A130,H⟩:=H
       replace H:(nuncioref06_Same.j0 k (!t300) a0_0 a0_1 l0_2 l0_3 l0_4 l0_5 a1_0 a1_1 l1_2 l1_3 l1_4 l1_5) = some r:=H
       have A13:=qqm A130
       clear A130
       have H':=qqm H
       clear H
       have hnb14:=NB296_297.out
       have hnc14:=NB297_296.out
       obtain ⟨hcz15_0,hcz15_1,hcz15_2,hcz15_3,hcz15_4,hcz15_5⟩:=qc6 BK296.out
       obtain ⟨hfz15_0,hfz15_1,hfz15_2,hfz15_3,hfz15_4,hfz15_5⟩:=qf6 BK296.out
       obtain ⟨hcz16_0,hcz16_1,hcz16_2,hcz16_3,hcz16_4,hcz16_5⟩:=qc6 BK297.out
       obtain ⟨hfz16_0,hfz16_1,hfz16_2,hfz16_3,hfz16_4,hfz16_5⟩:=qf6 BK297.out
       go_wp2_with (first|(go_at_call 39;(with_reducible refine (nuncioref06_records.calls k _ _ l0_3 _ _ l1_3 true _ ?side1 ?side2 ?side3 ?side4 A9.out).mono ?_);(case side1=>repeat (first|exact (Kd.C_below HR0_3.out HB.out)|(with_reducible first|apply Kd.C_alloc|apply Kd.C_drewN|apply Kd.C_drew)));(case side2=>exact HC0_3.out);(case side3=>repeat (first|exact (Kd.C_below HR1_3.out HB.out)|(with_reducible first|apply Kd.C_alloc|apply Kd.C_drewN|apply Kd.C_drew)));(case side4=>exact HC1_3.out);rintro e w17 ⟨rfl,hb⟩;have n0_:=qqm (blk_below (g:=gb296) (o:=.cells #[.int .u16 a0_0,.int .u16 a0_1,.slice A0_2 l0_2.length c0_2,.slice A0_3 l0_3.length c0_3,.slice A0_4 l0_4.length c0_4,.slice A0_5 l0_5.length c0_5] 26 (0,0)) (by (with_reducible repeat first|apply qqa|apply qqb|apply qqc);exact BK296.out) hb);have n1_:=qqm (blk_below (g:=gb297) (o:=.cells #[.int .u16 a1_0,.int .u16 a1_1,.slice A1_2 l1_2.length c1_2,.slice A1_3 l1_3.length c1_3,.slice A1_4 l1_4.length c1_4,.slice A1_5 l1_5.length c1_5] 26 (0,0)) (by (with_reducible repeat first|apply qqa|apply qqb|apply qqc);exact BK297.out) hb);have n2_:=qqm (below_step (by with_reducible repeat first|exact HB.out|apply qqf|apply qqd|apply qqe|refine qqg ?_ GE296.out|refine qqg ?_ GE297.out) hb);clear BK296 BK297 HB;have BK296:=n0_;have BK297:=n1_;have HB:=n2_;clear n0_ n1_ n2_;(try clear hb);(try clear hb2);(try clear hk);(try clear hi);obtain ⟨hcz18_0,hcz18_1,hcz18_2,hcz18_3,hcz18_4,hcz18_5⟩:=qc6 BK296.out;obtain ⟨hfz18_0,hfz18_1,hfz18_2,hfz18_3,hfz18_4,hfz18_5⟩:=qf6 BK296.out;obtain ⟨hcz19_0,hcz19_1,hcz19_2,hcz19_3,hcz19_4,hcz19_5⟩:=qc6 BK297.out;obtain ⟨hfz19_0,hfz19_1,hfz19_2,hfz19_3,hfz19_4,hfz19_5⟩:=qf6 BK297.out)|(go_at_call 39;(with_reducible refine (nuncioref06_records.calls k _ _ l0_4 _ _ l1_4 true _ ?side1 ?side2 ?side3 ?side4 A11.out).mono ?_);(case side1=>repeat (first|exact (Kd.C_below HR0_4.out HB.out)|(with_reducible first|apply Kd.C_alloc|apply Kd.C_drewN|apply Kd.C_drew)));(case side2=>exact HC0_4.out);(case side3=>repeat (first|exact (Kd.C_below HR1_4.out HB.out)|(with_reducible first|apply Kd.C_alloc|apply Kd.C_drewN|apply Kd.C_drew)));(case side4=>exact HC1_4.out);rintro e w20 ⟨rfl,hb⟩;have n0_:=qqm (blk_below (g:=gb296) (o:=.cells #[.int .u16 a0_0,.int .u16 a0_1,.slice A0_2 l0_2.length c0_2,.slice A0_3 l0_3.length c0_3,.slice A0_4 l0_4.length c0_4,.slice A0_5 l0_5.length c0_5] 26 (0,0)) (by (with_reducible repeat first|apply qqa|apply qqb|apply qqc);exact BK296.out) hb);have n1_:=qqm (blk_below (g:=gb297) (o:=.cells #[.int .u16 a1_0,.int .u16 a1_1,.slice A1_2 l1_2.length c1_2,.slice A1_3 l1_3.length c1_3,.slice A1_4 l1_4.length c1_4,.slice A1_5 l1_5.length c1_5] 26 (0,0)) (by (with_reducible repeat first|apply qqa|apply qqb|apply qqc);exact BK297.out) hb);have n2_:=qqm (below_step (by with_reducible repeat first|exact HB.out|apply qqf|apply qqd|apply qqe|refine qqg ?_ GE296.out|refine qqg ?_ GE297.out) hb);clear BK296 BK297 HB;have BK296:=n0_;have BK297:=n1_;have HB:=n2_;clear n0_ n1_ n2_;(try clear hb);(try clear hb2);(try clear hk);(try clear hi);obtain ⟨hcz21_0,hcz21_1,hcz21_2,hcz21_3,hcz21_4,hcz21_5⟩:=qc6 BK296.out;obtain ⟨hfz21_0,hfz21_1,hfz21_2,hfz21_3,hfz21_4,hfz21_5⟩:=qf6 BK296.out;obtain ⟨hcz22_0,hcz22_1,hcz22_2,hcz22_3,hcz22_4,hcz22_5⟩:=qc6 BK297.out;obtain ⟨hfz22_0,hfz22_1,hfz22_2,hfz22_3,hfz22_4,hfz22_5⟩:=qf6 BK297.out)|(go_at_call 39;(with_reducible refine (nuncioref06_records.calls k _ _ l0_5 _ _ l1_5 t300 _ ?side1 ?side2 ?side3 ?side4 A13.out).mono ?_);(case side1=>repeat (first|exact (Kd.C_below HR0_5.out HB.out)|(with_reducible first|apply Kd.C_alloc|apply Kd.C_drewN|apply Kd.C_drew)));(case side2=>exact HC0_5.out);(case side3=>repeat (first|exact (Kd.C_below HR1_5.out HB.out)|(with_reducible first|apply Kd.C_alloc|apply Kd.C_drewN|apply Kd.C_drew)));(case side4=>exact HC1_5.out);rintro e w23 ⟨rfl,hb⟩;have n0_:=qqm (blk_below (g:=gb296) (o:=.cells #[.int .u16 a0_0,.int .u16 a0_1,.slice A0_2 l0_2.length c0_2,.slice A0_3 l0_3.length c0_3,.slice A0_4 l0_4.length c0_4,.slice A0_5 l0_5.length c0_5] 26 (0,0)) (by (with_reducible repeat first|apply qqa|apply qqb|apply qqc);exact BK296.out) hb);have n1_:=qqm (blk_below (g:=gb297) (o:=.cells #[.int .u16 a1_0,.int .u16 a1_1,.slice A1_2 l1_2.length c1_2,.slice A1_3 l1_3.length c1_3,.slice A1_4 l1_4.length c1_4,.slice A1_5 l1_5.length c1_5] 26 (0,0)) (by (with_reducible repeat first|apply qqa|apply qqb|apply qqc);exact BK297.out) hb);have n2_:=qqm (below_step (by with_reducible repeat first|exact HB.out|apply qqf|apply qqd|apply qqe|refine qqg ?_ GE296.out|refine qqg ?_ GE297.out) hb);clear BK296 BK297 HB;have BK296:=n0_;have BK297:=n1_;have HB:=n2_;clear n0_ n1_ n2_;(try clear hb);(try clear hb2);(try clear hk);(try clear hi)))
       repeat (go_quiet (first|(go_at_call 39;(with_reducible refine (nuncioref06_records.calls k _ _ l0_3 _ _ l1_3 true _ ?side1 ?side2 ?side3 ?side4 A9.out).mono ?_);(case side1=>repeat (first|exact (Kd.C_below HR0_3.out HB.out)|(with_reducible first|apply Kd.C_alloc|apply Kd.C_drewN|apply Kd.C_drew)));(case side2=>exact HC0_3.out);(case side3=>repeat (first|exact (Kd.C_below HR1_3.out HB.out)|(with_reducible first|apply Kd.C_alloc|apply Kd.C_drewN|apply Kd.C_drew)));(case side4=>exact HC1_3.out);rintro e w17 ⟨rfl,hb⟩;have n0_:=qqm (blk_below (g:=gb296) (o:=.cells #[.int .u16 a0_0,.int .u16 a0_1,.slice A0_2 l0_2.length c0_2,.slice A0_3 l0_3.length c0_3,.slice A0_4 l0_4.length c0_4,.slice A0_5 l0_5.length c0_5] 26 (0,0)) (by (with_reducible repeat first|apply qqa|apply qqb|apply qqc);exact BK296.out) hb);have n1_:=qqm (blk_below (g:=gb297) (o:=.cells #[.int .u16 a1_0,.int .u16 a1_1,.slice A1_2 l1_2.length c1_2,.slice A1_3 l1_3.length c1_3,.slice A1_4 l1_4.length c1_4,.slice A1_5 l1_5.length c1_5] 26 (0,0)) (by (with_reducible repeat first|apply qqa|apply qqb|apply qqc);exact BK297.out) hb);have n2_:=qqm (below_step (by with_reducible repeat first|exact HB.out|apply qqf|apply qqd|apply qqe|refine qqg ?_ GE296.out|refine qqg ?_ GE297.out) hb);clear BK296 BK297 HB;have BK296:=n0_;have BK297:=n1_;have HB:=n2_;clear n0_ n1_ n2_;(try clear hb);(try clear hb2);(try clear hk);(try clear hi);obtain ⟨hcz18_0,hcz18_1,hcz18_2,hcz18_3,hcz18_4,hcz18_5⟩:=qc6 BK296.out;obtain ⟨hfz18_0,hfz18_1,hfz18_2,hfz18_3,hfz18_4,hfz18_5⟩:=qf6 BK296.out;obtain ⟨hcz19_0,hcz19_1,hcz19_2,hcz19_3,hcz19_4,hcz19_5⟩:=qc6 BK297.out;obtain ⟨hfz19_0,hfz19_1,hfz19_2,hfz19_3,hfz19_4,hfz19_5⟩:=qf6 BK297.out)|(go_at_call 39;(with_reducible refine (nuncioref06_records.calls k _ _ l0_4 _ _ l1_4 true _ ?side1 ?side2 ?side3 ?side4 A11.out).mono ?_);(case side1=>repeat (first|exact (Kd.C_below HR0_4.out HB.out)|(with_reducible first|apply Kd.C_alloc|apply Kd.C_drewN|apply Kd.C_drew)));(case side2=>exact HC0_4.out);(case side3=>repeat (first|exact (Kd.C_below HR1_4.out HB.out)|(with_reducible first|apply Kd.C_alloc|apply Kd.C_drewN|apply Kd.C_drew)));(case side4=>exact HC1_4.out);rintro e w20 ⟨rfl,hb⟩;have n0_:=qqm (blk_below (g:=gb296) (o:=.cells #[.int .u16 a0_0,.int .u16 a0_1,.slice A0_2 l0_2.length c0_2,.slice A0_3 l0_3.length c0_3,.slice A0_4 l0_4.length c0_4,.slice A0_5 l0_5.length c0_5] 26 (0,0)) (by (with_reducible repeat first|apply qqa|apply qqb|apply qqc);exact BK296.out) hb);have n1_:=qqm (blk_below (g:=gb297) (o:=.cells #[.int .u16 a1_0,.int .u16 a1_1,.slice A1_2 l1_2.length c1_2,.slice A1_3 l1_3.length c1_3,.slice A1_4 l1_4.length c1_4,.slice A1_5 l1_5.length c1_5] 26 (0,0)) (by (with_reducible repeat first|apply qqa|apply qqb|apply qqc);exact BK297.out) hb);have n2_:=qqm (below_step (by with_reducible repeat first|exact HB.out|apply qqf|apply qqd|apply qqe|refine qqg ?_ GE296.out|refine qqg ?_ GE297.out) hb);clear BK296 BK297 HB;have BK296:=n0_;have BK297:=n1_;have HB:=n2_;clear n0_ n1_ n2_;(try clear hb);(try clear hb2);(try clear hk);(try clear hi);obtain ⟨hcz21_0,hcz21_1,hcz21_2,hcz21_3,hcz21_4,hcz21_5⟩:=qc6 BK296.out;obtain ⟨hfz21_0,hfz21_1,hfz21_2,hfz21_3,hfz21_4,hfz21_5⟩:=qf6 BK296.out;obtain ⟨hcz22_0,hcz22_1,hcz22_2,hcz22_3,hcz22_4,hcz22_5⟩:=qc6 BK297.out;obtain ⟨hfz22_0,hfz22_1,hfz22_2,hfz22_3,hfz22_4,hfz22_5⟩:=qf6 BK297.out)|(go_at_call 39;(with_reducible refine (nuncioref06_records.calls k _ _ l0_5 _ _ l1_5 t300 _ ?side1 ?side2 ?side3 ?side4 A13.out).mono ?_);(case side1=>repeat (first|exact (Kd.C_below HR0_5.out HB.out)|(with_reducible first|apply Kd.C_alloc|apply Kd.C_drewN|apply Kd.C_drew)));(case side2=>exact HC0_5.out);(case side3=>repeat (first|exact (Kd.C_below HR1_5.out HB.out)|(with_reducible first|apply Kd.C_alloc|apply Kd.C_drewN|apply Kd.C_drew)));(case side4=>exact HC1_5.out);rintro e w23 ⟨rfl,hb⟩;have n0_:=qqm (blk_below (g:=gb296) (o:=.cells #[.int .u16 a0_0,.int .u16 a0_1,.slice A0_2 l0_2.length c0_2,.slice A0_3 l0_3.length c0_3,.slice A0_4 l0_4.length c0_4,.slice A0_5 l0_5.length c0_5] 26 (0,0)) (by (with_reducible repeat first|apply qqa|apply qqb|apply qqc);exact BK296.out) hb);have n1_:=qqm (blk_below (g:=gb297) (o:=.cells #[.int .u16 a1_0,.int .u16 a1_1,.slice A1_2 l1_2.length c1_2,.slice A1_3 l1_3.length c1_3,.slice A1_4 l1_4.length c1_4,.slice A1_5 l1_5.length c1_5] 26 (0,0)) (by (with_reducible repeat first|apply qqa|apply qqb|apply qqc);exact BK297.out) hb);have n2_:=qqm (below_step (by with_reducible repeat first|exact HB.out|apply qqf|apply qqd|apply qqe|refine qqg ?_ GE296.out|refine qqg ?_ GE297.out) hb);clear BK296 BK297 HB;have BK296:=n0_;have BK297:=n1_;have HB:=n2_;clear n0_ n1_ n2_;(try clear hb);(try clear hb2);(try clear hk);(try clear hi)));try go_wp2_with (first|(go_at_call 39;(with_reducible refine (nuncioref06_records.calls k _ _ l0_3 _ _ l1_3 true _ ?side1 ?side2 ?side3 ?side4 A9.out).mono ?_);(case side1=>repeat (first|exact (Kd.C_below HR0_3.out HB.out)|(with_reducible first|apply Kd.C_alloc|apply Kd.C_drewN|apply Kd.C_drew)));(case side2=>exact HC0_3.out);(case side3=>repeat (first|exact (Kd.C_below HR1_3.out HB.out)|(with_reducible first|apply Kd.C_alloc|apply Kd.C_drewN|apply Kd.C_drew)));(case side4=>exact HC1_3.out);rintro e w17 ⟨rfl,hb⟩;have n0_:=qqm (blk_below (g:=gb296) (o:=.cells #[.int .u16 a0_0,.int .u16 a0_1,.slice A0_2 l0_2.length c0_2,.slice A0_3 l0_3.length c0_3,.slice A0_4 l0_4.length c0_4,.slice A0_5 l0_5.length c0_5] 26 (0,0)) (by (with_reducible repeat first|apply qqa|apply qqb|apply qqc);exact BK296.out) hb);have n1_:=qqm (blk_below (g:=gb297) (o:=.cells #[.int .u16 a1_0,.int .u16 a1_1,.slice A1_2 l1_2.length c1_2,.slice A1_3 l1_3.length c1_3,.slice A1_4 l1_4.length c1_4,.slice A1_5 l1_5.length c1_5] 26 (0,0)) (by (with_reducible repeat first|apply qqa|apply qqb|apply qqc);exact BK297.out) hb);have n2_:=qqm (below_step (by with_reducible repeat first|exact HB.out|apply qqf|apply qqd|apply qqe|refine qqg ?_ GE296.out|refine qqg ?_ GE297.out) hb);clear BK296 BK297 HB;have BK296:=n0_;have BK297:=n1_;have HB:=n2_;clear n0_ n1_ n2_;(try clear hb);(try clear hb2);(try clear hk);(try clear hi);obtain ⟨hcz18_0,hcz18_1,hcz18_2,hcz18_3,hcz18_4,hcz18_5⟩:=qc6 BK296.out;obtain ⟨hfz18_0,hfz18_1,hfz18_2,hfz18_3,hfz18_4,hfz18_5⟩:=qf6 BK296.out;obtain ⟨hcz19_0,hcz19_1,hcz19_2,hcz19_3,hcz19_4,hcz19_5⟩:=qc6 BK297.out;obtain ⟨hfz19_0,hfz19_1,hfz19_2,hfz19_3,hfz19_4,hfz19_5⟩:=qf6 BK297.out)|(go_at_call 39;(with_reducible refine (nuncioref06_records.calls k _ _ l0_4 _ _ l1_4 true _ ?side1 ?side2 ?side3 ?side4 A11.out).mono ?_);(case side1=>repeat (first|exact (Kd.C_below HR0_4.out HB.out)|(with_reducible first|apply Kd.C_alloc|apply Kd.C_drewN|apply Kd.C_drew)));(case side2=>exact HC0_4.out);(case side3=>repeat (first|exact (Kd.C_below HR1_4.out HB.out)|(with_reducible first|apply Kd.C_alloc|apply Kd.C_drewN|apply Kd.C_drew)));(case side4=>exact HC1_4.out);rintro e w20 ⟨rfl,hb⟩;have n0_:=qqm (blk_below (g:=gb296) (o:=.cells #[.int .u16 a0_0,.int .u16 a0_1,.slice A0_2 l0_2.length c0_2,.slice A0_3 l0_3.length c0_3,.slice A0_4 l0_4.length c0_4,.slice A0_5 l0_5.length c0_5] 26 (0,0)) (by (with_reducible repeat first|apply qqa|apply qqb|apply qqc);exact BK296.out) hb);have n1_:=qqm (blk_below (g:=gb297) (o:=.cells #[.int .u16 a1_0,.int .u16 a1_1,.slice A1_2 l1_2.length c1_2,.slice A1_3 l1_3.length c1_3,.slice A1_4 l1_4.length c1_4,.slice A1_5 l1_5.length c1_5] 26 (0,0)) (by (with_reducible repeat first|apply qqa|apply qqb|apply qqc);exact BK297.out) hb);have n2_:=qqm (below_step (by with_reducible repeat first|exact HB.out|apply qqf|apply qqd|apply qqe|refine qqg ?_ GE296.out|refine qqg ?_ GE297.out) hb);clear BK296 BK297 HB;have BK296:=n0_;have BK297:=n1_;have HB:=n2_;clear n0_ n1_ n2_;(try clear hb);(try clear hb2);(try clear hk);(try clear hi);obtain ⟨hcz21_0,hcz21_1,hcz21_2,hcz21_3,hcz21_4,hcz21_5⟩:=qc6 BK296.out;obtain ⟨hfz21_0,hfz21_1,hfz21_2,hfz21_3,hfz21_4,hfz21_5⟩:=qf6 BK296.out;obtain ⟨hcz22_0,hcz22_1,hcz22_2,hcz22_3,hcz22_4,hcz22_5⟩:=qc6 BK297.out;obtain ⟨hfz22_0,hfz22_1,hfz22_2,hfz22_3,hfz22_4,hfz22_5⟩:=qf6 BK297.out)|(go_at_call 39;(with_reducible refine (nuncioref06_records.calls k _ _ l0_5 _ _ l1_5 t300 _ ?side1 ?side2 ?side3 ?side4 A13.out).mono ?_);(case side1=>repeat (first|exact (Kd.C_below HR0_5.out HB.out)|(with_reducible first|apply Kd.C_alloc|apply Kd.C_drewN|apply Kd.C_drew)));(case side2=>exact HC0_5.out);(case side3=>repeat (first|exact (Kd.C_below HR1_5.out HB.out)|(with_reducible first|apply Kd.C_alloc|apply Kd.C_drewN|apply Kd.C_drew)));(case side4=>exact HC1_5.out);rintro e w23 ⟨rfl,hb⟩;have n0_:=qqm (blk_below (g:=gb296) (o:=.cells #[.int .u16 a0_0,.int .u16 a0_1,.slice A0_2 l0_2.length c0_2,.slice A0_3 l0_3.length c0_3,.slice A0_4 l0_4.length c0_4,.slice A0_5 l0_5.length c0_5] 26 (0,0)) (by (with_reducible repeat first|apply qqa|apply qqb|apply qqc);exact BK296.out) hb);have n1_:=qqm (blk_below (g:=gb297) (o:=.cells #[.int .u16 a1_0,.int .u16 a1_1,.slice A1_2 l1_2.length c1_2,.slice A1_3 l1_3.length c1_3,.slice A1_4 l1_4.length c1_4,.slice A1_5 l1_5.length c1_5] 26 (0,0)) (by (with_reducible repeat first|apply qqa|apply qqb|apply qqc);exact BK297.out) hb);have n2_:=qqm (below_step (by with_reducible repeat first|exact HB.out|apply qqf|apply qqd|apply qqe|refine qqg ?_ GE296.out|refine qqg ?_ GE297.out) hb);clear BK296 BK297 HB;have BK296:=n0_;have BK297:=n1_;have HB:=n2_;clear n0_ n1_ n2_;(try clear hb);(try clear hb2);(try clear hk);(try clear hi))))
       go_meet
       case rel=>exact ⟨_,(!t300),(by first|rfl|(simp;done)|(simp [*];done)),H',⟨by first|omega|exact Nat.le_refl _⟩,⟨by (with_reducible repeat first|apply qqa|apply qqb|apply qqc);exact BK296.out⟩,⟨by (with_reducible repeat first|apply qqa|apply qqb|apply qqc);exact BK297.out⟩,⟨by with_reducible repeat first|exact HB.out|apply qqf|apply qqd|apply qqe|refine qqg ?_ GE296.out|refine qqg ?_ GE297.out⟩⟩
      ·
       replace c12:=Bool.eq_false_iff.mpr c12
       subst c12
       have H1:(nuncioref06_Same.j0 k true a0_0 a0_1 l0_2 l0_3 l0_4 l0_5 a1_0 a1_1 l1_2 l1_3 l1_4 l1_5) = some r:=by rw [if_neg (show ¬ (false = true) by decide)] at H;exact H
       clear H
       have H:=H1
       clear H1
       have H':=qqm H
       clear H
       have hnb24:=NB296_297.out
       have hnc24:=NB297_296.out
       obtain ⟨hcz25_0,hcz25_1,hcz25_2,hcz25_3,hcz25_4,hcz25_5⟩:=qc6 BK296.out
       obtain ⟨hfz25_0,hfz25_1,hfz25_2,hfz25_3,hfz25_4,hfz25_5⟩:=qf6 BK296.out
       obtain ⟨hcz26_0,hcz26_1,hcz26_2,hcz26_3,hcz26_4,hcz26_5⟩:=qc6 BK297.out
       obtain ⟨hfz26_0,hfz26_1,hfz26_2,hfz26_3,hfz26_4,hfz26_5⟩:=qf6 BK297.out
       go_wp2_with (first|(go_at_call 39;(with_reducible refine (nuncioref06_records.calls k _ _ l0_3 _ _ l1_3 true _ ?side1 ?side2 ?side3 ?side4 A9.out).mono ?_);(case side1=>repeat (first|exact (Kd.C_below HR0_3.out HB.out)|(with_reducible first|apply Kd.C_alloc|apply Kd.C_drewN|apply Kd.C_drew)));(case side2=>exact HC0_3.out);(case side3=>repeat (first|exact (Kd.C_below HR1_3.out HB.out)|(with_reducible first|apply Kd.C_alloc|apply Kd.C_drewN|apply Kd.C_drew)));(case side4=>exact HC1_3.out);rintro e w27 ⟨rfl,hb⟩;have n0_:=qqm (blk_below (g:=gb296) (o:=.cells #[.int .u16 a0_0,.int .u16 a0_1,.slice A0_2 l0_2.length c0_2,.slice A0_3 l0_3.length c0_3,.slice A0_4 l0_4.length c0_4,.slice A0_5 l0_5.length c0_5] 26 (0,0)) (by (with_reducible repeat first|apply qqa|apply qqb|apply qqc);exact BK296.out) hb);have n1_:=qqm (blk_below (g:=gb297) (o:=.cells #[.int .u16 a1_0,.int .u16 a1_1,.slice A1_2 l1_2.length c1_2,.slice A1_3 l1_3.length c1_3,.slice A1_4 l1_4.length c1_4,.slice A1_5 l1_5.length c1_5] 26 (0,0)) (by (with_reducible repeat first|apply qqa|apply qqb|apply qqc);exact BK297.out) hb);have n2_:=qqm (below_step (by with_reducible repeat first|exact HB.out|apply qqf|apply qqd|apply qqe|refine qqg ?_ GE296.out|refine qqg ?_ GE297.out) hb);clear BK296 BK297 HB;have BK296:=n0_;have BK297:=n1_;have HB:=n2_;clear n0_ n1_ n2_;(try clear hb);(try clear hb2);(try clear hk);(try clear hi);obtain ⟨hcz28_0,hcz28_1,hcz28_2,hcz28_3,hcz28_4,hcz28_5⟩:=qc6 BK296.out;obtain ⟨hfz28_0,hfz28_1,hfz28_2,hfz28_3,hfz28_4,hfz28_5⟩:=qf6 BK296.out;obtain ⟨hcz29_0,hcz29_1,hcz29_2,hcz29_3,hcz29_4,hcz29_5⟩:=qc6 BK297.out;obtain ⟨hfz29_0,hfz29_1,hfz29_2,hfz29_3,hfz29_4,hfz29_5⟩:=qf6 BK297.out)|(go_at_call 39;(with_reducible refine (nuncioref06_records.calls k _ _ l0_4 _ _ l1_4 false _ ?side1 ?side2 ?side3 ?side4 A11.out).mono ?_);(case side1=>repeat (first|exact (Kd.C_below HR0_4.out HB.out)|(with_reducible first|apply Kd.C_alloc|apply Kd.C_drewN|apply Kd.C_drew)));(case side2=>exact HC0_4.out);(case side3=>repeat (first|exact (Kd.C_below HR1_4.out HB.out)|(with_reducible first|apply Kd.C_alloc|apply Kd.C_drewN|apply Kd.C_drew)));(case side4=>exact HC1_4.out);rintro e w30 ⟨rfl,hb⟩;have n0_:=qqm (blk_below (g:=gb296) (o:=.cells #[.int .u16 a0_0,.int .u16 a0_1,.slice A0_2 l0_2.length c0_2,.slice A0_3 l0_3.length c0_3,.slice A0_4 l0_4.length c0_4,.slice A0_5 l0_5.length c0_5] 26 (0,0)) (by (with_reducible repeat first|apply qqa|apply qqb|apply qqc);exact BK296.out) hb);have n1_:=qqm (blk_below (g:=gb297) (o:=.cells #[.int .u16 a1_0,.int .u16 a1_1,.slice A1_2 l1_2.length c1_2,.slice A1_3 l1_3.length c1_3,.slice A1_4 l1_4.length c1_4,.slice A1_5 l1_5.length c1_5] 26 (0,0)) (by (with_reducible repeat first|apply qqa|apply qqb|apply qqc);exact BK297.out) hb);have n2_:=qqm (below_step (by with_reducible repeat first|exact HB.out|apply qqf|apply qqd|apply qqe|refine qqg ?_ GE296.out|refine qqg ?_ GE297.out) hb);clear BK296 BK297 HB;have BK296:=n0_;have BK297:=n1_;have HB:=n2_;clear n0_ n1_ n2_;(try clear hb);(try clear hb2);(try clear hk);(try clear hi)))
       repeat (go_quiet (first|(go_at_call 39;(with_reducible refine (nuncioref06_records.calls k _ _ l0_3 _ _ l1_3 true _ ?side1 ?side2 ?side3 ?side4 A9.out).mono ?_);(case side1=>repeat (first|exact (Kd.C_below HR0_3.out HB.out)|(with_reducible first|apply Kd.C_alloc|apply Kd.C_drewN|apply Kd.C_drew)));(case side2=>exact HC0_3.out);(case side3=>repeat (first|exact (Kd.C_below HR1_3.out HB.out)|(with_reducible first|apply Kd.C_alloc|apply Kd.C_drewN|apply Kd.C_drew)));(case side4=>exact HC1_3.out);rintro e w27 ⟨rfl,hb⟩;have n0_:=qqm (blk_below (g:=gb296) (o:=.cells #[.int .u16 a0_0,.int .u16 a0_1,.slice A0_2 l0_2.length c0_2,.slice A0_3 l0_3.length c0_3,.slice A0_4 l0_4.length c0_4,.slice A0_5 l0_5.length c0_5] 26 (0,0)) (by (with_reducible repeat first|apply qqa|apply qqb|apply qqc);exact BK296.out) hb);have n1_:=qqm (blk_below (g:=gb297) (o:=.cells #[.int .u16 a1_0,.int .u16 a1_1,.slice A1_2 l1_2.length c1_2,.slice A1_3 l1_3.length c1_3,.slice A1_4 l1_4.length c1_4,.slice A1_5 l1_5.length c1_5] 26 (0,0)) (by (with_reducible repeat first|apply qqa|apply qqb|apply qqc);exact BK297.out) hb);have n2_:=qqm (below_step (by with_reducible repeat first|exact HB.out|apply qqf|apply qqd|apply qqe|refine qqg ?_ GE296.out|refine qqg ?_ GE297.out) hb);clear BK296 BK297 HB;have BK296:=n0_;have BK297:=n1_;have HB:=n2_;clear n0_ n1_ n2_;(try clear hb);(try clear hb2);(try clear hk);(try clear hi);obtain ⟨hcz28_0,hcz28_1,hcz28_2,hcz28_3,hcz28_4,hcz28_5⟩:=qc6 BK296.out;obtain ⟨hfz28_0,hfz28_1,hfz28_2,hfz28_3,hfz28_4,hfz28_5⟩:=qf6 BK296.out;obtain ⟨hcz29_0,hcz29_1,hcz29_2,hcz29_3,hcz29_4,hcz29_5⟩:=qc6 BK297.out;obtain ⟨hfz29_0,hfz29_1,hfz29_2,hfz29_3,hfz29_4,hfz29_5⟩:=qf6 BK297.out)|(go_at_call 39;(with_reducible refine (nuncioref06_records.calls k _ _ l0_4 _ _ l1_4 false _ ?side1 ?side2 ?side3 ?side4 A11.out).mono ?_);(case side1=>repeat (first|exact (Kd.C_below HR0_4.out HB.out)|(with_reducible first|apply Kd.C_alloc|apply Kd.C_drewN|apply Kd.C_drew)));(case side2=>exact HC0_4.out);(case side3=>repeat (first|exact (Kd.C_below HR1_4.out HB.out)|(with_reducible first|apply Kd.C_alloc|apply Kd.C_drewN|apply Kd.C_drew)));(case side4=>exact HC1_4.out);rintro e w30 ⟨rfl,hb⟩;have n0_:=qqm (blk_below (g:=gb296) (o:=.cells #[.int .u16 a0_0,.int .u16 a0_1,.slice A0_2 l0_2.length c0_2,.slice A0_3 l0_3.length c0_3,.slice A0_4 l0_4.length c0_4,.slice A0_5 l0_5.length c0_5] 26 (0,0)) (by (with_reducible repeat first|apply qqa|apply qqb|apply qqc);exact BK296.out) hb);have n1_:=qqm (blk_below (g:=gb297) (o:=.cells #[.int .u16 a1_0,.int .u16 a1_1,.slice A1_2 l1_2.length c1_2,.slice A1_3 l1_3.length c1_3,.slice A1_4 l1_4.length c1_4,.slice A1_5 l1_5.length c1_5] 26 (0,0)) (by (with_reducible repeat first|apply qqa|apply qqb|apply qqc);exact BK297.out) hb);have n2_:=qqm (below_step (by with_reducible repeat first|exact HB.out|apply qqf|apply qqd|apply qqe|refine qqg ?_ GE296.out|refine qqg ?_ GE297.out) hb);clear BK296 BK297 HB;have BK296:=n0_;have BK297:=n1_;have HB:=n2_;clear n0_ n1_ n2_;(try clear hb);(try clear hb2);(try clear hk);(try clear hi)));try go_wp2_with (first|(go_at_call 39;(with_reducible refine (nuncioref06_records.calls k _ _ l0_3 _ _ l1_3 true _ ?side1 ?side2 ?side3 ?side4 A9.out).mono ?_);(case side1=>repeat (first|exact (Kd.C_below HR0_3.out HB.out)|(with_reducible first|apply Kd.C_alloc|apply Kd.C_drewN|apply Kd.C_drew)));(case side2=>exact HC0_3.out);(case side3=>repeat (first|exact (Kd.C_below HR1_3.out HB.out)|(with_reducible first|apply Kd.C_alloc|apply Kd.C_drewN|apply Kd.C_drew)));(case side4=>exact HC1_3.out);rintro e w27 ⟨rfl,hb⟩;have n0_:=qqm (blk_below (g:=gb296) (o:=.cells #[.int .u16 a0_0,.int .u16 a0_1,.slice A0_2 l0_2.length c0_2,.slice A0_3 l0_3.length c0_3,.slice A0_4 l0_4.length c0_4,.slice A0_5 l0_5.length c0_5] 26 (0,0)) (by (with_reducible repeat first|apply qqa|apply qqb|apply qqc);exact BK296.out) hb);have n1_:=qqm (blk_below (g:=gb297) (o:=.cells #[.int .u16 a1_0,.int .u16 a1_1,.slice A1_2 l1_2.length c1_2,.slice A1_3 l1_3.length c1_3,.slice A1_4 l1_4.length c1_4,.slice A1_5 l1_5.length c1_5] 26 (0,0)) (by (with_reducible repeat first|apply qqa|apply qqb|apply qqc);exact BK297.out) hb);have n2_:=qqm (below_step (by with_reducible repeat first|exact HB.out|apply qqf|apply qqd|apply qqe|refine qqg ?_ GE296.out|refine qqg ?_ GE297.out) hb);clear BK296 BK297 HB;have BK296:=n0_;have BK297:=n1_;have HB:=n2_;clear n0_ n1_ n2_;(try clear hb);(try clear hb2);(try clear hk);(try clear hi);obtain ⟨hcz28_0,hcz28_1,hcz28_2,hcz28_3,hcz28_4,hcz28_5⟩:=qc6 BK296.out;obtain ⟨hfz28_0,hfz28_1,hfz28_2,hfz28_3,hfz28_4,hfz28_5⟩:=qf6 BK296.out;obtain ⟨hcz29_0,hcz29_1,hcz29_2,hcz29_3,hcz29_4,hcz29_5⟩:=qc6 BK297.out;obtain ⟨hfz29_0,hfz29_1,hfz29_2,hfz29_3,hfz29_4,hfz29_5⟩:=qf6 BK297.out)|(go_at_call 39;(with_reducible refine (nuncioref06_records.calls k _ _ l0_4 _ _ l1_4 false _ ?side1 ?side2 ?side3 ?side4 A11.out).mono ?_);(case side1=>repeat (first|exact (Kd.C_below HR0_4.out HB.out)|(with_reducible first|apply Kd.C_alloc|apply Kd.C_drewN|apply Kd.C_drew)));(case side2=>exact HC0_4.out);(case side3=>repeat (first|exact (Kd.C_below HR1_4.out HB.out)|(with_reducible first|apply Kd.C_alloc|apply Kd.C_drewN|apply Kd.C_drew)));(case side4=>exact HC1_4.out);rintro e w30 ⟨rfl,hb⟩;have n0_:=qqm (blk_below (g:=gb296) (o:=.cells #[.int .u16 a0_0,.int .u16 a0_1,.slice A0_2 l0_2.length c0_2,.slice A0_3 l0_3.length c0_3,.slice A0_4 l0_4.length c0_4,.slice A0_5 l0_5.length c0_5] 26 (0,0)) (by (with_reducible repeat first|apply qqa|apply qqb|apply qqc);exact BK296.out) hb);have n1_:=qqm (blk_below (g:=gb297) (o:=.cells #[.int .u16 a1_0,.int .u16 a1_1,.slice A1_2 l1_2.length c1_2,.slice A1_3 l1_3.length c1_3,.slice A1_4 l1_4.length c1_4,.slice A1_5 l1_5.length c1_5] 26 (0,0)) (by (with_reducible repeat first|apply qqa|apply qqb|apply qqc);exact BK297.out) hb);have n2_:=qqm (below_step (by with_reducible repeat first|exact HB.out|apply qqf|apply qqd|apply qqe|refine qqg ?_ GE296.out|refine qqg ?_ GE297.out) hb);clear BK296 BK297 HB;have BK296:=n0_;have BK297:=n1_;have HB:=n2_;clear n0_ n1_ n2_;(try clear hb);(try clear hb2);(try clear hk);(try clear hi))))
       go_meet
       case rel=>exact ⟨_,(true),(by first|rfl|(simp;done)|(simp [*];done)),H',⟨by first|omega|exact Nat.le_refl _⟩,⟨by (with_reducible repeat first|apply qqa|apply qqb|apply qqc);exact BK296.out⟩,⟨by (with_reducible repeat first|apply qqa|apply qqb|apply qqc);exact BK297.out⟩,⟨by with_reducible repeat first|exact HB.out|apply qqf|apply qqd|apply qqe|refine qqg ?_ GE296.out|refine qqg ?_ GE297.out⟩⟩
     ·
      replace c10:=Bool.eq_false_iff.mpr c10
      subst c10
      have H1:(nuncioref06_Same.j0 k true a0_0 a0_1 l0_2 l0_3 l0_4 l0_5 a1_0 a1_1 l1_2 l1_3 l1_4 l1_5) = some r:=by rw [if_neg (show ¬ (false = true) by decide)] at H;exact H
      clear H
      have H:=H1
      clear H1
      have H':=qqm H
      clear H
      have hnb31:=NB296_297.out
      have hnc31:=NB297_296.out
      obtain ⟨hcz32_0,hcz32_1,hcz32_2,hcz32_3,hcz32_4,hcz32_5⟩:=qc6 BK296.out
      obtain ⟨hfz32_0,hfz32_1,hfz32_2,hfz32_3,hfz32_4,hfz32_5⟩:=qf6 BK296.out
      obtain ⟨hcz33_0,hcz33_1,hcz33_2,hcz33_3,hcz33_4,hcz33_5⟩:=qc6 BK297.out
      obtain ⟨hfz33_0,hfz33_1,hfz33_2,hfz33_3,hfz33_4,hfz33_5⟩:=qf6 BK297.out
      go_wp2_with (first|(go_at_call 39;(with_reducible refine (nuncioref06_records.calls k _ _ l0_3 _ _ l1_3 false _ ?side1 ?side2 ?side3 ?side4 A9.out).mono ?_);(case side1=>repeat (first|exact (Kd.C_below HR0_3.out HB.out)|(with_reducible first|apply Kd.C_alloc|apply Kd.C_drewN|apply Kd.C_drew)));(case side2=>exact HC0_3.out);(case side3=>repeat (first|exact (Kd.C_below HR1_3.out HB.out)|(with_reducible first|apply Kd.C_alloc|apply Kd.C_drewN|apply Kd.C_drew)));(case side4=>exact HC1_3.out);rintro e w34 ⟨rfl,hb⟩;have n0_:=qqm (blk_below (g:=gb296) (o:=.cells #[.int .u16 a0_0,.int .u16 a0_1,.slice A0_2 l0_2.length c0_2,.slice A0_3 l0_3.length c0_3,.slice A0_4 l0_4.length c0_4,.slice A0_5 l0_5.length c0_5] 26 (0,0)) (by (with_reducible repeat first|apply qqa|apply qqb|apply qqc);exact BK296.out) hb);have n1_:=qqm (blk_below (g:=gb297) (o:=.cells #[.int .u16 a1_0,.int .u16 a1_1,.slice A1_2 l1_2.length c1_2,.slice A1_3 l1_3.length c1_3,.slice A1_4 l1_4.length c1_4,.slice A1_5 l1_5.length c1_5] 26 (0,0)) (by (with_reducible repeat first|apply qqa|apply qqb|apply qqc);exact BK297.out) hb);have n2_:=qqm (below_step (by with_reducible repeat first|exact HB.out|apply qqf|apply qqd|apply qqe|refine qqg ?_ GE296.out|refine qqg ?_ GE297.out) hb);clear BK296 BK297 HB;have BK296:=n0_;have BK297:=n1_;have HB:=n2_;clear n0_ n1_ n2_;(try clear hb);(try clear hb2);(try clear hk);(try clear hi)))
      repeat (go_quiet (first|(go_at_call 39;(with_reducible refine (nuncioref06_records.calls k _ _ l0_3 _ _ l1_3 false _ ?side1 ?side2 ?side3 ?side4 A9.out).mono ?_);(case side1=>repeat (first|exact (Kd.C_below HR0_3.out HB.out)|(with_reducible first|apply Kd.C_alloc|apply Kd.C_drewN|apply Kd.C_drew)));(case side2=>exact HC0_3.out);(case side3=>repeat (first|exact (Kd.C_below HR1_3.out HB.out)|(with_reducible first|apply Kd.C_alloc|apply Kd.C_drewN|apply Kd.C_drew)));(case side4=>exact HC1_3.out);rintro e w34 ⟨rfl,hb⟩;have n0_:=qqm (blk_below (g:=gb296) (o:=.cells #[.int .u16 a0_0,.int .u16 a0_1,.slice A0_2 l0_2.length c0_2,.slice A0_3 l0_3.length c0_3,.slice A0_4 l0_4.length c0_4,.slice A0_5 l0_5.length c0_5] 26 (0,0)) (by (with_reducible repeat first|apply qqa|apply qqb|apply qqc);exact BK296.out) hb);have n1_:=qqm (blk_below (g:=gb297) (o:=.cells #[.int .u16 a1_0,.int .u16 a1_1,.slice A1_2 l1_2.length c1_2,.slice A1_3 l1_3.length c1_3,.slice A1_4 l1_4.length c1_4,.slice A1_5 l1_5.length c1_5] 26 (0,0)) (by (with_reducible repeat first|apply qqa|apply qqb|apply qqc);exact BK297.out) hb);have n2_:=qqm (below_step (by with_reducible repeat first|exact HB.out|apply qqf|apply qqd|apply qqe|refine qqg ?_ GE296.out|refine qqg ?_ GE297.out) hb);clear BK296 BK297 HB;have BK296:=n0_;have BK297:=n1_;have HB:=n2_;clear n0_ n1_ n2_;(try clear hb);(try clear hb2);(try clear hk);(try clear hi)));try go_wp2_with (first|(go_at_call 39;(with_reducible refine (nuncioref06_records.calls k _ _ l0_3 _ _ l1_3 false _ ?side1 ?side2 ?side3 ?side4 A9.out).mono ?_);(case side1=>repeat (first|exact (Kd.C_below HR0_3.out HB.out)|(with_reducible first|apply Kd.C_alloc|apply Kd.C_drewN|apply Kd.C_drew)));(case side2=>exact HC0_3.out);(case side3=>repeat (first|exact (Kd.C_below HR1_3.out HB.out)|(with_reducible first|apply Kd.C_alloc|apply Kd.C_drewN|apply Kd.C_drew)));(case side4=>exact HC1_3.out);rintro e w34 ⟨rfl,hb⟩;have n0_:=qqm (blk_below (g:=gb296) (o:=.cells #[.int .u16 a0_0,.int .u16 a0_1,.slice A0_2 l0_2.length c0_2,.slice A0_3 l0_3.length c0_3,.slice A0_4 l0_4.length c0_4,.slice A0_5 l0_5.length c0_5] 26 (0,0)) (by (with_reducible repeat first|apply qqa|apply qqb|apply qqc);exact BK296.out) hb);have n1_:=qqm (blk_below (g:=gb297) (o:=.cells #[.int .u16 a1_0,.int .u16 a1_1,.slice A1_2 l1_2.length c1_2,.slice A1_3 l1_3.length c1_3,.slice A1_4 l1_4.length c1_4,.slice A1_5 l1_5.length c1_5] 26 (0,0)) (by (with_reducible repeat first|apply qqa|apply qqb|apply qqc);exact BK297.out) hb);have n2_:=qqm (below_step (by with_reducible repeat first|exact HB.out|apply qqf|apply qqd|apply qqe|refine qqg ?_ GE296.out|refine qqg ?_ GE297.out) hb);clear BK296 BK297 HB;have BK296:=n0_;have BK297:=n1_;have HB:=n2_;clear n0_ n1_ n2_;(try clear hb);(try clear hb2);(try clear hk);(try clear hi))))
      go_meet
      case rel=>exact ⟨_,(true),(by first|rfl|(simp;done)|(simp [*];done)),H',⟨by first|omega|exact Nat.le_refl _⟩,⟨by (with_reducible repeat first|apply qqa|apply qqb|apply qqc);exact BK296.out⟩,⟨by (with_reducible repeat first|apply qqa|apply qqb|apply qqc);exact BK297.out⟩,⟨by with_reducible repeat first|exact HB.out|apply qqf|apply qqd|apply qqe|refine qqg ?_ GE296.out|refine qqg ?_ GE297.out⟩⟩
    ·
     rw [if_neg c8] at H
     have c8b0:((l0_2.length:Int) == (l1_2.length:Int)) = false:=beq_eq_false_iff_ne.mpr c8
     have c8b1:((l0_2.length:Int) != (l1_2.length:Int)) = true:=bne_iff_ne.mpr c8
     have c8b2:(l0_2.length == l1_2.length) = false:=by first|simpa using c8|(simp at c8 ⊢;omega)
     have H':=qqm H
     clear H
     have hnb35:=NB296_297.out
     have hnc35:=NB297_296.out
     obtain ⟨hcz36_0,hcz36_1,hcz36_2,hcz36_3,hcz36_4,hcz36_5⟩:=qc6 BK296.out
     obtain ⟨hfz36_0,hfz36_1,hfz36_2,hfz36_3,hfz36_4,hfz36_5⟩:=qf6 BK296.out
     obtain ⟨hcz37_0,hcz37_1,hcz37_2,hcz37_3,hcz37_4,hcz37_5⟩:=qc6 BK297.out
     obtain ⟨hfz37_0,hfz37_1,hfz37_2,hfz37_3,hfz37_4,hfz37_5⟩:=qf6 BK297.out
     go_wp2
     repeat (go_quiet (fail);try go_wp2)
     go_meet
     case rel=>exact ⟨_,(true),(by first|rfl|(simp;done)|(simp [*];done)),H',⟨by first|omega|exact Nat.le_refl _⟩,⟨by (with_reducible repeat first|apply qqa|apply qqb|apply qqc);exact BK296.out⟩,⟨by (with_reducible repeat first|apply qqa|apply qqb|apply qqc);exact BK297.out⟩,⟨by with_reducible repeat first|exact HB.out|apply qqf|apply qqd|apply qqe|refine qqg ?_ GE296.out|refine qqg ?_ GE297.out⟩⟩
   ·
    rw [if_neg c7] at H
    have c7b0:(a0_1 == a1_1) = false:=beq_eq_false_iff_ne.mpr c7
    have c7b1:(a0_1 != a1_1) = true:=bne_iff_ne.mpr c7
    have H':=qqm H
    clear H
    have hnb38:=NB296_297.out
    have hnc38:=NB297_296.out
    obtain ⟨hcz39_0,hcz39_1,hcz39_2,hcz39_3,hcz39_4,hcz39_5⟩:=qc6 BK296.out
    obtain ⟨hfz39_0,hfz39_1,hfz39_2,hfz39_3,hfz39_4,hfz39_5⟩:=qf6 BK296.out
    obtain ⟨hcz40_0,hcz40_1,hcz40_2,hcz40_3,hcz40_4,hcz40_5⟩:=qc6 BK297.out
    obtain ⟨hfz40_0,hfz40_1,hfz40_2,hfz40_3,hfz40_4,hfz40_5⟩:=qf6 BK297.out
    go_wp2
    repeat (go_quiet (fail);try go_wp2)
    go_meet
    case rel=>exact ⟨_,(true),(by first|rfl|(simp;done)|(simp [*];done)),H',⟨by first|omega|exact Nat.le_refl _⟩,⟨by (with_reducible repeat first|apply qqa|apply qqb|apply qqc);exact BK296.out⟩,⟨by (with_reducible repeat first|apply qqa|apply qqb|apply qqc);exact BK297.out⟩,⟨by with_reducible repeat first|exact HB.out|apply qqf|apply qqd|apply qqe|refine qqg ?_ GE296.out|refine qqg ?_ GE297.out⟩⟩
  ·
   rw [if_neg c6] at H
   have c6b0:(a0_0 == a1_0) = false:=beq_eq_false_iff_ne.mpr c6
   have c6b1:(a0_0 != a1_0) = true:=bne_iff_ne.mpr c6
   (first|rw [c6b0]|rw [c6b1]|(simp only [i64_w,i32_w];rw [c6b0])|skip)
   have H':=qqm H
   clear H
   have hnb41:=NB296_297.out
   have hnc41:=NB297_296.out
   obtain ⟨hcz42_0,hcz42_1,hcz42_2,hcz42_3,hcz42_4,hcz42_5⟩:=qc6 BK296.out
   obtain ⟨hfz42_0,hfz42_1,hfz42_2,hfz42_3,hfz42_4,hfz42_5⟩:=qf6 BK296.out
   obtain ⟨hcz43_0,hcz43_1,hcz43_2,hcz43_3,hcz43_4,hcz43_5⟩:=qc6 BK297.out
   obtain ⟨hfz43_0,hfz43_1,hfz43_2,hfz43_3,hfz43_4,hfz43_5⟩:=qf6 BK297.out
   go_wp2
   repeat (go_quiet (fail);try go_wp2)
   go_meet
   case rel=>exact ⟨_,(true),(by first|rfl|(simp;done)|(simp [*];done)),H',⟨by first|omega|exact Nat.le_refl _⟩,⟨by (with_reducible repeat first|apply qqa|apply qqb|apply qqc);exact BK296.out⟩,⟨by (with_reducible repeat first|apply qqa|apply qqb|apply qqc);exact BK297.out⟩,⟨by with_reducible repeat first|exact HB.out|apply qqf|apply qqd|apply qqe|refine qqg ?_ GE296.out|refine qqg ?_ GE297.out⟩⟩
 case rest =>
  clear HC3
  try clear c1
  try clear c2
  try clear p2
  try clear c3
  try clear c4
  try clear c6
  try clear c6b0
  try clear c6b1
  try clear c7
  try clear c7b0
  try clear c7b1
  try clear c8
  try clear c8b0
  try clear c8b1
  try clear c8b2
  try clear c10
  try clear c12
  try clear c13
  try clear c14
  try clear c24
  try clear c31
  try clear c35
  try clear c38
  try clear c41
  try clear hcz15_0 hcz15_1 hcz15_2 hcz15_3 hcz15_4 hcz15_5
  try clear hcz16_0 hcz16_1 hcz16_2 hcz16_3 hcz16_4 hcz16_5
  try clear hcz18_0 hcz18_1 hcz18_2 hcz18_3 hcz18_4 hcz18_5
  try clear hcz19_0 hcz19_1 hcz19_2 hcz19_3 hcz19_4 hcz19_5
  try clear hcz21_0 hcz21_1 hcz21_2 hcz21_3 hcz21_4 hcz21_5
  try clear hcz22_0 hcz22_1 hcz22_2 hcz22_3 hcz22_4 hcz22_5
  try clear hcz25_0 hcz25_1 hcz25_2 hcz25_3 hcz25_4 hcz25_5
  try clear hcz26_0 hcz26_1 hcz26_2 hcz26_3 hcz26_4 hcz26_5
  try clear hcz28_0 hcz28_1 hcz28_2 hcz28_3 hcz28_4 hcz28_5
  try clear hcz29_0 hcz29_1 hcz29_2 hcz29_3 hcz29_4 hcz29_5
  try clear hcz32_0 hcz32_1 hcz32_2 hcz32_3 hcz32_4 hcz32_5
  try clear hcz33_0 hcz33_1 hcz33_2 hcz33_3 hcz33_4 hcz33_5
  try clear hcz36_0 hcz36_1 hcz36_2 hcz36_3 hcz36_4 hcz36_5
  try clear hcz37_0 hcz37_1 hcz37_2 hcz37_3 hcz37_4 hcz37_5
  try clear hcz39_0 hcz39_1 hcz39_2 hcz39_3 hcz39_4 hcz39_5
  try clear hcz40_0 hcz40_1 hcz40_2 hcz40_3 hcz40_4 hcz40_5
  try clear hcz42_0 hcz42_1 hcz42_2 hcz42_3 hcz42_4 hcz42_5
  try clear hcz43_0 hcz43_1 hcz43_2 hcz43_3 hcz43_4 hcz43_5
  try clear hfz15_0 hfz15_1 hfz15_2 hfz15_3 hfz15_4 hfz15_5
  try clear hfz16_0 hfz16_1 hfz16_2 hfz16_3 hfz16_4 hfz16_5
  try clear hfz18_0 hfz18_1 hfz18_2 hfz18_3 hfz18_4 hfz18_5
  try clear hfz19_0 hfz19_1 hfz19_2 hfz19_3 hfz19_4 hfz19_5
  try clear hfz21_0 hfz21_1 hfz21_2 hfz21_3 hfz21_4 hfz21_5
  try clear hfz22_0 hfz22_1 hfz22_2 hfz22_3 hfz22_4 hfz22_5
  try clear hfz25_0 hfz25_1 hfz25_2 hfz25_3 hfz25_4 hfz25_5
  try clear hfz26_0 hfz26_1 hfz26_2 hfz26_3 hfz26_4 hfz26_5
  try clear hfz28_0 hfz28_1 hfz28_2 hfz28_3 hfz28_4 hfz28_5
  try clear hfz29_0 hfz29_1 hfz29_2 hfz29_3 hfz29_4 hfz29_5
  try clear hfz32_0 hfz32_1 hfz32_2 hfz32_3 hfz32_4 hfz32_5
  try clear hfz33_0 hfz33_1 hfz33_2 hfz33_3 hfz33_4 hfz33_5
  try clear hfz36_0 hfz36_1 hfz36_2 hfz36_3 hfz36_4 hfz36_5
  try clear hfz37_0 hfz37_1 hfz37_2 hfz37_3 hfz37_4 hfz37_5
  try clear hfz39_0 hfz39_1 hfz39_2 hfz39_3 hfz39_4 hfz39_5
  try clear hfz40_0 hfz40_1 hfz40_2 hfz40_3 hfz40_4 hfz40_5
  try clear hfz42_0 hfz42_1 hfz42_2 hfz42_3 hfz42_4 hfz42_5
  try clear hfz43_0 hfz43_1 hfz43_2 hfz43_3 hfz43_4 hfz43_5
  obtain ⟨kq,x50_2,rfl,HA,HJ2,BK296,BK297,HB⟩:=hcut
  cases kq with
  | zero => exact absurd HA.out (by simp [nuncioref06_Same.j0])
  | succ kj2 =>
   have H:=HA.out
   clear HA
   simp only [nuncioref06_Same.j0] at H
   by_cases c44:x50_2 = true
   ·
    subst c44
    have H1:(some false) = some r:=by rw [if_pos rfl] at H;exact H
    clear H
    have H:=H1
    clear H1
    obtain rfl:=Option.some.inj H
    go_wp2
    repeat (go_quiet (fail);try go_wp2)
    go_ret
    exact ⟨by first|rfl|(simp [errW_none,errW_some] <;> rfl)|(simp [*,errW_none,errW_some] <;> rfl),by with_reducible repeat first|exact HB.out|apply qqf|apply qqd|apply qqe|refine qqg ?_ GE296.out|refine qqg ?_ GE297.out⟩
   ·
    replace c44:=Bool.eq_false_iff.mpr c44
    subst c44
    have H1:(nuncioref06_Same.l0 kj2 0 a0_0 a0_1 l0_2 l0_3 l0_4 l0_5 a1_0 a1_1 l1_2 l1_3 l1_4 l1_5) = some r:=by rw [if_neg (show ¬ (false = true) by decide)] at H;exact H
    clear H
    have H:=H1
    clear H1
    have H':=qqm H
    clear H
    go_wp2
    repeat (go_quiet (fail);try go_wp2)
    go_loopg [5] kj2 (fun kq v5 w'=>∃ (x5_2:Int),v5 = .int .i64 x5_2∧Aside0 (nuncioref06_Same.l0 kq x5_2 a0_0 a0_1 l0_2 l0_3 l0_4 l0_5 a1_0 a1_1 l1_2 l1_3 l1_4 l1_5 = some r)∧Aside0 (kq ≤ kj2)∧Aside0 (w'.heap[gb296]? = some (.cells #[.int .u16 a0_0,.int .u16 a0_1,(.slice A0_2 l0_2.length c0_2),(.slice A0_3 l0_3.length c0_3),(.slice A0_4 l0_4.length c0_4),(.slice A0_5 l0_5.length c0_5)] 26 (0,0)))∧Aside0 (w'.heap[gb297]? = some (.cells #[.int .u16 a1_0,.int .u16 a1_1,(.slice A1_2 l1_2.length c1_2),(.slice A1_3 l1_3.length c1_3),(.slice A1_4 l1_4.length c1_4),(.slice A1_5 l1_5.length c1_5)] 26 (0,0)))∧Aside0 (Below w.heap.size w w'))
    case atStart=>exact ⟨(0),(by first|rfl|(simp;done)|(simp [*];done)),H',⟨Nat.le_refl _⟩,⟨by (with_reducible repeat first|apply qqa|apply qqb|apply qqc);exact BK296.out⟩,⟨by (with_reducible repeat first|apply qqa|apply qqb|apply qqc);exact BK297.out⟩,⟨by with_reducible repeat first|exact HB.out|apply qqf|apply qqd|apply qqe|refine qqg ?_ GE296.out|refine qqg ?_ GE297.out⟩⟩
    case round =>
     clear H'
     try clear c1
     try clear c2
     try clear p2
     try clear c3
     try clear c4
     try clear c6
     try clear c6b0
     try clear c6b1
     try clear c7
     try clear c7b0
     try clear c7b1
     try clear c8
     try clear c8b0
     try clear c8b1
     try clear c8b2
     try clear c10
     try clear c12
     try clear c13
     try clear c14
     try clear c24
     try clear c31
     try clear c35
     try clear c38
     try clear c41
     try clear c44
     try clear hcz15_0 hcz15_1 hcz15_2 hcz15_3 hcz15_4 hcz15_5
     try clear hcz16_0 hcz16_1 hcz16_2 hcz16_3 hcz16_4 hcz16_5
     try clear hcz18_0 hcz18_1 hcz18_2 hcz18_3 hcz18_4 hcz18_5
     try clear hcz19_0 hcz19_1 hcz19_2 hcz19_3 hcz19_4 hcz19_5
     try clear hcz21_0 hcz21_1 hcz21_2 hcz21_3 hcz21_4 hcz21_5
     try clear hcz22_0 hcz22_1 hcz22_2 hcz22_3 hcz22_4 hcz22_5
     try clear hcz25_0 hcz25_1 hcz25_2 hcz25_3 hcz25_4 hcz25_5
     try clear hcz26_0 hcz26_1 hcz26_2 hcz26_3 hcz26_4 hcz26_5
     try clear hcz28_0 hcz28_1 hcz28_2 hcz28_3 hcz28_4 hcz28_5
     try clear hcz29_0 hcz29_1 hcz29_2 hcz29_3 hcz29_4 hcz29_5
     try clear hcz32_0 hcz32_1 hcz32_2 hcz32_3 hcz32_4 hcz32_5
     try clear hcz33_0 hcz33_1 hcz33_2 hcz33_3 hcz33_4 hcz33_5
     try clear hcz36_0 hcz36_1 hcz36_2 hcz36_3 hcz36_4 hcz36_5
     try clear hcz37_0 hcz37_1 hcz37_2 hcz37_3 hcz37_4 hcz37_5
     try clear hcz39_0 hcz39_1 hcz39_2 hcz39_3 hcz39_4 hcz39_5
     try clear hcz40_0 hcz40_1 hcz40_2 hcz40_3 hcz40_4 hcz40_5
     try clear hcz42_0 hcz42_1 hcz42_2 hcz42_3 hcz42_4 hcz42_5
     try clear hcz43_0 hcz43_1 hcz43_2 hcz43_3 hcz43_4 hcz43_5
     try clear hfz15_0 hfz15_1 hfz15_2 hfz15_3 hfz15_4 hfz15_5
     try clear hfz16_0 hfz16_1 hfz16_2 hfz16_3 hfz16_4 hfz16_5
     try clear hfz18_0 hfz18_1 hfz18_2 hfz18_3 hfz18_4 hfz18_5
     try clear hfz19_0 hfz19_1 hfz19_2 hfz19_3 hfz19_4 hfz19_5
     try clear hfz21_0 hfz21_1 hfz21_2 hfz21_3 hfz21_4 hfz21_5
     try clear hfz22_0 hfz22_1 hfz22_2 hfz22_3 hfz22_4 hfz22_5
     try clear hfz25_0 hfz25_1 hfz25_2 hfz25_3 hfz25_4 hfz25_5
     try clear hfz26_0 hfz26_1 hfz26_2 hfz26_3 hfz26_4 hfz26_5
     try clear hfz28_0 hfz28_1 hfz28_2 hfz28_3 hfz28_4 hfz28_5
     try clear hfz29_0 hfz29_1 hfz29_2 hfz29_3 hfz29_4 hfz29_5
     try clear hfz32_0 hfz32_1 hfz32_2 hfz32_3 hfz32_4 hfz32_5
     try clear hfz33_0 hfz33_1 hfz33_2 hfz33_3 hfz33_4 hfz33_5
     try clear hfz36_0 hfz36_1 hfz36_2 hfz36_3 hfz36_4 hfz36_5
     try clear hfz37_0 hfz37_1 hfz37_2 hfz37_3 hfz37_4 hfz37_5
     try clear hfz39_0 hfz39_1 hfz39_2 hfz39_3 hfz39_4 hfz39_5
     try clear hfz40_0 hfz40_1 hfz40_2 hfz40_3 hfz40_4 hfz40_5
     try clear hfz42_0 hfz42_1 hfz42_2 hfz42_3 hfz42_4 hfz42_5
     try clear hfz43_0 hfz43_1 hfz43_2 hfz43_3 hfz43_4 hfz43_5
     try clear p2
     obtain ⟨x5_2,rfl,HA,HK2,BK296,BK297,HB⟩:=hrel
     cases gk with
     | zero => exact absurd HA.out (by simp [nuncioref06_Same.l0])
     | succ k2 =>
      have H:=HA.out
      clear HA
      simp only [nuncioref06_Same.l0] at H
      by_cases c45:x5_2 < (l0_2.length:Int)
      ·
       rw [if_pos c45] at H
       have c45b0:decide (x5_2 < (l0_2.length:Int)) = true:=decide_eq_true c45
       clear c45
       by_cases c46:0 ≤ x5_2
       ·
        rw [if_pos c46] at H
        have c46b0:decide (0 ≤ x5_2) = true:=decide_eq_true c46
        clear c46
        by_cases c47:x5_2 < (l1_2.length:Int)
        ·
         rw [if_pos c47] at H
         have c47b0:decide (x5_2 < (l1_2.length:Int)) = true:=decide_eq_true c47
         clear c47
         by_cases c48:(!((((rd_T53 l0_2 x5_2).f0).toList) == (((rd_T53 l1_2 x5_2).f0).toList)) || (!(((rd_T53 l0_2 x5_2).f1) == ((rd_T53 l1_2 x5_2).f1)) || (!(((rd_T53 l0_2 x5_2).f2) == ((rd_T53 l1_2 x5_2).f2))))) = true
         ·
          rw [if_pos c48] at H
          have c48b0:(!((((rd_T53 l0_2 x5_2).f0).toList) == (((rd_T53 l1_2 x5_2).f0).toList)) || (!(((rd_T53 l0_2 x5_2).f1) == ((rd_T53 l1_2 x5_2).f1)) || (!(((rd_T53 l0_2 x5_2).f2) == ((rd_T53 l1_2 x5_2).f2))))) = true:=c48
          clear c48
          (try (have c48b9:=c48b0;simp only [beq_true,beq_false] at c48b9))
          obtain rfl:=Option.some.inj H
          have hnb49:=NB296_297.out
          have hnc49:=NB297_296.out
          obtain ⟨hcz50_0,hcz50_1,hcz50_2,hcz50_3,hcz50_4,hcz50_5⟩:=qc6 BK296.out
          obtain ⟨hfz50_0,hfz50_1,hfz50_2,hfz50_3,hfz50_4,hfz50_5⟩:=qf6 BK296.out
          have p301:0 ≤ (x5_2:Int):=of_decide_eq_true (by first|(with_reducible assumption)|assumption)
          have q301:x5_2 < (l0_2.length:Int):=of_decide_eq_true (by first|(with_reducible assumption)|assumption)
          obtain ⟨ad301,e301,hx301_0,hx301_1,hx301_2⟩:=at_T53 HR0_2.out x5_2 p301 q301
          cases e301
          replace hx301_0:=qqo HB.out hx301_0
          replace hx301_1:=qqo HB.out hx301_1
          replace hx301_2:=qqo HB.out hx301_2
          replace p301:=eq_true p301
          replace q301:=eq_true q301
          obtain ⟨hcz51_0,hcz51_1,hcz51_2,hcz51_3,hcz51_4,hcz51_5⟩:=qc6 BK297.out
          obtain ⟨hfz51_0,hfz51_1,hfz51_2,hfz51_3,hfz51_4,hfz51_5⟩:=qf6 BK297.out
          have p302:0 ≤ (x5_2:Int):=of_decide_eq_true (by first|(with_reducible assumption)|assumption)
          have q302:x5_2 < (l1_2.length:Int):=of_decide_eq_true (by first|(with_reducible assumption)|assumption)
          obtain ⟨ad302,e302,hx302_0,hx302_1,hx302_2⟩:=at_T53 HR1_2.out x5_2 p302 q302
          cases e302
          replace hx302_0:=qqo HB.out hx302_0
          replace hx302_1:=qqo HB.out hx302_1
          replace hx302_2:=qqo HB.out hx302_2
          replace p302:=eq_true p302
          replace q302:=eq_true q302
          go_wp2
          repeat (go_quiet (fail);try go_wp2)
          go_ret
          exact ⟨by first|rfl|(simp [errW_none,errW_some] <;> rfl)|(simp [*,errW_none,errW_some] <;> rfl),by with_reducible repeat first|exact HB.out|apply qqf|apply qqd|apply qqe|refine qqg ?_ GE296.out|refine qqg ?_ GE297.out⟩
         ·
          rw [if_neg c48] at H
          have c48b0:(!((((rd_T53 l0_2 x5_2).f0).toList) == (((rd_T53 l1_2 x5_2).f0).toList)) || (!(((rd_T53 l0_2 x5_2).f1) == ((rd_T53 l1_2 x5_2).f1)) || (!(((rd_T53 l0_2 x5_2).f2) == ((rd_T53 l1_2 x5_2).f2))))) = false:=by simpa using c48
          clear c48
          (try (have c48b9:=c48b0;simp only [beq_true,beq_false] at c48b9))
          have H':=qqm H
          clear H
          have hnb52:=NB296_297.out
          have hnc52:=NB297_296.out
          obtain ⟨hcz53_0,hcz53_1,hcz53_2,hcz53_3,hcz53_4,hcz53_5⟩:=qc6 BK296.out
          obtain ⟨hfz53_0,hfz53_1,hfz53_2,hfz53_3,hfz53_4,hfz53_5⟩:=qf6 BK296.out
          have p301:0 ≤ (x5_2:Int):=of_decide_eq_true (by first|(with_reducible assumption)|assumption)
          have q301:x5_2 < (l0_2.length:Int):=of_decide_eq_true (by first|(with_reducible assumption)|assumption)
          obtain ⟨ad301,e301,hx301_0,hx301_1,hx301_2⟩:=at_T53 HR0_2.out x5_2 p301 q301
          cases e301
          replace hx301_0:=qqo HB.out hx301_0
          replace hx301_1:=qqo HB.out hx301_1
          replace hx301_2:=qqo HB.out hx301_2
          replace p301:=eq_true p301
          replace q301:=eq_true q301
          obtain ⟨hcz54_0,hcz54_1,hcz54_2,hcz54_3,hcz54_4,hcz54_5⟩:=qc6 BK297.out
          obtain ⟨hfz54_0,hfz54_1,hfz54_2,hfz54_3,hfz54_4,hfz54_5⟩:=qf6 BK297.out
          have p302:0 ≤ (x5_2:Int):=of_decide_eq_true (by first|(with_reducible assumption)|assumption)
          have q302:x5_2 < (l1_2.length:Int):=of_decide_eq_true (by first|(with_reducible assumption)|assumption)
          obtain ⟨ad302,e302,hx302_0,hx302_1,hx302_2⟩:=at_T53 HR1_2.out x5_2 p302 q302
          cases e302
          replace hx302_0:=qqo HB.out hx302_0
          replace hx302_1:=qqo HB.out hx302_1
          replace hx302_2:=qqo HB.out hx302_2
          replace p302:=eq_true p302
          replace q302:=eq_true q302
          go_wp2
          repeat (go_quiet (fail);try go_wp2)
          go_roundg k2
          case measure=>have:=HJ2.out;have:=HK2.out;omega
          case rel=>exact ⟨(wrap64 (x5_2 + 1)),(by first|rfl|(simp;done)|(simp [*];done)),H',⟨by have:=HJ2.out;have:=HK2.out;omega⟩,⟨by (with_reducible repeat first|apply qqa|apply qqb|apply qqc);exact BK296.out⟩,⟨by (with_reducible repeat first|apply qqa|apply qqb|apply qqc);exact BK297.out⟩,⟨by with_reducible repeat first|exact HB.out|apply qqf|apply qqd|apply qqe|refine qqg ?_ GE296.out|refine qqg ?_ GE297.out⟩⟩
        ·
         rw [if_neg c47] at H
         exact absurd H (by simp)
       ·
        rw [if_neg c46] at H
        exact absurd H (by simp)
      ·
       rw [if_neg c45] at H
       have c45b0:decide (x5_2 < (l0_2.length:Int)) = false:=decide_eq_false c45
       clear c45
       obtain rfl:=Option.some.inj H
       have hnb55:=NB296_297.out
       have hnc55:=NB297_296.out
       obtain ⟨hcz56_0,hcz56_1,hcz56_2,hcz56_3,hcz56_4,hcz56_5⟩:=qc6 BK296.out
       obtain ⟨hfz56_0,hfz56_1,hfz56_2,hfz56_3,hfz56_4,hfz56_5⟩:=qf6 BK296.out
       go_wp2
       repeat (go_quiet (fail);try go_wp2)
       go_ret
       exact ⟨by first|rfl|(simp [errW_none,errW_some] <;> rfl)|(simp [*,errW_none,errW_some] <;> rfl),by with_reducible repeat first|exact HB.out|apply qqf|apply qqd|apply qqe|refine qqg ?_ GE296.out|refine qqg ?_ GE297.out⟩

end Go.Proofs.Ythkdfnbhlinhiaa.Mine
