-- Written by this repo's own printer (wip/print), which builds on the kit's.
import Derived.Test.YthkdfnbhlinhiaaMinex0
import Derived.Test.YthkdfnbhlinhiaaMinex2
import Derived.Test.YthkdfnbhlinhiaaMinex27
namespace Go.Proofs.Ythkdfnbhlinhiaa.Mine
open Go.RowKit Go.Proofs.YthkdfnbhlinhiaaW.PrintWords Go.Proofs.YthkdfnbhlinhiaaW.PrintLast Go.Proofs.YthkdfnbhlinhiaaW.PrintMore
attribute [local go_sem] max2_int min2_int max_two min_two max_three min_three max_four min_four   -- for this text's walks alone
set_option linter.unusedVariables false
set_option linter.unusedSimpArgs false

attribute [local go_sem high] eqA53
/-! ### nuncioref06_Same: function 13 -/
mutual
def nuncioref06_Same.j0 : Nat → Bool → Int → Int → List (S53) → List (S51) → List (S51) → List (S51) → Int → Int → List (S53) → List (S51) → List (S51) → List (S51) → Option (Bool)
 | 0, _, _, _, _, _, _, _, _, _, _, _, _, _ => none
 | k + 1, x50, x297000, x297001, x297002, x297003, x297004, x297005, x298000, x298001, x298002, x298003, x298004, x298005 => if x50 = true then (some false) else (nuncioref06_Same.l0 k 0 x297000 x297001 x297002 x297003 x297004 x297005 x298000 x298001 x298002 x298003 x298004 x298005)
def nuncioref06_Same.l0 : Nat → Int → Int → Int → List (S53) → List (S51) → List (S51) → List (S51) → Int → Int → List (S53) → List (S51) → List (S51) → List (S51) → Option (Bool)
 | 0, _, _, _, _, _, _, _, _, _, _, _, _, _ => none
 | k + 1, x5, x297000, x297001, x297002, x297003, x297004, x297005, x298000, x298001, x298002, x298003, x298004, x298005 => if x5 < (x297002.length : Int) then (if 0 ≤ x5 then (if x5 < (x298002.length : Int) then (if (!((((rd_T53 x297002 x5).f0).toList) == (((rd_T53 x298002 x5).f0).toList)) || (!(((rd_T53 x297002 x5).f1) == ((rd_T53 x298002 x5).f1)) || (!(((rd_T53 x297002 x5).f2) == ((rd_T53 x298002 x5).f2))))) = true then (some false) else (nuncioref06_Same.l0 k (wrap64 (x5 + 1)) x297000 x297001 x297002 x297003 x297004 x297005 x298000 x298001 x298002 x298003 x298004 x298005)) else (none)) else (none)) else (some true)
end
def nuncioref06_Same.f (k : Nat) (a0_0 : Int) (a0_1 : Int) (l0_2 : List (S53)) (l0_3 : List (S51)) (l0_4 : List (S51)) (l0_5 : List (S51)) (a1_0 : Int) (a1_1 : Int) (l1_2 : List (S53)) (l1_3 : List (S51)) (l1_4 : List (S51)) (l1_5 : List (S51)) : Option (Bool) := if a0_0 = a1_0 then (if a0_1 = a1_1 then (if (l0_2.length : Int) = (l1_2.length : Int) then ((nuncioref06_records.f k l0_3 l1_3).bind fun t298 => (if t298 = true then ((nuncioref06_records.f k l0_4 l1_4).bind fun t299 => (if t299 = true then ((nuncioref06_records.f k l0_5 l1_5).bind fun t300 => (nuncioref06_Same.j0 k (!t300) a0_0 a0_1 l0_2 l0_3 l0_4 l0_5 a1_0 a1_1 l1_2 l1_3 l1_4 l1_5)) else (nuncioref06_Same.j0 k true a0_0 a0_1 l0_2 l0_3 l0_4 l0_5 a1_0 a1_1 l1_2 l1_3 l1_4 l1_5))) else (nuncioref06_Same.j0 k true a0_0 a0_1 l0_2 l0_3 l0_4 l0_5 a1_0 a1_1 l1_2 l1_3 l1_4 l1_5))) else (nuncioref06_Same.j0 k true a0_0 a0_1 l0_2 l0_3 l0_4 l0_5 a1_0 a1_1 l1_2 l1_3 l1_4 l1_5)) else (nuncioref06_Same.j0 k true a0_0 a0_1 l0_2 l0_3 l0_4 l0_5 a1_0 a1_1 l1_2 l1_3 l1_4 l1_5)) else (nuncioref06_Same.j0 k true a0_0 a0_1 l0_2 l0_3 l0_4 l0_5 a1_0 a1_1 l1_2 l1_3 l1_4 l1_5)
theorem nuncioref06_Same.mono_l : ∀ k, (∀ y0 y1 y2 y3 y4 y5 y6 y7 y8 y9 y10 y11 y12, LeO (nuncioref06_Same.j0 k y0 y1 y2 y3 y4 y5 y6 y7 y8 y9 y10 y11 y12) (nuncioref06_Same.j0 (k + 1) y0 y1 y2 y3 y4 y5 y6 y7 y8 y9 y10 y11 y12)) ∧ (∀ y0 y1 y2 y3 y4 y5 y6 y7 y8 y9 y10 y11 y12, LeO (nuncioref06_Same.l0 k y0 y1 y2 y3 y4 y5 y6 y7 y8 y9 y10 y11 y12) (nuncioref06_Same.l0 (k + 1) y0 y1 y2 y3 y4 y5 y6 y7 y8 y9 y10 y11 y12))
 | 0 => ⟨fun _ _ _ _ _ _ _ _ _ _ _ _ _ r h => by simp [nuncioref06_Same.j0] at h, fun _ _ _ _ _ _ _ _ _ _ _ _ _ r h => by simp [nuncioref06_Same.l0] at h⟩
 | k + 1 => by
  obtain ⟨ih0,ih1⟩:=nuncioref06_Same.mono_l k
  refine ⟨?_,?_⟩
  ·
   intro y0 y1 y2 y3 y4 y5 y6 y7 y8 y9 y10 y11 y12
   unfold nuncioref06_Same.j0
   repeat' first
   | (with_reducible exact ih0 _ _ _ _ _ _ _ _ _ _ _ _ _)
   | (with_reducible exact ih1 _ _ _ _ _ _ _ _ _ _ _ _ _)
   | (with_reducible exact nuncioref06_records.mono _ _ _)
   | (with_reducible exact LeO.refl _)
   | (with_reducible exact LeO.none _)
   | (with_reducible refine LeO.ite ?_ ?_)
   | (with_reducible refine LeO.bind ?_ (fun _ => ?_))
   | exact ih0 _ _ _ _ _ _ _ _ _ _ _ _ _
   | exact ih1 _ _ _ _ _ _ _ _ _ _ _ _ _
   | exact nuncioref06_records.mono _ _ _
   | exact LeO.none _
   | refine LeO.ite ?_ ?_
   | refine LeO.bind ?_ (fun _ => ?_)
  ·
   intro y0 y1 y2 y3 y4 y5 y6 y7 y8 y9 y10 y11 y12
   unfold nuncioref06_Same.l0
   repeat' first
   | (with_reducible exact ih0 _ _ _ _ _ _ _ _ _ _ _ _ _)
   | (with_reducible exact ih1 _ _ _ _ _ _ _ _ _ _ _ _ _)
   | (with_reducible exact nuncioref06_records.mono _ _ _)
   | (with_reducible exact LeO.refl _)
   | (with_reducible exact LeO.none _)
   | (with_reducible refine LeO.ite ?_ ?_)
   | (with_reducible refine LeO.bind ?_ (fun _ => ?_))
   | exact ih0 _ _ _ _ _ _ _ _ _ _ _ _ _
   | exact ih1 _ _ _ _ _ _ _ _ _ _ _ _ _
   | exact nuncioref06_records.mono _ _ _
   | exact LeO.none _
   | refine LeO.ite ?_ ?_
   | refine LeO.bind ?_ (fun _ => ?_)
theorem nuncioref06_Same.mono : ∀ a0 a1 a2 a3 a4 a5 a6 a7 a8 a9 a10 a11 k, LeO (nuncioref06_Same.f k a0 a1 a2 a3 a4 a5 a6 a7 a8 a9 a10 a11) (nuncioref06_Same.f (k + 1) a0 a1 a2 a3 a4 a5 a6 a7 a8 a9 a10 a11) := by
 intro a0 a1 a2 a3 a4 a5 a6 a7 a8 a9 a10 a11 k
 obtain ⟨ih0,ih1⟩:=nuncioref06_Same.mono_l k
 unfold nuncioref06_Same.f
 repeat' first
   | (with_reducible exact ih0 _ _ _ _ _ _ _ _ _ _ _ _ _)
   | (with_reducible exact ih1 _ _ _ _ _ _ _ _ _ _ _ _ _)
   | (with_reducible exact nuncioref06_records.mono _ _ _)
   | (with_reducible exact LeO.refl _)
   | (with_reducible exact LeO.none _)
   | (with_reducible refine LeO.ite ?_ ?_)
   | (with_reducible refine LeO.bind ?_ (fun _ => ?_))
   | exact ih0 _ _ _ _ _ _ _ _ _ _ _ _ _
   | exact ih1 _ _ _ _ _ _ _ _ _ _ _ _ _
   | exact nuncioref06_records.mono _ _ _
   | exact LeO.none _
   | refine LeO.ite ?_ ?_
   | refine LeO.bind ?_ (fun _ => ?_)
set_option maxHeartbeats 8000000 in
set_option maxRecDepth 100000 in
theorem nuncioref06_Same.calls (k : Nat) (a0_0 : Int) (a0_1 : Int) (A0_2 : Option Addr) (c0_2 : Nat) (l0_2 : List (S53)) (A0_3 : Option Addr) (c0_3 : Nat) (l0_3 : List (S51)) (A0_4 : Option Addr) (c0_4 : Nat) (l0_4 : List (S51)) (A0_5 : Option Addr) (c0_5 : Nat) (l0_5 : List (S51)) (a1_0 : Int) (a1_1 : Int) (A1_2 : Option Addr) (c1_2 : Nat) (l1_2 : List (S53)) (A1_3 : Option Addr) (c1_3 : Nat) (l1_3 : List (S51)) (A1_4 : Option Addr) (c1_4 : Nat) (l1_4 : List (S51)) (A1_5 : Option Addr) (c1_5 : Nat) (l1_5 : List (S51)) (r : Bool) (w : World) (hr0_2 : Kd.C k53 w A0_2 l0_2.length l0_2) (hc0_2 : l0_2.length ≤ c0_2) (hr0_3 : Kd.C k51 w A0_3 l0_3.length l0_3) (hc0_3 : l0_3.length ≤ c0_3) (hr0_4 : Kd.C k51 w A0_4 l0_4.length l0_4) (hc0_4 : l0_4.length ≤ c0_4) (hr0_5 : Kd.C k51 w A0_5 l0_5.length l0_5) (hc0_5 : l0_5.length ≤ c0_5) (hr1_2 : Kd.C k53 w A1_2 l1_2.length l1_2) (hc1_2 : l1_2.length ≤ c1_2) (hr1_3 : Kd.C k51 w A1_3 l1_3.length l1_3) (hc1_3 : l1_3.length ≤ c1_3) (hr1_4 : Kd.C k51 w A1_4 l1_4.length l1_4) (hc1_4 : l1_4.length ≤ c1_4) (hr1_5 : Kd.C k51 w A1_5 l1_5.length l1_5) (hc1_5 : l1_5.length ≤ c1_5) (h : nuncioref06_Same.f k a0_0 a0_1 l0_2 l0_3 l0_4 l0_5 a1_0 a1_1 l1_2 l1_3 l1_4 l1_5 = some r) :
  Calls Try.prog 13 #[.agg #[.int .u16 a0_0,.int .u16 a0_1,.slice A0_2 l0_2.length c0_2,.slice A0_3 l0_3.length c0_3,.slice A0_4 l0_4.length c0_4,.slice A0_5 l0_5.length c0_5],.agg #[.int .u16 a1_0,.int .u16 a1_1,.slice A1_2 l1_2.length c1_2,.slice A1_3 l1_3.length c1_3,.slice A1_4 l1_4.length c1_4,.slice A1_5 l1_5.length c1_5]] w fun e w' => e = .returned (.bool r)∧Below w.heap.size w w':=by
 have hu26:=Try.underlying26
 have hu53:=Try.underlying53
 have HR0_2:=Aside0.mk hr0_2
 have HC0_2:=Aside0.mk hc0_2
 clear hr0_2 hc0_2
 have HR0_3:=Aside0.mk hr0_3
 have HC0_3:=Aside0.mk hc0_3
 clear hr0_3 hc0_3
 have HR0_4:=Aside0.mk hr0_4
 have HC0_4:=Aside0.mk hc0_4
 clear hr0_4 hc0_4
 have HR0_5:=Aside0.mk hr0_5
 have HC0_5:=Aside0.mk hc0_5
 clear hr0_5 hc0_5
 have HR1_2:=Aside0.mk hr1_2
 have HC1_2:=Aside0.mk hc1_2
 clear hr1_2 hc1_2
 have HR1_3:=Aside0.mk hr1_3
 have HC1_3:=Aside0.mk hc1_3
 clear hr1_3 hc1_3
 have HR1_4:=Aside0.mk hr1_4
 have HC1_4:=Aside0.mk hc1_4
 clear hr1_4 hc1_4
 have HR1_5:=Aside0.mk hr1_5
 have HC1_5:=Aside0.mk hc1_5
 clear hr1_5 hc1_5
 have HB:=Aside0.mk (Below.refl w.heap.size w)
 have H : (if a0_0 = a1_0 then (if a0_1 = a1_1 then (if (l0_2.length : Int) = (l1_2.length : Int) then ((nuncioref06_records.f k l0_3 l1_3).bind fun t298 => (if t298 = true then ((nuncioref06_records.f k l0_4 l1_4).bind fun t299 => (if t299 = true then ((nuncioref06_records.f k l0_5 l1_5).bind fun t300 => (nuncioref06_Same.j0 k (!t300) a0_0 a0_1 l0_2 l0_3 l0_4 l0_5 a1_0 a1_1 l1_2 l1_3 l1_4 l1_5)) else (nuncioref06_Same.j0 k true a0_0 a0_1 l0_2 l0_3 l0_4 l0_5 a1_0 a1_1 l1_2 l1_3 l1_4 l1_5))) else (nuncioref06_Same.j0 k true a0_0 a0_1 l0_2 l0_3 l0_4 l0_5 a1_0 a1_1 l1_2 l1_3 l1_4 l1_5))) else (nuncioref06_Same.j0 k true a0_0 a0_1 l0_2 l0_3 l0_4 l0_5 a1_0 a1_1 l1_2 l1_3 l1_4 l1_5)) else (nuncioref06_Same.j0 k true a0_0 a0_1 l0_2 l0_3 l0_4 l0_5 a1_0 a1_1 l1_2 l1_3 l1_4 l1_5)) else (nuncioref06_Same.j0 k true a0_0 a0_1 l0_2 l0_3 l0_4 l0_5 a1_0 a1_1 l1_2 l1_3 l1_4 l1_5)) = some r:=h
 clear h
 have HC3:=Aside0.mk H
 clear H
 go_enter Try.func13,Try.ntmps13
 go_upto_region 1 with (first|((with_reducible refine gate_dst (N:=2) rfl ?_);(try (refine gate_guard (by rfl) ?_;dsimp only));refine box_event ?hg (N:=2) ?hd (cs:=#[.int .u16 a0_0,.int .u16 a0_1,.slice A0_2 l0_2.length c0_2,.slice A0_3 l0_3.length c0_3,.slice A0_4 l0_4.length c0_4,.slice A0_5 l0_5.length c0_5]) (t:=26) ?hr ?_;(case hd => rfl);(case hg => rfl);(case hr => first|(go_simp;done)|(go_simp;rfl));intro gb296 hg w4 hbox hb;have n0_:=Aside0.mk (below_step (by repeat (first|(with_reducible first|exact HB.out|apply qqf|apply qqd|apply qqe)|exact HB.out)) hb);have n1_:=Aside0.mk (hbox);have n2_:=Aside0.mk ((by rw [hg];exact (below_size (by repeat (first|(with_reducible first|exact HB.out|apply qqf|apply qqd|apply qqe)|exact HB.out))) : w.heap.size ≤ gb296));have n3_:=Aside0.mk ((by rw [hg];exact (below_size (by repeat (first|(with_reducible first|exact HB.out|apply qqf|apply qqd|apply qqe)|exact HB.out))) : w.heap.size ≤ gb296));clear HB;have HB:=n0_;have BK296:=n1_;have GW296:=n2_;have GE296:=n3_;clear n0_ n1_ n2_ n3_;clear hb hbox hg)|((with_reducible refine gate_dst (N:=3) rfl ?_);(try (refine gate_guard (by rfl) ?_;dsimp only));refine box_event ?hg (N:=3) ?hd (cs:=#[.int .u16 a1_0,.int .u16 a1_1,.slice A1_2 l1_2.length c1_2,.slice A1_3 l1_3.length c1_3,.slice A1_4 l1_4.length c1_4,.slice A1_5 l1_5.length c1_5]) (t:=26) ?hr ?_;(case hd => rfl);(case hg => rfl);(case hr => first|(go_simp;done)|(go_simp;rfl));intro gb297 hg w5 hbox hb;have n0_:=Aside0.mk (blk_below (g:=gb296) (o:=.cells #[.int .u16 a0_0,.int .u16 a0_1,.slice A0_2 l0_2.length c0_2,.slice A0_3 l0_3.length c0_3,.slice A0_4 l0_4.length c0_4,.slice A0_5 l0_5.length c0_5] 26 (0,0)) (by (with_reducible repeat first|apply qqa|apply qqb|apply qqc);exact BK296.out) hb);have n1_:=Aside0.mk (below_step (by repeat (first|(with_reducible first|exact HB.out|apply qqf|apply qqd|apply qqe|refine qqg ?_ GE296.out)|exact HB.out)) hb);have n2_:=Aside0.mk (hbox);have n3_:=Aside0.mk ((by rw [hg];exact (below_size (by repeat (first|(with_reducible first|exact HB.out|apply qqf|apply qqd|apply qqe|refine qqg ?_ GE296.out)|exact HB.out))) : w.heap.size ≤ gb297));have n4_:=Aside0.mk ((by rw [hg];exact (below_size (by repeat (first|(with_reducible first|exact HB.out|apply qqf|apply qqd|apply qqe|refine qqg ?_ GE296.out)|exact HB.out))) : w.heap.size ≤ gb297));have n5_:=Aside0.mk ((by rw [hg];exact Nat.ne_of_lt (blk_lt (g:=gb296) (o:=.cells #[.int .u16 a0_0,.int .u16 a0_1,.slice A0_2 l0_2.length c0_2,.slice A0_3 l0_3.length c0_3,.slice A0_4 l0_4.length c0_4,.slice A0_5 l0_5.length c0_5] 26 (0,0)) (by (with_reducible repeat first|apply qqa|apply qqb|apply qqc);exact BK296.out)) : gb296 ≠ gb297));have n6_:=Aside0.mk ((by rw [hg];exact Nat.ne_of_gt (blk_lt (g:=gb296) (o:=.cells #[.int .u16 a0_0,.int .u16 a0_1,.slice A0_2 l0_2.length c0_2,.slice A0_3 l0_3.length c0_3,.slice A0_4 l0_4.length c0_4,.slice A0_5 l0_5.length c0_5] 26 (0,0)) (by (with_reducible repeat first|apply qqa|apply qqb|apply qqc);exact BK296.out)) : gb297 ≠ gb296));clear BK296;clear HB;have BK296:=n0_;have HB:=n1_;have BK297:=n2_;have GW297:=n3_;have GE297:=n4_;have NB296_297:=n5_;have NB297_296:=n6_;clear n0_ n1_ n2_ n3_ n4_ n5_ n6_;clear hb hbox hg))
 repeat (go_quiet (first|((with_reducible refine gate_dst (N:=2) rfl ?_);(try (refine gate_guard (by rfl) ?_;dsimp only));refine box_event ?hg (N:=2) ?hd (cs:=#[.int .u16 a0_0,.int .u16 a0_1,.slice A0_2 l0_2.length c0_2,.slice A0_3 l0_3.length c0_3,.slice A0_4 l0_4.length c0_4,.slice A0_5 l0_5.length c0_5]) (t:=26) ?hr ?_;(case hd => rfl);(case hg => rfl);(case hr => first|(go_simp;done)|(go_simp;rfl));intro gb296 hg w4 hbox hb;have n0_:=Aside0.mk (below_step (by repeat (first|(with_reducible first|exact HB.out|apply qqf|apply qqd|apply qqe)|exact HB.out)) hb);have n1_:=Aside0.mk (hbox);have n2_:=Aside0.mk ((by rw [hg];exact (below_size (by repeat (first|(with_reducible first|exact HB.out|apply qqf|apply qqd|apply qqe)|exact HB.out))) : w.heap.size ≤ gb296));have n3_:=Aside0.mk ((by rw [hg];exact (below_size (by repeat (first|(with_reducible first|exact HB.out|apply qqf|apply qqd|apply qqe)|exact HB.out))) : w.heap.size ≤ gb296));clear HB;have HB:=n0_;have BK296:=n1_;have GW296:=n2_;have GE296:=n3_;clear n0_ n1_ n2_ n3_;clear hb hbox hg)|((with_reducible refine gate_dst (N:=3) rfl ?_);(try (refine gate_guard (by rfl) ?_;dsimp only));refine box_event ?hg (N:=3) ?hd (cs:=#[.int .u16 a1_0,.int .u16 a1_1,.slice A1_2 l1_2.length c1_2,.slice A1_3 l1_3.length c1_3,.slice A1_4 l1_4.length c1_4,.slice A1_5 l1_5.length c1_5]) (t:=26) ?hr ?_;(case hd => rfl);(case hg => rfl);(case hr => first|(go_simp;done)|(go_simp;rfl));intro gb297 hg w5 hbox hb;have n0_:=Aside0.mk (blk_below (g:=gb296) (o:=.cells #[.int .u16 a0_0,.int .u16 a0_1,.slice A0_2 l0_2.length c0_2,.slice A0_3 l0_3.length c0_3,.slice A0_4 l0_4.length c0_4,.slice A0_5 l0_5.length c0_5] 26 (0,0)) (by (with_reducible repeat first|apply qqa|apply qqb|apply qqc);exact BK296.out) hb);have n1_:=Aside0.mk (below_step (by repeat (first|(with_reducible first|exact HB.out|apply qqf|apply qqd|apply qqe|refine qqg ?_ GE296.out)|exact HB.out)) hb);have n2_:=Aside0.mk (hbox);have n3_:=Aside0.mk ((by rw [hg];exact (below_size (by repeat (first|(with_reducible first|exact HB.out|apply qqf|apply qqd|apply qqe|refine qqg ?_ GE296.out)|exact HB.out))) : w.heap.size ≤ gb297));have n4_:=Aside0.mk ((by rw [hg];exact (below_size (by repeat (first|(with_reducible first|exact HB.out|apply qqf|apply qqd|apply qqe|refine qqg ?_ GE296.out)|exact HB.out))) : w.heap.size ≤ gb297));have n5_:=Aside0.mk ((by rw [hg];exact Nat.ne_of_lt (blk_lt (g:=gb296) (o:=.cells #[.int .u16 a0_0,.int .u16 a0_1,.slice A0_2 l0_2.length c0_2,.slice A0_3 l0_3.length c0_3,.slice A0_4 l0_4.length c0_4,.slice A0_5 l0_5.length c0_5] 26 (0,0)) (by (with_reducible repeat first|apply qqa|apply qqb|apply qqc);exact BK296.out)) : gb296 ≠ gb297));have n6_:=Aside0.mk ((by rw [hg];exact Nat.ne_of_gt (blk_lt (g:=gb296) (o:=.cells #[.int .u16 a0_0,.int .u16 a0_1,.slice A0_2 l0_2.length c0_2,.slice A0_3 l0_3.length c0_3,.slice A0_4 l0_4.length c0_4,.slice A0_5 l0_5.length c0_5] 26 (0,0)) (by (with_reducible repeat first|apply qqa|apply qqb|apply qqc);exact BK296.out)) : gb297 ≠ gb296));clear BK296;clear HB;have BK296:=n0_;have HB:=n1_;have BK297:=n2_;have GW297:=n3_;have GE297:=n4_;have NB296_297:=n5_;have NB297_296:=n6_;clear n0_ n1_ n2_ n3_ n4_ n5_ n6_;clear hb hbox hg));go_upto_region 1 with (first|((with_reducible refine gate_dst (N:=2) rfl ?_);(try (refine gate_guard (by rfl) ?_;dsimp only));refine box_event ?hg (N:=2) ?hd (cs:=#[.int .u16 a0_0,.int .u16 a0_1,.slice A0_2 l0_2.length c0_2,.slice A0_3 l0_3.length c0_3,.slice A0_4 l0_4.length c0_4,.slice A0_5 l0_5.length c0_5]) (t:=26) ?hr ?_;(case hd => rfl);(case hg => rfl);(case hr => first|(go_simp;done)|(go_simp;rfl));intro gb296 hg w4 hbox hb;have n0_:=Aside0.mk (below_step (by repeat (first|(with_reducible first|exact HB.out|apply qqf|apply qqd|apply qqe)|exact HB.out)) hb);have n1_:=Aside0.mk (hbox);have n2_:=Aside0.mk ((by rw [hg];exact (below_size (by repeat (first|(with_reducible first|exact HB.out|apply qqf|apply qqd|apply qqe)|exact HB.out))) : w.heap.size ≤ gb296));have n3_:=Aside0.mk ((by rw [hg];exact (below_size (by repeat (first|(with_reducible first|exact HB.out|apply qqf|apply qqd|apply qqe)|exact HB.out))) : w.heap.size ≤ gb296));clear HB;have HB:=n0_;have BK296:=n1_;have GW296:=n2_;have GE296:=n3_;clear n0_ n1_ n2_ n3_;clear hb hbox hg)|((with_reducible refine gate_dst (N:=3) rfl ?_);(try (refine gate_guard (by rfl) ?_;dsimp only));refine box_event ?hg (N:=3) ?hd (cs:=#[.int .u16 a1_0,.int .u16 a1_1,.slice A1_2 l1_2.length c1_2,.slice A1_3 l1_3.length c1_3,.slice A1_4 l1_4.length c1_4,.slice A1_5 l1_5.length c1_5]) (t:=26) ?hr ?_;(case hd => rfl);(case hg => rfl);(case hr => first|(go_simp;done)|(go_simp;rfl));intro gb297 hg w5 hbox hb;have n0_:=Aside0.mk (blk_below (g:=gb296) (o:=.cells #[.int .u16 a0_0,.int .u16 a0_1,.slice A0_2 l0_2.length c0_2,.slice A0_3 l0_3.length c0_3,.slice A0_4 l0_4.length c0_4,.slice A0_5 l0_5.length c0_5] 26 (0,0)) (by (with_reducible repeat first|apply qqa|apply qqb|apply qqc);exact BK296.out) hb);have n1_:=Aside0.mk (below_step (by repeat (first|(with_reducible first|exact HB.out|apply qqf|apply qqd|apply qqe|refine qqg ?_ GE296.out)|exact HB.out)) hb);have n2_:=Aside0.mk (hbox);have n3_:=Aside0.mk ((by rw [hg];exact (below_size (by repeat (first|(with_reducible first|exact HB.out|apply qqf|apply qqd|apply qqe|refine qqg ?_ GE296.out)|exact HB.out))) : w.heap.size ≤ gb297));have n4_:=Aside0.mk ((by rw [hg];exact (below_size (by repeat (first|(with_reducible first|exact HB.out|apply qqf|apply qqd|apply qqe|refine qqg ?_ GE296.out)|exact HB.out))) : w.heap.size ≤ gb297));have n5_:=Aside0.mk ((by rw [hg];exact Nat.ne_of_lt (blk_lt (g:=gb296) (o:=.cells #[.int .u16 a0_0,.int .u16 a0_1,.slice A0_2 l0_2.length c0_2,.slice A0_3 l0_3.length c0_3,.slice A0_4 l0_4.length c0_4,.slice A0_5 l0_5.length c0_5] 26 (0,0)) (by (with_reducible repeat first|apply qqa|apply qqb|apply qqc);exact BK296.out)) : gb296 ≠ gb297));have n6_:=Aside0.mk ((by rw [hg];exact Nat.ne_of_gt (blk_lt (g:=gb296) (o:=.cells #[.int .u16 a0_0,.int .u16 a0_1,.slice A0_2 l0_2.length c0_2,.slice A0_3 l0_3.length c0_3,.slice A0_4 l0_4.length c0_4,.slice A0_5 l0_5.length c0_5] 26 (0,0)) (by (with_reducible repeat first|apply qqa|apply qqb|apply qqc);exact BK296.out)) : gb297 ≠ gb296));clear BK296;clear HB;have BK296:=n0_;have HB:=n1_;have BK297:=n2_;have GW297:=n3_;have GE297:=n4_;have NB296_297:=n5_;have NB297_296:=n6_;clear n0_ n1_ n2_ n3_ n4_ n5_ n6_;clear hb hbox hg)))
 (try simp only [Act.put,qqj,qqk,qql])
 go_cut [50] (fun v50 wc => ∃ (kq : Nat) (x50_2 : Bool),v50 = .bool x50_2∧Aside0 (nuncioref06_Same.j0 kq x50_2 a0_0 a0_1 l0_2 l0_3 l0_4 l0_5 a1_0 a1_1 l1_2 l1_3 l1_4 l1_5 = some r)∧Aside0 (kq ≤ k)∧Aside0 (wc.heap[gb296]? = some (.cells #[.int .u16 a0_0,.int .u16 a0_1,(.slice A0_2 l0_2.length c0_2),(.slice A0_3 l0_3.length c0_3),(.slice A0_4 l0_4.length c0_4),(.slice A0_5 l0_5.length c0_5)] 26 (0,0)))∧Aside0 (wc.heap[gb297]? = some (.cells #[.int .u16 a1_0,.int .u16 a1_1,(.slice A1_2 l1_2.length c1_2),(.slice A1_3 l1_3.length c1_3),(.slice A1_4 l1_4.length c1_4),(.slice A1_5 l1_5.length c1_5)] 26 (0,0)))∧Aside0 (Below w.heap.size w wc))
 case first =>
  have H:=HC3.out
  clear HC3
  by_cases c6 : a0_0 = a1_0
  ·
   rw [if_pos c6] at H
   have c6b0 : (a0_0 == a1_0) = true:=beq_iff_eq.mpr c6
   have c6b1 : (a0_0 != a1_0) = false:=bne_eq_false_iff_eq.mpr c6
   clear c6
   (first|rw [c6b0]|rw [c6b1]|(simp only [i64_w,i32_w];rw [c6b0])|skip)
   by_cases c7 : a0_1 = a1_1
   ·
    rw [if_pos c7] at H
    have c7b0 : (a0_1 == a1_1) = true:=beq_iff_eq.mpr c7
    have c7b1 : (a0_1 != a1_1) = false:=bne_eq_false_iff_eq.mpr c7
    clear c7
    by_cases c8 : (l0_2.length : Int) = (l1_2.length : Int)
    ·
     rw [if_pos c8] at H
     have c8b0 : ((l0_2.length : Int) == (l1_2.length : Int)) = true:=beq_iff_eq.mpr c8
     have c8b1 : ((l0_2.length : Int) != (l1_2.length : Int)) = false:=bne_eq_false_iff_eq.mpr c8
     have c8b2 : (l0_2.length == l1_2.length) = true:=by first|simpa using c8|(simp at c8 ⊢;omega)
     clear c8
     replace H:=Option.bind_eq_some_iff.mp H
     obtain ⟨t298,A90,H⟩:=H
     replace H : (if t298 = true then ((nuncioref06_records.f k l0_4 l1_4).bind fun t299 => (if t299 = true then ((nuncioref06_records.f k l0_5 l1_5).bind fun t300 => (nuncioref06_Same.j0 k (!t300) a0_0 a0_1 l0_2 l0_3 l0_4 l0_5 a1_0 a1_1 l1_2 l1_3 l1_4 l1_5)) else (nuncioref06_Same.j0 k true a0_0 a0_1 l0_2 l0_3 l0_4 l0_5 a1_0 a1_1 l1_2 l1_3 l1_4 l1_5))) else (nuncioref06_Same.j0 k true a0_0 a0_1 l0_2 l0_3 l0_4 l0_5 a1_0 a1_1 l1_2 l1_3 l1_4 l1_5)) = some r:=H
     have A9:=Aside0.mk A90
     clear A90
     by_cases c10 : t298 = true
     ·
      subst c10
      have H1 : ((nuncioref06_records.f k l0_4 l1_4).bind fun t299 => (if t299 = true then ((nuncioref06_records.f k l0_5 l1_5).bind fun t300 => (nuncioref06_Same.j0 k (!t300) a0_0 a0_1 l0_2 l0_3 l0_4 l0_5 a1_0 a1_1 l1_2 l1_3 l1_4 l1_5)) else (nuncioref06_Same.j0 k true a0_0 a0_1 l0_2 l0_3 l0_4 l0_5 a1_0 a1_1 l1_2 l1_3 l1_4 l1_5))) = some r:=by rw [if_pos rfl] at H;exact H
      clear H
      have H:=H1
      clear H1
      replace H:=Option.bind_eq_some_iff.mp H
      obtain ⟨t299,A110,H⟩:=H
      replace H : (if t299 = true then ((nuncioref06_records.f k l0_5 l1_5).bind fun t300 => (nuncioref06_Same.j0 k (!t300) a0_0 a0_1 l0_2 l0_3 l0_4 l0_5 a1_0 a1_1 l1_2 l1_3 l1_4 l1_5)) else (nuncioref06_Same.j0 k true a0_0 a0_1 l0_2 l0_3 l0_4 l0_5 a1_0 a1_1 l1_2 l1_3 l1_4 l1_5)) = some r:=H
      have A11:=Aside0.mk A110
      clear A110
      by_cases c12 : t299 = true
      ·
       subst c12
       have H1 : ((nuncioref06_records.f k l0_5 l1_5).bind fun t300 => (nuncioref06_Same.j0 k (!t300) a0_0 a0_1 l0_2 l0_3 l0_4 l0_5 a1_0 a1_1 l1_2 l1_3 l1_4 l1_5)) = some r:=by rw [if_pos rfl] at H;exact H
       clear H
       have H:=H1
       clear H1
       replace H:=Option.bind_eq_some_iff.mp H
       obtain ⟨t300,A130,H⟩:=H
       replace H : (nuncioref06_Same.j0 k (!t300) a0_0 a0_1 l0_2 l0_3 l0_4 l0_5 a1_0 a1_1 l1_2 l1_3 l1_4 l1_5) = some r:=H
       have A13:=Aside0.mk A130
       clear A130
       have H':=Aside0.mk H
       clear H
       have hnb14:=NB296_297.out
       have hnc14:=NB297_296.out
       have hcz15_0 : w5.cell? ⟨gb296,0,none⟩ = some (.int .u16 a0_0):=(qqh BK296.out 0).trans rfl
       have hcz15_1 : w5.cell? ⟨gb296,1,none⟩ = some (.int .u16 a0_1):=(qqh BK296.out 1).trans rfl
       have hcz15_2 : w5.cell? ⟨gb296,2,none⟩ = some (.slice A0_2 l0_2.length c0_2):=(qqh BK296.out 2).trans rfl
       have hcz15_3 : w5.cell? ⟨gb296,3,none⟩ = some (.slice A0_3 l0_3.length c0_3):=(qqh BK296.out 3).trans rfl
       have hcz15_4 : w5.cell? ⟨gb296,4,none⟩ = some (.slice A0_4 l0_4.length c0_4):=(qqh BK296.out 4).trans rfl
       have hcz15_5 : w5.cell? ⟨gb296,5,none⟩ = some (.slice A0_5 l0_5.length c0_5):=(qqh BK296.out 5).trans rfl
       have hfz15_0:=qqi BK296.out 0
       have hfz15_1:=qqi BK296.out 1
       have hfz15_2:=qqi BK296.out 2
       have hfz15_3:=qqi BK296.out 3
       have hfz15_4:=qqi BK296.out 4
       have hfz15_5:=qqi BK296.out 5
       have hcz16_0 : w5.cell? ⟨gb297,0,none⟩ = some (.int .u16 a1_0):=(qqh BK297.out 0).trans rfl
       have hcz16_1 : w5.cell? ⟨gb297,1,none⟩ = some (.int .u16 a1_1):=(qqh BK297.out 1).trans rfl
       have hcz16_2 : w5.cell? ⟨gb297,2,none⟩ = some (.slice A1_2 l1_2.length c1_2):=(qqh BK297.out 2).trans rfl
       have hcz16_3 : w5.cell? ⟨gb297,3,none⟩ = some (.slice A1_3 l1_3.length c1_3):=(qqh BK297.out 3).trans rfl
       have hcz16_4 : w5.cell? ⟨gb297,4,none⟩ = some (.slice A1_4 l1_4.length c1_4):=(qqh BK297.out 4).trans rfl
       have hcz16_5 : w5.cell? ⟨gb297,5,none⟩ = some (.slice A1_5 l1_5.length c1_5):=(qqh BK297.out 5).trans rfl
       have hfz16_0:=qqi BK297.out 0
       have hfz16_1:=qqi BK297.out 1
       have hfz16_2:=qqi BK297.out 2
       have hfz16_3:=qqi BK297.out 3
       have hfz16_4:=qqi BK297.out 4
       have hfz16_5:=qqi BK297.out 5
       go_wp2_with (first|(go_at_call 39;(with_reducible refine (nuncioref06_records.calls k _ _ l0_3 _ _ l1_3 true _ ?side1 ?side2 ?side3 ?side4 A9.out).mono ?_);(case side1 => repeat (first|exact (Kd.C_below HR0_3.out HB.out)|(with_reducible refine Kd.C_alloc ?_ _)|(with_reducible refine Kd.C_drewN ?_ _)|(with_reducible refine Kd.C_drew ?_)));(case side2 => exact HC0_3.out);(case side3 => repeat (first|exact (Kd.C_below HR1_3.out HB.out)|(with_reducible refine Kd.C_alloc ?_ _)|(with_reducible refine Kd.C_drewN ?_ _)|(with_reducible refine Kd.C_drew ?_)));(case side4 => exact HC1_3.out);rintro e w17 ⟨rfl,hb⟩;have n0_:=Aside0.mk (blk_below (g:=gb296) (o:=.cells #[.int .u16 a0_0,.int .u16 a0_1,.slice A0_2 l0_2.length c0_2,.slice A0_3 l0_3.length c0_3,.slice A0_4 l0_4.length c0_4,.slice A0_5 l0_5.length c0_5] 26 (0,0)) (by (with_reducible repeat first|apply qqa|apply qqb|apply qqc);exact BK296.out) hb);have n1_:=Aside0.mk (blk_below (g:=gb297) (o:=.cells #[.int .u16 a1_0,.int .u16 a1_1,.slice A1_2 l1_2.length c1_2,.slice A1_3 l1_3.length c1_3,.slice A1_4 l1_4.length c1_4,.slice A1_5 l1_5.length c1_5] 26 (0,0)) (by (with_reducible repeat first|apply qqa|apply qqb|apply qqc);exact BK297.out) hb);have n2_:=Aside0.mk (below_step (by repeat (first|(with_reducible first|exact HB.out|apply qqf|apply qqd|apply qqe|refine qqg ?_ GE296.out|refine qqg ?_ GE297.out)|exact HB.out)) hb);clear BK296;clear BK297;clear HB;have BK296:=n0_;have BK297:=n1_;have HB:=n2_;clear n0_ n1_ n2_;(try clear hb);(try clear hb2);(try clear hk);(try clear hi);have hcz18_0 : w17.cell? ⟨gb296,0,none⟩ = some (.int .u16 a0_0):=(qqh BK296.out 0).trans rfl;have hcz18_1 : w17.cell? ⟨gb296,1,none⟩ = some (.int .u16 a0_1):=(qqh BK296.out 1).trans rfl;have hcz18_2 : w17.cell? ⟨gb296,2,none⟩ = some (.slice A0_2 l0_2.length c0_2):=(qqh BK296.out 2).trans rfl;have hcz18_3 : w17.cell? ⟨gb296,3,none⟩ = some (.slice A0_3 l0_3.length c0_3):=(qqh BK296.out 3).trans rfl;have hcz18_4 : w17.cell? ⟨gb296,4,none⟩ = some (.slice A0_4 l0_4.length c0_4):=(qqh BK296.out 4).trans rfl;have hcz18_5 : w17.cell? ⟨gb296,5,none⟩ = some (.slice A0_5 l0_5.length c0_5):=(qqh BK296.out 5).trans rfl;have hfz18_0:=qqi BK296.out 0;have hfz18_1:=qqi BK296.out 1;have hfz18_2:=qqi BK296.out 2;have hfz18_3:=qqi BK296.out 3;have hfz18_4:=qqi BK296.out 4;have hfz18_5:=qqi BK296.out 5;have hcz19_0 : w17.cell? ⟨gb297,0,none⟩ = some (.int .u16 a1_0):=(qqh BK297.out 0).trans rfl;have hcz19_1 : w17.cell? ⟨gb297,1,none⟩ = some (.int .u16 a1_1):=(qqh BK297.out 1).trans rfl;have hcz19_2 : w17.cell? ⟨gb297,2,none⟩ = some (.slice A1_2 l1_2.length c1_2):=(qqh BK297.out 2).trans rfl;have hcz19_3 : w17.cell? ⟨gb297,3,none⟩ = some (.slice A1_3 l1_3.length c1_3):=(qqh BK297.out 3).trans rfl;have hcz19_4 : w17.cell? ⟨gb297,4,none⟩ = some (.slice A1_4 l1_4.length c1_4):=(qqh BK297.out 4).trans rfl;have hcz19_5 : w17.cell? ⟨gb297,5,none⟩ = some (.slice A1_5 l1_5.length c1_5):=(qqh BK297.out 5).trans rfl;have hfz19_0:=qqi BK297.out 0;have hfz19_1:=qqi BK297.out 1;have hfz19_2:=qqi BK297.out 2;have hfz19_3:=qqi BK297.out 3;have hfz19_4:=qqi BK297.out 4;have hfz19_5:=qqi BK297.out 5)|(go_at_call 39;(with_reducible refine (nuncioref06_records.calls k _ _ l0_4 _ _ l1_4 true _ ?side1 ?side2 ?side3 ?side4 A11.out).mono ?_);(case side1 => repeat (first|exact (Kd.C_below HR0_4.out HB.out)|(with_reducible refine Kd.C_alloc ?_ _)|(with_reducible refine Kd.C_drewN ?_ _)|(with_reducible refine Kd.C_drew ?_)));(case side2 => exact HC0_4.out);(case side3 => repeat (first|exact (Kd.C_below HR1_4.out HB.out)|(with_reducible refine Kd.C_alloc ?_ _)|(with_reducible refine Kd.C_drewN ?_ _)|(with_reducible refine Kd.C_drew ?_)));(case side4 => exact HC1_4.out);rintro e w20 ⟨rfl,hb⟩;have n0_:=Aside0.mk (blk_below (g:=gb296) (o:=.cells #[.int .u16 a0_0,.int .u16 a0_1,.slice A0_2 l0_2.length c0_2,.slice A0_3 l0_3.length c0_3,.slice A0_4 l0_4.length c0_4,.slice A0_5 l0_5.length c0_5] 26 (0,0)) (by (with_reducible repeat first|apply qqa|apply qqb|apply qqc);exact BK296.out) hb);have n1_:=Aside0.mk (blk_below (g:=gb297) (o:=.cells #[.int .u16 a1_0,.int .u16 a1_1,.slice A1_2 l1_2.length c1_2,.slice A1_3 l1_3.length c1_3,.slice A1_4 l1_4.length c1_4,.slice A1_5 l1_5.length c1_5] 26 (0,0)) (by (with_reducible repeat first|apply qqa|apply qqb|apply qqc);exact BK297.out) hb);have n2_:=Aside0.mk (below_step (by repeat (first|(with_reducible first|exact HB.out|apply qqf|apply qqd|apply qqe|refine qqg ?_ GE296.out|refine qqg ?_ GE297.out)|exact HB.out)) hb);clear BK296;clear BK297;clear HB;have BK296:=n0_;have BK297:=n1_;have HB:=n2_;clear n0_ n1_ n2_;(try clear hb);(try clear hb2);(try clear hk);(try clear hi);have hcz21_0 : w20.cell? ⟨gb296,0,none⟩ = some (.int .u16 a0_0):=(qqh BK296.out 0).trans rfl;have hcz21_1 : w20.cell? ⟨gb296,1,none⟩ = some (.int .u16 a0_1):=(qqh BK296.out 1).trans rfl;have hcz21_2 : w20.cell? ⟨gb296,2,none⟩ = some (.slice A0_2 l0_2.length c0_2):=(qqh BK296.out 2).trans rfl;have hcz21_3 : w20.cell? ⟨gb296,3,none⟩ = some (.slice A0_3 l0_3.length c0_3):=(qqh BK296.out 3).trans rfl;have hcz21_4 : w20.cell? ⟨gb296,4,none⟩ = some (.slice A0_4 l0_4.length c0_4):=(qqh BK296.out 4).trans rfl;have hcz21_5 : w20.cell? ⟨gb296,5,none⟩ = some (.slice A0_5 l0_5.length c0_5):=(qqh BK296.out 5).trans rfl;have hfz21_0:=qqi BK296.out 0;have hfz21_1:=qqi BK296.out 1;have hfz21_2:=qqi BK296.out 2;have hfz21_3:=qqi BK296.out 3;have hfz21_4:=qqi BK296.out 4;have hfz21_5:=qqi BK296.out 5;have hcz22_0 : w20.cell? ⟨gb297,0,none⟩ = some (.int .u16 a1_0):=(qqh BK297.out 0).trans rfl;have hcz22_1 : w20.cell? ⟨gb297,1,none⟩ = some (.int .u16 a1_1):=(qqh BK297.out 1).trans rfl;have hcz22_2 : w20.cell? ⟨gb297,2,none⟩ = some (.slice A1_2 l1_2.length c1_2):=(qqh BK297.out 2).trans rfl;have hcz22_3 : w20.cell? ⟨gb297,3,none⟩ = some (.slice A1_3 l1_3.length c1_3):=(qqh BK297.out 3).trans rfl;have hcz22_4 : w20.cell? ⟨gb297,4,none⟩ = some (.slice A1_4 l1_4.length c1_4):=(qqh BK297.out 4).trans rfl;have hcz22_5 : w20.cell? ⟨gb297,5,none⟩ = some (.slice A1_5 l1_5.length c1_5):=(qqh BK297.out 5).trans rfl;have hfz22_0:=qqi BK297.out 0;have hfz22_1:=qqi BK297.out 1;have hfz22_2:=qqi BK297.out 2;have hfz22_3:=qqi BK297.out 3;have hfz22_4:=qqi BK297.out 4;have hfz22_5:=qqi BK297.out 5)|(go_at_call 39;(with_reducible refine (nuncioref06_records.calls k _ _ l0_5 _ _ l1_5 t300 _ ?side1 ?side2 ?side3 ?side4 A13.out).mono ?_);(case side1 => repeat (first|exact (Kd.C_below HR0_5.out HB.out)|(with_reducible refine Kd.C_alloc ?_ _)|(with_reducible refine Kd.C_drewN ?_ _)|(with_reducible refine Kd.C_drew ?_)));(case side2 => exact HC0_5.out);(case side3 => repeat (first|exact (Kd.C_below HR1_5.out HB.out)|(with_reducible refine Kd.C_alloc ?_ _)|(with_reducible refine Kd.C_drewN ?_ _)|(with_reducible refine Kd.C_drew ?_)));(case side4 => exact HC1_5.out);rintro e w23 ⟨rfl,hb⟩;have n0_:=Aside0.mk (blk_below (g:=gb296) (o:=.cells #[.int .u16 a0_0,.int .u16 a0_1,.slice A0_2 l0_2.length c0_2,.slice A0_3 l0_3.length c0_3,.slice A0_4 l0_4.length c0_4,.slice A0_5 l0_5.length c0_5] 26 (0,0)) (by (with_reducible repeat first|apply qqa|apply qqb|apply qqc);exact BK296.out) hb);have n1_:=Aside0.mk (blk_below (g:=gb297) (o:=.cells #[.int .u16 a1_0,.int .u16 a1_1,.slice A1_2 l1_2.length c1_2,.slice A1_3 l1_3.length c1_3,.slice A1_4 l1_4.length c1_4,.slice A1_5 l1_5.length c1_5] 26 (0,0)) (by (with_reducible repeat first|apply qqa|apply qqb|apply qqc);exact BK297.out) hb);have n2_:=Aside0.mk (below_step (by repeat (first|(with_reducible first|exact HB.out|apply qqf|apply qqd|apply qqe|refine qqg ?_ GE296.out|refine qqg ?_ GE297.out)|exact HB.out)) hb);clear BK296;clear BK297;clear HB;have BK296:=n0_;have BK297:=n1_;have HB:=n2_;clear n0_ n1_ n2_;(try clear hb);(try clear hb2);(try clear hk);(try clear hi)))
       repeat (go_quiet (first|(go_at_call 39;(with_reducible refine (nuncioref06_records.calls k _ _ l0_3 _ _ l1_3 true _ ?side1 ?side2 ?side3 ?side4 A9.out).mono ?_);(case side1 => repeat (first|exact (Kd.C_below HR0_3.out HB.out)|(with_reducible refine Kd.C_alloc ?_ _)|(with_reducible refine Kd.C_drewN ?_ _)|(with_reducible refine Kd.C_drew ?_)));(case side2 => exact HC0_3.out);(case side3 => repeat (first|exact (Kd.C_below HR1_3.out HB.out)|(with_reducible refine Kd.C_alloc ?_ _)|(with_reducible refine Kd.C_drewN ?_ _)|(with_reducible refine Kd.C_drew ?_)));(case side4 => exact HC1_3.out);rintro e w17 ⟨rfl,hb⟩;have n0_:=Aside0.mk (blk_below (g:=gb296) (o:=.cells #[.int .u16 a0_0,.int .u16 a0_1,.slice A0_2 l0_2.length c0_2,.slice A0_3 l0_3.length c0_3,.slice A0_4 l0_4.length c0_4,.slice A0_5 l0_5.length c0_5] 26 (0,0)) (by (with_reducible repeat first|apply qqa|apply qqb|apply qqc);exact BK296.out) hb);have n1_:=Aside0.mk (blk_below (g:=gb297) (o:=.cells #[.int .u16 a1_0,.int .u16 a1_1,.slice A1_2 l1_2.length c1_2,.slice A1_3 l1_3.length c1_3,.slice A1_4 l1_4.length c1_4,.slice A1_5 l1_5.length c1_5] 26 (0,0)) (by (with_reducible repeat first|apply qqa|apply qqb|apply qqc);exact BK297.out) hb);have n2_:=Aside0.mk (below_step (by repeat (first|(with_reducible first|exact HB.out|apply qqf|apply qqd|apply qqe|refine qqg ?_ GE296.out|refine qqg ?_ GE297.out)|exact HB.out)) hb);clear BK296;clear BK297;clear HB;have BK296:=n0_;have BK297:=n1_;have HB:=n2_;clear n0_ n1_ n2_;(try clear hb);(try clear hb2);(try clear hk);(try clear hi);have hcz18_0 : w17.cell? ⟨gb296,0,none⟩ = some (.int .u16 a0_0):=(qqh BK296.out 0).trans rfl;have hcz18_1 : w17.cell? ⟨gb296,1,none⟩ = some (.int .u16 a0_1):=(qqh BK296.out 1).trans rfl;have hcz18_2 : w17.cell? ⟨gb296,2,none⟩ = some (.slice A0_2 l0_2.length c0_2):=(qqh BK296.out 2).trans rfl;have hcz18_3 : w17.cell? ⟨gb296,3,none⟩ = some (.slice A0_3 l0_3.length c0_3):=(qqh BK296.out 3).trans rfl;have hcz18_4 : w17.cell? ⟨gb296,4,none⟩ = some (.slice A0_4 l0_4.length c0_4):=(qqh BK296.out 4).trans rfl;have hcz18_5 : w17.cell? ⟨gb296,5,none⟩ = some (.slice A0_5 l0_5.length c0_5):=(qqh BK296.out 5).trans rfl;have hfz18_0:=qqi BK296.out 0;have hfz18_1:=qqi BK296.out 1;have hfz18_2:=qqi BK296.out 2;have hfz18_3:=qqi BK296.out 3;have hfz18_4:=qqi BK296.out 4;have hfz18_5:=qqi BK296.out 5;have hcz19_0 : w17.cell? ⟨gb297,0,none⟩ = some (.int .u16 a1_0):=(qqh BK297.out 0).trans rfl;have hcz19_1 : w17.cell? ⟨gb297,1,none⟩ = some (.int .u16 a1_1):=(qqh BK297.out 1).trans rfl;have hcz19_2 : w17.cell? ⟨gb297,2,none⟩ = some (.slice A1_2 l1_2.length c1_2):=(qqh BK297.out 2).trans rfl;have hcz19_3 : w17.cell? ⟨gb297,3,none⟩ = some (.slice A1_3 l1_3.length c1_3):=(qqh BK297.out 3).trans rfl;have hcz19_4 : w17.cell? ⟨gb297,4,none⟩ = some (.slice A1_4 l1_4.length c1_4):=(qqh BK297.out 4).trans rfl;have hcz19_5 : w17.cell? ⟨gb297,5,none⟩ = some (.slice A1_5 l1_5.length c1_5):=(qqh BK297.out 5).trans rfl;have hfz19_0:=qqi BK297.out 0;have hfz19_1:=qqi BK297.out 1;have hfz19_2:=qqi BK297.out 2;have hfz19_3:=qqi BK297.out 3;have hfz19_4:=qqi BK297.out 4;have hfz19_5:=qqi BK297.out 5)|(go_at_call 39;(with_reducible refine (nuncioref06_records.calls k _ _ l0_4 _ _ l1_4 true _ ?side1 ?side2 ?side3 ?side4 A11.out).mono ?_);(case side1 => repeat (first|exact (Kd.C_below HR0_4.out HB.out)|(with_reducible refine Kd.C_alloc ?_ _)|(with_reducible refine Kd.C_drewN ?_ _)|(with_reducible refine Kd.C_drew ?_)));(case side2 => exact HC0_4.out);(case side3 => repeat (first|exact (Kd.C_below HR1_4.out HB.out)|(with_reducible refine Kd.C_alloc ?_ _)|(with_reducible refine Kd.C_drewN ?_ _)|(with_reducible refine Kd.C_drew ?_)));(case side4 => exact HC1_4.out);rintro e w20 ⟨rfl,hb⟩;have n0_:=Aside0.mk (blk_below (g:=gb296) (o:=.cells #[.int .u16 a0_0,.int .u16 a0_1,.slice A0_2 l0_2.length c0_2,.slice A0_3 l0_3.length c0_3,.slice A0_4 l0_4.length c0_4,.slice A0_5 l0_5.length c0_5] 26 (0,0)) (by (with_reducible repeat first|apply qqa|apply qqb|apply qqc);exact BK296.out) hb);have n1_:=Aside0.mk (blk_below (g:=gb297) (o:=.cells #[.int .u16 a1_0,.int .u16 a1_1,.slice A1_2 l1_2.length c1_2,.slice A1_3 l1_3.length c1_3,.slice A1_4 l1_4.length c1_4,.slice A1_5 l1_5.length c1_5] 26 (0,0)) (by (with_reducible repeat first|apply qqa|apply qqb|apply qqc);exact BK297.out) hb);have n2_:=Aside0.mk (below_step (by repeat (first|(with_reducible first|exact HB.out|apply qqf|apply qqd|apply qqe|refine qqg ?_ GE296.out|refine qqg ?_ GE297.out)|exact HB.out)) hb);clear BK296;clear BK297;clear HB;have BK296:=n0_;have BK297:=n1_;have HB:=n2_;clear n0_ n1_ n2_;(try clear hb);(try clear hb2);(try clear hk);(try clear hi);have hcz21_0 : w20.cell? ⟨gb296,0,none⟩ = some (.int .u16 a0_0):=(qqh BK296.out 0).trans rfl;have hcz21_1 : w20.cell? ⟨gb296,1,none⟩ = some (.int .u16 a0_1):=(qqh BK296.out 1).trans rfl;have hcz21_2 : w20.cell? ⟨gb296,2,none⟩ = some (.slice A0_2 l0_2.length c0_2):=(qqh BK296.out 2).trans rfl;have hcz21_3 : w20.cell? ⟨gb296,3,none⟩ = some (.slice A0_3 l0_3.length c0_3):=(qqh BK296.out 3).trans rfl;have hcz21_4 : w20.cell? ⟨gb296,4,none⟩ = some (.slice A0_4 l0_4.length c0_4):=(qqh BK296.out 4).trans rfl;have hcz21_5 : w20.cell? ⟨gb296,5,none⟩ = some (.slice A0_5 l0_5.length c0_5):=(qqh BK296.out 5).trans rfl;have hfz21_0:=qqi BK296.out 0;have hfz21_1:=qqi BK296.out 1;have hfz21_2:=qqi BK296.out 2;have hfz21_3:=qqi BK296.out 3;have hfz21_4:=qqi BK296.out 4;have hfz21_5:=qqi BK296.out 5;have hcz22_0 : w20.cell? ⟨gb297,0,none⟩ = some (.int .u16 a1_0):=(qqh BK297.out 0).trans rfl;have hcz22_1 : w20.cell? ⟨gb297,1,none⟩ = some (.int .u16 a1_1):=(qqh BK297.out 1).trans rfl;have hcz22_2 : w20.cell? ⟨gb297,2,none⟩ = some (.slice A1_2 l1_2.length c1_2):=(qqh BK297.out 2).trans rfl;have hcz22_3 : w20.cell? ⟨gb297,3,none⟩ = some (.slice A1_3 l1_3.length c1_3):=(qqh BK297.out 3).trans rfl;have hcz22_4 : w20.cell? ⟨gb297,4,none⟩ = some (.slice A1_4 l1_4.length c1_4):=(qqh BK297.out 4).trans rfl;have hcz22_5 : w20.cell? ⟨gb297,5,none⟩ = some (.slice A1_5 l1_5.length c1_5):=(qqh BK297.out 5).trans rfl;have hfz22_0:=qqi BK297.out 0;have hfz22_1:=qqi BK297.out 1;have hfz22_2:=qqi BK297.out 2;have hfz22_3:=qqi BK297.out 3;have hfz22_4:=qqi BK297.out 4;have hfz22_5:=qqi BK297.out 5)|(go_at_call 39;(with_reducible refine (nuncioref06_records.calls k _ _ l0_5 _ _ l1_5 t300 _ ?side1 ?side2 ?side3 ?side4 A13.out).mono ?_);(case side1 => repeat (first|exact (Kd.C_below HR0_5.out HB.out)|(with_reducible refine Kd.C_alloc ?_ _)|(with_reducible refine Kd.C_drewN ?_ _)|(with_reducible refine Kd.C_drew ?_)));(case side2 => exact HC0_5.out);(case side3 => repeat (first|exact (Kd.C_below HR1_5.out HB.out)|(with_reducible refine Kd.C_alloc ?_ _)|(with_reducible refine Kd.C_drewN ?_ _)|(with_reducible refine Kd.C_drew ?_)));(case side4 => exact HC1_5.out);rintro e w23 ⟨rfl,hb⟩;have n0_:=Aside0.mk (blk_below (g:=gb296) (o:=.cells #[.int .u16 a0_0,.int .u16 a0_1,.slice A0_2 l0_2.length c0_2,.slice A0_3 l0_3.length c0_3,.slice A0_4 l0_4.length c0_4,.slice A0_5 l0_5.length c0_5] 26 (0,0)) (by (with_reducible repeat first|apply qqa|apply qqb|apply qqc);exact BK296.out) hb);have n1_:=Aside0.mk (blk_below (g:=gb297) (o:=.cells #[.int .u16 a1_0,.int .u16 a1_1,.slice A1_2 l1_2.length c1_2,.slice A1_3 l1_3.length c1_3,.slice A1_4 l1_4.length c1_4,.slice A1_5 l1_5.length c1_5] 26 (0,0)) (by (with_reducible repeat first|apply qqa|apply qqb|apply qqc);exact BK297.out) hb);have n2_:=Aside0.mk (below_step (by repeat (first|(with_reducible first|exact HB.out|apply qqf|apply qqd|apply qqe|refine qqg ?_ GE296.out|refine qqg ?_ GE297.out)|exact HB.out)) hb);clear BK296;clear BK297;clear HB;have BK296:=n0_;have BK297:=n1_;have HB:=n2_;clear n0_ n1_ n2_;(try clear hb);(try clear hb2);(try clear hk);(try clear hi)));try go_wp2_with (first|(go_at_call 39;(with_reducible refine (nuncioref06_records.calls k _ _ l0_3 _ _ l1_3 true _ ?side1 ?side2 ?side3 ?side4 A9.out).mono ?_);(case side1 => repeat (first|exact (Kd.C_below HR0_3.out HB.out)|(with_reducible refine Kd.C_alloc ?_ _)|(with_reducible refine Kd.C_drewN ?_ _)|(with_reducible refine Kd.C_drew ?_)));(case side2 => exact HC0_3.out);(case side3 => repeat (first|exact (Kd.C_below HR1_3.out HB.out)|(with_reducible refine Kd.C_alloc ?_ _)|(with_reducible refine Kd.C_drewN ?_ _)|(with_reducible refine Kd.C_drew ?_)));(case side4 => exact HC1_3.out);rintro e w17 ⟨rfl,hb⟩;have n0_:=Aside0.mk (blk_below (g:=gb296) (o:=.cells #[.int .u16 a0_0,.int .u16 a0_1,.slice A0_2 l0_2.length c0_2,.slice A0_3 l0_3.length c0_3,.slice A0_4 l0_4.length c0_4,.slice A0_5 l0_5.length c0_5] 26 (0,0)) (by (with_reducible repeat first|apply qqa|apply qqb|apply qqc);exact BK296.out) hb);have n1_:=Aside0.mk (blk_below (g:=gb297) (o:=.cells #[.int .u16 a1_0,.int .u16 a1_1,.slice A1_2 l1_2.length c1_2,.slice A1_3 l1_3.length c1_3,.slice A1_4 l1_4.length c1_4,.slice A1_5 l1_5.length c1_5] 26 (0,0)) (by (with_reducible repeat first|apply qqa|apply qqb|apply qqc);exact BK297.out) hb);have n2_:=Aside0.mk (below_step (by repeat (first|(with_reducible first|exact HB.out|apply qqf|apply qqd|apply qqe|refine qqg ?_ GE296.out|refine qqg ?_ GE297.out)|exact HB.out)) hb);clear BK296;clear BK297;clear HB;have BK296:=n0_;have BK297:=n1_;have HB:=n2_;clear n0_ n1_ n2_;(try clear hb);(try clear hb2);(try clear hk);(try clear hi);have hcz18_0 : w17.cell? ⟨gb296,0,none⟩ = some (.int .u16 a0_0):=(qqh BK296.out 0).trans rfl;have hcz18_1 : w17.cell? ⟨gb296,1,none⟩ = some (.int .u16 a0_1):=(qqh BK296.out 1).trans rfl;have hcz18_2 : w17.cell? ⟨gb296,2,none⟩ = some (.slice A0_2 l0_2.length c0_2):=(qqh BK296.out 2).trans rfl;have hcz18_3 : w17.cell? ⟨gb296,3,none⟩ = some (.slice A0_3 l0_3.length c0_3):=(qqh BK296.out 3).trans rfl;have hcz18_4 : w17.cell? ⟨gb296,4,none⟩ = some (.slice A0_4 l0_4.length c0_4):=(qqh BK296.out 4).trans rfl;have hcz18_5 : w17.cell? ⟨gb296,5,none⟩ = some (.slice A0_5 l0_5.length c0_5):=(qqh BK296.out 5).trans rfl;have hfz18_0:=qqi BK296.out 0;have hfz18_1:=qqi BK296.out 1;have hfz18_2:=qqi BK296.out 2;have hfz18_3:=qqi BK296.out 3;have hfz18_4:=qqi BK296.out 4;have hfz18_5:=qqi BK296.out 5;have hcz19_0 : w17.cell? ⟨gb297,0,none⟩ = some (.int .u16 a1_0):=(qqh BK297.out 0).trans rfl;have hcz19_1 : w17.cell? ⟨gb297,1,none⟩ = some (.int .u16 a1_1):=(qqh BK297.out 1).trans rfl;have hcz19_2 : w17.cell? ⟨gb297,2,none⟩ = some (.slice A1_2 l1_2.length c1_2):=(qqh BK297.out 2).trans rfl;have hcz19_3 : w17.cell? ⟨gb297,3,none⟩ = some (.slice A1_3 l1_3.length c1_3):=(qqh BK297.out 3).trans rfl;have hcz19_4 : w17.cell? ⟨gb297,4,none⟩ = some (.slice A1_4 l1_4.length c1_4):=(qqh BK297.out 4).trans rfl;have hcz19_5 : w17.cell? ⟨gb297,5,none⟩ = some (.slice A1_5 l1_5.length c1_5):=(qqh BK297.out 5).trans rfl;have hfz19_0:=qqi BK297.out 0;have hfz19_1:=qqi BK297.out 1;have hfz19_2:=qqi BK297.out 2;have hfz19_3:=qqi BK297.out 3;have hfz19_4:=qqi BK297.out 4;have hfz19_5:=qqi BK297.out 5)|(go_at_call 39;(with_reducible refine (nuncioref06_records.calls k _ _ l0_4 _ _ l1_4 true _ ?side1 ?side2 ?side3 ?side4 A11.out).mono ?_);(case side1 => repeat (first|exact (Kd.C_below HR0_4.out HB.out)|(with_reducible refine Kd.C_alloc ?_ _)|(with_reducible refine Kd.C_drewN ?_ _)|(with_reducible refine Kd.C_drew ?_)));(case side2 => exact HC0_4.out);(case side3 => repeat (first|exact (Kd.C_below HR1_4.out HB.out)|(with_reducible refine Kd.C_alloc ?_ _)|(with_reducible refine Kd.C_drewN ?_ _)|(with_reducible refine Kd.C_drew ?_)));(case side4 => exact HC1_4.out);rintro e w20 ⟨rfl,hb⟩;have n0_:=Aside0.mk (blk_below (g:=gb296) (o:=.cells #[.int .u16 a0_0,.int .u16 a0_1,.slice A0_2 l0_2.length c0_2,.slice A0_3 l0_3.length c0_3,.slice A0_4 l0_4.length c0_4,.slice A0_5 l0_5.length c0_5] 26 (0,0)) (by (with_reducible repeat first|apply qqa|apply qqb|apply qqc);exact BK296.out) hb);have n1_:=Aside0.mk (blk_below (g:=gb297) (o:=.cells #[.int .u16 a1_0,.int .u16 a1_1,.slice A1_2 l1_2.length c1_2,.slice A1_3 l1_3.length c1_3,.slice A1_4 l1_4.length c1_4,.slice A1_5 l1_5.length c1_5] 26 (0,0)) (by (with_reducible repeat first|apply qqa|apply qqb|apply qqc);exact BK297.out) hb);have n2_:=Aside0.mk (below_step (by repeat (first|(with_reducible first|exact HB.out|apply qqf|apply qqd|apply qqe|refine qqg ?_ GE296.out|refine qqg ?_ GE297.out)|exact HB.out)) hb);clear BK296;clear BK297;clear HB;have BK296:=n0_;have BK297:=n1_;have HB:=n2_;clear n0_ n1_ n2_;(try clear hb);(try clear hb2);(try clear hk);(try clear hi);have hcz21_0 : w20.cell? ⟨gb296,0,none⟩ = some (.int .u16 a0_0):=(qqh BK296.out 0).trans rfl;have hcz21_1 : w20.cell? ⟨gb296,1,none⟩ = some (.int .u16 a0_1):=(qqh BK296.out 1).trans rfl;have hcz21_2 : w20.cell? ⟨gb296,2,none⟩ = some (.slice A0_2 l0_2.length c0_2):=(qqh BK296.out 2).trans rfl;have hcz21_3 : w20.cell? ⟨gb296,3,none⟩ = some (.slice A0_3 l0_3.length c0_3):=(qqh BK296.out 3).trans rfl;have hcz21_4 : w20.cell? ⟨gb296,4,none⟩ = some (.slice A0_4 l0_4.length c0_4):=(qqh BK296.out 4).trans rfl;have hcz21_5 : w20.cell? ⟨gb296,5,none⟩ = some (.slice A0_5 l0_5.length c0_5):=(qqh BK296.out 5).trans rfl;have hfz21_0:=qqi BK296.out 0;have hfz21_1:=qqi BK296.out 1;have hfz21_2:=qqi BK296.out 2;have hfz21_3:=qqi BK296.out 3;have hfz21_4:=qqi BK296.out 4;have hfz21_5:=qqi BK296.out 5;have hcz22_0 : w20.cell? ⟨gb297,0,none⟩ = some (.int .u16 a1_0):=(qqh BK297.out 0).trans rfl;have hcz22_1 : w20.cell? ⟨gb297,1,none⟩ = some (.int .u16 a1_1):=(qqh BK297.out 1).trans rfl;have hcz22_2 : w20.cell? ⟨gb297,2,none⟩ = some (.slice A1_2 l1_2.length c1_2):=(qqh BK297.out 2).trans rfl;have hcz22_3 : w20.cell? ⟨gb297,3,none⟩ = some (.slice A1_3 l1_3.length c1_3):=(qqh BK297.out 3).trans rfl;have hcz22_4 : w20.cell? ⟨gb297,4,none⟩ = some (.slice A1_4 l1_4.length c1_4):=(qqh BK297.out 4).trans rfl;have hcz22_5 : w20.cell? ⟨gb297,5,none⟩ = some (.slice A1_5 l1_5.length c1_5):=(qqh BK297.out 5).trans rfl;have hfz22_0:=qqi BK297.out 0;have hfz22_1:=qqi BK297.out 1;have hfz22_2:=qqi BK297.out 2;have hfz22_3:=qqi BK297.out 3;have hfz22_4:=qqi BK297.out 4;have hfz22_5:=qqi BK297.out 5)|(go_at_call 39;(with_reducible refine (nuncioref06_records.calls k _ _ l0_5 _ _ l1_5 t300 _ ?side1 ?side2 ?side3 ?side4 A13.out).mono ?_);(case side1 => repeat (first|exact (Kd.C_below HR0_5.out HB.out)|(with_reducible refine Kd.C_alloc ?_ _)|(with_reducible refine Kd.C_drewN ?_ _)|(with_reducible refine Kd.C_drew ?_)));(case side2 => exact HC0_5.out);(case side3 => repeat (first|exact (Kd.C_below HR1_5.out HB.out)|(with_reducible refine Kd.C_alloc ?_ _)|(with_reducible refine Kd.C_drewN ?_ _)|(with_reducible refine Kd.C_drew ?_)));(case side4 => exact HC1_5.out);rintro e w23 ⟨rfl,hb⟩;have n0_:=Aside0.mk (blk_below (g:=gb296) (o:=.cells #[.int .u16 a0_0,.int .u16 a0_1,.slice A0_2 l0_2.length c0_2,.slice A0_3 l0_3.length c0_3,.slice A0_4 l0_4.length c0_4,.slice A0_5 l0_5.length c0_5] 26 (0,0)) (by (with_reducible repeat first|apply qqa|apply qqb|apply qqc);exact BK296.out) hb);have n1_:=Aside0.mk (blk_below (g:=gb297) (o:=.cells #[.int .u16 a1_0,.int .u16 a1_1,.slice A1_2 l1_2.length c1_2,.slice A1_3 l1_3.length c1_3,.slice A1_4 l1_4.length c1_4,.slice A1_5 l1_5.length c1_5] 26 (0,0)) (by (with_reducible repeat first|apply qqa|apply qqb|apply qqc);exact BK297.out) hb);have n2_:=Aside0.mk (below_step (by repeat (first|(with_reducible first|exact HB.out|apply qqf|apply qqd|apply qqe|refine qqg ?_ GE296.out|refine qqg ?_ GE297.out)|exact HB.out)) hb);clear BK296;clear BK297;clear HB;have BK296:=n0_;have BK297:=n1_;have HB:=n2_;clear n0_ n1_ n2_;(try clear hb);(try clear hb2);(try clear hk);(try clear hi))))
       go_meet
       case rel => exact ⟨_,(!t300),(by first|rfl|(simp;done)|(simp [*];done)),H',⟨by first|omega|exact Nat.le_refl _⟩,⟨by (with_reducible repeat first|apply qqa|apply qqb|apply qqc);exact BK296.out⟩,⟨by (with_reducible repeat first|apply qqa|apply qqb|apply qqc);exact BK297.out⟩,⟨by repeat (first|(with_reducible first|exact HB.out|apply qqf|apply qqd|apply qqe|refine qqg ?_ GE296.out|refine qqg ?_ GE297.out)|exact HB.out)⟩⟩
      ·
       replace c12:=Bool.eq_false_iff.mpr c12
       subst c12
       have H1 : (nuncioref06_Same.j0 k true a0_0 a0_1 l0_2 l0_3 l0_4 l0_5 a1_0 a1_1 l1_2 l1_3 l1_4 l1_5) = some r:=by rw [if_neg (show ¬ (false = true) by decide)] at H;exact H
       clear H
       have H:=H1
       clear H1
       have H':=Aside0.mk H
       clear H
       have hnb24:=NB296_297.out
       have hnc24:=NB297_296.out
       have hcz25_0 : w5.cell? ⟨gb296,0,none⟩ = some (.int .u16 a0_0):=(qqh BK296.out 0).trans rfl
       have hcz25_1 : w5.cell? ⟨gb296,1,none⟩ = some (.int .u16 a0_1):=(qqh BK296.out 1).trans rfl
       have hcz25_2 : w5.cell? ⟨gb296,2,none⟩ = some (.slice A0_2 l0_2.length c0_2):=(qqh BK296.out 2).trans rfl
       have hcz25_3 : w5.cell? ⟨gb296,3,none⟩ = some (.slice A0_3 l0_3.length c0_3):=(qqh BK296.out 3).trans rfl
       have hcz25_4 : w5.cell? ⟨gb296,4,none⟩ = some (.slice A0_4 l0_4.length c0_4):=(qqh BK296.out 4).trans rfl
       have hcz25_5 : w5.cell? ⟨gb296,5,none⟩ = some (.slice A0_5 l0_5.length c0_5):=(qqh BK296.out 5).trans rfl
       have hfz25_0:=qqi BK296.out 0
       have hfz25_1:=qqi BK296.out 1
       have hfz25_2:=qqi BK296.out 2
       have hfz25_3:=qqi BK296.out 3
       have hfz25_4:=qqi BK296.out 4
       have hfz25_5:=qqi BK296.out 5
       have hcz26_0 : w5.cell? ⟨gb297,0,none⟩ = some (.int .u16 a1_0):=(qqh BK297.out 0).trans rfl
       have hcz26_1 : w5.cell? ⟨gb297,1,none⟩ = some (.int .u16 a1_1):=(qqh BK297.out 1).trans rfl
       have hcz26_2 : w5.cell? ⟨gb297,2,none⟩ = some (.slice A1_2 l1_2.length c1_2):=(qqh BK297.out 2).trans rfl
       have hcz26_3 : w5.cell? ⟨gb297,3,none⟩ = some (.slice A1_3 l1_3.length c1_3):=(qqh BK297.out 3).trans rfl
       have hcz26_4 : w5.cell? ⟨gb297,4,none⟩ = some (.slice A1_4 l1_4.length c1_4):=(qqh BK297.out 4).trans rfl
       have hcz26_5 : w5.cell? ⟨gb297,5,none⟩ = some (.slice A1_5 l1_5.length c1_5):=(qqh BK297.out 5).trans rfl
       have hfz26_0:=qqi BK297.out 0
       have hfz26_1:=qqi BK297.out 1
       have hfz26_2:=qqi BK297.out 2
       have hfz26_3:=qqi BK297.out 3
       have hfz26_4:=qqi BK297.out 4
       have hfz26_5:=qqi BK297.out 5
       go_wp2_with (first|(go_at_call 39;(with_reducible refine (nuncioref06_records.calls k _ _ l0_3 _ _ l1_3 true _ ?side1 ?side2 ?side3 ?side4 A9.out).mono ?_);(case side1 => repeat (first|exact (Kd.C_below HR0_3.out HB.out)|(with_reducible refine Kd.C_alloc ?_ _)|(with_reducible refine Kd.C_drewN ?_ _)|(with_reducible refine Kd.C_drew ?_)));(case side2 => exact HC0_3.out);(case side3 => repeat (first|exact (Kd.C_below HR1_3.out HB.out)|(with_reducible refine Kd.C_alloc ?_ _)|(with_reducible refine Kd.C_drewN ?_ _)|(with_reducible refine Kd.C_drew ?_)));(case side4 => exact HC1_3.out);rintro e w27 ⟨rfl,hb⟩;have n0_:=Aside0.mk (blk_below (g:=gb296) (o:=.cells #[.int .u16 a0_0,.int .u16 a0_1,.slice A0_2 l0_2.length c0_2,.slice A0_3 l0_3.length c0_3,.slice A0_4 l0_4.length c0_4,.slice A0_5 l0_5.length c0_5] 26 (0,0)) (by (with_reducible repeat first|apply qqa|apply qqb|apply qqc);exact BK296.out) hb);have n1_:=Aside0.mk (blk_below (g:=gb297) (o:=.cells #[.int .u16 a1_0,.int .u16 a1_1,.slice A1_2 l1_2.length c1_2,.slice A1_3 l1_3.length c1_3,.slice A1_4 l1_4.length c1_4,.slice A1_5 l1_5.length c1_5] 26 (0,0)) (by (with_reducible repeat first|apply qqa|apply qqb|apply qqc);exact BK297.out) hb);have n2_:=Aside0.mk (below_step (by repeat (first|(with_reducible first|exact HB.out|apply qqf|apply qqd|apply qqe|refine qqg ?_ GE296.out|refine qqg ?_ GE297.out)|exact HB.out)) hb);clear BK296;clear BK297;clear HB;have BK296:=n0_;have BK297:=n1_;have HB:=n2_;clear n0_ n1_ n2_;(try clear hb);(try clear hb2);(try clear hk);(try clear hi);have hcz28_0 : w27.cell? ⟨gb296,0,none⟩ = some (.int .u16 a0_0):=(qqh BK296.out 0).trans rfl;have hcz28_1 : w27.cell? ⟨gb296,1,none⟩ = some (.int .u16 a0_1):=(qqh BK296.out 1).trans rfl;have hcz28_2 : w27.cell? ⟨gb296,2,none⟩ = some (.slice A0_2 l0_2.length c0_2):=(qqh BK296.out 2).trans rfl;have hcz28_3 : w27.cell? ⟨gb296,3,none⟩ = some (.slice A0_3 l0_3.length c0_3):=(qqh BK296.out 3).trans rfl;have hcz28_4 : w27.cell? ⟨gb296,4,none⟩ = some (.slice A0_4 l0_4.length c0_4):=(qqh BK296.out 4).trans rfl;have hcz28_5 : w27.cell? ⟨gb296,5,none⟩ = some (.slice A0_5 l0_5.length c0_5):=(qqh BK296.out 5).trans rfl;have hfz28_0:=qqi BK296.out 0;have hfz28_1:=qqi BK296.out 1;have hfz28_2:=qqi BK296.out 2;have hfz28_3:=qqi BK296.out 3;have hfz28_4:=qqi BK296.out 4;have hfz28_5:=qqi BK296.out 5;have hcz29_0 : w27.cell? ⟨gb297,0,none⟩ = some (.int .u16 a1_0):=(qqh BK297.out 0).trans rfl;have hcz29_1 : w27.cell? ⟨gb297,1,none⟩ = some (.int .u16 a1_1):=(qqh BK297.out 1).trans rfl;have hcz29_2 : w27.cell? ⟨gb297,2,none⟩ = some (.slice A1_2 l1_2.length c1_2):=(qqh BK297.out 2).trans rfl;have hcz29_3 : w27.cell? ⟨gb297,3,none⟩ = some (.slice A1_3 l1_3.length c1_3):=(qqh BK297.out 3).trans rfl;have hcz29_4 : w27.cell? ⟨gb297,4,none⟩ = some (.slice A1_4 l1_4.length c1_4):=(qqh BK297.out 4).trans rfl;have hcz29_5 : w27.cell? ⟨gb297,5,none⟩ = some (.slice A1_5 l1_5.length c1_5):=(qqh BK297.out 5).trans rfl;have hfz29_0:=qqi BK297.out 0;have hfz29_1:=qqi BK297.out 1;have hfz29_2:=qqi BK297.out 2;have hfz29_3:=qqi BK297.out 3;have hfz29_4:=qqi BK297.out 4;have hfz29_5:=qqi BK297.out 5)|(go_at_call 39;(with_reducible refine (nuncioref06_records.calls k _ _ l0_4 _ _ l1_4 false _ ?side1 ?side2 ?side3 ?side4 A11.out).mono ?_);(case side1 => repeat (first|exact (Kd.C_below HR0_4.out HB.out)|(with_reducible refine Kd.C_alloc ?_ _)|(with_reducible refine Kd.C_drewN ?_ _)|(with_reducible refine Kd.C_drew ?_)));(case side2 => exact HC0_4.out);(case side3 => repeat (first|exact (Kd.C_below HR1_4.out HB.out)|(with_reducible refine Kd.C_alloc ?_ _)|(with_reducible refine Kd.C_drewN ?_ _)|(with_reducible refine Kd.C_drew ?_)));(case side4 => exact HC1_4.out);rintro e w30 ⟨rfl,hb⟩;have n0_:=Aside0.mk (blk_below (g:=gb296) (o:=.cells #[.int .u16 a0_0,.int .u16 a0_1,.slice A0_2 l0_2.length c0_2,.slice A0_3 l0_3.length c0_3,.slice A0_4 l0_4.length c0_4,.slice A0_5 l0_5.length c0_5] 26 (0,0)) (by (with_reducible repeat first|apply qqa|apply qqb|apply qqc);exact BK296.out) hb);have n1_:=Aside0.mk (blk_below (g:=gb297) (o:=.cells #[.int .u16 a1_0,.int .u16 a1_1,.slice A1_2 l1_2.length c1_2,.slice A1_3 l1_3.length c1_3,.slice A1_4 l1_4.length c1_4,.slice A1_5 l1_5.length c1_5] 26 (0,0)) (by (with_reducible repeat first|apply qqa|apply qqb|apply qqc);exact BK297.out) hb);have n2_:=Aside0.mk (below_step (by repeat (first|(with_reducible first|exact HB.out|apply qqf|apply qqd|apply qqe|refine qqg ?_ GE296.out|refine qqg ?_ GE297.out)|exact HB.out)) hb);clear BK296;clear BK297;clear HB;have BK296:=n0_;have BK297:=n1_;have HB:=n2_;clear n0_ n1_ n2_;(try clear hb);(try clear hb2);(try clear hk);(try clear hi)))
       repeat (go_quiet (first|(go_at_call 39;(with_reducible refine (nuncioref06_records.calls k _ _ l0_3 _ _ l1_3 true _ ?side1 ?side2 ?side3 ?side4 A9.out).mono ?_);(case side1 => repeat (first|exact (Kd.C_below HR0_3.out HB.out)|(with_reducible refine Kd.C_alloc ?_ _)|(with_reducible refine Kd.C_drewN ?_ _)|(with_reducible refine Kd.C_drew ?_)));(case side2 => exact HC0_3.out);(case side3 => repeat (first|exact (Kd.C_below HR1_3.out HB.out)|(with_reducible refine Kd.C_alloc ?_ _)|(with_reducible refine Kd.C_drewN ?_ _)|(with_reducible refine Kd.C_drew ?_)));(case side4 => exact HC1_3.out);rintro e w27 ⟨rfl,hb⟩;have n0_:=Aside0.mk (blk_below (g:=gb296) (o:=.cells #[.int .u16 a0_0,.int .u16 a0_1,.slice A0_2 l0_2.length c0_2,.slice A0_3 l0_3.length c0_3,.slice A0_4 l0_4.length c0_4,.slice A0_5 l0_5.length c0_5] 26 (0,0)) (by (with_reducible repeat first|apply qqa|apply qqb|apply qqc);exact BK296.out) hb);have n1_:=Aside0.mk (blk_below (g:=gb297) (o:=.cells #[.int .u16 a1_0,.int .u16 a1_1,.slice A1_2 l1_2.length c1_2,.slice A1_3 l1_3.length c1_3,.slice A1_4 l1_4.length c1_4,.slice A1_5 l1_5.length c1_5] 26 (0,0)) (by (with_reducible repeat first|apply qqa|apply qqb|apply qqc);exact BK297.out) hb);have n2_:=Aside0.mk (below_step (by repeat (first|(with_reducible first|exact HB.out|apply qqf|apply qqd|apply qqe|refine qqg ?_ GE296.out|refine qqg ?_ GE297.out)|exact HB.out)) hb);clear BK296;clear BK297;clear HB;have BK296:=n0_;have BK297:=n1_;have HB:=n2_;clear n0_ n1_ n2_;(try clear hb);(try clear hb2);(try clear hk);(try clear hi);have hcz28_0 : w27.cell? ⟨gb296,0,none⟩ = some (.int .u16 a0_0):=(qqh BK296.out 0).trans rfl;have hcz28_1 : w27.cell? ⟨gb296,1,none⟩ = some (.int .u16 a0_1):=(qqh BK296.out 1).trans rfl;have hcz28_2 : w27.cell? ⟨gb296,2,none⟩ = some (.slice A0_2 l0_2.length c0_2):=(qqh BK296.out 2).trans rfl;have hcz28_3 : w27.cell? ⟨gb296,3,none⟩ = some (.slice A0_3 l0_3.length c0_3):=(qqh BK296.out 3).trans rfl;have hcz28_4 : w27.cell? ⟨gb296,4,none⟩ = some (.slice A0_4 l0_4.length c0_4):=(qqh BK296.out 4).trans rfl;have hcz28_5 : w27.cell? ⟨gb296,5,none⟩ = some (.slice A0_5 l0_5.length c0_5):=(qqh BK296.out 5).trans rfl;have hfz28_0:=qqi BK296.out 0;have hfz28_1:=qqi BK296.out 1;have hfz28_2:=qqi BK296.out 2;have hfz28_3:=qqi BK296.out 3;have hfz28_4:=qqi BK296.out 4;have hfz28_5:=qqi BK296.out 5;have hcz29_0 : w27.cell? ⟨gb297,0,none⟩ = some (.int .u16 a1_0):=(qqh BK297.out 0).trans rfl;have hcz29_1 : w27.cell? ⟨gb297,1,none⟩ = some (.int .u16 a1_1):=(qqh BK297.out 1).trans rfl;have hcz29_2 : w27.cell? ⟨gb297,2,none⟩ = some (.slice A1_2 l1_2.length c1_2):=(qqh BK297.out 2).trans rfl;have hcz29_3 : w27.cell? ⟨gb297,3,none⟩ = some (.slice A1_3 l1_3.length c1_3):=(qqh BK297.out 3).trans rfl;have hcz29_4 : w27.cell? ⟨gb297,4,none⟩ = some (.slice A1_4 l1_4.length c1_4):=(qqh BK297.out 4).trans rfl;have hcz29_5 : w27.cell? ⟨gb297,5,none⟩ = some (.slice A1_5 l1_5.length c1_5):=(qqh BK297.out 5).trans rfl;have hfz29_0:=qqi BK297.out 0;have hfz29_1:=qqi BK297.out 1;have hfz29_2:=qqi BK297.out 2;have hfz29_3:=qqi BK297.out 3;have hfz29_4:=qqi BK297.out 4;have hfz29_5:=qqi BK297.out 5)|(go_at_call 39;(with_reducible refine (nuncioref06_records.calls k _ _ l0_4 _ _ l1_4 false _ ?side1 ?side2 ?side3 ?side4 A11.out).mono ?_);(case side1 => repeat (first|exact (Kd.C_below HR0_4.out HB.out)|(with_reducible refine Kd.C_alloc ?_ _)|(with_reducible refine Kd.C_drewN ?_ _)|(with_reducible refine Kd.C_drew ?_)));(case side2 => exact HC0_4.out);(case side3 => repeat (first|exact (Kd.C_below HR1_4.out HB.out)|(with_reducible refine Kd.C_alloc ?_ _)|(with_reducible refine Kd.C_drewN ?_ _)|(with_reducible refine Kd.C_drew ?_)));(case side4 => exact HC1_4.out);rintro e w30 ⟨rfl,hb⟩;have n0_:=Aside0.mk (blk_below (g:=gb296) (o:=.cells #[.int .u16 a0_0,.int .u16 a0_1,.slice A0_2 l0_2.length c0_2,.slice A0_3 l0_3.length c0_3,.slice A0_4 l0_4.length c0_4,.slice A0_5 l0_5.length c0_5] 26 (0,0)) (by (with_reducible repeat first|apply qqa|apply qqb|apply qqc);exact BK296.out) hb);have n1_:=Aside0.mk (blk_below (g:=gb297) (o:=.cells #[.int .u16 a1_0,.int .u16 a1_1,.slice A1_2 l1_2.length c1_2,.slice A1_3 l1_3.length c1_3,.slice A1_4 l1_4.length c1_4,.slice A1_5 l1_5.length c1_5] 26 (0,0)) (by (with_reducible repeat first|apply qqa|apply qqb|apply qqc);exact BK297.out) hb);have n2_:=Aside0.mk (below_step (by repeat (first|(with_reducible first|exact HB.out|apply qqf|apply qqd|apply qqe|refine qqg ?_ GE296.out|refine qqg ?_ GE297.out)|exact HB.out)) hb);clear BK296;clear BK297;clear HB;have BK296:=n0_;have BK297:=n1_;have HB:=n2_;clear n0_ n1_ n2_;(try clear hb);(try clear hb2);(try clear hk);(try clear hi)));try go_wp2_with (first|(go_at_call 39;(with_reducible refine (nuncioref06_records.calls k _ _ l0_3 _ _ l1_3 true _ ?side1 ?side2 ?side3 ?side4 A9.out).mono ?_);(case side1 => repeat (first|exact (Kd.C_below HR0_3.out HB.out)|(with_reducible refine Kd.C_alloc ?_ _)|(with_reducible refine Kd.C_drewN ?_ _)|(with_reducible refine Kd.C_drew ?_)));(case side2 => exact HC0_3.out);(case side3 => repeat (first|exact (Kd.C_below HR1_3.out HB.out)|(with_reducible refine Kd.C_alloc ?_ _)|(with_reducible refine Kd.C_drewN ?_ _)|(with_reducible refine Kd.C_drew ?_)));(case side4 => exact HC1_3.out);rintro e w27 ⟨rfl,hb⟩;have n0_:=Aside0.mk (blk_below (g:=gb296) (o:=.cells #[.int .u16 a0_0,.int .u16 a0_1,.slice A0_2 l0_2.length c0_2,.slice A0_3 l0_3.length c0_3,.slice A0_4 l0_4.length c0_4,.slice A0_5 l0_5.length c0_5] 26 (0,0)) (by (with_reducible repeat first|apply qqa|apply qqb|apply qqc);exact BK296.out) hb);have n1_:=Aside0.mk (blk_below (g:=gb297) (o:=.cells #[.int .u16 a1_0,.int .u16 a1_1,.slice A1_2 l1_2.length c1_2,.slice A1_3 l1_3.length c1_3,.slice A1_4 l1_4.length c1_4,.slice A1_5 l1_5.length c1_5] 26 (0,0)) (by (with_reducible repeat first|apply qqa|apply qqb|apply qqc);exact BK297.out) hb);have n2_:=Aside0.mk (below_step (by repeat (first|(with_reducible first|exact HB.out|apply qqf|apply qqd|apply qqe|refine qqg ?_ GE296.out|refine qqg ?_ GE297.out)|exact HB.out)) hb);clear BK296;clear BK297;clear HB;have BK296:=n0_;have BK297:=n1_;have HB:=n2_;clear n0_ n1_ n2_;(try clear hb);(try clear hb2);(try clear hk);(try clear hi);have hcz28_0 : w27.cell? ⟨gb296,0,none⟩ = some (.int .u16 a0_0):=(qqh BK296.out 0).trans rfl;have hcz28_1 : w27.cell? ⟨gb296,1,none⟩ = some (.int .u16 a0_1):=(qqh BK296.out 1).trans rfl;have hcz28_2 : w27.cell? ⟨gb296,2,none⟩ = some (.slice A0_2 l0_2.length c0_2):=(qqh BK296.out 2).trans rfl;have hcz28_3 : w27.cell? ⟨gb296,3,none⟩ = some (.slice A0_3 l0_3.length c0_3):=(qqh BK296.out 3).trans rfl;have hcz28_4 : w27.cell? ⟨gb296,4,none⟩ = some (.slice A0_4 l0_4.length c0_4):=(qqh BK296.out 4).trans rfl;have hcz28_5 : w27.cell? ⟨gb296,5,none⟩ = some (.slice A0_5 l0_5.length c0_5):=(qqh BK296.out 5).trans rfl;have hfz28_0:=qqi BK296.out 0;have hfz28_1:=qqi BK296.out 1;have hfz28_2:=qqi BK296.out 2;have hfz28_3:=qqi BK296.out 3;have hfz28_4:=qqi BK296.out 4;have hfz28_5:=qqi BK296.out 5;have hcz29_0 : w27.cell? ⟨gb297,0,none⟩ = some (.int .u16 a1_0):=(qqh BK297.out 0).trans rfl;have hcz29_1 : w27.cell? ⟨gb297,1,none⟩ = some (.int .u16 a1_1):=(qqh BK297.out 1).trans rfl;have hcz29_2 : w27.cell? ⟨gb297,2,none⟩ = some (.slice A1_2 l1_2.length c1_2):=(qqh BK297.out 2).trans rfl;have hcz29_3 : w27.cell? ⟨gb297,3,none⟩ = some (.slice A1_3 l1_3.length c1_3):=(qqh BK297.out 3).trans rfl;have hcz29_4 : w27.cell? ⟨gb297,4,none⟩ = some (.slice A1_4 l1_4.length c1_4):=(qqh BK297.out 4).trans rfl;have hcz29_5 : w27.cell? ⟨gb297,5,none⟩ = some (.slice A1_5 l1_5.length c1_5):=(qqh BK297.out 5).trans rfl;have hfz29_0:=qqi BK297.out 0;have hfz29_1:=qqi BK297.out 1;have hfz29_2:=qqi BK297.out 2;have hfz29_3:=qqi BK297.out 3;have hfz29_4:=qqi BK297.out 4;have hfz29_5:=qqi BK297.out 5)|(go_at_call 39;(with_reducible refine (nuncioref06_records.calls k _ _ l0_4 _ _ l1_4 false _ ?side1 ?side2 ?side3 ?side4 A11.out).mono ?_);(case side1 => repeat (first|exact (Kd.C_below HR0_4.out HB.out)|(with_reducible refine Kd.C_alloc ?_ _)|(with_reducible refine Kd.C_drewN ?_ _)|(with_reducible refine Kd.C_drew ?_)));(case side2 => exact HC0_4.out);(case side3 => repeat (first|exact (Kd.C_below HR1_4.out HB.out)|(with_reducible refine Kd.C_alloc ?_ _)|(with_reducible refine Kd.C_drewN ?_ _)|(with_reducible refine Kd.C_drew ?_)));(case side4 => exact HC1_4.out);rintro e w30 ⟨rfl,hb⟩;have n0_:=Aside0.mk (blk_below (g:=gb296) (o:=.cells #[.int .u16 a0_0,.int .u16 a0_1,.slice A0_2 l0_2.length c0_2,.slice A0_3 l0_3.length c0_3,.slice A0_4 l0_4.length c0_4,.slice A0_5 l0_5.length c0_5] 26 (0,0)) (by (with_reducible repeat first|apply qqa|apply qqb|apply qqc);exact BK296.out) hb);have n1_:=Aside0.mk (blk_below (g:=gb297) (o:=.cells #[.int .u16 a1_0,.int .u16 a1_1,.slice A1_2 l1_2.length c1_2,.slice A1_3 l1_3.length c1_3,.slice A1_4 l1_4.length c1_4,.slice A1_5 l1_5.length c1_5] 26 (0,0)) (by (with_reducible repeat first|apply qqa|apply qqb|apply qqc);exact BK297.out) hb);have n2_:=Aside0.mk (below_step (by repeat (first|(with_reducible first|exact HB.out|apply qqf|apply qqd|apply qqe|refine qqg ?_ GE296.out|refine qqg ?_ GE297.out)|exact HB.out)) hb);clear BK296;clear BK297;clear HB;have BK296:=n0_;have BK297:=n1_;have HB:=n2_;clear n0_ n1_ n2_;(try clear hb);(try clear hb2);(try clear hk);(try clear hi))))
       go_meet
       case rel => exact ⟨_,(true),(by first|rfl|(simp;done)|(simp [*];done)),H',⟨by first|omega|exact Nat.le_refl _⟩,⟨by (with_reducible repeat first|apply qqa|apply qqb|apply qqc);exact BK296.out⟩,⟨by (with_reducible repeat first|apply qqa|apply qqb|apply qqc);exact BK297.out⟩,⟨by repeat (first|(with_reducible first|exact HB.out|apply qqf|apply qqd|apply qqe|refine qqg ?_ GE296.out|refine qqg ?_ GE297.out)|exact HB.out)⟩⟩
     ·
      replace c10:=Bool.eq_false_iff.mpr c10
      subst c10
      have H1 : (nuncioref06_Same.j0 k true a0_0 a0_1 l0_2 l0_3 l0_4 l0_5 a1_0 a1_1 l1_2 l1_3 l1_4 l1_5) = some r:=by rw [if_neg (show ¬ (false = true) by decide)] at H;exact H
      clear H
      have H:=H1
      clear H1
      have H':=Aside0.mk H
      clear H
      have hnb31:=NB296_297.out
      have hnc31:=NB297_296.out
      have hcz32_0 : w5.cell? ⟨gb296,0,none⟩ = some (.int .u16 a0_0):=(qqh BK296.out 0).trans rfl
      have hcz32_1 : w5.cell? ⟨gb296,1,none⟩ = some (.int .u16 a0_1):=(qqh BK296.out 1).trans rfl
      have hcz32_2 : w5.cell? ⟨gb296,2,none⟩ = some (.slice A0_2 l0_2.length c0_2):=(qqh BK296.out 2).trans rfl
      have hcz32_3 : w5.cell? ⟨gb296,3,none⟩ = some (.slice A0_3 l0_3.length c0_3):=(qqh BK296.out 3).trans rfl
      have hcz32_4 : w5.cell? ⟨gb296,4,none⟩ = some (.slice A0_4 l0_4.length c0_4):=(qqh BK296.out 4).trans rfl
      have hcz32_5 : w5.cell? ⟨gb296,5,none⟩ = some (.slice A0_5 l0_5.length c0_5):=(qqh BK296.out 5).trans rfl
      have hfz32_0:=qqi BK296.out 0
      have hfz32_1:=qqi BK296.out 1
      have hfz32_2:=qqi BK296.out 2
      have hfz32_3:=qqi BK296.out 3
      have hfz32_4:=qqi BK296.out 4
      have hfz32_5:=qqi BK296.out 5
      have hcz33_0 : w5.cell? ⟨gb297,0,none⟩ = some (.int .u16 a1_0):=(qqh BK297.out 0).trans rfl
      have hcz33_1 : w5.cell? ⟨gb297,1,none⟩ = some (.int .u16 a1_1):=(qqh BK297.out 1).trans rfl
      have hcz33_2 : w5.cell? ⟨gb297,2,none⟩ = some (.slice A1_2 l1_2.length c1_2):=(qqh BK297.out 2).trans rfl
      have hcz33_3 : w5.cell? ⟨gb297,3,none⟩ = some (.slice A1_3 l1_3.length c1_3):=(qqh BK297.out 3).trans rfl
      have hcz33_4 : w5.cell? ⟨gb297,4,none⟩ = some (.slice A1_4 l1_4.length c1_4):=(qqh BK297.out 4).trans rfl
      have hcz33_5 : w5.cell? ⟨gb297,5,none⟩ = some (.slice A1_5 l1_5.length c1_5):=(qqh BK297.out 5).trans rfl
      have hfz33_0:=qqi BK297.out 0
      have hfz33_1:=qqi BK297.out 1
      have hfz33_2:=qqi BK297.out 2
      have hfz33_3:=qqi BK297.out 3
      have hfz33_4:=qqi BK297.out 4
      have hfz33_5:=qqi BK297.out 5
      go_wp2_with (first|(go_at_call 39;(with_reducible refine (nuncioref06_records.calls k _ _ l0_3 _ _ l1_3 false _ ?side1 ?side2 ?side3 ?side4 A9.out).mono ?_);(case side1 => repeat (first|exact (Kd.C_below HR0_3.out HB.out)|(with_reducible refine Kd.C_alloc ?_ _)|(with_reducible refine Kd.C_drewN ?_ _)|(with_reducible refine Kd.C_drew ?_)));(case side2 => exact HC0_3.out);(case side3 => repeat (first|exact (Kd.C_below HR1_3.out HB.out)|(with_reducible refine Kd.C_alloc ?_ _)|(with_reducible refine Kd.C_drewN ?_ _)|(with_reducible refine Kd.C_drew ?_)));(case side4 => exact HC1_3.out);rintro e w34 ⟨rfl,hb⟩;have n0_:=Aside0.mk (blk_below (g:=gb296) (o:=.cells #[.int .u16 a0_0,.int .u16 a0_1,.slice A0_2 l0_2.length c0_2,.slice A0_3 l0_3.length c0_3,.slice A0_4 l0_4.length c0_4,.slice A0_5 l0_5.length c0_5] 26 (0,0)) (by (with_reducible repeat first|apply qqa|apply qqb|apply qqc);exact BK296.out) hb);have n1_:=Aside0.mk (blk_below (g:=gb297) (o:=.cells #[.int .u16 a1_0,.int .u16 a1_1,.slice A1_2 l1_2.length c1_2,.slice A1_3 l1_3.length c1_3,.slice A1_4 l1_4.length c1_4,.slice A1_5 l1_5.length c1_5] 26 (0,0)) (by (with_reducible repeat first|apply qqa|apply qqb|apply qqc);exact BK297.out) hb);have n2_:=Aside0.mk (below_step (by repeat (first|(with_reducible first|exact HB.out|apply qqf|apply qqd|apply qqe|refine qqg ?_ GE296.out|refine qqg ?_ GE297.out)|exact HB.out)) hb);clear BK296;clear BK297;clear HB;have BK296:=n0_;have BK297:=n1_;have HB:=n2_;clear n0_ n1_ n2_;(try clear hb);(try clear hb2);(try clear hk);(try clear hi)))
      repeat (go_quiet (first|(go_at_call 39;(with_reducible refine (nuncioref06_records.calls k _ _ l0_3 _ _ l1_3 false _ ?side1 ?side2 ?side3 ?side4 A9.out).mono ?_);(case side1 => repeat (first|exact (Kd.C_below HR0_3.out HB.out)|(with_reducible refine Kd.C_alloc ?_ _)|(with_reducible refine Kd.C_drewN ?_ _)|(with_reducible refine Kd.C_drew ?_)));(case side2 => exact HC0_3.out);(case side3 => repeat (first|exact (Kd.C_below HR1_3.out HB.out)|(with_reducible refine Kd.C_alloc ?_ _)|(with_reducible refine Kd.C_drewN ?_ _)|(with_reducible refine Kd.C_drew ?_)));(case side4 => exact HC1_3.out);rintro e w34 ⟨rfl,hb⟩;have n0_:=Aside0.mk (blk_below (g:=gb296) (o:=.cells #[.int .u16 a0_0,.int .u16 a0_1,.slice A0_2 l0_2.length c0_2,.slice A0_3 l0_3.length c0_3,.slice A0_4 l0_4.length c0_4,.slice A0_5 l0_5.length c0_5] 26 (0,0)) (by (with_reducible repeat first|apply qqa|apply qqb|apply qqc);exact BK296.out) hb);have n1_:=Aside0.mk (blk_below (g:=gb297) (o:=.cells #[.int .u16 a1_0,.int .u16 a1_1,.slice A1_2 l1_2.length c1_2,.slice A1_3 l1_3.length c1_3,.slice A1_4 l1_4.length c1_4,.slice A1_5 l1_5.length c1_5] 26 (0,0)) (by (with_reducible repeat first|apply qqa|apply qqb|apply qqc);exact BK297.out) hb);have n2_:=Aside0.mk (below_step (by repeat (first|(with_reducible first|exact HB.out|apply qqf|apply qqd|apply qqe|refine qqg ?_ GE296.out|refine qqg ?_ GE297.out)|exact HB.out)) hb);clear BK296;clear BK297;clear HB;have BK296:=n0_;have BK297:=n1_;have HB:=n2_;clear n0_ n1_ n2_;(try clear hb);(try clear hb2);(try clear hk);(try clear hi)));try go_wp2_with (first|(go_at_call 39;(with_reducible refine (nuncioref06_records.calls k _ _ l0_3 _ _ l1_3 false _ ?side1 ?side2 ?side3 ?side4 A9.out).mono ?_);(case side1 => repeat (first|exact (Kd.C_below HR0_3.out HB.out)|(with_reducible refine Kd.C_alloc ?_ _)|(with_reducible refine Kd.C_drewN ?_ _)|(with_reducible refine Kd.C_drew ?_)));(case side2 => exact HC0_3.out);(case side3 => repeat (first|exact (Kd.C_below HR1_3.out HB.out)|(with_reducible refine Kd.C_alloc ?_ _)|(with_reducible refine Kd.C_drewN ?_ _)|(with_reducible refine Kd.C_drew ?_)));(case side4 => exact HC1_3.out);rintro e w34 ⟨rfl,hb⟩;have n0_:=Aside0.mk (blk_below (g:=gb296) (o:=.cells #[.int .u16 a0_0,.int .u16 a0_1,.slice A0_2 l0_2.length c0_2,.slice A0_3 l0_3.length c0_3,.slice A0_4 l0_4.length c0_4,.slice A0_5 l0_5.length c0_5] 26 (0,0)) (by (with_reducible repeat first|apply qqa|apply qqb|apply qqc);exact BK296.out) hb);have n1_:=Aside0.mk (blk_below (g:=gb297) (o:=.cells #[.int .u16 a1_0,.int .u16 a1_1,.slice A1_2 l1_2.length c1_2,.slice A1_3 l1_3.length c1_3,.slice A1_4 l1_4.length c1_4,.slice A1_5 l1_5.length c1_5] 26 (0,0)) (by (with_reducible repeat first|apply qqa|apply qqb|apply qqc);exact BK297.out) hb);have n2_:=Aside0.mk (below_step (by repeat (first|(with_reducible first|exact HB.out|apply qqf|apply qqd|apply qqe|refine qqg ?_ GE296.out|refine qqg ?_ GE297.out)|exact HB.out)) hb);clear BK296;clear BK297;clear HB;have BK296:=n0_;have BK297:=n1_;have HB:=n2_;clear n0_ n1_ n2_;(try clear hb);(try clear hb2);(try clear hk);(try clear hi))))
      go_meet
      case rel => exact ⟨_,(true),(by first|rfl|(simp;done)|(simp [*];done)),H',⟨by first|omega|exact Nat.le_refl _⟩,⟨by (with_reducible repeat first|apply qqa|apply qqb|apply qqc);exact BK296.out⟩,⟨by (with_reducible repeat first|apply qqa|apply qqb|apply qqc);exact BK297.out⟩,⟨by repeat (first|(with_reducible first|exact HB.out|apply qqf|apply qqd|apply qqe|refine qqg ?_ GE296.out|refine qqg ?_ GE297.out)|exact HB.out)⟩⟩
    ·
     rw [if_neg c8] at H
     have c8b0 : ((l0_2.length : Int) == (l1_2.length : Int)) = false:=beq_eq_false_iff_ne.mpr c8
     have c8b1 : ((l0_2.length : Int) != (l1_2.length : Int)) = true:=bne_iff_ne.mpr c8
     have c8b2 : (l0_2.length == l1_2.length) = false:=by first|simpa using c8|(simp at c8 ⊢;omega)
     have H':=Aside0.mk H
     clear H
     have hnb35:=NB296_297.out
     have hnc35:=NB297_296.out
     have hcz36_0 : w5.cell? ⟨gb296,0,none⟩ = some (.int .u16 a0_0):=(qqh BK296.out 0).trans rfl
     have hcz36_1 : w5.cell? ⟨gb296,1,none⟩ = some (.int .u16 a0_1):=(qqh BK296.out 1).trans rfl
     have hcz36_2 : w5.cell? ⟨gb296,2,none⟩ = some (.slice A0_2 l0_2.length c0_2):=(qqh BK296.out 2).trans rfl
     have hcz36_3 : w5.cell? ⟨gb296,3,none⟩ = some (.slice A0_3 l0_3.length c0_3):=(qqh BK296.out 3).trans rfl
     have hcz36_4 : w5.cell? ⟨gb296,4,none⟩ = some (.slice A0_4 l0_4.length c0_4):=(qqh BK296.out 4).trans rfl
     have hcz36_5 : w5.cell? ⟨gb296,5,none⟩ = some (.slice A0_5 l0_5.length c0_5):=(qqh BK296.out 5).trans rfl
     have hfz36_0:=qqi BK296.out 0
     have hfz36_1:=qqi BK296.out 1
     have hfz36_2:=qqi BK296.out 2
     have hfz36_3:=qqi BK296.out 3
     have hfz36_4:=qqi BK296.out 4
     have hfz36_5:=qqi BK296.out 5
     have hcz37_0 : w5.cell? ⟨gb297,0,none⟩ = some (.int .u16 a1_0):=(qqh BK297.out 0).trans rfl
     have hcz37_1 : w5.cell? ⟨gb297,1,none⟩ = some (.int .u16 a1_1):=(qqh BK297.out 1).trans rfl
     have hcz37_2 : w5.cell? ⟨gb297,2,none⟩ = some (.slice A1_2 l1_2.length c1_2):=(qqh BK297.out 2).trans rfl
     have hcz37_3 : w5.cell? ⟨gb297,3,none⟩ = some (.slice A1_3 l1_3.length c1_3):=(qqh BK297.out 3).trans rfl
     have hcz37_4 : w5.cell? ⟨gb297,4,none⟩ = some (.slice A1_4 l1_4.length c1_4):=(qqh BK297.out 4).trans rfl
     have hcz37_5 : w5.cell? ⟨gb297,5,none⟩ = some (.slice A1_5 l1_5.length c1_5):=(qqh BK297.out 5).trans rfl
     have hfz37_0:=qqi BK297.out 0
     have hfz37_1:=qqi BK297.out 1
     have hfz37_2:=qqi BK297.out 2
     have hfz37_3:=qqi BK297.out 3
     have hfz37_4:=qqi BK297.out 4
     have hfz37_5:=qqi BK297.out 5
     go_wp2
     repeat (go_quiet (fail);try go_wp2)
     go_meet
     case rel => exact ⟨_,(true),(by first|rfl|(simp;done)|(simp [*];done)),H',⟨by first|omega|exact Nat.le_refl _⟩,⟨by (with_reducible repeat first|apply qqa|apply qqb|apply qqc);exact BK296.out⟩,⟨by (with_reducible repeat first|apply qqa|apply qqb|apply qqc);exact BK297.out⟩,⟨by repeat (first|(with_reducible first|exact HB.out|apply qqf|apply qqd|apply qqe|refine qqg ?_ GE296.out|refine qqg ?_ GE297.out)|exact HB.out)⟩⟩
   ·
    rw [if_neg c7] at H
    have c7b0 : (a0_1 == a1_1) = false:=beq_eq_false_iff_ne.mpr c7
    have c7b1 : (a0_1 != a1_1) = true:=bne_iff_ne.mpr c7
    have H':=Aside0.mk H
    clear H
    have hnb38:=NB296_297.out
    have hnc38:=NB297_296.out
    have hcz39_0 : w5.cell? ⟨gb296,0,none⟩ = some (.int .u16 a0_0):=(qqh BK296.out 0).trans rfl
    have hcz39_1 : w5.cell? ⟨gb296,1,none⟩ = some (.int .u16 a0_1):=(qqh BK296.out 1).trans rfl
    have hcz39_2 : w5.cell? ⟨gb296,2,none⟩ = some (.slice A0_2 l0_2.length c0_2):=(qqh BK296.out 2).trans rfl
    have hcz39_3 : w5.cell? ⟨gb296,3,none⟩ = some (.slice A0_3 l0_3.length c0_3):=(qqh BK296.out 3).trans rfl
    have hcz39_4 : w5.cell? ⟨gb296,4,none⟩ = some (.slice A0_4 l0_4.length c0_4):=(qqh BK296.out 4).trans rfl
    have hcz39_5 : w5.cell? ⟨gb296,5,none⟩ = some (.slice A0_5 l0_5.length c0_5):=(qqh BK296.out 5).trans rfl
    have hfz39_0:=qqi BK296.out 0
    have hfz39_1:=qqi BK296.out 1
    have hfz39_2:=qqi BK296.out 2
    have hfz39_3:=qqi BK296.out 3
    have hfz39_4:=qqi BK296.out 4
    have hfz39_5:=qqi BK296.out 5
    have hcz40_0 : w5.cell? ⟨gb297,0,none⟩ = some (.int .u16 a1_0):=(qqh BK297.out 0).trans rfl
    have hcz40_1 : w5.cell? ⟨gb297,1,none⟩ = some (.int .u16 a1_1):=(qqh BK297.out 1).trans rfl
    have hcz40_2 : w5.cell? ⟨gb297,2,none⟩ = some (.slice A1_2 l1_2.length c1_2):=(qqh BK297.out 2).trans rfl
    have hcz40_3 : w5.cell? ⟨gb297,3,none⟩ = some (.slice A1_3 l1_3.length c1_3):=(qqh BK297.out 3).trans rfl
    have hcz40_4 : w5.cell? ⟨gb297,4,none⟩ = some (.slice A1_4 l1_4.length c1_4):=(qqh BK297.out 4).trans rfl
    have hcz40_5 : w5.cell? ⟨gb297,5,none⟩ = some (.slice A1_5 l1_5.length c1_5):=(qqh BK297.out 5).trans rfl
    have hfz40_0:=qqi BK297.out 0
    have hfz40_1:=qqi BK297.out 1
    have hfz40_2:=qqi BK297.out 2
    have hfz40_3:=qqi BK297.out 3
    have hfz40_4:=qqi BK297.out 4
    have hfz40_5:=qqi BK297.out 5
    go_wp2
    repeat (go_quiet (fail);try go_wp2)
    go_meet
    case rel => exact ⟨_,(true),(by first|rfl|(simp;done)|(simp [*];done)),H',⟨by first|omega|exact Nat.le_refl _⟩,⟨by (with_reducible repeat first|apply qqa|apply qqb|apply qqc);exact BK296.out⟩,⟨by (with_reducible repeat first|apply qqa|apply qqb|apply qqc);exact BK297.out⟩,⟨by repeat (first|(with_reducible first|exact HB.out|apply qqf|apply qqd|apply qqe|refine qqg ?_ GE296.out|refine qqg ?_ GE297.out)|exact HB.out)⟩⟩
  ·
   rw [if_neg c6] at H
   have c6b0 : (a0_0 == a1_0) = false:=beq_eq_false_iff_ne.mpr c6
   have c6b1 : (a0_0 != a1_0) = true:=bne_iff_ne.mpr c6
   (first|rw [c6b0]|rw [c6b1]|(simp only [i64_w,i32_w];rw [c6b0])|skip)
   have H':=Aside0.mk H
   clear H
   have hnb41:=NB296_297.out
   have hnc41:=NB297_296.out
   have hcz42_0 : w5.cell? ⟨gb296,0,none⟩ = some (.int .u16 a0_0):=(qqh BK296.out 0).trans rfl
   have hcz42_1 : w5.cell? ⟨gb296,1,none⟩ = some (.int .u16 a0_1):=(qqh BK296.out 1).trans rfl
   have hcz42_2 : w5.cell? ⟨gb296,2,none⟩ = some (.slice A0_2 l0_2.length c0_2):=(qqh BK296.out 2).trans rfl
   have hcz42_3 : w5.cell? ⟨gb296,3,none⟩ = some (.slice A0_3 l0_3.length c0_3):=(qqh BK296.out 3).trans rfl
   have hcz42_4 : w5.cell? ⟨gb296,4,none⟩ = some (.slice A0_4 l0_4.length c0_4):=(qqh BK296.out 4).trans rfl
   have hcz42_5 : w5.cell? ⟨gb296,5,none⟩ = some (.slice A0_5 l0_5.length c0_5):=(qqh BK296.out 5).trans rfl
   have hfz42_0:=qqi BK296.out 0
   have hfz42_1:=qqi BK296.out 1
   have hfz42_2:=qqi BK296.out 2
   have hfz42_3:=qqi BK296.out 3
   have hfz42_4:=qqi BK296.out 4
   have hfz42_5:=qqi BK296.out 5
   have hcz43_0 : w5.cell? ⟨gb297,0,none⟩ = some (.int .u16 a1_0):=(qqh BK297.out 0).trans rfl
   have hcz43_1 : w5.cell? ⟨gb297,1,none⟩ = some (.int .u16 a1_1):=(qqh BK297.out 1).trans rfl
   have hcz43_2 : w5.cell? ⟨gb297,2,none⟩ = some (.slice A1_2 l1_2.length c1_2):=(qqh BK297.out 2).trans rfl
   have hcz43_3 : w5.cell? ⟨gb297,3,none⟩ = some (.slice A1_3 l1_3.length c1_3):=(qqh BK297.out 3).trans rfl
   have hcz43_4 : w5.cell? ⟨gb297,4,none⟩ = some (.slice A1_4 l1_4.length c1_4):=(qqh BK297.out 4).trans rfl
   have hcz43_5 : w5.cell? ⟨gb297,5,none⟩ = some (.slice A1_5 l1_5.length c1_5):=(qqh BK297.out 5).trans rfl
   have hfz43_0:=qqi BK297.out 0
   have hfz43_1:=qqi BK297.out 1
   have hfz43_2:=qqi BK297.out 2
   have hfz43_3:=qqi BK297.out 3
   have hfz43_4:=qqi BK297.out 4
   have hfz43_5:=qqi BK297.out 5
   go_wp2
   repeat (go_quiet (fail);try go_wp2)
   go_meet
   case rel => exact ⟨_,(true),(by first|rfl|(simp;done)|(simp [*];done)),H',⟨by first|omega|exact Nat.le_refl _⟩,⟨by (with_reducible repeat first|apply qqa|apply qqb|apply qqc);exact BK296.out⟩,⟨by (with_reducible repeat first|apply qqa|apply qqb|apply qqc);exact BK297.out⟩,⟨by repeat (first|(with_reducible first|exact HB.out|apply qqf|apply qqd|apply qqe|refine qqg ?_ GE296.out|refine qqg ?_ GE297.out)|exact HB.out)⟩⟩
 case rest =>
  clear HC3
  try clear c1
  try clear c2
  try clear p2
  try clear c3
  try clear c4
  try clear c6
  try clear c6b0
  try clear c6b1
  try clear c7
  try clear c7b0
  try clear c7b1
  try clear c8
  try clear c8b0
  try clear c8b1
  try clear c8b2
  try clear c10
  try clear c12
  try clear c13
  try clear c14
  try clear c24
  try clear c31
  try clear c35
  try clear c38
  try clear c41
  try clear hcz15_0
  try clear hcz15_1
  try clear hcz15_2
  try clear hcz15_3
  try clear hcz15_4
  try clear hcz15_5
  try clear hcz16_0
  try clear hcz16_1
  try clear hcz16_2
  try clear hcz16_3
  try clear hcz16_4
  try clear hcz16_5
  try clear hcz18_0
  try clear hcz18_1
  try clear hcz18_2
  try clear hcz18_3
  try clear hcz18_4
  try clear hcz18_5
  try clear hcz19_0
  try clear hcz19_1
  try clear hcz19_2
  try clear hcz19_3
  try clear hcz19_4
  try clear hcz19_5
  try clear hcz21_0
  try clear hcz21_1
  try clear hcz21_2
  try clear hcz21_3
  try clear hcz21_4
  try clear hcz21_5
  try clear hcz22_0
  try clear hcz22_1
  try clear hcz22_2
  try clear hcz22_3
  try clear hcz22_4
  try clear hcz22_5
  try clear hcz25_0
  try clear hcz25_1
  try clear hcz25_2
  try clear hcz25_3
  try clear hcz25_4
  try clear hcz25_5
  try clear hcz26_0
  try clear hcz26_1
  try clear hcz26_2
  try clear hcz26_3
  try clear hcz26_4
  try clear hcz26_5
  try clear hcz28_0
  try clear hcz28_1
  try clear hcz28_2
  try clear hcz28_3
  try clear hcz28_4
  try clear hcz28_5
  try clear hcz29_0
  try clear hcz29_1
  try clear hcz29_2
  try clear hcz29_3
  try clear hcz29_4
  try clear hcz29_5
  try clear hcz32_0
  try clear hcz32_1
  try clear hcz32_2
  try clear hcz32_3
  try clear hcz32_4
  try clear hcz32_5
  try clear hcz33_0
  try clear hcz33_1
  try clear hcz33_2
  try clear hcz33_3
  try clear hcz33_4
  try clear hcz33_5
  try clear hcz36_0
  try clear hcz36_1
  try clear hcz36_2
  try clear hcz36_3
  try clear hcz36_4
  try clear hcz36_5
  try clear hcz37_0
  try clear hcz37_1
  try clear hcz37_2
  try clear hcz37_3
  try clear hcz37_4
  try clear hcz37_5
  try clear hcz39_0
  try clear hcz39_1
  try clear hcz39_2
  try clear hcz39_3
  try clear hcz39_4
  try clear hcz39_5
  try clear hcz40_0
  try clear hcz40_1
  try clear hcz40_2
  try clear hcz40_3
  try clear hcz40_4
  try clear hcz40_5
  try clear hcz42_0
  try clear hcz42_1
  try clear hcz42_2
  try clear hcz42_3
  try clear hcz42_4
  try clear hcz42_5
  try clear hcz43_0
  try clear hcz43_1
  try clear hcz43_2
  try clear hcz43_3
  try clear hcz43_4
  try clear hcz43_5
  try clear hfz15_0
  try clear hfz15_1
  try clear hfz15_2
  try clear hfz15_3
  try clear hfz15_4
  try clear hfz15_5
  try clear hfz16_0
  try clear hfz16_1
  try clear hfz16_2
  try clear hfz16_3
  try clear hfz16_4
  try clear hfz16_5
  try clear hfz18_0
  try clear hfz18_1
  try clear hfz18_2
  try clear hfz18_3
  try clear hfz18_4
  try clear hfz18_5
  try clear hfz19_0
  try clear hfz19_1
  try clear hfz19_2
  try clear hfz19_3
  try clear hfz19_4
  try clear hfz19_5
  try clear hfz21_0
  try clear hfz21_1
  try clear hfz21_2
  try clear hfz21_3
  try clear hfz21_4
  try clear hfz21_5
  try clear hfz22_0
  try clear hfz22_1
  try clear hfz22_2
  try clear hfz22_3
  try clear hfz22_4
  try clear hfz22_5
  try clear hfz25_0
  try clear hfz25_1
  try clear hfz25_2
  try clear hfz25_3
  try clear hfz25_4
  try clear hfz25_5
  try clear hfz26_0
  try clear hfz26_1
  try clear hfz26_2
  try clear hfz26_3
  try clear hfz26_4
  try clear hfz26_5
  try clear hfz28_0
  try clear hfz28_1
  try clear hfz28_2
  try clear hfz28_3
  try clear hfz28_4
  try clear hfz28_5
  try clear hfz29_0
  try clear hfz29_1
  try clear hfz29_2
  try clear hfz29_3
  try clear hfz29_4
  try clear hfz29_5
  try clear hfz32_0
  try clear hfz32_1
  try clear hfz32_2
  try clear hfz32_3
  try clear hfz32_4
  try clear hfz32_5
  try clear hfz33_0
  try clear hfz33_1
  try clear hfz33_2
  try clear hfz33_3
  try clear hfz33_4
  try clear hfz33_5
  try clear hfz36_0
  try clear hfz36_1
  try clear hfz36_2
  try clear hfz36_3
  try clear hfz36_4
  try clear hfz36_5
  try clear hfz37_0
  try clear hfz37_1
  try clear hfz37_2
  try clear hfz37_3
  try clear hfz37_4
  try clear hfz37_5
  try clear hfz39_0
  try clear hfz39_1
  try clear hfz39_2
  try clear hfz39_3
  try clear hfz39_4
  try clear hfz39_5
  try clear hfz40_0
  try clear hfz40_1
  try clear hfz40_2
  try clear hfz40_3
  try clear hfz40_4
  try clear hfz40_5
  try clear hfz42_0
  try clear hfz42_1
  try clear hfz42_2
  try clear hfz42_3
  try clear hfz42_4
  try clear hfz42_5
  try clear hfz43_0
  try clear hfz43_1
  try clear hfz43_2
  try clear hfz43_3
  try clear hfz43_4
  try clear hfz43_5
  obtain ⟨kq,x50_2,rfl,HA,HJ2,BK296,BK297,HB⟩:=hcut
  cases kq with
  | zero => exact absurd HA.out (by simp [nuncioref06_Same.j0])
  | succ kj2 =>
   have H:=HA.out
   clear HA
   simp only [nuncioref06_Same.j0] at H
   by_cases c44 : x50_2 = true
   ·
    subst c44
    have H1 : (some false) = some r:=by rw [if_pos rfl] at H;exact H
    clear H
    have H:=H1
    clear H1
    obtain rfl:=Option.some.inj H
    go_wp2
    repeat (go_quiet (fail);try go_wp2)
    go_ret
    exact ⟨by first|rfl|(simp [errW_none,errW_some] <;> rfl)|(simp [*,errW_none,errW_some] <;> rfl),by repeat (first|(with_reducible first|exact HB.out|apply qqf|apply qqd|apply qqe|refine qqg ?_ GE296.out|refine qqg ?_ GE297.out)|exact HB.out)⟩
   ·
    replace c44:=Bool.eq_false_iff.mpr c44
    subst c44
    have H1 : (nuncioref06_Same.l0 kj2 0 a0_0 a0_1 l0_2 l0_3 l0_4 l0_5 a1_0 a1_1 l1_2 l1_3 l1_4 l1_5) = some r:=by rw [if_neg (show ¬ (false = true) by decide)] at H;exact H
    clear H
    have H:=H1
    clear H1
    have H':=Aside0.mk H
    clear H
    go_wp2
    repeat (go_quiet (fail);try go_wp2)
    go_loopg [5] kj2 (fun kq v5 w' => ∃ (x5_2 : Int),v5 = .int .i64 x5_2∧Aside0 (nuncioref06_Same.l0 kq x5_2 a0_0 a0_1 l0_2 l0_3 l0_4 l0_5 a1_0 a1_1 l1_2 l1_3 l1_4 l1_5 = some r)∧Aside0 (kq ≤ kj2)∧Aside0 (w'.heap[gb296]? = some (.cells #[.int .u16 a0_0,.int .u16 a0_1,(.slice A0_2 l0_2.length c0_2),(.slice A0_3 l0_3.length c0_3),(.slice A0_4 l0_4.length c0_4),(.slice A0_5 l0_5.length c0_5)] 26 (0,0)))∧Aside0 (w'.heap[gb297]? = some (.cells #[.int .u16 a1_0,.int .u16 a1_1,(.slice A1_2 l1_2.length c1_2),(.slice A1_3 l1_3.length c1_3),(.slice A1_4 l1_4.length c1_4),(.slice A1_5 l1_5.length c1_5)] 26 (0,0)))∧Aside0 (Below w.heap.size w w'))
    case atStart => exact ⟨(0),(by first|rfl|(simp;done)|(simp [*];done)),H',⟨Nat.le_refl _⟩,⟨by (with_reducible repeat first|apply qqa|apply qqb|apply qqc);exact BK296.out⟩,⟨by (with_reducible repeat first|apply qqa|apply qqb|apply qqc);exact BK297.out⟩,⟨by repeat (first|(with_reducible first|exact HB.out|apply qqf|apply qqd|apply qqe|refine qqg ?_ GE296.out|refine qqg ?_ GE297.out)|exact HB.out)⟩⟩
    case round =>
     clear H'
     try clear c1
     try clear c2
     try clear p2
     try clear c3
     try clear c4
     try clear c6
     try clear c6b0
     try clear c6b1
     try clear c7
     try clear c7b0
     try clear c7b1
     try clear c8
     try clear c8b0
     try clear c8b1
     try clear c8b2
     try clear c10
     try clear c12
     try clear c13
     try clear c14
     try clear c24
     try clear c31
     try clear c35
     try clear c38
     try clear c41
     try clear c44
     try clear hcz15_0
     try clear hcz15_1
     try clear hcz15_2
     try clear hcz15_3
     try clear hcz15_4
     try clear hcz15_5
     try clear hcz16_0
     try clear hcz16_1
     try clear hcz16_2
     try clear hcz16_3
     try clear hcz16_4
     try clear hcz16_5
     try clear hcz18_0
     try clear hcz18_1
     try clear hcz18_2
     try clear hcz18_3
     try clear hcz18_4
     try clear hcz18_5
     try clear hcz19_0
     try clear hcz19_1
     try clear hcz19_2
     try clear hcz19_3
     try clear hcz19_4
     try clear hcz19_5
     try clear hcz21_0
     try clear hcz21_1
     try clear hcz21_2
     try clear hcz21_3
     try clear hcz21_4
     try clear hcz21_5
     try clear hcz22_0
     try clear hcz22_1
     try clear hcz22_2
     try clear hcz22_3
     try clear hcz22_4
     try clear hcz22_5
     try clear hcz25_0
     try clear hcz25_1
     try clear hcz25_2
     try clear hcz25_3
     try clear hcz25_4
     try clear hcz25_5
     try clear hcz26_0
     try clear hcz26_1
     try clear hcz26_2
     try clear hcz26_3
     try clear hcz26_4
     try clear hcz26_5
     try clear hcz28_0
     try clear hcz28_1
     try clear hcz28_2
     try clear hcz28_3
     try clear hcz28_4
     try clear hcz28_5
     try clear hcz29_0
     try clear hcz29_1
     try clear hcz29_2
     try clear hcz29_3
     try clear hcz29_4
     try clear hcz29_5
     try clear hcz32_0
     try clear hcz32_1
     try clear hcz32_2
     try clear hcz32_3
     try clear hcz32_4
     try clear hcz32_5
     try clear hcz33_0
     try clear hcz33_1
     try clear hcz33_2
     try clear hcz33_3
     try clear hcz33_4
     try clear hcz33_5
     try clear hcz36_0
     try clear hcz36_1
     try clear hcz36_2
     try clear hcz36_3
     try clear hcz36_4
     try clear hcz36_5
     try clear hcz37_0
     try clear hcz37_1
     try clear hcz37_2
     try clear hcz37_3
     try clear hcz37_4
     try clear hcz37_5
     try clear hcz39_0
     try clear hcz39_1
     try clear hcz39_2
     try clear hcz39_3
     try clear hcz39_4
     try clear hcz39_5
     try clear hcz40_0
     try clear hcz40_1
     try clear hcz40_2
     try clear hcz40_3
     try clear hcz40_4
     try clear hcz40_5
     try clear hcz42_0
     try clear hcz42_1
     try clear hcz42_2
     try clear hcz42_3
     try clear hcz42_4
     try clear hcz42_5
     try clear hcz43_0
     try clear hcz43_1
     try clear hcz43_2
     try clear hcz43_3
     try clear hcz43_4
     try clear hcz43_5
     try clear hfz15_0
     try clear hfz15_1
     try clear hfz15_2
     try clear hfz15_3
     try clear hfz15_4
     try clear hfz15_5
     try clear hfz16_0
     try clear hfz16_1
     try clear hfz16_2
     try clear hfz16_3
     try clear hfz16_4
     try clear hfz16_5
     try clear hfz18_0
     try clear hfz18_1
     try clear hfz18_2
     try clear hfz18_3
     try clear hfz18_4
     try clear hfz18_5
     try clear hfz19_0
     try clear hfz19_1
     try clear hfz19_2
     try clear hfz19_3
     try clear hfz19_4
     try clear hfz19_5
     try clear hfz21_0
     try clear hfz21_1
     try clear hfz21_2
     try clear hfz21_3
     try clear hfz21_4
     try clear hfz21_5
     try clear hfz22_0
     try clear hfz22_1
     try clear hfz22_2
     try clear hfz22_3
     try clear hfz22_4
     try clear hfz22_5
     try clear hfz25_0
     try clear hfz25_1
     try clear hfz25_2
     try clear hfz25_3
     try clear hfz25_4
     try clear hfz25_5
     try clear hfz26_0
     try clear hfz26_1
     try clear hfz26_2
     try clear hfz26_3
     try clear hfz26_4
     try clear hfz26_5
     try clear hfz28_0
     try clear hfz28_1
     try clear hfz28_2
     try clear hfz28_3
     try clear hfz28_4
     try clear hfz28_5
     try clear hfz29_0
     try clear hfz29_1
     try clear hfz29_2
     try clear hfz29_3
     try clear hfz29_4
     try clear hfz29_5
     try clear hfz32_0
     try clear hfz32_1
     try clear hfz32_2
     try clear hfz32_3
     try clear hfz32_4
     try clear hfz32_5
     try clear hfz33_0
     try clear hfz33_1
     try clear hfz33_2
     try clear hfz33_3
     try clear hfz33_4
     try clear hfz33_5
     try clear hfz36_0
     try clear hfz36_1
     try clear hfz36_2
     try clear hfz36_3
     try clear hfz36_4
     try clear hfz36_5
     try clear hfz37_0
     try clear hfz37_1
     try clear hfz37_2
     try clear hfz37_3
     try clear hfz37_4
     try clear hfz37_5
     try clear hfz39_0
     try clear hfz39_1
     try clear hfz39_2
     try clear hfz39_3
     try clear hfz39_4
     try clear hfz39_5
     try clear hfz40_0
     try clear hfz40_1
     try clear hfz40_2
     try clear hfz40_3
     try clear hfz40_4
     try clear hfz40_5
     try clear hfz42_0
     try clear hfz42_1
     try clear hfz42_2
     try clear hfz42_3
     try clear hfz42_4
     try clear hfz42_5
     try clear hfz43_0
     try clear hfz43_1
     try clear hfz43_2
     try clear hfz43_3
     try clear hfz43_4
     try clear hfz43_5
     try clear p2
     obtain ⟨x5_2,rfl,HA,HK2,BK296,BK297,HB⟩:=hrel
     cases gk with
     | zero => exact absurd HA.out (by simp [nuncioref06_Same.l0])
     | succ k2 =>
      have H:=HA.out
      clear HA
      simp only [nuncioref06_Same.l0] at H
      by_cases c45 : x5_2 < (l0_2.length : Int)
      ·
       rw [if_pos c45] at H
       have c45b0 : decide (x5_2 < (l0_2.length : Int)) = true:=decide_eq_true c45
       clear c45
       by_cases c46 : 0 ≤ x5_2
       ·
        rw [if_pos c46] at H
        have c46b0 : decide (0 ≤ x5_2) = true:=decide_eq_true c46
        clear c46
        by_cases c47 : x5_2 < (l1_2.length : Int)
        ·
         rw [if_pos c47] at H
         have c47b0 : decide (x5_2 < (l1_2.length : Int)) = true:=decide_eq_true c47
         clear c47
         by_cases c48 : (!((((rd_T53 l0_2 x5_2).f0).toList) == (((rd_T53 l1_2 x5_2).f0).toList)) || (!(((rd_T53 l0_2 x5_2).f1) == ((rd_T53 l1_2 x5_2).f1)) || (!(((rd_T53 l0_2 x5_2).f2) == ((rd_T53 l1_2 x5_2).f2))))) = true
         ·
          rw [if_pos c48] at H
          have c48b0 : (!((((rd_T53 l0_2 x5_2).f0).toList) == (((rd_T53 l1_2 x5_2).f0).toList)) || (!(((rd_T53 l0_2 x5_2).f1) == ((rd_T53 l1_2 x5_2).f1)) || (!(((rd_T53 l0_2 x5_2).f2) == ((rd_T53 l1_2 x5_2).f2))))) = true:=c48
          clear c48
          (try (have c48b9:=c48b0;simp only [beq_true,beq_false] at c48b9))
          obtain rfl:=Option.some.inj H
          have hnb49:=NB296_297.out
          have hnc49:=NB297_296.out
          have hcz50_0 : wr.cell? ⟨gb296,0,none⟩ = some (.int .u16 a0_0):=(qqh BK296.out 0).trans rfl
          have hcz50_1 : wr.cell? ⟨gb296,1,none⟩ = some (.int .u16 a0_1):=(qqh BK296.out 1).trans rfl
          have hcz50_2 : wr.cell? ⟨gb296,2,none⟩ = some (.slice A0_2 l0_2.length c0_2):=(qqh BK296.out 2).trans rfl
          have hcz50_3 : wr.cell? ⟨gb296,3,none⟩ = some (.slice A0_3 l0_3.length c0_3):=(qqh BK296.out 3).trans rfl
          have hcz50_4 : wr.cell? ⟨gb296,4,none⟩ = some (.slice A0_4 l0_4.length c0_4):=(qqh BK296.out 4).trans rfl
          have hcz50_5 : wr.cell? ⟨gb296,5,none⟩ = some (.slice A0_5 l0_5.length c0_5):=(qqh BK296.out 5).trans rfl
          have hfz50_0:=qqi BK296.out 0
          have hfz50_1:=qqi BK296.out 1
          have hfz50_2:=qqi BK296.out 2
          have hfz50_3:=qqi BK296.out 3
          have hfz50_4:=qqi BK296.out 4
          have hfz50_5:=qqi BK296.out 5
          have p301 : 0 ≤ (x5_2 : Int):=of_decide_eq_true (by first|(with_reducible assumption)|assumption)
          have q301 : x5_2 < (l0_2.length : Int):=of_decide_eq_true (by first|(with_reducible assumption)|assumption)
          obtain ⟨ad301,e301,hx301_0,hx301_1,hx301_2⟩:=at_T53 HR0_2.out x5_2 p301 q301
          cases e301
          replace hx301_0:=(HB.out.cell (World.block_lt_of_cell? w _ hx301_0)).trans hx301_0
          replace hx301_1:=(HB.out.cell (World.block_lt_of_cell? w _ hx301_1)).trans hx301_1
          replace hx301_2:=(HB.out.cell (World.block_lt_of_cell? w _ hx301_2)).trans hx301_2
          replace p301:=eq_true p301
          replace q301:=eq_true q301
          have hcz51_0 : wr.cell? ⟨gb297,0,none⟩ = some (.int .u16 a1_0):=(qqh BK297.out 0).trans rfl
          have hcz51_1 : wr.cell? ⟨gb297,1,none⟩ = some (.int .u16 a1_1):=(qqh BK297.out 1).trans rfl
          have hcz51_2 : wr.cell? ⟨gb297,2,none⟩ = some (.slice A1_2 l1_2.length c1_2):=(qqh BK297.out 2).trans rfl
          have hcz51_3 : wr.cell? ⟨gb297,3,none⟩ = some (.slice A1_3 l1_3.length c1_3):=(qqh BK297.out 3).trans rfl
          have hcz51_4 : wr.cell? ⟨gb297,4,none⟩ = some (.slice A1_4 l1_4.length c1_4):=(qqh BK297.out 4).trans rfl
          have hcz51_5 : wr.cell? ⟨gb297,5,none⟩ = some (.slice A1_5 l1_5.length c1_5):=(qqh BK297.out 5).trans rfl
          have hfz51_0:=qqi BK297.out 0
          have hfz51_1:=qqi BK297.out 1
          have hfz51_2:=qqi BK297.out 2
          have hfz51_3:=qqi BK297.out 3
          have hfz51_4:=qqi BK297.out 4
          have hfz51_5:=qqi BK297.out 5
          have p302 : 0 ≤ (x5_2 : Int):=of_decide_eq_true (by first|(with_reducible assumption)|assumption)
          have q302 : x5_2 < (l1_2.length : Int):=of_decide_eq_true (by first|(with_reducible assumption)|assumption)
          obtain ⟨ad302,e302,hx302_0,hx302_1,hx302_2⟩:=at_T53 HR1_2.out x5_2 p302 q302
          cases e302
          replace hx302_0:=(HB.out.cell (World.block_lt_of_cell? w _ hx302_0)).trans hx302_0
          replace hx302_1:=(HB.out.cell (World.block_lt_of_cell? w _ hx302_1)).trans hx302_1
          replace hx302_2:=(HB.out.cell (World.block_lt_of_cell? w _ hx302_2)).trans hx302_2
          replace p302:=eq_true p302
          replace q302:=eq_true q302
          go_wp2
          repeat (go_quiet (fail);try go_wp2)
          go_ret
          exact ⟨by first|rfl|(simp [errW_none,errW_some] <;> rfl)|(simp [*,errW_none,errW_some] <;> rfl),by repeat (first|(with_reducible first|exact HB.out|apply qqf|apply qqd|apply qqe|refine qqg ?_ GE296.out|refine qqg ?_ GE297.out)|exact HB.out)⟩
         ·
          rw [if_neg c48] at H
          have c48b0 : (!((((rd_T53 l0_2 x5_2).f0).toList) == (((rd_T53 l1_2 x5_2).f0).toList)) || (!(((rd_T53 l0_2 x5_2).f1) == ((rd_T53 l1_2 x5_2).f1)) || (!(((rd_T53 l0_2 x5_2).f2) == ((rd_T53 l1_2 x5_2).f2))))) = false:=by simpa using c48
          clear c48
          (try (have c48b9:=c48b0;simp only [beq_true,beq_false] at c48b9))
          have H':=Aside0.mk H
          clear H
          have hnb52:=NB296_297.out
          have hnc52:=NB297_296.out
          have hcz53_0 : wr.cell? ⟨gb296,0,none⟩ = some (.int .u16 a0_0):=(qqh BK296.out 0).trans rfl
          have hcz53_1 : wr.cell? ⟨gb296,1,none⟩ = some (.int .u16 a0_1):=(qqh BK296.out 1).trans rfl
          have hcz53_2 : wr.cell? ⟨gb296,2,none⟩ = some (.slice A0_2 l0_2.length c0_2):=(qqh BK296.out 2).trans rfl
          have hcz53_3 : wr.cell? ⟨gb296,3,none⟩ = some (.slice A0_3 l0_3.length c0_3):=(qqh BK296.out 3).trans rfl
          have hcz53_4 : wr.cell? ⟨gb296,4,none⟩ = some (.slice A0_4 l0_4.length c0_4):=(qqh BK296.out 4).trans rfl
          have hcz53_5 : wr.cell? ⟨gb296,5,none⟩ = some (.slice A0_5 l0_5.length c0_5):=(qqh BK296.out 5).trans rfl
          have hfz53_0:=qqi BK296.out 0
          have hfz53_1:=qqi BK296.out 1
          have hfz53_2:=qqi BK296.out 2
          have hfz53_3:=qqi BK296.out 3
          have hfz53_4:=qqi BK296.out 4
          have hfz53_5:=qqi BK296.out 5
          have p301 : 0 ≤ (x5_2 : Int):=of_decide_eq_true (by first|(with_reducible assumption)|assumption)
          have q301 : x5_2 < (l0_2.length : Int):=of_decide_eq_true (by first|(with_reducible assumption)|assumption)
          obtain ⟨ad301,e301,hx301_0,hx301_1,hx301_2⟩:=at_T53 HR0_2.out x5_2 p301 q301
          cases e301
          replace hx301_0:=(HB.out.cell (World.block_lt_of_cell? w _ hx301_0)).trans hx301_0
          replace hx301_1:=(HB.out.cell (World.block_lt_of_cell? w _ hx301_1)).trans hx301_1
          replace hx301_2:=(HB.out.cell (World.block_lt_of_cell? w _ hx301_2)).trans hx301_2
          replace p301:=eq_true p301
          replace q301:=eq_true q301
          have hcz54_0 : wr.cell? ⟨gb297,0,none⟩ = some (.int .u16 a1_0):=(qqh BK297.out 0).trans rfl
          have hcz54_1 : wr.cell? ⟨gb297,1,none⟩ = some (.int .u16 a1_1):=(qqh BK297.out 1).trans rfl
          have hcz54_2 : wr.cell? ⟨gb297,2,none⟩ = some (.slice A1_2 l1_2.length c1_2):=(qqh BK297.out 2).trans rfl
          have hcz54_3 : wr.cell? ⟨gb297,3,none⟩ = some (.slice A1_3 l1_3.length c1_3):=(qqh BK297.out 3).trans rfl
          have hcz54_4 : wr.cell? ⟨gb297,4,none⟩ = some (.slice A1_4 l1_4.length c1_4):=(qqh BK297.out 4).trans rfl
          have hcz54_5 : wr.cell? ⟨gb297,5,none⟩ = some (.slice A1_5 l1_5.length c1_5):=(qqh BK297.out 5).trans rfl
          have hfz54_0:=qqi BK297.out 0
          have hfz54_1:=qqi BK297.out 1
          have hfz54_2:=qqi BK297.out 2
          have hfz54_3:=qqi BK297.out 3
          have hfz54_4:=qqi BK297.out 4
          have hfz54_5:=qqi BK297.out 5
          have p302 : 0 ≤ (x5_2 : Int):=of_decide_eq_true (by first|(with_reducible assumption)|assumption)
          have q302 : x5_2 < (l1_2.length : Int):=of_decide_eq_true (by first|(with_reducible assumption)|assumption)
          obtain ⟨ad302,e302,hx302_0,hx302_1,hx302_2⟩:=at_T53 HR1_2.out x5_2 p302 q302
          cases e302
          replace hx302_0:=(HB.out.cell (World.block_lt_of_cell? w _ hx302_0)).trans hx302_0
          replace hx302_1:=(HB.out.cell (World.block_lt_of_cell? w _ hx302_1)).trans hx302_1
          replace hx302_2:=(HB.out.cell (World.block_lt_of_cell? w _ hx302_2)).trans hx302_2
          replace p302:=eq_true p302
          replace q302:=eq_true q302
          go_wp2
          repeat (go_quiet (fail);try go_wp2)
          go_roundg k2
          case measure => have:=HJ2.out;have:=HK2.out;omega
          case rel => exact ⟨(wrap64 (x5_2 + 1)),(by first|rfl|(simp;done)|(simp [*];done)),H',⟨by have:=HJ2.out;have:=HK2.out;omega⟩,⟨by (with_reducible repeat first|apply qqa|apply qqb|apply qqc);exact BK296.out⟩,⟨by (with_reducible repeat first|apply qqa|apply qqb|apply qqc);exact BK297.out⟩,⟨by repeat (first|(with_reducible first|exact HB.out|apply qqf|apply qqd|apply qqe|refine qqg ?_ GE296.out|refine qqg ?_ GE297.out)|exact HB.out)⟩⟩
        ·
         rw [if_neg c47] at H
         exact absurd H (by simp)
       ·
        rw [if_neg c46] at H
        exact absurd H (by simp)
      ·
       rw [if_neg c45] at H
       have c45b0 : decide (x5_2 < (l0_2.length : Int)) = false:=decide_eq_false c45
       clear c45
       obtain rfl:=Option.some.inj H
       have hnb55:=NB296_297.out
       have hnc55:=NB297_296.out
       have hcz56_0 : wr.cell? ⟨gb296,0,none⟩ = some (.int .u16 a0_0):=(qqh BK296.out 0).trans rfl
       have hcz56_1 : wr.cell? ⟨gb296,1,none⟩ = some (.int .u16 a0_1):=(qqh BK296.out 1).trans rfl
       have hcz56_2 : wr.cell? ⟨gb296,2,none⟩ = some (.slice A0_2 l0_2.length c0_2):=(qqh BK296.out 2).trans rfl
       have hcz56_3 : wr.cell? ⟨gb296,3,none⟩ = some (.slice A0_3 l0_3.length c0_3):=(qqh BK296.out 3).trans rfl
       have hcz56_4 : wr.cell? ⟨gb296,4,none⟩ = some (.slice A0_4 l0_4.length c0_4):=(qqh BK296.out 4).trans rfl
       have hcz56_5 : wr.cell? ⟨gb296,5,none⟩ = some (.slice A0_5 l0_5.length c0_5):=(qqh BK296.out 5).trans rfl
       have hfz56_0:=qqi BK296.out 0
       have hfz56_1:=qqi BK296.out 1
       have hfz56_2:=qqi BK296.out 2
       have hfz56_3:=qqi BK296.out 3
       have hfz56_4:=qqi BK296.out 4
       have hfz56_5:=qqi BK296.out 5
       go_wp2
       repeat (go_quiet (fail);try go_wp2)
       go_ret
       exact ⟨by first|rfl|(simp [errW_none,errW_some] <;> rfl)|(simp [*,errW_none,errW_some] <;> rfl),by repeat (first|(with_reducible first|exact HB.out|apply qqf|apply qqd|apply qqe|refine qqg ?_ GE296.out|refine qqg ?_ GE297.out)|exact HB.out)⟩

end Go.Proofs.Ythkdfnbhlinhiaa.Mine
