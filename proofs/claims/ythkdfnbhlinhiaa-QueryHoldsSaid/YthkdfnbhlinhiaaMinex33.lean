-- Written by this repo's own printer (wip/print), which builds on the kit's.
import Derived.Test.YthkdfnbhlinhiaaMinex0
import Derived.Test.YthkdfnbhlinhiaaMinex32
namespace Go.Proofs.Ythkdfnbhlinhiaa.Mine
open Go.RowKit Go.Proofs.YthkdfnbhlinhiaaW.PrintWords Go.Proofs.YthkdfnbhlinhiaaW.PrintLast Go.Proofs.YthkdfnbhlinhiaaW.PrintMore
attribute [local go_sem] max2_int min2_int max_two min_two max_three min_three max_four min_four   -- for this text's walks alone
set_option linter.unusedVariables false
set_option linter.unusedSimpArgs false

/-! ### nuncioref08_Negative: function 19 -/
def nuncioref08_Negative.l0 : Nat → Int → Int → Int → List (S53) → List (S51) → List (S51) → List (S51) → Option (Bool)
 | 0, _, _, _, _, _, _, _ => none
 | k + 1, x3, x372000, x372001, x372002, x372003, x372004, x372005 => if x3 < (x372003.length : Int) then (if 0 ≤ x3 then (if 0 < (x372002.length : Int) then (if ((rd_T51 x372003 x3).f1) = ((rd_T53 x372002 0).f1) then (some false) else (if ((rd_T51 x372003 x3).f1) = 5 then (some false) else (nuncioref08_Negative.l0 k (wrap64 (x3 + 1)) x372000 x372001 x372002 x372003 x372004 x372005))) else (none)) else (none)) else (some true)
def nuncioref08_Negative.f (k : Nat) (a0_0 : Int) (a0_1 : Int) (l0_2 : List (S53)) (l0_3 : List (S51)) (l0_4 : List (S51)) (l0_5 : List (S51)) : Option (Bool) := if (l0_2.length : Int) = 0 then (some false) else ((nuncioref08_code.f a0_1).bind fun t372 => (if t372 = 0 then (nuncioref08_Negative.l0 k 0 a0_0 a0_1 l0_2 l0_3 l0_4 l0_5) else ((nuncioref08_code.f a0_1).bind fun t373 => (some (t373 == 3)))))
theorem nuncioref08_Negative.mono_l : ∀ k, (∀ y0 y1 y2 y3 y4 y5 y6, LeO (nuncioref08_Negative.l0 k y0 y1 y2 y3 y4 y5 y6) (nuncioref08_Negative.l0 (k + 1) y0 y1 y2 y3 y4 y5 y6))
 | 0 => fun _ _ _ _ _ _ _ r h => by simp [nuncioref08_Negative.l0] at h
 | k + 1 => by
  have ih0:=nuncioref08_Negative.mono_l k
  ·
   intro y0 y1 y2 y3 y4 y5 y6
   unfold nuncioref08_Negative.l0
   repeat' first
   | (with_reducible exact ih0 _ _ _ _ _ _ _)
   | (with_reducible exact LeO.refl _)
   | (with_reducible exact LeO.none _)
   | (with_reducible refine LeO.ite ?_ ?_)
   | (with_reducible refine LeO.bind ?_ (fun _ => ?_))
   | exact ih0 _ _ _ _ _ _ _
   | exact LeO.none _
   | refine LeO.ite ?_ ?_
   | refine LeO.bind ?_ (fun _ => ?_)
theorem nuncioref08_Negative.mono : ∀ a0 a1 a2 a3 a4 a5 k, LeO (nuncioref08_Negative.f k a0 a1 a2 a3 a4 a5) (nuncioref08_Negative.f (k + 1) a0 a1 a2 a3 a4 a5) := by
 intro a0 a1 a2 a3 a4 a5 k
 have ih0:=nuncioref08_Negative.mono_l k
 unfold nuncioref08_Negative.f
 repeat' first
   | (with_reducible exact ih0 _ _ _ _ _ _ _)
   | (with_reducible exact LeO.refl _)
   | (with_reducible exact LeO.none _)
   | (with_reducible refine LeO.ite ?_ ?_)
   | (with_reducible refine LeO.bind ?_ (fun _ => ?_))
   | exact ih0 _ _ _ _ _ _ _
   | exact LeO.none _
   | refine LeO.ite ?_ ?_
   | refine LeO.bind ?_ (fun _ => ?_)
set_option maxHeartbeats 8000000 in
set_option maxRecDepth 100000 in
theorem nuncioref08_Negative.calls (k : Nat) (a0_0 : Int) (a0_1 : Int) (A0_2 : Option Addr) (c0_2 : Nat) (l0_2 : List (S53)) (A0_3 : Option Addr) (c0_3 : Nat) (l0_3 : List (S51)) (A0_4 : Option Addr) (c0_4 : Nat) (l0_4 : List (S51)) (A0_5 : Option Addr) (c0_5 : Nat) (l0_5 : List (S51)) (r : Bool) (w : World) (hr0_2 : Kd.C k53 w A0_2 l0_2.length l0_2) (hc0_2 : l0_2.length ≤ c0_2) (hr0_3 : Kd.C k51 w A0_3 l0_3.length l0_3) (hc0_3 : l0_3.length ≤ c0_3) (hr0_4 : Kd.C k51 w A0_4 l0_4.length l0_4) (hc0_4 : l0_4.length ≤ c0_4) (hr0_5 : Kd.C k51 w A0_5 l0_5.length l0_5) (hc0_5 : l0_5.length ≤ c0_5) (h : nuncioref08_Negative.f k a0_0 a0_1 l0_2 l0_3 l0_4 l0_5 = some r) :
  Calls Try.prog 19 #[.agg #[.int .u16 a0_0,.int .u16 a0_1,.slice A0_2 l0_2.length c0_2,.slice A0_3 l0_3.length c0_3,.slice A0_4 l0_4.length c0_4,.slice A0_5 l0_5.length c0_5]] w fun e w' => e = .returned (.bool r)∧Below w.heap.size w w':=by
 have hu26:=Try.underlying26
 have HR0_2:=Aside0.mk hr0_2
 have HC0_2:=Aside0.mk hc0_2
 clear hr0_2 hc0_2
 have HR0_3:=Aside0.mk hr0_3
 have HC0_3:=Aside0.mk hc0_3
 clear hr0_3 hc0_3
 have HR0_4:=Aside0.mk hr0_4
 have HC0_4:=Aside0.mk hc0_4
 clear hr0_4 hc0_4
 have HR0_5:=Aside0.mk hr0_5
 have HC0_5:=Aside0.mk hc0_5
 clear hr0_5 hc0_5
 have HB:=Aside0.mk (Below.refl w.heap.size w)
 have H : (if (l0_2.length : Int) = 0 then (some false) else ((nuncioref08_code.f a0_1).bind fun t372 => (if t372 = 0 then (nuncioref08_Negative.l0 k 0 a0_0 a0_1 l0_2 l0_3 l0_4 l0_5) else ((nuncioref08_code.f a0_1).bind fun t373 => (some (t373 == 3)))))) = some r:=h
 clear h
 by_cases c2 : (l0_2.length : Int) = 0
 ·
  rw [if_pos c2] at H
  have c2b0 : ((l0_2.length : Int) == 0) = true:=beq_iff_eq.mpr c2
  have c2b1 : ((l0_2.length : Int) != 0) = false:=bne_eq_false_iff_eq.mpr c2
  clear c2
  obtain rfl:=Option.some.inj H
  go_enter Try.func19,Try.ntmps19
  go_wp2_with (first|((with_reducible refine gate_dst (N:=1) rfl ?_);refine box_event ?hg (N:=1) ?hd (cs:=#[.int .u16 a0_0,.int .u16 a0_1,.slice A0_2 l0_2.length c0_2,.slice A0_3 l0_3.length c0_3,.slice A0_4 l0_4.length c0_4,.slice A0_5 l0_5.length c0_5]) (t:=26) ?hr ?_;(case hd => rfl);(case hg => rfl);(case hr => first|(go_simp;done)|(go_simp;rfl));intro gb371 hg w3 hbox hb;have n0_:=Aside0.mk (below_step (by repeat (first|(with_reducible first|exact HB.out|apply qqf|apply qqd|apply qqe)|exact HB.out)) hb);have n1_:=Aside0.mk (hbox);have n2_:=Aside0.mk ((by rw [hg];exact (below_size (by repeat (first|(with_reducible first|exact HB.out|apply qqf|apply qqd|apply qqe)|exact HB.out))) : w.heap.size ≤ gb371));have n3_:=Aside0.mk ((by rw [hg];exact (below_size (by repeat (first|(with_reducible first|exact HB.out|apply qqf|apply qqd|apply qqe)|exact HB.out))) : w.heap.size ≤ gb371));clear HB;have HB:=n0_;have BK371:=n1_;have GW371:=n2_;have GE371:=n3_;clear n0_ n1_ n2_ n3_;clear hb hbox hg;have hcz4_0 : w3.cell? ⟨gb371,0,none⟩ = some (.int .u16 a0_0):=(qqh BK371.out 0).trans rfl;have hcz4_1 : w3.cell? ⟨gb371,1,none⟩ = some (.int .u16 a0_1):=(qqh BK371.out 1).trans rfl;have hcz4_2 : w3.cell? ⟨gb371,2,none⟩ = some (.slice A0_2 l0_2.length c0_2):=(qqh BK371.out 2).trans rfl;have hcz4_3 : w3.cell? ⟨gb371,3,none⟩ = some (.slice A0_3 l0_3.length c0_3):=(qqh BK371.out 3).trans rfl;have hcz4_4 : w3.cell? ⟨gb371,4,none⟩ = some (.slice A0_4 l0_4.length c0_4):=(qqh BK371.out 4).trans rfl;have hcz4_5 : w3.cell? ⟨gb371,5,none⟩ = some (.slice A0_5 l0_5.length c0_5):=(qqh BK371.out 5).trans rfl;have hfz4_0:=qqi BK371.out 0;have hfz4_1:=qqi BK371.out 1;have hfz4_2:=qqi BK371.out 2;have hfz4_3:=qqi BK371.out 3;have hfz4_4:=qqi BK371.out 4;have hfz4_5:=qqi BK371.out 5))
  repeat (go_quiet (first|((with_reducible refine gate_dst (N:=1) rfl ?_);refine box_event ?hg (N:=1) ?hd (cs:=#[.int .u16 a0_0,.int .u16 a0_1,.slice A0_2 l0_2.length c0_2,.slice A0_3 l0_3.length c0_3,.slice A0_4 l0_4.length c0_4,.slice A0_5 l0_5.length c0_5]) (t:=26) ?hr ?_;(case hd => rfl);(case hg => rfl);(case hr => first|(go_simp;done)|(go_simp;rfl));intro gb371 hg w3 hbox hb;have n0_:=Aside0.mk (below_step (by repeat (first|(with_reducible first|exact HB.out|apply qqf|apply qqd|apply qqe)|exact HB.out)) hb);have n1_:=Aside0.mk (hbox);have n2_:=Aside0.mk ((by rw [hg];exact (below_size (by repeat (first|(with_reducible first|exact HB.out|apply qqf|apply qqd|apply qqe)|exact HB.out))) : w.heap.size ≤ gb371));have n3_:=Aside0.mk ((by rw [hg];exact (below_size (by repeat (first|(with_reducible first|exact HB.out|apply qqf|apply qqd|apply qqe)|exact HB.out))) : w.heap.size ≤ gb371));clear HB;have HB:=n0_;have BK371:=n1_;have GW371:=n2_;have GE371:=n3_;clear n0_ n1_ n2_ n3_;clear hb hbox hg;have hcz4_0 : w3.cell? ⟨gb371,0,none⟩ = some (.int .u16 a0_0):=(qqh BK371.out 0).trans rfl;have hcz4_1 : w3.cell? ⟨gb371,1,none⟩ = some (.int .u16 a0_1):=(qqh BK371.out 1).trans rfl;have hcz4_2 : w3.cell? ⟨gb371,2,none⟩ = some (.slice A0_2 l0_2.length c0_2):=(qqh BK371.out 2).trans rfl;have hcz4_3 : w3.cell? ⟨gb371,3,none⟩ = some (.slice A0_3 l0_3.length c0_3):=(qqh BK371.out 3).trans rfl;have hcz4_4 : w3.cell? ⟨gb371,4,none⟩ = some (.slice A0_4 l0_4.length c0_4):=(qqh BK371.out 4).trans rfl;have hcz4_5 : w3.cell? ⟨gb371,5,none⟩ = some (.slice A0_5 l0_5.length c0_5):=(qqh BK371.out 5).trans rfl;have hfz4_0:=qqi BK371.out 0;have hfz4_1:=qqi BK371.out 1;have hfz4_2:=qqi BK371.out 2;have hfz4_3:=qqi BK371.out 3;have hfz4_4:=qqi BK371.out 4;have hfz4_5:=qqi BK371.out 5));try go_wp2_with (first|((with_reducible refine gate_dst (N:=1) rfl ?_);refine box_event ?hg (N:=1) ?hd (cs:=#[.int .u16 a0_0,.int .u16 a0_1,.slice A0_2 l0_2.length c0_2,.slice A0_3 l0_3.length c0_3,.slice A0_4 l0_4.length c0_4,.slice A0_5 l0_5.length c0_5]) (t:=26) ?hr ?_;(case hd => rfl);(case hg => rfl);(case hr => first|(go_simp;done)|(go_simp;rfl));intro gb371 hg w3 hbox hb;have n0_:=Aside0.mk (below_step (by repeat (first|(with_reducible first|exact HB.out|apply qqf|apply qqd|apply qqe)|exact HB.out)) hb);have n1_:=Aside0.mk (hbox);have n2_:=Aside0.mk ((by rw [hg];exact (below_size (by repeat (first|(with_reducible first|exact HB.out|apply qqf|apply qqd|apply qqe)|exact HB.out))) : w.heap.size ≤ gb371));have n3_:=Aside0.mk ((by rw [hg];exact (below_size (by repeat (first|(with_reducible first|exact HB.out|apply qqf|apply qqd|apply qqe)|exact HB.out))) : w.heap.size ≤ gb371));clear HB;have HB:=n0_;have BK371:=n1_;have GW371:=n2_;have GE371:=n3_;clear n0_ n1_ n2_ n3_;clear hb hbox hg;have hcz4_0 : w3.cell? ⟨gb371,0,none⟩ = some (.int .u16 a0_0):=(qqh BK371.out 0).trans rfl;have hcz4_1 : w3.cell? ⟨gb371,1,none⟩ = some (.int .u16 a0_1):=(qqh BK371.out 1).trans rfl;have hcz4_2 : w3.cell? ⟨gb371,2,none⟩ = some (.slice A0_2 l0_2.length c0_2):=(qqh BK371.out 2).trans rfl;have hcz4_3 : w3.cell? ⟨gb371,3,none⟩ = some (.slice A0_3 l0_3.length c0_3):=(qqh BK371.out 3).trans rfl;have hcz4_4 : w3.cell? ⟨gb371,4,none⟩ = some (.slice A0_4 l0_4.length c0_4):=(qqh BK371.out 4).trans rfl;have hcz4_5 : w3.cell? ⟨gb371,5,none⟩ = some (.slice A0_5 l0_5.length c0_5):=(qqh BK371.out 5).trans rfl;have hfz4_0:=qqi BK371.out 0;have hfz4_1:=qqi BK371.out 1;have hfz4_2:=qqi BK371.out 2;have hfz4_3:=qqi BK371.out 3;have hfz4_4:=qqi BK371.out 4;have hfz4_5:=qqi BK371.out 5)))
  go_ret
  exact ⟨by first|rfl|(simp [errW_none,errW_some] <;> rfl)|(simp [*,errW_none,errW_some] <;> rfl),by repeat (first|(with_reducible first|exact HB.out|apply qqf|apply qqd|apply qqe|refine qqg ?_ GE371.out)|exact HB.out)⟩
 rw [if_neg c2] at H
 have c2b0 : ((l0_2.length : Int) == 0) = false:=beq_eq_false_iff_ne.mpr c2
 have c2b1 : ((l0_2.length : Int) != 0) = true:=bne_iff_ne.mpr c2
 have c2b2 : ¬ (l0_2 = []):=fun h_ => c2 (by rw [h_];rfl)
 replace H:=Option.bind_eq_some_iff.mp H
 obtain ⟨t372,A50,H⟩:=H
 replace H : (if t372 = 0 then (nuncioref08_Negative.l0 k 0 a0_0 a0_1 l0_2 l0_3 l0_4 l0_5) else ((nuncioref08_code.f a0_1).bind fun t373 => (some (t373 == 3)))) = some r:=H
 have A5:=Aside0.mk A50
 clear A50
 by_cases c6 : t372 = 0
 rotate_left
 ·
  rw [if_neg c6] at H
  have c6b0 : (t372 == 0) = false:=beq_eq_false_iff_ne.mpr c6
  have c6b1 : (t372 != 0) = true:=bne_iff_ne.mpr c6
  replace H:=Option.bind_eq_some_iff.mp H
  obtain ⟨t373,A180,H⟩:=H
  replace H : (some (t373 == 3)) = some r:=H
  have A18:=Aside0.mk A180
  clear A180
  (try (have EA18:=Aside0.mk (Option.some.inj (A5.out.symm.trans A18.out))))
  obtain rfl:=Option.some.inj H
  go_enter Try.func19,Try.ntmps19
  go_wp2_with (first|((with_reducible refine gate_dst (N:=1) rfl ?_);refine box_event ?hg (N:=1) ?hd (cs:=#[.int .u16 a0_0,.int .u16 a0_1,.slice A0_2 l0_2.length c0_2,.slice A0_3 l0_3.length c0_3,.slice A0_4 l0_4.length c0_4,.slice A0_5 l0_5.length c0_5]) (t:=26) ?hr ?_;(case hd => rfl);(case hg => rfl);(case hr => first|(go_simp;done)|(go_simp;rfl));intro gb371 hg w19 hbox hb;have n0_:=Aside0.mk (below_step (by repeat (first|(with_reducible first|exact HB.out|apply qqf|apply qqd|apply qqe)|exact HB.out)) hb);have n1_:=Aside0.mk (hbox);have n2_:=Aside0.mk ((by rw [hg];exact (below_size (by repeat (first|(with_reducible first|exact HB.out|apply qqf|apply qqd|apply qqe)|exact HB.out))) : w.heap.size ≤ gb371));have n3_:=Aside0.mk ((by rw [hg];exact (below_size (by repeat (first|(with_reducible first|exact HB.out|apply qqf|apply qqd|apply qqe)|exact HB.out))) : w.heap.size ≤ gb371));clear HB;have HB:=n0_;have BK371:=n1_;have GW371:=n2_;have GE371:=n3_;clear n0_ n1_ n2_ n3_;clear hb hbox hg;have hcz20_0 : w19.cell? ⟨gb371,0,none⟩ = some (.int .u16 a0_0):=(qqh BK371.out 0).trans rfl;have hcz20_1 : w19.cell? ⟨gb371,1,none⟩ = some (.int .u16 a0_1):=(qqh BK371.out 1).trans rfl;have hcz20_2 : w19.cell? ⟨gb371,2,none⟩ = some (.slice A0_2 l0_2.length c0_2):=(qqh BK371.out 2).trans rfl;have hcz20_3 : w19.cell? ⟨gb371,3,none⟩ = some (.slice A0_3 l0_3.length c0_3):=(qqh BK371.out 3).trans rfl;have hcz20_4 : w19.cell? ⟨gb371,4,none⟩ = some (.slice A0_4 l0_4.length c0_4):=(qqh BK371.out 4).trans rfl;have hcz20_5 : w19.cell? ⟨gb371,5,none⟩ = some (.slice A0_5 l0_5.length c0_5):=(qqh BK371.out 5).trans rfl;have hfz20_0:=qqi BK371.out 0;have hfz20_1:=qqi BK371.out 1;have hfz20_2:=qqi BK371.out 2;have hfz20_3:=qqi BK371.out 3;have hfz20_4:=qqi BK371.out 4;have hfz20_5:=qqi BK371.out 5)|(go_at_call 42;(with_reducible refine (nuncioref08_code.calls a0_1 t372 _ A5.out).mono ?_);rintro e w' ⟨rfl,⟨nd,rfl⟩⟩;(try first|exact ⟨rfl,_,World.drewN_drewN _ _ _⟩|exact ⟨rfl,_,Eq.trans (World.drewN_drewN _ _ _) (congrArg (World.drewN _) (Nat.add_assoc _ _ _))⟩))|(go_at_call 42;(with_reducible refine (nuncioref08_code.calls a0_1 t373 _ A18.out).mono ?_);rintro e w' ⟨rfl,⟨nd,rfl⟩⟩;(try first|exact ⟨rfl,_,World.drewN_drewN _ _ _⟩|exact ⟨rfl,_,Eq.trans (World.drewN_drewN _ _ _) (congrArg (World.drewN _) (Nat.add_assoc _ _ _))⟩)))
  repeat (go_quiet (first|((with_reducible refine gate_dst (N:=1) rfl ?_);refine box_event ?hg (N:=1) ?hd (cs:=#[.int .u16 a0_0,.int .u16 a0_1,.slice A0_2 l0_2.length c0_2,.slice A0_3 l0_3.length c0_3,.slice A0_4 l0_4.length c0_4,.slice A0_5 l0_5.length c0_5]) (t:=26) ?hr ?_;(case hd => rfl);(case hg => rfl);(case hr => first|(go_simp;done)|(go_simp;rfl));intro gb371 hg w19 hbox hb;have n0_:=Aside0.mk (below_step (by repeat (first|(with_reducible first|exact HB.out|apply qqf|apply qqd|apply qqe)|exact HB.out)) hb);have n1_:=Aside0.mk (hbox);have n2_:=Aside0.mk ((by rw [hg];exact (below_size (by repeat (first|(with_reducible first|exact HB.out|apply qqf|apply qqd|apply qqe)|exact HB.out))) : w.heap.size ≤ gb371));have n3_:=Aside0.mk ((by rw [hg];exact (below_size (by repeat (first|(with_reducible first|exact HB.out|apply qqf|apply qqd|apply qqe)|exact HB.out))) : w.heap.size ≤ gb371));clear HB;have HB:=n0_;have BK371:=n1_;have GW371:=n2_;have GE371:=n3_;clear n0_ n1_ n2_ n3_;clear hb hbox hg;have hcz20_0 : w19.cell? ⟨gb371,0,none⟩ = some (.int .u16 a0_0):=(qqh BK371.out 0).trans rfl;have hcz20_1 : w19.cell? ⟨gb371,1,none⟩ = some (.int .u16 a0_1):=(qqh BK371.out 1).trans rfl;have hcz20_2 : w19.cell? ⟨gb371,2,none⟩ = some (.slice A0_2 l0_2.length c0_2):=(qqh BK371.out 2).trans rfl;have hcz20_3 : w19.cell? ⟨gb371,3,none⟩ = some (.slice A0_3 l0_3.length c0_3):=(qqh BK371.out 3).trans rfl;have hcz20_4 : w19.cell? ⟨gb371,4,none⟩ = some (.slice A0_4 l0_4.length c0_4):=(qqh BK371.out 4).trans rfl;have hcz20_5 : w19.cell? ⟨gb371,5,none⟩ = some (.slice A0_5 l0_5.length c0_5):=(qqh BK371.out 5).trans rfl;have hfz20_0:=qqi BK371.out 0;have hfz20_1:=qqi BK371.out 1;have hfz20_2:=qqi BK371.out 2;have hfz20_3:=qqi BK371.out 3;have hfz20_4:=qqi BK371.out 4;have hfz20_5:=qqi BK371.out 5)|(go_at_call 42;(with_reducible refine (nuncioref08_code.calls a0_1 t372 _ A5.out).mono ?_);rintro e w' ⟨rfl,⟨nd,rfl⟩⟩;(try first|exact ⟨rfl,_,World.drewN_drewN _ _ _⟩|exact ⟨rfl,_,Eq.trans (World.drewN_drewN _ _ _) (congrArg (World.drewN _) (Nat.add_assoc _ _ _))⟩))|(go_at_call 42;(with_reducible refine (nuncioref08_code.calls a0_1 t373 _ A18.out).mono ?_);rintro e w' ⟨rfl,⟨nd,rfl⟩⟩;(try first|exact ⟨rfl,_,World.drewN_drewN _ _ _⟩|exact ⟨rfl,_,Eq.trans (World.drewN_drewN _ _ _) (congrArg (World.drewN _) (Nat.add_assoc _ _ _))⟩)));try go_wp2_with (first|((with_reducible refine gate_dst (N:=1) rfl ?_);refine box_event ?hg (N:=1) ?hd (cs:=#[.int .u16 a0_0,.int .u16 a0_1,.slice A0_2 l0_2.length c0_2,.slice A0_3 l0_3.length c0_3,.slice A0_4 l0_4.length c0_4,.slice A0_5 l0_5.length c0_5]) (t:=26) ?hr ?_;(case hd => rfl);(case hg => rfl);(case hr => first|(go_simp;done)|(go_simp;rfl));intro gb371 hg w19 hbox hb;have n0_:=Aside0.mk (below_step (by repeat (first|(with_reducible first|exact HB.out|apply qqf|apply qqd|apply qqe)|exact HB.out)) hb);have n1_:=Aside0.mk (hbox);have n2_:=Aside0.mk ((by rw [hg];exact (below_size (by repeat (first|(with_reducible first|exact HB.out|apply qqf|apply qqd|apply qqe)|exact HB.out))) : w.heap.size ≤ gb371));have n3_:=Aside0.mk ((by rw [hg];exact (below_size (by repeat (first|(with_reducible first|exact HB.out|apply qqf|apply qqd|apply qqe)|exact HB.out))) : w.heap.size ≤ gb371));clear HB;have HB:=n0_;have BK371:=n1_;have GW371:=n2_;have GE371:=n3_;clear n0_ n1_ n2_ n3_;clear hb hbox hg;have hcz20_0 : w19.cell? ⟨gb371,0,none⟩ = some (.int .u16 a0_0):=(qqh BK371.out 0).trans rfl;have hcz20_1 : w19.cell? ⟨gb371,1,none⟩ = some (.int .u16 a0_1):=(qqh BK371.out 1).trans rfl;have hcz20_2 : w19.cell? ⟨gb371,2,none⟩ = some (.slice A0_2 l0_2.length c0_2):=(qqh BK371.out 2).trans rfl;have hcz20_3 : w19.cell? ⟨gb371,3,none⟩ = some (.slice A0_3 l0_3.length c0_3):=(qqh BK371.out 3).trans rfl;have hcz20_4 : w19.cell? ⟨gb371,4,none⟩ = some (.slice A0_4 l0_4.length c0_4):=(qqh BK371.out 4).trans rfl;have hcz20_5 : w19.cell? ⟨gb371,5,none⟩ = some (.slice A0_5 l0_5.length c0_5):=(qqh BK371.out 5).trans rfl;have hfz20_0:=qqi BK371.out 0;have hfz20_1:=qqi BK371.out 1;have hfz20_2:=qqi BK371.out 2;have hfz20_3:=qqi BK371.out 3;have hfz20_4:=qqi BK371.out 4;have hfz20_5:=qqi BK371.out 5)|(go_at_call 42;(with_reducible refine (nuncioref08_code.calls a0_1 t372 _ A5.out).mono ?_);rintro e w' ⟨rfl,⟨nd,rfl⟩⟩;(try first|exact ⟨rfl,_,World.drewN_drewN _ _ _⟩|exact ⟨rfl,_,Eq.trans (World.drewN_drewN _ _ _) (congrArg (World.drewN _) (Nat.add_assoc _ _ _))⟩))|(go_at_call 42;(with_reducible refine (nuncioref08_code.calls a0_1 t373 _ A18.out).mono ?_);rintro e w' ⟨rfl,⟨nd,rfl⟩⟩;(try first|exact ⟨rfl,_,World.drewN_drewN _ _ _⟩|exact ⟨rfl,_,Eq.trans (World.drewN_drewN _ _ _) (congrArg (World.drewN _) (Nat.add_assoc _ _ _))⟩))))
  go_ret
  exact ⟨by first|rfl|(simp [errW_none,errW_some] <;> rfl)|(simp [*,errW_none,errW_some] <;> rfl)|(have e_:=EA18.out;subst e_;rfl),by repeat (first|(with_reducible first|exact HB.out|apply qqf|apply qqd|apply qqe|refine qqg ?_ GE371.out)|exact HB.out)⟩
 rw [if_pos c6] at H
 have c6b0 : (t372 == 0) = true:=beq_iff_eq.mpr c6
 have c6b1 : (t372 != 0) = false:=bne_eq_false_iff_eq.mpr c6
 clear c6
 have H':=Aside0.mk H
 clear H
 go_enter Try.func19,Try.ntmps19
 go_wp2_with (first|((with_reducible refine gate_dst (N:=1) rfl ?_);refine box_event ?hg (N:=1) ?hd (cs:=#[.int .u16 a0_0,.int .u16 a0_1,.slice A0_2 l0_2.length c0_2,.slice A0_3 l0_3.length c0_3,.slice A0_4 l0_4.length c0_4,.slice A0_5 l0_5.length c0_5]) (t:=26) ?hr ?_;(case hd => rfl);(case hg => rfl);(case hr => first|(go_simp;done)|(go_simp;rfl));intro gb371 hg w7 hbox hb;have n0_:=Aside0.mk (below_step (by repeat (first|(with_reducible first|exact HB.out|apply qqf|apply qqd|apply qqe)|exact HB.out)) hb);have n1_:=Aside0.mk (hbox);have n2_:=Aside0.mk ((by rw [hg];exact (below_size (by repeat (first|(with_reducible first|exact HB.out|apply qqf|apply qqd|apply qqe)|exact HB.out))) : w.heap.size ≤ gb371));have n3_:=Aside0.mk ((by rw [hg];exact (below_size (by repeat (first|(with_reducible first|exact HB.out|apply qqf|apply qqd|apply qqe)|exact HB.out))) : w.heap.size ≤ gb371));clear HB;have HB:=n0_;have BK371:=n1_;have GW371:=n2_;have GE371:=n3_;clear n0_ n1_ n2_ n3_;clear hb hbox hg;have hcz8_0 : w7.cell? ⟨gb371,0,none⟩ = some (.int .u16 a0_0):=(qqh BK371.out 0).trans rfl;have hcz8_1 : w7.cell? ⟨gb371,1,none⟩ = some (.int .u16 a0_1):=(qqh BK371.out 1).trans rfl;have hcz8_2 : w7.cell? ⟨gb371,2,none⟩ = some (.slice A0_2 l0_2.length c0_2):=(qqh BK371.out 2).trans rfl;have hcz8_3 : w7.cell? ⟨gb371,3,none⟩ = some (.slice A0_3 l0_3.length c0_3):=(qqh BK371.out 3).trans rfl;have hcz8_4 : w7.cell? ⟨gb371,4,none⟩ = some (.slice A0_4 l0_4.length c0_4):=(qqh BK371.out 4).trans rfl;have hcz8_5 : w7.cell? ⟨gb371,5,none⟩ = some (.slice A0_5 l0_5.length c0_5):=(qqh BK371.out 5).trans rfl;have hfz8_0:=qqi BK371.out 0;have hfz8_1:=qqi BK371.out 1;have hfz8_2:=qqi BK371.out 2;have hfz8_3:=qqi BK371.out 3;have hfz8_4:=qqi BK371.out 4;have hfz8_5:=qqi BK371.out 5)|(go_at_call 42;(with_reducible refine (nuncioref08_code.calls a0_1 t372 _ A5.out).mono ?_);rintro e w' ⟨rfl,⟨nd,rfl⟩⟩;(try first|exact ⟨rfl,_,World.drewN_drewN _ _ _⟩|exact ⟨rfl,_,Eq.trans (World.drewN_drewN _ _ _) (congrArg (World.drewN _) (Nat.add_assoc _ _ _))⟩)))
 repeat (go_quiet (first|((with_reducible refine gate_dst (N:=1) rfl ?_);refine box_event ?hg (N:=1) ?hd (cs:=#[.int .u16 a0_0,.int .u16 a0_1,.slice A0_2 l0_2.length c0_2,.slice A0_3 l0_3.length c0_3,.slice A0_4 l0_4.length c0_4,.slice A0_5 l0_5.length c0_5]) (t:=26) ?hr ?_;(case hd => rfl);(case hg => rfl);(case hr => first|(go_simp;done)|(go_simp;rfl));intro gb371 hg w7 hbox hb;have n0_:=Aside0.mk (below_step (by repeat (first|(with_reducible first|exact HB.out|apply qqf|apply qqd|apply qqe)|exact HB.out)) hb);have n1_:=Aside0.mk (hbox);have n2_:=Aside0.mk ((by rw [hg];exact (below_size (by repeat (first|(with_reducible first|exact HB.out|apply qqf|apply qqd|apply qqe)|exact HB.out))) : w.heap.size ≤ gb371));have n3_:=Aside0.mk ((by rw [hg];exact (below_size (by repeat (first|(with_reducible first|exact HB.out|apply qqf|apply qqd|apply qqe)|exact HB.out))) : w.heap.size ≤ gb371));clear HB;have HB:=n0_;have BK371:=n1_;have GW371:=n2_;have GE371:=n3_;clear n0_ n1_ n2_ n3_;clear hb hbox hg;have hcz8_0 : w7.cell? ⟨gb371,0,none⟩ = some (.int .u16 a0_0):=(qqh BK371.out 0).trans rfl;have hcz8_1 : w7.cell? ⟨gb371,1,none⟩ = some (.int .u16 a0_1):=(qqh BK371.out 1).trans rfl;have hcz8_2 : w7.cell? ⟨gb371,2,none⟩ = some (.slice A0_2 l0_2.length c0_2):=(qqh BK371.out 2).trans rfl;have hcz8_3 : w7.cell? ⟨gb371,3,none⟩ = some (.slice A0_3 l0_3.length c0_3):=(qqh BK371.out 3).trans rfl;have hcz8_4 : w7.cell? ⟨gb371,4,none⟩ = some (.slice A0_4 l0_4.length c0_4):=(qqh BK371.out 4).trans rfl;have hcz8_5 : w7.cell? ⟨gb371,5,none⟩ = some (.slice A0_5 l0_5.length c0_5):=(qqh BK371.out 5).trans rfl;have hfz8_0:=qqi BK371.out 0;have hfz8_1:=qqi BK371.out 1;have hfz8_2:=qqi BK371.out 2;have hfz8_3:=qqi BK371.out 3;have hfz8_4:=qqi BK371.out 4;have hfz8_5:=qqi BK371.out 5)|(go_at_call 42;(with_reducible refine (nuncioref08_code.calls a0_1 t372 _ A5.out).mono ?_);rintro e w' ⟨rfl,⟨nd,rfl⟩⟩;(try first|exact ⟨rfl,_,World.drewN_drewN _ _ _⟩|exact ⟨rfl,_,Eq.trans (World.drewN_drewN _ _ _) (congrArg (World.drewN _) (Nat.add_assoc _ _ _))⟩)));try go_wp2_with (first|((with_reducible refine gate_dst (N:=1) rfl ?_);refine box_event ?hg (N:=1) ?hd (cs:=#[.int .u16 a0_0,.int .u16 a0_1,.slice A0_2 l0_2.length c0_2,.slice A0_3 l0_3.length c0_3,.slice A0_4 l0_4.length c0_4,.slice A0_5 l0_5.length c0_5]) (t:=26) ?hr ?_;(case hd => rfl);(case hg => rfl);(case hr => first|(go_simp;done)|(go_simp;rfl));intro gb371 hg w7 hbox hb;have n0_:=Aside0.mk (below_step (by repeat (first|(with_reducible first|exact HB.out|apply qqf|apply qqd|apply qqe)|exact HB.out)) hb);have n1_:=Aside0.mk (hbox);have n2_:=Aside0.mk ((by rw [hg];exact (below_size (by repeat (first|(with_reducible first|exact HB.out|apply qqf|apply qqd|apply qqe)|exact HB.out))) : w.heap.size ≤ gb371));have n3_:=Aside0.mk ((by rw [hg];exact (below_size (by repeat (first|(with_reducible first|exact HB.out|apply qqf|apply qqd|apply qqe)|exact HB.out))) : w.heap.size ≤ gb371));clear HB;have HB:=n0_;have BK371:=n1_;have GW371:=n2_;have GE371:=n3_;clear n0_ n1_ n2_ n3_;clear hb hbox hg;have hcz8_0 : w7.cell? ⟨gb371,0,none⟩ = some (.int .u16 a0_0):=(qqh BK371.out 0).trans rfl;have hcz8_1 : w7.cell? ⟨gb371,1,none⟩ = some (.int .u16 a0_1):=(qqh BK371.out 1).trans rfl;have hcz8_2 : w7.cell? ⟨gb371,2,none⟩ = some (.slice A0_2 l0_2.length c0_2):=(qqh BK371.out 2).trans rfl;have hcz8_3 : w7.cell? ⟨gb371,3,none⟩ = some (.slice A0_3 l0_3.length c0_3):=(qqh BK371.out 3).trans rfl;have hcz8_4 : w7.cell? ⟨gb371,4,none⟩ = some (.slice A0_4 l0_4.length c0_4):=(qqh BK371.out 4).trans rfl;have hcz8_5 : w7.cell? ⟨gb371,5,none⟩ = some (.slice A0_5 l0_5.length c0_5):=(qqh BK371.out 5).trans rfl;have hfz8_0:=qqi BK371.out 0;have hfz8_1:=qqi BK371.out 1;have hfz8_2:=qqi BK371.out 2;have hfz8_3:=qqi BK371.out 3;have hfz8_4:=qqi BK371.out 4;have hfz8_5:=qqi BK371.out 5)|(go_at_call 42;(with_reducible refine (nuncioref08_code.calls a0_1 t372 _ A5.out).mono ?_);rintro e w' ⟨rfl,⟨nd,rfl⟩⟩;(try first|exact ⟨rfl,_,World.drewN_drewN _ _ _⟩|exact ⟨rfl,_,Eq.trans (World.drewN_drewN _ _ _) (congrArg (World.drewN _) (Nat.add_assoc _ _ _))⟩))))
 go_loopg [3] k (fun kq v3 w' => ∃ (x3_1 : Int),v3 = .int .i64 x3_1∧Aside0 (nuncioref08_Negative.l0 kq x3_1 a0_0 a0_1 l0_2 l0_3 l0_4 l0_5 = some r)∧Aside0 (kq ≤ k)∧Aside0 (w'.heap[gb371]? = some (.cells #[.int .u16 a0_0,.int .u16 a0_1,(.slice A0_2 l0_2.length c0_2),(.slice A0_3 l0_3.length c0_3),(.slice A0_4 l0_4.length c0_4),(.slice A0_5 l0_5.length c0_5)] 26 (0,0)))∧Aside0 (Below w.heap.size w w'))
 case atStart => exact ⟨(0),(by first|rfl|(simp;done)|(simp [*];done)),H',⟨Nat.le_refl _⟩,⟨by (with_reducible repeat first|apply qqa|apply qqb|apply qqc);exact BK371.out⟩,⟨by repeat (first|(with_reducible first|exact HB.out|apply qqf|apply qqd|apply qqe|refine qqg ?_ GE371.out)|exact HB.out)⟩⟩
 case round =>
  clear H'
  try clear c1
  try clear c2
  try clear c2b0
  try clear c2b1
  try clear c2b2
  try clear p2
  try clear c6
  try clear c6b0
  try clear c6b1
  try clear hcz4_0
  try clear hcz4_1
  try clear hcz4_2
  try clear hcz4_3
  try clear hcz4_4
  try clear hcz4_5
  try clear hcz8_0
  try clear hcz8_1
  try clear hcz8_2
  try clear hcz8_3
  try clear hcz8_4
  try clear hcz8_5
  try clear hfz4_0
  try clear hfz4_1
  try clear hfz4_2
  try clear hfz4_3
  try clear hfz4_4
  try clear hfz4_5
  try clear hfz8_0
  try clear hfz8_1
  try clear hfz8_2
  try clear hfz8_3
  try clear hfz8_4
  try clear hfz8_5
  obtain ⟨x3_1,rfl,HA,HK1,BK371,HB⟩:=hrel
  cases gk with
  | zero => exact absurd HA.out (by simp [nuncioref08_Negative.l0])
  | succ k1 =>
   have H:=HA.out
   clear HA
   simp only [nuncioref08_Negative.l0] at H
   by_cases c9 : x3_1 < (l0_3.length : Int)
   ·
    rw [if_pos c9] at H
    have c9b0 : decide (x3_1 < (l0_3.length : Int)) = true:=decide_eq_true c9
    clear c9
    by_cases c10 : 0 ≤ x3_1
    ·
     rw [if_pos c10] at H
     have c10b0 : decide (0 ≤ x3_1) = true:=decide_eq_true c10
     clear c10
     by_cases c11 : 0 < (l0_2.length : Int)
     ·
      rw [if_pos c11] at H
      have c11b0 : decide (0 < (l0_2.length : Int)) = true:=decide_eq_true c11
      have c11b1 : decide (0 < l0_2.length) = true:=decide_eq_true (by omega)
      clear c11
      by_cases c12 : ((rd_T51 l0_3 x3_1).f1) = ((rd_T53 l0_2 0).f1)
      ·
       rw [if_pos c12] at H
       have c12b0 : (((rd_T51 l0_3 x3_1).f1) == ((rd_T53 l0_2 0).f1)) = true:=beq_iff_eq.mpr c12
       have c12b1 : (((rd_T51 l0_3 x3_1).f1) != ((rd_T53 l0_2 0).f1)) = false:=bne_eq_false_iff_eq.mpr c12
       clear c12
       obtain rfl:=Option.some.inj H
       have hcz13_0 : wr.cell? ⟨gb371,0,none⟩ = some (.int .u16 a0_0):=(qqh BK371.out 0).trans rfl
       have hcz13_1 : wr.cell? ⟨gb371,1,none⟩ = some (.int .u16 a0_1):=(qqh BK371.out 1).trans rfl
       have hcz13_2 : wr.cell? ⟨gb371,2,none⟩ = some (.slice A0_2 l0_2.length c0_2):=(qqh BK371.out 2).trans rfl
       have hcz13_3 : wr.cell? ⟨gb371,3,none⟩ = some (.slice A0_3 l0_3.length c0_3):=(qqh BK371.out 3).trans rfl
       have hcz13_4 : wr.cell? ⟨gb371,4,none⟩ = some (.slice A0_4 l0_4.length c0_4):=(qqh BK371.out 4).trans rfl
       have hcz13_5 : wr.cell? ⟨gb371,5,none⟩ = some (.slice A0_5 l0_5.length c0_5):=(qqh BK371.out 5).trans rfl
       have hfz13_0:=qqi BK371.out 0
       have hfz13_1:=qqi BK371.out 1
       have hfz13_2:=qqi BK371.out 2
       have hfz13_3:=qqi BK371.out 3
       have hfz13_4:=qqi BK371.out 4
       have hfz13_5:=qqi BK371.out 5
       have p374 : 0 ≤ (x3_1 : Int):=of_decide_eq_true (by first|(with_reducible assumption)|assumption)
       have q374 : x3_1 < (l0_3.length : Int):=of_decide_eq_true (by first|(with_reducible assumption)|assumption)
       obtain ⟨ad374,A374_4,c374_4,A374_5,c374_5,A374_6,c374_6,e374,hx374_0,hx374_1,hx374_2,hx374_3,hx374_4,hx374_5,hx374_6,hl374_4,hi374_4,hl374_5,hi374_5,hl374_6,hi374_6⟩:=at_T51 HR0_3.out x3_1 p374 q374
       cases e374
       replace hx374_0:=(HB.out.cell (World.block_lt_of_cell? w _ hx374_0)).trans hx374_0
       replace hx374_1:=(HB.out.cell (World.block_lt_of_cell? w _ hx374_1)).trans hx374_1
       replace hx374_2:=(HB.out.cell (World.block_lt_of_cell? w _ hx374_2)).trans hx374_2
       replace hx374_3:=(HB.out.cell (World.block_lt_of_cell? w _ hx374_3)).trans hx374_3
       replace hx374_4:=(HB.out.cell (World.block_lt_of_cell? w _ hx374_4)).trans hx374_4
       replace hx374_5:=(HB.out.cell (World.block_lt_of_cell? w _ hx374_5)).trans hx374_5
       replace hx374_6:=(HB.out.cell (World.block_lt_of_cell? w _ hx374_6)).trans hx374_6
       have HR374_4:=Aside0.mk hi374_4
       have HC374_4:=Aside0.mk hl374_4
       clear hi374_4 hl374_4
       have HR374_5:=Aside0.mk hi374_5
       have HC374_5:=Aside0.mk hl374_5
       clear hi374_5 hl374_5
       have HR374_6:=Aside0.mk hi374_6
       have HC374_6:=Aside0.mk hl374_6
       clear hi374_6 hl374_6
       replace p374:=eq_true p374
       replace q374:=eq_true q374
       have p375 : 0 ≤ (0 : Int):=(by omega)
       have q375 : 0 < (l0_2.length : Int):=of_decide_eq_true (by first|(with_reducible assumption)|assumption)
       obtain ⟨ad375,e375,hx375_0,hx375_1,hx375_2⟩:=at_T53 HR0_2.out 0 p375 q375
       cases e375
       have qi375 : (0 < l0_2.length) = True:=eq_true (by omega)
       (try rw [show ((0 : Int)).toNat = 0 from rfl] at hx375_0)
       (try rw [show 0 * 3 = 0 from rfl] at hx375_0)
       (try rw [Addr.add_zero'] at hx375_0)
       (try rw [show ((0 : Int)).toNat = 0 from rfl] at hx375_1)
       (try rw [show 0 * 3 = 0 from rfl] at hx375_1)
       (try rw [Addr.add_zero'] at hx375_1)
       (try rw [show ((0 : Int)).toNat = 0 from rfl] at hx375_2)
       (try rw [show 0 * 3 = 0 from rfl] at hx375_2)
       (try rw [Addr.add_zero'] at hx375_2)
       replace hx375_0:=(HB.out.cell (World.block_lt_of_cell? w _ hx375_0)).trans hx375_0
       replace hx375_1:=(HB.out.cell (World.block_lt_of_cell? w _ hx375_1)).trans hx375_1
       replace hx375_2:=(HB.out.cell (World.block_lt_of_cell? w _ hx375_2)).trans hx375_2
       replace p375:=eq_true p375
       replace q375:=eq_true q375
       go_wp2
       repeat (go_quiet (fail);try go_wp2)
       go_ret
       exact ⟨by first|rfl|(simp [errW_none,errW_some] <;> rfl)|(simp [*,errW_none,errW_some] <;> rfl),by repeat (first|(with_reducible first|exact HB.out|apply qqf|apply qqd|apply qqe|refine qqg ?_ GE371.out)|exact HB.out)⟩
      ·
       rw [if_neg c12] at H
       have c12b0 : (((rd_T51 l0_3 x3_1).f1) == ((rd_T53 l0_2 0).f1)) = false:=beq_eq_false_iff_ne.mpr c12
       have c12b1 : (((rd_T51 l0_3 x3_1).f1) != ((rd_T53 l0_2 0).f1)) = true:=bne_iff_ne.mpr c12
       by_cases c14 : ((rd_T51 l0_3 x3_1).f1) = 5
       ·
        rw [if_pos c14] at H
        have c14b0 : (((rd_T51 l0_3 x3_1).f1) == 5) = true:=beq_iff_eq.mpr c14
        have c14b1 : (((rd_T51 l0_3 x3_1).f1) != 5) = false:=bne_eq_false_iff_eq.mpr c14
        clear c14
        obtain rfl:=Option.some.inj H
        have hcz15_0 : wr.cell? ⟨gb371,0,none⟩ = some (.int .u16 a0_0):=(qqh BK371.out 0).trans rfl
        have hcz15_1 : wr.cell? ⟨gb371,1,none⟩ = some (.int .u16 a0_1):=(qqh BK371.out 1).trans rfl
        have hcz15_2 : wr.cell? ⟨gb371,2,none⟩ = some (.slice A0_2 l0_2.length c0_2):=(qqh BK371.out 2).trans rfl
        have hcz15_3 : wr.cell? ⟨gb371,3,none⟩ = some (.slice A0_3 l0_3.length c0_3):=(qqh BK371.out 3).trans rfl
        have hcz15_4 : wr.cell? ⟨gb371,4,none⟩ = some (.slice A0_4 l0_4.length c0_4):=(qqh BK371.out 4).trans rfl
        have hcz15_5 : wr.cell? ⟨gb371,5,none⟩ = some (.slice A0_5 l0_5.length c0_5):=(qqh BK371.out 5).trans rfl
        have hfz15_0:=qqi BK371.out 0
        have hfz15_1:=qqi BK371.out 1
        have hfz15_2:=qqi BK371.out 2
        have hfz15_3:=qqi BK371.out 3
        have hfz15_4:=qqi BK371.out 4
        have hfz15_5:=qqi BK371.out 5
        have p374 : 0 ≤ (x3_1 : Int):=of_decide_eq_true (by first|(with_reducible assumption)|assumption)
        have q374 : x3_1 < (l0_3.length : Int):=of_decide_eq_true (by first|(with_reducible assumption)|assumption)
        obtain ⟨ad374,A374_4,c374_4,A374_5,c374_5,A374_6,c374_6,e374,hx374_0,hx374_1,hx374_2,hx374_3,hx374_4,hx374_5,hx374_6,hl374_4,hi374_4,hl374_5,hi374_5,hl374_6,hi374_6⟩:=at_T51 HR0_3.out x3_1 p374 q374
        cases e374
        replace hx374_0:=(HB.out.cell (World.block_lt_of_cell? w _ hx374_0)).trans hx374_0
        replace hx374_1:=(HB.out.cell (World.block_lt_of_cell? w _ hx374_1)).trans hx374_1
        replace hx374_2:=(HB.out.cell (World.block_lt_of_cell? w _ hx374_2)).trans hx374_2
        replace hx374_3:=(HB.out.cell (World.block_lt_of_cell? w _ hx374_3)).trans hx374_3
        replace hx374_4:=(HB.out.cell (World.block_lt_of_cell? w _ hx374_4)).trans hx374_4
        replace hx374_5:=(HB.out.cell (World.block_lt_of_cell? w _ hx374_5)).trans hx374_5
        replace hx374_6:=(HB.out.cell (World.block_lt_of_cell? w _ hx374_6)).trans hx374_6
        have HR374_4:=Aside0.mk hi374_4
        have HC374_4:=Aside0.mk hl374_4
        clear hi374_4 hl374_4
        have HR374_5:=Aside0.mk hi374_5
        have HC374_5:=Aside0.mk hl374_5
        clear hi374_5 hl374_5
        have HR374_6:=Aside0.mk hi374_6
        have HC374_6:=Aside0.mk hl374_6
        clear hi374_6 hl374_6
        replace p374:=eq_true p374
        replace q374:=eq_true q374
        have p375 : 0 ≤ (0 : Int):=(by omega)
        have q375 : 0 < (l0_2.length : Int):=of_decide_eq_true (by first|(with_reducible assumption)|assumption)
        obtain ⟨ad375,e375,hx375_0,hx375_1,hx375_2⟩:=at_T53 HR0_2.out 0 p375 q375
        cases e375
        have qi375 : (0 < l0_2.length) = True:=eq_true (by omega)
        (try rw [show ((0 : Int)).toNat = 0 from rfl] at hx375_0)
        (try rw [show 0 * 3 = 0 from rfl] at hx375_0)
        (try rw [Addr.add_zero'] at hx375_0)
        (try rw [show ((0 : Int)).toNat = 0 from rfl] at hx375_1)
        (try rw [show 0 * 3 = 0 from rfl] at hx375_1)
        (try rw [Addr.add_zero'] at hx375_1)
        (try rw [show ((0 : Int)).toNat = 0 from rfl] at hx375_2)
        (try rw [show 0 * 3 = 0 from rfl] at hx375_2)
        (try rw [Addr.add_zero'] at hx375_2)
        replace hx375_0:=(HB.out.cell (World.block_lt_of_cell? w _ hx375_0)).trans hx375_0
        replace hx375_1:=(HB.out.cell (World.block_lt_of_cell? w _ hx375_1)).trans hx375_1
        replace hx375_2:=(HB.out.cell (World.block_lt_of_cell? w _ hx375_2)).trans hx375_2
        replace p375:=eq_true p375
        replace q375:=eq_true q375
        have p376 : 0 ≤ (x3_1 : Int):=of_decide_eq_true (by first|(with_reducible assumption)|assumption)
        have q376 : x3_1 < (l0_3.length : Int):=of_decide_eq_true (by first|(with_reducible assumption)|assumption)
        obtain ⟨ad376,A376_4,c376_4,A376_5,c376_5,A376_6,c376_6,e376,hx376_0,hx376_1,hx376_2,hx376_3,hx376_4,hx376_5,hx376_6,hl376_4,hi376_4,hl376_5,hi376_5,hl376_6,hi376_6⟩:=at_T51 HR0_3.out x3_1 p376 q376
        obtain rfl : ad374 = ad376:=(by injection e376)
        replace hx376_0:=(HB.out.cell (World.block_lt_of_cell? w _ hx376_0)).trans hx376_0
        replace hx376_1:=(HB.out.cell (World.block_lt_of_cell? w _ hx376_1)).trans hx376_1
        replace hx376_2:=(HB.out.cell (World.block_lt_of_cell? w _ hx376_2)).trans hx376_2
        replace hx376_3:=(HB.out.cell (World.block_lt_of_cell? w _ hx376_3)).trans hx376_3
        replace hx376_4:=(HB.out.cell (World.block_lt_of_cell? w _ hx376_4)).trans hx376_4
        replace hx376_5:=(HB.out.cell (World.block_lt_of_cell? w _ hx376_5)).trans hx376_5
        replace hx376_6:=(HB.out.cell (World.block_lt_of_cell? w _ hx376_6)).trans hx376_6
        have HR376_4:=Aside0.mk hi376_4
        have HC376_4:=Aside0.mk hl376_4
        clear hi376_4 hl376_4
        have HR376_5:=Aside0.mk hi376_5
        have HC376_5:=Aside0.mk hl376_5
        clear hi376_5 hl376_5
        have HR376_6:=Aside0.mk hi376_6
        have HC376_6:=Aside0.mk hl376_6
        clear hi376_6 hl376_6
        replace p376:=eq_true p376
        replace q376:=eq_true q376
        have ea_:=Option.some.inj (hx374_4.symm.trans hx376_4)
        injection ea_ with ea_ en_ ec_
        subst ea_
        subst ec_
        clear en_
        have ea_:=Option.some.inj (hx374_5.symm.trans hx376_5)
        injection ea_ with ea_ en_ ec_
        subst ea_
        subst ec_
        clear en_
        have ea_:=Option.some.inj (hx374_6.symm.trans hx376_6)
        injection ea_ with ea_ en_ ec_
        subst ea_
        subst ec_
        clear en_
        go_wp2
        repeat (go_quiet (fail);try go_wp2)
        go_ret
        exact ⟨by first|rfl|(simp [errW_none,errW_some] <;> rfl)|(simp [*,errW_none,errW_some] <;> rfl),by repeat (first|(with_reducible first|exact HB.out|apply qqf|apply qqd|apply qqe|refine qqg ?_ GE371.out)|exact HB.out)⟩
       ·
        rw [if_neg c14] at H
        have c14b0 : (((rd_T51 l0_3 x3_1).f1) == 5) = false:=beq_eq_false_iff_ne.mpr c14
        have c14b1 : (((rd_T51 l0_3 x3_1).f1) != 5) = true:=bne_iff_ne.mpr c14
        have H':=Aside0.mk H
        clear H
        have hcz16_0 : wr.cell? ⟨gb371,0,none⟩ = some (.int .u16 a0_0):=(qqh BK371.out 0).trans rfl
        have hcz16_1 : wr.cell? ⟨gb371,1,none⟩ = some (.int .u16 a0_1):=(qqh BK371.out 1).trans rfl
        have hcz16_2 : wr.cell? ⟨gb371,2,none⟩ = some (.slice A0_2 l0_2.length c0_2):=(qqh BK371.out 2).trans rfl
        have hcz16_3 : wr.cell? ⟨gb371,3,none⟩ = some (.slice A0_3 l0_3.length c0_3):=(qqh BK371.out 3).trans rfl
        have hcz16_4 : wr.cell? ⟨gb371,4,none⟩ = some (.slice A0_4 l0_4.length c0_4):=(qqh BK371.out 4).trans rfl
        have hcz16_5 : wr.cell? ⟨gb371,5,none⟩ = some (.slice A0_5 l0_5.length c0_5):=(qqh BK371.out 5).trans rfl
        have hfz16_0:=qqi BK371.out 0
        have hfz16_1:=qqi BK371.out 1
        have hfz16_2:=qqi BK371.out 2
        have hfz16_3:=qqi BK371.out 3
        have hfz16_4:=qqi BK371.out 4
        have hfz16_5:=qqi BK371.out 5
        have p374 : 0 ≤ (x3_1 : Int):=of_decide_eq_true (by first|(with_reducible assumption)|assumption)
        have q374 : x3_1 < (l0_3.length : Int):=of_decide_eq_true (by first|(with_reducible assumption)|assumption)
        obtain ⟨ad374,A374_4,c374_4,A374_5,c374_5,A374_6,c374_6,e374,hx374_0,hx374_1,hx374_2,hx374_3,hx374_4,hx374_5,hx374_6,hl374_4,hi374_4,hl374_5,hi374_5,hl374_6,hi374_6⟩:=at_T51 HR0_3.out x3_1 p374 q374
        cases e374
        replace hx374_0:=(HB.out.cell (World.block_lt_of_cell? w _ hx374_0)).trans hx374_0
        replace hx374_1:=(HB.out.cell (World.block_lt_of_cell? w _ hx374_1)).trans hx374_1
        replace hx374_2:=(HB.out.cell (World.block_lt_of_cell? w _ hx374_2)).trans hx374_2
        replace hx374_3:=(HB.out.cell (World.block_lt_of_cell? w _ hx374_3)).trans hx374_3
        replace hx374_4:=(HB.out.cell (World.block_lt_of_cell? w _ hx374_4)).trans hx374_4
        replace hx374_5:=(HB.out.cell (World.block_lt_of_cell? w _ hx374_5)).trans hx374_5
        replace hx374_6:=(HB.out.cell (World.block_lt_of_cell? w _ hx374_6)).trans hx374_6
        have HR374_4:=Aside0.mk hi374_4
        have HC374_4:=Aside0.mk hl374_4
        clear hi374_4 hl374_4
        have HR374_5:=Aside0.mk hi374_5
        have HC374_5:=Aside0.mk hl374_5
        clear hi374_5 hl374_5
        have HR374_6:=Aside0.mk hi374_6
        have HC374_6:=Aside0.mk hl374_6
        clear hi374_6 hl374_6
        replace p374:=eq_true p374
        replace q374:=eq_true q374
        have p375 : 0 ≤ (0 : Int):=(by omega)
        have q375 : 0 < (l0_2.length : Int):=of_decide_eq_true (by first|(with_reducible assumption)|assumption)
        obtain ⟨ad375,e375,hx375_0,hx375_1,hx375_2⟩:=at_T53 HR0_2.out 0 p375 q375
        cases e375
        have qi375 : (0 < l0_2.length) = True:=eq_true (by omega)
        (try rw [show ((0 : Int)).toNat = 0 from rfl] at hx375_0)
        (try rw [show 0 * 3 = 0 from rfl] at hx375_0)
        (try rw [Addr.add_zero'] at hx375_0)
        (try rw [show ((0 : Int)).toNat = 0 from rfl] at hx375_1)
        (try rw [show 0 * 3 = 0 from rfl] at hx375_1)
        (try rw [Addr.add_zero'] at hx375_1)
        (try rw [show ((0 : Int)).toNat = 0 from rfl] at hx375_2)
        (try rw [show 0 * 3 = 0 from rfl] at hx375_2)
        (try rw [Addr.add_zero'] at hx375_2)
        replace hx375_0:=(HB.out.cell (World.block_lt_of_cell? w _ hx375_0)).trans hx375_0
        replace hx375_1:=(HB.out.cell (World.block_lt_of_cell? w _ hx375_1)).trans hx375_1
        replace hx375_2:=(HB.out.cell (World.block_lt_of_cell? w _ hx375_2)).trans hx375_2
        replace p375:=eq_true p375
        replace q375:=eq_true q375
        have p376 : 0 ≤ (x3_1 : Int):=of_decide_eq_true (by first|(with_reducible assumption)|assumption)
        have q376 : x3_1 < (l0_3.length : Int):=of_decide_eq_true (by first|(with_reducible assumption)|assumption)
        obtain ⟨ad376,A376_4,c376_4,A376_5,c376_5,A376_6,c376_6,e376,hx376_0,hx376_1,hx376_2,hx376_3,hx376_4,hx376_5,hx376_6,hl376_4,hi376_4,hl376_5,hi376_5,hl376_6,hi376_6⟩:=at_T51 HR0_3.out x3_1 p376 q376
        obtain rfl : ad374 = ad376:=(by injection e376)
        replace hx376_0:=(HB.out.cell (World.block_lt_of_cell? w _ hx376_0)).trans hx376_0
        replace hx376_1:=(HB.out.cell (World.block_lt_of_cell? w _ hx376_1)).trans hx376_1
        replace hx376_2:=(HB.out.cell (World.block_lt_of_cell? w _ hx376_2)).trans hx376_2
        replace hx376_3:=(HB.out.cell (World.block_lt_of_cell? w _ hx376_3)).trans hx376_3
        replace hx376_4:=(HB.out.cell (World.block_lt_of_cell? w _ hx376_4)).trans hx376_4
        replace hx376_5:=(HB.out.cell (World.block_lt_of_cell? w _ hx376_5)).trans hx376_5
        replace hx376_6:=(HB.out.cell (World.block_lt_of_cell? w _ hx376_6)).trans hx376_6
        have HR376_4:=Aside0.mk hi376_4
        have HC376_4:=Aside0.mk hl376_4
        clear hi376_4 hl376_4
        have HR376_5:=Aside0.mk hi376_5
        have HC376_5:=Aside0.mk hl376_5
        clear hi376_5 hl376_5
        have HR376_6:=Aside0.mk hi376_6
        have HC376_6:=Aside0.mk hl376_6
        clear hi376_6 hl376_6
        replace p376:=eq_true p376
        replace q376:=eq_true q376
        have ea_:=Option.some.inj (hx374_4.symm.trans hx376_4)
        injection ea_ with ea_ en_ ec_
        subst ea_
        subst ec_
        clear en_
        have ea_:=Option.some.inj (hx374_5.symm.trans hx376_5)
        injection ea_ with ea_ en_ ec_
        subst ea_
        subst ec_
        clear en_
        have ea_:=Option.some.inj (hx374_6.symm.trans hx376_6)
        injection ea_ with ea_ en_ ec_
        subst ea_
        subst ec_
        clear en_
        go_wp2
        repeat (go_quiet (fail);try go_wp2)
        go_roundg k1
        case measure => have:=HK1.out;omega
        case rel => exact ⟨(wrap64 (x3_1 + 1)),(by first|rfl|(simp;done)|(simp [*];done)),H',⟨by have:=HK1.out;omega⟩,⟨by (with_reducible repeat first|apply qqa|apply qqb|apply qqc);exact BK371.out⟩,⟨by repeat (first|(with_reducible first|exact HB.out|apply qqf|apply qqd|apply qqe|refine qqg ?_ GE371.out)|exact HB.out)⟩⟩
     ·
      rw [if_neg c11] at H
      exact absurd H (by simp)
    ·
     rw [if_neg c10] at H
     exact absurd H (by simp)
   ·
    rw [if_neg c9] at H
    have c9b0 : decide (x3_1 < (l0_3.length : Int)) = false:=decide_eq_false c9
    clear c9
    obtain rfl:=Option.some.inj H
    have hcz17_0 : wr.cell? ⟨gb371,0,none⟩ = some (.int .u16 a0_0):=(qqh BK371.out 0).trans rfl
    have hcz17_1 : wr.cell? ⟨gb371,1,none⟩ = some (.int .u16 a0_1):=(qqh BK371.out 1).trans rfl
    have hcz17_2 : wr.cell? ⟨gb371,2,none⟩ = some (.slice A0_2 l0_2.length c0_2):=(qqh BK371.out 2).trans rfl
    have hcz17_3 : wr.cell? ⟨gb371,3,none⟩ = some (.slice A0_3 l0_3.length c0_3):=(qqh BK371.out 3).trans rfl
    have hcz17_4 : wr.cell? ⟨gb371,4,none⟩ = some (.slice A0_4 l0_4.length c0_4):=(qqh BK371.out 4).trans rfl
    have hcz17_5 : wr.cell? ⟨gb371,5,none⟩ = some (.slice A0_5 l0_5.length c0_5):=(qqh BK371.out 5).trans rfl
    have hfz17_0:=qqi BK371.out 0
    have hfz17_1:=qqi BK371.out 1
    have hfz17_2:=qqi BK371.out 2
    have hfz17_3:=qqi BK371.out 3
    have hfz17_4:=qqi BK371.out 4
    have hfz17_5:=qqi BK371.out 5
    go_wp2
    repeat (go_quiet (fail);try go_wp2)
    go_ret
    exact ⟨by first|rfl|(simp [errW_none,errW_some] <;> rfl)|(simp [*,errW_none,errW_some] <;> rfl),by repeat (first|(with_reducible first|exact HB.out|apply qqf|apply qqd|apply qqe|refine qqg ?_ GE371.out)|exact HB.out)⟩

end Go.Proofs.Ythkdfnbhlinhiaa.Mine
