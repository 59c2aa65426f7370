-- Written by this repo's own printer (wip/print), which builds on the kit's.
import Derived.Test.YthkdfnbhlinhiaaMinex0
import Derived.Test.YthkdfnbhlinhiaaMinex17
import Derived.Test.YthkdfnbhlinhiaaMinex18
namespace Go.Proofs.Ythkdfnbhlinhiaa.Mine
open Go.RowKit Go.Proofs.YthkdfnbhlinhiaaW.PrintWords Go.Proofs.YthkdfnbhlinhiaaW.PrintLast Go.Proofs.YthkdfnbhlinhiaaW.PrintMore
attribute [local go_sem] max2_int min2_int max_two min_two max_three min_three max_four min_four   -- for this text's walks alone
set_option linter.unusedVariables false
set_option linter.unusedSimpArgs false

/-! ### nunciolaw07_Few: function 10 -/
mutual
def nunciolaw07_Few.j0 : Nat → Bool → Int → Int → List (S53) → List (S51) → List (S51) → List (S51) → Option (Bool)
 | 0, _, _, _, _, _, _, _ => none
 | k + 1, x30, x224000, x224001, x224002, x224003, x224004, x224005 => if x30 = true then (some false) else (nunciolaw07_Few.l0 k 0 0 x224000 x224001 x224002 x224003 x224004 x224005)
def nunciolaw07_Few.l0 : Nat → Int → Int → Int → Int → List (S53) → List (S51) → List (S51) → List (S51) → Option (Bool)
 | 0, _, _, _, _, _, _, _, _ => none
 | k + 1, x3, x4, x224000, x224001, x224002, x224003, x224004, x224005 => if x4 < (x224002.length : Int) then (if 0 ≤ x4 then (if (wrap64 (x3 + (mn (((rd_T53 x224002 x4).f0).size : Int) 60000))) > 70000 then (some false) else (nunciolaw07_Few.l0 k (wrap64 (x3 + (mn (((rd_T53 x224002 x4).f0).size : Int) 60000))) (wrap64 (x4 + 1)) x224000 x224001 x224002 x224003 x224004 x224005)) else (none)) else ((nuncioref07_Records.f x224000 x224001 x224002 x224003 x224004 x224005).bind fun t225 => (nunciolaw07_Few.l1 k x3 t225 0))
def nunciolaw07_Few.l1 : Nat → Int → List (S51) → Int → Option (Bool)
 | 0, _, _, _ => none
 | k + 1, x3, x5, x6 => if x6 < (x5.length : Int) then (if 0 ≤ x6 then ((nunciolaw05_Few.f k ((rd_T51 x5 x6).f0) ((rd_T51 x5 x6).f1) ((rd_T51 x5 x6).f2) ((rd_T51 x5 x6).f3) ((rd_T51 x5 x6).f4) ((rd_T51 x5 x6).f5) ((rd_T51 x5 x6).f6)).bind fun t229 => (if t229 = true then (nunciolaw07_Few.l2 k x3 x5 x6 0) else (some false))) else (none)) else (some true)
def nunciolaw07_Few.l2 : Nat → Int → List (S51) → Int → Int → Option (Bool)
 | 0, _, _, _, _ => none
 | k + 1, x3, x5, x6, x7 => if 0 ≤ x6 then (if x6 < (x5.length : Int) then (if x7 < (((rd_T51 x5 x6).f4).length : Int) then (if 0 ≤ x7 then (nunciolaw07_Few.l2 k (wrap64 (x3 + ((rdOf ByteArray.empty ((rd_T51 x5 x6).f4) x7).size : Int))) x5 x6 (wrap64 (x7 + 1))) else (none)) else (nunciolaw07_Few.l3 k x3 x5 x6 0)) else (none)) else (none)
def nunciolaw07_Few.l3 : Nat → Int → List (S51) → Int → Int → Option (Bool)
 | 0, _, _, _, _ => none
 | k + 1, x3, x5, x6, x8 => if 0 ≤ x6 then (if x6 < (x5.length : Int) then (if x8 < (((rd_T51 x5 x6).f6).length : Int) then (if 0 ≤ x8 then (nunciolaw07_Few.l3 k (wrap64 (x3 + ((rdOf ByteArray.empty ((rd_T51 x5 x6).f6) x8).size : Int))) x5 x6 (wrap64 (x8 + 1))) else (none)) else (if (wrap64 ((wrap64 (x3 + (((rd_T51 x5 x6).f0).size : Int))) + (((rd_T51 x5 x6).f5).length : Int))) > 70000 then (some false) else (nunciolaw07_Few.l1 k (wrap64 ((wrap64 (x3 + (((rd_T51 x5 x6).f0).size : Int))) + (((rd_T51 x5 x6).f5).length : Int))) x5 (wrap64 (x6 + 1))))) else (none)) else (none)
end
def nunciolaw07_Few.f (k : Nat) (a0_0 : Int) (a0_1 : Int) (l0_2 : List (S53)) (l0_3 : List (S51)) (l0_4 : List (S51)) (l0_5 : List (S51)) : Option (Bool) := if (l0_2.length : Int) > 300 then (nunciolaw07_Few.j0 k true a0_0 a0_1 l0_2 l0_3 l0_4 l0_5) else (if (l0_3.length : Int) > 300 then (nunciolaw07_Few.j0 k true a0_0 a0_1 l0_2 l0_3 l0_4 l0_5) else (if (l0_4.length : Int) > 300 then (nunciolaw07_Few.j0 k true a0_0 a0_1 l0_2 l0_3 l0_4 l0_5) else (nunciolaw07_Few.j0 k (decide ((l0_5.length : Int) > 300)) a0_0 a0_1 l0_2 l0_3 l0_4 l0_5)))
theorem nunciolaw07_Few.mono_l : ∀ k, (∀ y0 y1 y2 y3 y4 y5 y6, LeO (nunciolaw07_Few.j0 k y0 y1 y2 y3 y4 y5 y6) (nunciolaw07_Few.j0 (k + 1) y0 y1 y2 y3 y4 y5 y6)) ∧ (∀ y0 y1 y2 y3 y4 y5 y6 y7, LeO (nunciolaw07_Few.l0 k y0 y1 y2 y3 y4 y5 y6 y7) (nunciolaw07_Few.l0 (k + 1) y0 y1 y2 y3 y4 y5 y6 y7)) ∧ (∀ y0 y1 y2, LeO (nunciolaw07_Few.l1 k y0 y1 y2) (nunciolaw07_Few.l1 (k + 1) y0 y1 y2)) ∧ (∀ y0 y1 y2 y3, LeO (nunciolaw07_Few.l2 k y0 y1 y2 y3) (nunciolaw07_Few.l2 (k + 1) y0 y1 y2 y3)) ∧ (∀ y0 y1 y2 y3, LeO (nunciolaw07_Few.l3 k y0 y1 y2 y3) (nunciolaw07_Few.l3 (k + 1) y0 y1 y2 y3))
 | 0 => ⟨fun _ _ _ _ _ _ _ r h => by simp [nunciolaw07_Few.j0] at h, fun _ _ _ _ _ _ _ _ r h => by simp [nunciolaw07_Few.l0] at h, fun _ _ _ r h => by simp [nunciolaw07_Few.l1] at h, fun _ _ _ _ r h => by simp [nunciolaw07_Few.l2] at h, fun _ _ _ _ r h => by simp [nunciolaw07_Few.l3] at h⟩
 | k + 1 => by
  obtain ⟨ih0,ih1,ih2,ih3,ih4⟩:=nunciolaw07_Few.mono_l k
  refine ⟨?_,?_,?_,?_,?_⟩
  ·
   intro y0 y1 y2 y3 y4 y5 y6
   unfold nunciolaw07_Few.j0
   repeat' first
   | (with_reducible exact ih0 _ _ _ _ _ _ _)
   | (with_reducible exact ih1 _ _ _ _ _ _ _ _)
   | (with_reducible exact ih2 _ _ _)
   | (with_reducible exact ih3 _ _ _ _)
   | (with_reducible exact ih4 _ _ _ _)
   | (with_reducible exact nunciolaw05_Few.mono _ _ _ _ _ _ _ _)
   | (with_reducible exact LeO.refl _)
   | (with_reducible exact LeO.none _)
   | (with_reducible refine LeO.ite ?_ ?_)
   | (with_reducible refine LeO.bind ?_ (fun _ => ?_))
   | exact ih0 _ _ _ _ _ _ _
   | exact ih1 _ _ _ _ _ _ _ _
   | exact ih2 _ _ _
   | exact ih3 _ _ _ _
   | exact ih4 _ _ _ _
   | exact nunciolaw05_Few.mono _ _ _ _ _ _ _ _
   | exact LeO.none _
   | refine LeO.ite ?_ ?_
   | refine LeO.bind ?_ (fun _ => ?_)
  ·
   intro y0 y1 y2 y3 y4 y5 y6 y7
   unfold nunciolaw07_Few.l0
   repeat' first
   | (with_reducible exact ih0 _ _ _ _ _ _ _)
   | (with_reducible exact ih1 _ _ _ _ _ _ _ _)
   | (with_reducible exact ih2 _ _ _)
   | (with_reducible exact ih3 _ _ _ _)
   | (with_reducible exact ih4 _ _ _ _)
   | (with_reducible exact nunciolaw05_Few.mono _ _ _ _ _ _ _ _)
   | (with_reducible exact LeO.refl _)
   | (with_reducible exact LeO.none _)
   | (with_reducible refine LeO.ite ?_ ?_)
   | (with_reducible refine LeO.bind ?_ (fun _ => ?_))
   | exact ih0 _ _ _ _ _ _ _
   | exact ih1 _ _ _ _ _ _ _ _
   | exact ih2 _ _ _
   | exact ih3 _ _ _ _
   | exact ih4 _ _ _ _
   | exact nunciolaw05_Few.mono _ _ _ _ _ _ _ _
   | exact LeO.none _
   | refine LeO.ite ?_ ?_
   | refine LeO.bind ?_ (fun _ => ?_)
  ·
   intro y0 y1 y2
   unfold nunciolaw07_Few.l1
   repeat' first
   | (with_reducible exact ih0 _ _ _ _ _ _ _)
   | (with_reducible exact ih1 _ _ _ _ _ _ _ _)
   | (with_reducible exact ih2 _ _ _)
   | (with_reducible exact ih3 _ _ _ _)
   | (with_reducible exact ih4 _ _ _ _)
   | (with_reducible exact nunciolaw05_Few.mono _ _ _ _ _ _ _ _)
   | (with_reducible exact LeO.refl _)
   | (with_reducible exact LeO.none _)
   | (with_reducible refine LeO.ite ?_ ?_)
   | (with_reducible refine LeO.bind ?_ (fun _ => ?_))
   | exact ih0 _ _ _ _ _ _ _
   | exact ih1 _ _ _ _ _ _ _ _
   | exact ih2 _ _ _
   | exact ih3 _ _ _ _
   | exact ih4 _ _ _ _
   | exact nunciolaw05_Few.mono _ _ _ _ _ _ _ _
   | exact LeO.none _
   | refine LeO.ite ?_ ?_
   | refine LeO.bind ?_ (fun _ => ?_)
  ·
   intro y0 y1 y2 y3
   unfold nunciolaw07_Few.l2
   repeat' first
   | (with_reducible exact ih0 _ _ _ _ _ _ _)
   | (with_reducible exact ih1 _ _ _ _ _ _ _ _)
   | (with_reducible exact ih2 _ _ _)
   | (with_reducible exact ih3 _ _ _ _)
   | (with_reducible exact ih4 _ _ _ _)
   | (with_reducible exact nunciolaw05_Few.mono _ _ _ _ _ _ _ _)
   | (with_reducible exact LeO.refl _)
   | (with_reducible exact LeO.none _)
   | (with_reducible refine LeO.ite ?_ ?_)
   | (with_reducible refine LeO.bind ?_ (fun _ => ?_))
   | exact ih0 _ _ _ _ _ _ _
   | exact ih1 _ _ _ _ _ _ _ _
   | exact ih2 _ _ _
   | exact ih3 _ _ _ _
   | exact ih4 _ _ _ _
   | exact nunciolaw05_Few.mono _ _ _ _ _ _ _ _
   | exact LeO.none _
   | refine LeO.ite ?_ ?_
   | refine LeO.bind ?_ (fun _ => ?_)
  ·
   intro y0 y1 y2 y3
   unfold nunciolaw07_Few.l3
   repeat' first
   | (with_reducible exact ih0 _ _ _ _ _ _ _)
   | (with_reducible exact ih1 _ _ _ _ _ _ _ _)
   | (with_reducible exact ih2 _ _ _)
   | (with_reducible exact ih3 _ _ _ _)
   | (with_reducible exact ih4 _ _ _ _)
   | (with_reducible exact nunciolaw05_Few.mono _ _ _ _ _ _ _ _)
   | (with_reducible exact LeO.refl _)
   | (with_reducible exact LeO.none _)
   | (with_reducible refine LeO.ite ?_ ?_)
   | (with_reducible refine LeO.bind ?_ (fun _ => ?_))
   | exact ih0 _ _ _ _ _ _ _
   | exact ih1 _ _ _ _ _ _ _ _
   | exact ih2 _ _ _
   | exact ih3 _ _ _ _
   | exact ih4 _ _ _ _
   | exact nunciolaw05_Few.mono _ _ _ _ _ _ _ _
   | exact LeO.none _
   | refine LeO.ite ?_ ?_
   | refine LeO.bind ?_ (fun _ => ?_)
theorem nunciolaw07_Few.mono : ∀ a0 a1 a2 a3 a4 a5 k, LeO (nunciolaw07_Few.f k a0 a1 a2 a3 a4 a5) (nunciolaw07_Few.f (k + 1) a0 a1 a2 a3 a4 a5) := by
 intro a0 a1 a2 a3 a4 a5 k
 obtain ⟨ih0,ih1,ih2,ih3,ih4⟩:=nunciolaw07_Few.mono_l k
 unfold nunciolaw07_Few.f
 repeat' first
   | (with_reducible exact ih0 _ _ _ _ _ _ _)
   | (with_reducible exact ih1 _ _ _ _ _ _ _ _)
   | (with_reducible exact ih2 _ _ _)
   | (with_reducible exact ih3 _ _ _ _)
   | (with_reducible exact ih4 _ _ _ _)
   | (with_reducible exact nunciolaw05_Few.mono _ _ _ _ _ _ _ _)
   | (with_reducible exact LeO.refl _)
   | (with_reducible exact LeO.none _)
   | (with_reducible refine LeO.ite ?_ ?_)
   | (with_reducible refine LeO.bind ?_ (fun _ => ?_))
   | exact ih0 _ _ _ _ _ _ _
   | exact ih1 _ _ _ _ _ _ _ _
   | exact ih2 _ _ _
   | exact ih3 _ _ _ _
   | exact ih4 _ _ _ _
   | exact nunciolaw05_Few.mono _ _ _ _ _ _ _ _
   | exact LeO.none _
   | refine LeO.ite ?_ ?_
   | refine LeO.bind ?_ (fun _ => ?_)
set_option maxHeartbeats 8000000 in
set_option maxRecDepth 100000 in
theorem nunciolaw07_Few.calls (k : Nat) (a0_0 : Int) (a0_1 : Int) (A0_2 : Option Addr) (c0_2 : Nat) (l0_2 : List (S53)) (A0_3 : Option Addr) (c0_3 : Nat) (l0_3 : List (S51)) (A0_4 : Option Addr) (c0_4 : Nat) (l0_4 : List (S51)) (A0_5 : Option Addr) (c0_5 : Nat) (l0_5 : List (S51)) (r : Bool) (w : World) (hr0_2 : Kd.C k53 w A0_2 l0_2.length l0_2) (hc0_2 : l0_2.length ≤ c0_2) (hr0_3 : Kd.C k51 w A0_3 l0_3.length l0_3) (hc0_3 : l0_3.length ≤ c0_3) (hr0_4 : Kd.C k51 w A0_4 l0_4.length l0_4) (hc0_4 : l0_4.length ≤ c0_4) (hr0_5 : Kd.C k51 w A0_5 l0_5.length l0_5) (hc0_5 : l0_5.length ≤ c0_5) (h : nunciolaw07_Few.f k a0_0 a0_1 l0_2 l0_3 l0_4 l0_5 = some r) :
  Calls Try.prog 10 #[.agg #[.int .u16 a0_0,.int .u16 a0_1,.slice A0_2 l0_2.length c0_2,.slice A0_3 l0_3.length c0_3,.slice A0_4 l0_4.length c0_4,.slice A0_5 l0_5.length c0_5]] w fun e w'=>e = .returned (.bool r)∧Below w.heap.size w w':=by
 have hu26:=Try.underlying26
 have hu51:=Try.underlying51
 have HR0_2:=qqm hr0_2
 have HC0_2:=qqm hc0_2
 clear hr0_2 hc0_2
 have HR0_3:=qqm hr0_3
 have HC0_3:=qqm hc0_3
 clear hr0_3 hc0_3
 have HR0_4:=qqm hr0_4
 have HC0_4:=qqm hc0_4
 clear hr0_4 hc0_4
 have HR0_5:=qqm hr0_5
 have HC0_5:=qqm hc0_5
 clear hr0_5 hc0_5
 have HB:=qqm (Below.refl w.heap.size w)
 have H:(if (l0_2.length:Int) > 300 then (nunciolaw07_Few.j0 k true a0_0 a0_1 l0_2 l0_3 l0_4 l0_5) else (if (l0_3.length:Int) > 300 then (nunciolaw07_Few.j0 k true a0_0 a0_1 l0_2 l0_3 l0_4 l0_5) else (if (l0_4.length:Int) > 300 then (nunciolaw07_Few.j0 k true a0_0 a0_1 l0_2 l0_3 l0_4 l0_5) else (nunciolaw07_Few.j0 k (decide ((l0_5.length:Int) > 300)) a0_0 a0_1 l0_2 l0_3 l0_4 l0_5)))) = some r:=h
 clear h
 have HC2:=qqm H
 clear H
 go_enter Try.func10,Try.ntmps10
 go_upto_region 1 with (first|((with_reducible refine gate_dst (N:=1) rfl ?_);(try (refine gate_guard (by rfl) ?_;dsimp only));refine box_event ?hg (N:=1) ?hd (cs:=#[.int .u16 a0_0,.int .u16 a0_1,.slice A0_2 l0_2.length c0_2,.slice A0_3 l0_3.length c0_3,.slice A0_4 l0_4.length c0_4,.slice A0_5 l0_5.length c0_5]) (t:=26) ?hr ?_;(case hd=>rfl);(case hg=>rfl);(case hr=>first|(go_simp;done)|(go_simp;rfl));intro gb223 hg w3 hbox hb;have n0_:=qqm (below_step (by with_reducible repeat first|exact HB.out|apply qqf|apply qqd|apply qqe) hb);have n1_:=qqm (hbox);have n2_:=qqm ((by rw [hg];exact (below_size (by with_reducible repeat first|exact HB.out|apply qqf|apply qqd|apply qqe)):w.heap.size ≤ gb223));have n3_:=n2_;clear HB;have HB:=n0_;have BK223:=n1_;have GW223:=n2_;have GE223:=n3_;clear n0_ n1_ n2_ n3_ hb hbox hg))
 repeat (go_quiet (first|((with_reducible refine gate_dst (N:=1) rfl ?_);(try (refine gate_guard (by rfl) ?_;dsimp only));refine box_event ?hg (N:=1) ?hd (cs:=#[.int .u16 a0_0,.int .u16 a0_1,.slice A0_2 l0_2.length c0_2,.slice A0_3 l0_3.length c0_3,.slice A0_4 l0_4.length c0_4,.slice A0_5 l0_5.length c0_5]) (t:=26) ?hr ?_;(case hd=>rfl);(case hg=>rfl);(case hr=>first|(go_simp;done)|(go_simp;rfl));intro gb223 hg w3 hbox hb;have n0_:=qqm (below_step (by with_reducible repeat first|exact HB.out|apply qqf|apply qqd|apply qqe) hb);have n1_:=qqm (hbox);have n2_:=qqm ((by rw [hg];exact (below_size (by with_reducible repeat first|exact HB.out|apply qqf|apply qqd|apply qqe)):w.heap.size ≤ gb223));have n3_:=n2_;clear HB;have HB:=n0_;have BK223:=n1_;have GW223:=n2_;have GE223:=n3_;clear n0_ n1_ n2_ n3_ hb hbox hg));go_upto_region 1 with (first|((with_reducible refine gate_dst (N:=1) rfl ?_);(try (refine gate_guard (by rfl) ?_;dsimp only));refine box_event ?hg (N:=1) ?hd (cs:=#[.int .u16 a0_0,.int .u16 a0_1,.slice A0_2 l0_2.length c0_2,.slice A0_3 l0_3.length c0_3,.slice A0_4 l0_4.length c0_4,.slice A0_5 l0_5.length c0_5]) (t:=26) ?hr ?_;(case hd=>rfl);(case hg=>rfl);(case hr=>first|(go_simp;done)|(go_simp;rfl));intro gb223 hg w3 hbox hb;have n0_:=qqm (below_step (by with_reducible repeat first|exact HB.out|apply qqf|apply qqd|apply qqe) hb);have n1_:=qqm (hbox);have n2_:=qqm ((by rw [hg];exact (below_size (by with_reducible repeat first|exact HB.out|apply qqf|apply qqd|apply qqe)):w.heap.size ≤ gb223));have n3_:=n2_;clear HB;have HB:=n0_;have BK223:=n1_;have GW223:=n2_;have GE223:=n3_;clear n0_ n1_ n2_ n3_ hb hbox hg)))
 (try simp only [Act.put,qqj,qqk,qql])
 go_cut [30] (fun v30 wc=>∃ (kq:Nat) (x30_1:Bool),v30 = .bool x30_1∧Aside0 (nunciolaw07_Few.j0 kq x30_1 a0_0 a0_1 l0_2 l0_3 l0_4 l0_5 = some r)∧Aside0 (kq ≤ k)∧Aside0 (wc.heap[gb223]? = some (.cells #[.int .u16 a0_0,.int .u16 a0_1,(.slice A0_2 l0_2.length c0_2),(.slice A0_3 l0_3.length c0_3),(.slice A0_4 l0_4.length c0_4),(.slice A0_5 l0_5.length c0_5)] 26 (0,0)))∧Aside0 (Below w.heap.size w wc))
 case first =>
  have H:=HC2.out
  clear HC2
  by_cases c4:(l0_2.length:Int) > 300
  ·
   rw [if_pos c4] at H
   have c4b0:decide (300 < (l0_2.length:Int)) = true:=decide_eq_true c4
   have c4b1:decide (300 < l0_2.length) = true:=decide_eq_true (by omega)
   clear c4
   (first|rw [c4b0]|rw [c4b1]|(simp only [i64_w,i32_w];rw [c4b0])|skip)
   have H':=qqm H
   clear H
   obtain ⟨hcz5_0,hcz5_1,hcz5_2,hcz5_3,hcz5_4,hcz5_5⟩:=qc6 BK223.out
   obtain ⟨hfz5_0,hfz5_1,hfz5_2,hfz5_3,hfz5_4,hfz5_5⟩:=qf6 BK223.out
   go_wp2
   repeat (go_quiet (fail);try go_wp2)
   go_meet
   case rel=>exact ⟨_,(true),(by first|rfl|(simp;done)|(simp [*];done)),H',⟨by first|omega|exact Nat.le_refl _⟩,⟨by (with_reducible repeat first|apply qqa|apply qqb|apply qqc);exact BK223.out⟩,⟨by with_reducible repeat first|exact HB.out|apply qqf|apply qqd|apply qqe|refine qqg ?_ GE223.out⟩⟩
  ·
   rw [if_neg c4] at H
   have c4b0:decide (300 < (l0_2.length:Int)) = false:=decide_eq_false c4
   have c4b1:decide (300 < l0_2.length) = false:=decide_eq_false (by omega)
   clear c4
   (first|rw [c4b0]|rw [c4b1]|(simp only [i64_w,i32_w];rw [c4b0])|skip)
   by_cases c6:(l0_3.length:Int) > 300
   ·
    rw [if_pos c6] at H
    have c6b0:decide (300 < (l0_3.length:Int)) = true:=decide_eq_true c6
    have c6b1:decide (300 < l0_3.length) = true:=decide_eq_true (by omega)
    clear c6
    have H':=qqm H
    clear H
    obtain ⟨hcz7_0,hcz7_1,hcz7_2,hcz7_3,hcz7_4,hcz7_5⟩:=qc6 BK223.out
    obtain ⟨hfz7_0,hfz7_1,hfz7_2,hfz7_3,hfz7_4,hfz7_5⟩:=qf6 BK223.out
    go_wp2
    repeat (go_quiet (fail);try go_wp2)
    go_meet
    case rel=>exact ⟨_,(true),(by first|rfl|(simp;done)|(simp [*];done)),H',⟨by first|omega|exact Nat.le_refl _⟩,⟨by (with_reducible repeat first|apply qqa|apply qqb|apply qqc);exact BK223.out⟩,⟨by with_reducible repeat first|exact HB.out|apply qqf|apply qqd|apply qqe|refine qqg ?_ GE223.out⟩⟩
   ·
    rw [if_neg c6] at H
    have c6b0:decide (300 < (l0_3.length:Int)) = false:=decide_eq_false c6
    have c6b1:decide (300 < l0_3.length) = false:=decide_eq_false (by omega)
    clear c6
    by_cases c8:(l0_4.length:Int) > 300
    ·
     rw [if_pos c8] at H
     have c8b0:decide (300 < (l0_4.length:Int)) = true:=decide_eq_true c8
     have c8b1:decide (300 < l0_4.length) = true:=decide_eq_true (by omega)
     clear c8
     have H':=qqm H
     clear H
     obtain ⟨hcz9_0,hcz9_1,hcz9_2,hcz9_3,hcz9_4,hcz9_5⟩:=qc6 BK223.out
     obtain ⟨hfz9_0,hfz9_1,hfz9_2,hfz9_3,hfz9_4,hfz9_5⟩:=qf6 BK223.out
     go_wp2
     repeat (go_quiet (fail);try go_wp2)
     go_meet
     case rel=>exact ⟨_,(true),(by first|rfl|(simp;done)|(simp [*];done)),H',⟨by first|omega|exact Nat.le_refl _⟩,⟨by (with_reducible repeat first|apply qqa|apply qqb|apply qqc);exact BK223.out⟩,⟨by with_reducible repeat first|exact HB.out|apply qqf|apply qqd|apply qqe|refine qqg ?_ GE223.out⟩⟩
    ·
     rw [if_neg c8] at H
     have c8b0:decide (300 < (l0_4.length:Int)) = false:=decide_eq_false c8
     have c8b1:decide (300 < l0_4.length) = false:=decide_eq_false (by omega)
     clear c8
     have H':=qqm H
     clear H
     obtain ⟨hcz10_0,hcz10_1,hcz10_2,hcz10_3,hcz10_4,hcz10_5⟩:=qc6 BK223.out
     obtain ⟨hfz10_0,hfz10_1,hfz10_2,hfz10_3,hfz10_4,hfz10_5⟩:=qf6 BK223.out
     go_wp2
     repeat (go_quiet (fail);try go_wp2)
     go_meet
     case rel=>exact ⟨_,(decide ((l0_5.length:Int) > 300)),(by first|rfl|(simp;done)|(simp [*];done)),H',⟨by first|omega|exact Nat.le_refl _⟩,⟨by (with_reducible repeat first|apply qqa|apply qqb|apply qqc);exact BK223.out⟩,⟨by with_reducible repeat first|exact HB.out|apply qqf|apply qqd|apply qqe|refine qqg ?_ GE223.out⟩⟩
 case rest =>
  clear HC2
  try clear c1
  try clear p2
  try clear c4
  try clear c4b0
  try clear c4b1
  try clear c6
  try clear c6b0
  try clear c6b1
  try clear c8
  try clear c8b0
  try clear c8b1
  try clear c10
  try clear hcz10_0 hcz10_1 hcz10_2 hcz10_3 hcz10_4 hcz10_5
  try clear hcz5_0 hcz5_1 hcz5_2 hcz5_3 hcz5_4 hcz5_5
  try clear hcz7_0 hcz7_1 hcz7_2 hcz7_3 hcz7_4 hcz7_5
  try clear hcz9_0 hcz9_1 hcz9_2 hcz9_3 hcz9_4 hcz9_5
  try clear hfz10_0 hfz10_1 hfz10_2 hfz10_3 hfz10_4 hfz10_5
  try clear hfz5_0 hfz5_1 hfz5_2 hfz5_3 hfz5_4 hfz5_5
  try clear hfz7_0 hfz7_1 hfz7_2 hfz7_3 hfz7_4 hfz7_5
  try clear hfz9_0 hfz9_1 hfz9_2 hfz9_3 hfz9_4 hfz9_5
  obtain ⟨kq,x30_1,rfl,HA,HJ1,BK223,HB⟩:=hcut
  cases kq with
  | zero => exact absurd HA.out (by simp [nunciolaw07_Few.j0])
  | succ kj1 =>
   have H:=HA.out
   clear HA
   simp only [nunciolaw07_Few.j0] at H
   by_cases c11:x30_1 = true
   ·
    subst c11
    have H1:(some false) = some r:=by rw [if_pos rfl] at H;exact H
    clear H
    have H:=H1
    clear H1
    obtain rfl:=Option.some.inj H
    go_wp2
    repeat (go_quiet (fail);try go_wp2)
    go_ret
    exact ⟨by first|rfl|(simp [errW_none,errW_some] <;> rfl)|(simp [*,errW_none,errW_some] <;> rfl),by with_reducible repeat first|exact HB.out|apply qqf|apply qqd|apply qqe|refine qqg ?_ GE223.out⟩
   ·
    replace c11:=Bool.eq_false_iff.mpr c11
    subst c11
    have H1:(nunciolaw07_Few.l0 kj1 0 0 a0_0 a0_1 l0_2 l0_3 l0_4 l0_5) = some r:=by rw [if_neg (show ¬ (false = true) by decide)] at H;exact H
    clear H
    have H:=H1
    clear H1
    have H':=qqm H
    clear H
    go_wp2
    repeat (go_quiet (fail);try go_wp2)
    go_loopg [3,4] kj1 (fun kq v3 v4 w'=>∃ (x3_2:Int) (x4_2:Int),v3 = .int .i64 x3_2∧v4 = .int .i64 x4_2∧Aside0 (nunciolaw07_Few.l0 kq x3_2 x4_2 a0_0 a0_1 l0_2 l0_3 l0_4 l0_5 = some r)∧Aside0 (kq ≤ kj1)∧Aside0 (w'.heap[gb223]? = some (.cells #[.int .u16 a0_0,.int .u16 a0_1,(.slice A0_2 l0_2.length c0_2),(.slice A0_3 l0_3.length c0_3),(.slice A0_4 l0_4.length c0_4),(.slice A0_5 l0_5.length c0_5)] 26 (0,0)))∧Aside0 (Below w.heap.size w w'))
    case atStart=>exact ⟨(0),(0),(by first|rfl|(simp;done)|(simp [*];done)),(by first|rfl|(simp;done)|(simp [*];done)),H',⟨Nat.le_refl _⟩,⟨by (with_reducible repeat first|apply qqa|apply qqb|apply qqc);exact BK223.out⟩,⟨by with_reducible repeat first|exact HB.out|apply qqf|apply qqd|apply qqe|refine qqg ?_ GE223.out⟩⟩
    case round =>
     clear H'
     try clear c1
     try clear p2
     try clear c4
     try clear c4b0
     try clear c4b1
     try clear c6
     try clear c6b0
     try clear c6b1
     try clear c8
     try clear c8b0
     try clear c8b1
     try clear c10
     try clear c11
     try clear hcz10_0 hcz10_1 hcz10_2 hcz10_3 hcz10_4 hcz10_5
     try clear hcz5_0 hcz5_1 hcz5_2 hcz5_3 hcz5_4 hcz5_5
     try clear hcz7_0 hcz7_1 hcz7_2 hcz7_3 hcz7_4 hcz7_5
     try clear hcz9_0 hcz9_1 hcz9_2 hcz9_3 hcz9_4 hcz9_5
     try clear hfz10_0 hfz10_1 hfz10_2 hfz10_3 hfz10_4 hfz10_5
     try clear hfz5_0 hfz5_1 hfz5_2 hfz5_3 hfz5_4 hfz5_5
     try clear hfz7_0 hfz7_1 hfz7_2 hfz7_3 hfz7_4 hfz7_5
     try clear hfz9_0 hfz9_1 hfz9_2 hfz9_3 hfz9_4 hfz9_5
     try clear p2
     obtain ⟨x3_2,x4_2,rfl,rfl,HA,HK2,BK223,HB⟩:=hrel
     cases gk with
     | zero => exact absurd HA.out (by simp [nunciolaw07_Few.l0])
     | succ k2 =>
      have H:=HA.out
      clear HA
      simp only [nunciolaw07_Few.l0] at H
      by_cases c12:x4_2 < (l0_2.length:Int)
      ·
       rw [if_pos c12] at H
       have c12b0:decide (x4_2 < (l0_2.length:Int)) = true:=decide_eq_true c12
       clear c12
       by_cases c13:0 ≤ x4_2
       ·
        rw [if_pos c13] at H
        have c13b0:decide (0 ≤ x4_2) = true:=decide_eq_true c13
        clear c13
        obtain ⟨ji14,hji14⟩:∃ j_:Int,(mn (((rd_T53 l0_2 x4_2).f0).size:Int) 60000) = j_:=⟨_,rfl⟩
        replace H:(if (wrap64 (x3_2 + (ji14))) > 70000 then (some false) else (nunciolaw07_Few.l0 k2 (wrap64 (x3_2 + (ji14))) (wrap64 (x4_2 + 1)) a0_0 a0_1 l0_2 l0_3 l0_4 l0_5)) = some r:=by first|(rw [hji14] at H;exact H)|(simp only [hji14] at H ⊢;exact H)
        have hji14_:(if 60000 < (((rd_T53 l0_2 x4_2).f0).size:Int) then 60000 else (((rd_T53 l0_2 x4_2).f0).size:Int)) = ji14:=hji14
        by_cases c15:(wrap64 (x3_2 + (ji14))) > 70000
        ·
         rw [if_pos c15] at H
         have c15b0:decide (70000 < (wrap64 (x3_2 + (ji14)))) = true:=decide_eq_true c15
         clear c15
         obtain rfl:=Option.some.inj H
         obtain ⟨hcz16_0,hcz16_1,hcz16_2,hcz16_3,hcz16_4,hcz16_5⟩:=qc6 BK223.out
         obtain ⟨hfz16_0,hfz16_1,hfz16_2,hfz16_3,hfz16_4,hfz16_5⟩:=qf6 BK223.out
         have p224:0 ≤ (x4_2:Int):=of_decide_eq_true (by first|(with_reducible assumption)|assumption)
         have q224:x4_2 < (l0_2.length:Int):=of_decide_eq_true (by first|(with_reducible assumption)|assumption)
         obtain ⟨ad224,e224,hx224_0,hx224_1,hx224_2⟩:=at_T53 HR0_2.out x4_2 p224 q224
         cases e224
         replace hx224_0:=qqo HB.out hx224_0
         replace hx224_1:=qqo HB.out hx224_1
         replace hx224_2:=qqo HB.out hx224_2
         replace p224:=eq_true p224
         replace q224:=eq_true q224
         go_wp2
         repeat (go_quiet (fail);try go_wp2)
         go_ret
         exact ⟨by first|rfl|(simp [errW_none,errW_some] <;> rfl)|(simp only [← hji14];first|rfl|(simp [errW_none,errW_some] <;> rfl))|(simp [*,errW_none,errW_some] <;> rfl),by with_reducible repeat first|exact HB.out|apply qqf|apply qqd|apply qqe|refine qqg ?_ GE223.out⟩
        ·
         rw [if_neg c15] at H
         have c15b0:decide (70000 < (wrap64 (x3_2 + (ji14)))) = false:=decide_eq_false c15
         clear c15
         have H':=qqm H
         clear H
         obtain ⟨hcz17_0,hcz17_1,hcz17_2,hcz17_3,hcz17_4,hcz17_5⟩:=qc6 BK223.out
         obtain ⟨hfz17_0,hfz17_1,hfz17_2,hfz17_3,hfz17_4,hfz17_5⟩:=qf6 BK223.out
         have p224:0 ≤ (x4_2:Int):=of_decide_eq_true (by first|(with_reducible assumption)|assumption)
         have q224:x4_2 < (l0_2.length:Int):=of_decide_eq_true (by first|(with_reducible assumption)|assumption)
         obtain ⟨ad224,e224,hx224_0,hx224_1,hx224_2⟩:=at_T53 HR0_2.out x4_2 p224 q224
         cases e224
         replace hx224_0:=qqo HB.out hx224_0
         replace hx224_1:=qqo HB.out hx224_1
         replace hx224_2:=qqo HB.out hx224_2
         replace p224:=eq_true p224
         replace q224:=eq_true q224
         go_wp2
         repeat (go_quiet (fail);try go_wp2)
         go_roundg k2
         case measure=>have:=HJ1.out;have:=HK2.out;omega
         case rel=>exact ⟨(wrap64 (x3_2 + (ji14))),(wrap64 (x4_2 + 1)),(by first|rfl|(simp;done)|(simp only [← hji14] <;> (first|rfl|simp))|(simp [*];done)),(by first|rfl|(simp;done)|(simp [*];done)),H',⟨by have:=HJ1.out;have:=HK2.out;omega⟩,⟨by (with_reducible repeat first|apply qqa|apply qqb|apply qqc);exact BK223.out⟩,⟨by with_reducible repeat first|exact HB.out|apply qqf|apply qqd|apply qqe|refine qqg ?_ GE223.out⟩⟩
       ·
        rw [if_neg c13] at H
        exact absurd H (by simp)
      ·
       rw [if_neg c12] at H
       have c12b0:decide (x4_2 < (l0_2.length:Int)) = false:=decide_eq_false c12
       clear c12
       replace H:=Option.bind_eq_some_iff.mp H
       obtain ⟨t225,A180,H⟩:=H
       replace H:(nunciolaw07_Few.l1 k2 x3_2 t225 0) = some r:=H
       have A18:=qqm A180
       clear A180
       have H':=qqm H
       clear H
       obtain ⟨hcz19_0,hcz19_1,hcz19_2,hcz19_3,hcz19_4,hcz19_5⟩:=qc6 BK223.out
       obtain ⟨hfz19_0,hfz19_1,hfz19_2,hfz19_3,hfz19_4,hfz19_5⟩:=qf6 BK223.out
       go_wp2_with (first|(go_at_call 27;(with_reducible refine (nuncioref07_Records.calls a0_0 a0_1 _ _ l0_2 (fun k_=>k_ < w.heap.size) _ _ l0_3 (fun k_=>k_ < w.heap.size) _ _ l0_4 (fun k_=>k_ < w.heap.size) _ _ l0_5 t225 _ ?side1 ?side2 ?side3 ?side4 ?side5 A18.out).mono ?_);(case side1=>repeat (first|exact (Kd.C_below HR0_2.out HB.out)|(with_reducible first|apply Kd.C_alloc|apply Kd.C_drewN|apply Kd.C_drew)));(case side2=>exact HC0_2.out);(case side3=>exact Kd.V_mk HC0_3.out (Kd.F_below (Kd.C_F k51_heap HR0_3.out) (by with_reducible repeat first|exact HB.out|apply qqf|apply qqd|apply qqe|refine qqg ?_ GE223.out)));(case side4=>exact Kd.V_mk HC0_4.out (Kd.F_below (Kd.C_F k51_heap HR0_4.out) (by with_reducible repeat first|exact HB.out|apply qqf|apply qqd|apply qqe|refine qqg ?_ GE223.out)));(case side5=>exact Kd.V_mk HC0_5.out (Kd.F_below (Kd.C_F k51_heap HR0_5.out) (by with_reducible repeat first|exact HB.out|apply qqf|apply qqd|apply qqe|refine qqg ?_ GE223.out)));rintro e w20 ⟨v226,rfl,ho0,hb⟩;have n0_:=qqm (Kd.N_lower (Kd.N_mono (ok':=fun k_=>k_ ≠ gb223) ho0 (fun k_ hk_=>Or.elim hk_ (fun hs_=>Or.elim hs_ (fun hs_=>fun e_=>Nat.not_le.2 hs_ (by rw [e_];exact GW223.out)) (fun hs_=>Or.elim hs_ (fun hs_=>fun e_=>Nat.not_le.2 hs_ (by rw [e_];exact GW223.out)) (fun hs_=>fun e_=>Nat.not_le.2 hs_ (by rw [e_];exact GW223.out)))) (fun hn_=>(Kd.freshB (g:=gb223) (o:=.cells #[.int .u16 a0_0,.int .u16 a0_1,.slice A0_2 l0_2.length c0_2,.slice A0_3 l0_3.length c0_3,.slice A0_4 l0_4.length c0_4,.slice A0_5 l0_5.length c0_5] 26 (0,0)) (by (with_reducible repeat first|apply qqa|apply qqb|apply qqc);exact BK223.out) k_ hn_)))) (below_size (by with_reducible repeat first|exact HB.out|apply qqf|apply qqd|apply qqe|refine qqg ?_ GE223.out)));have n1_:=qqm (blk_below (g:=gb223) (o:=.cells #[.int .u16 a0_0,.int .u16 a0_1,.slice A0_2 l0_2.length c0_2,.slice A0_3 l0_3.length c0_3,.slice A0_4 l0_4.length c0_4,.slice A0_5 l0_5.length c0_5] 26 (0,0)) (by (with_reducible repeat first|apply qqa|apply qqb|apply qqc);exact BK223.out) hb);have n2_:=qqm (below_step (by with_reducible repeat first|exact HB.out|apply qqf|apply qqd|apply qqe|refine qqg ?_ GE223.out) hb);clear BK223 HB;have HO227:=n0_;have BK223:=n1_;have HB:=n2_;clear n0_ n1_ n2_;(try clear hb);(try clear hb2);(try clear hk);(try clear hi);(try clear ho0)))
       repeat (go_quiet (first|(go_at_call 27;(with_reducible refine (nuncioref07_Records.calls a0_0 a0_1 _ _ l0_2 (fun k_=>k_ < w.heap.size) _ _ l0_3 (fun k_=>k_ < w.heap.size) _ _ l0_4 (fun k_=>k_ < w.heap.size) _ _ l0_5 t225 _ ?side1 ?side2 ?side3 ?side4 ?side5 A18.out).mono ?_);(case side1=>repeat (first|exact (Kd.C_below HR0_2.out HB.out)|(with_reducible first|apply Kd.C_alloc|apply Kd.C_drewN|apply Kd.C_drew)));(case side2=>exact HC0_2.out);(case side3=>exact Kd.V_mk HC0_3.out (Kd.F_below (Kd.C_F k51_heap HR0_3.out) (by with_reducible repeat first|exact HB.out|apply qqf|apply qqd|apply qqe|refine qqg ?_ GE223.out)));(case side4=>exact Kd.V_mk HC0_4.out (Kd.F_below (Kd.C_F k51_heap HR0_4.out) (by with_reducible repeat first|exact HB.out|apply qqf|apply qqd|apply qqe|refine qqg ?_ GE223.out)));(case side5=>exact Kd.V_mk HC0_5.out (Kd.F_below (Kd.C_F k51_heap HR0_5.out) (by with_reducible repeat first|exact HB.out|apply qqf|apply qqd|apply qqe|refine qqg ?_ GE223.out)));rintro e w20 ⟨v226,rfl,ho0,hb⟩;have n0_:=qqm (Kd.N_lower (Kd.N_mono (ok':=fun k_=>k_ ≠ gb223) ho0 (fun k_ hk_=>Or.elim hk_ (fun hs_=>Or.elim hs_ (fun hs_=>fun e_=>Nat.not_le.2 hs_ (by rw [e_];exact GW223.out)) (fun hs_=>Or.elim hs_ (fun hs_=>fun e_=>Nat.not_le.2 hs_ (by rw [e_];exact GW223.out)) (fun hs_=>fun e_=>Nat.not_le.2 hs_ (by rw [e_];exact GW223.out)))) (fun hn_=>(Kd.freshB (g:=gb223) (o:=.cells #[.int .u16 a0_0,.int .u16 a0_1,.slice A0_2 l0_2.length c0_2,.slice A0_3 l0_3.length c0_3,.slice A0_4 l0_4.length c0_4,.slice A0_5 l0_5.length c0_5] 26 (0,0)) (by (with_reducible repeat first|apply qqa|apply qqb|apply qqc);exact BK223.out) k_ hn_)))) (below_size (by with_reducible repeat first|exact HB.out|apply qqf|apply qqd|apply qqe|refine qqg ?_ GE223.out)));have n1_:=qqm (blk_below (g:=gb223) (o:=.cells #[.int .u16 a0_0,.int .u16 a0_1,.slice A0_2 l0_2.length c0_2,.slice A0_3 l0_3.length c0_3,.slice A0_4 l0_4.length c0_4,.slice A0_5 l0_5.length c0_5] 26 (0,0)) (by (with_reducible repeat first|apply qqa|apply qqb|apply qqc);exact BK223.out) hb);have n2_:=qqm (below_step (by with_reducible repeat first|exact HB.out|apply qqf|apply qqd|apply qqe|refine qqg ?_ GE223.out) hb);clear BK223 HB;have HO227:=n0_;have BK223:=n1_;have HB:=n2_;clear n0_ n1_ n2_;(try clear hb);(try clear hb2);(try clear hk);(try clear hi);(try clear ho0)));try go_wp2_with (first|(go_at_call 27;(with_reducible refine (nuncioref07_Records.calls a0_0 a0_1 _ _ l0_2 (fun k_=>k_ < w.heap.size) _ _ l0_3 (fun k_=>k_ < w.heap.size) _ _ l0_4 (fun k_=>k_ < w.heap.size) _ _ l0_5 t225 _ ?side1 ?side2 ?side3 ?side4 ?side5 A18.out).mono ?_);(case side1=>repeat (first|exact (Kd.C_below HR0_2.out HB.out)|(with_reducible first|apply Kd.C_alloc|apply Kd.C_drewN|apply Kd.C_drew)));(case side2=>exact HC0_2.out);(case side3=>exact Kd.V_mk HC0_3.out (Kd.F_below (Kd.C_F k51_heap HR0_3.out) (by with_reducible repeat first|exact HB.out|apply qqf|apply qqd|apply qqe|refine qqg ?_ GE223.out)));(case side4=>exact Kd.V_mk HC0_4.out (Kd.F_below (Kd.C_F k51_heap HR0_4.out) (by with_reducible repeat first|exact HB.out|apply qqf|apply qqd|apply qqe|refine qqg ?_ GE223.out)));(case side5=>exact Kd.V_mk HC0_5.out (Kd.F_below (Kd.C_F k51_heap HR0_5.out) (by with_reducible repeat first|exact HB.out|apply qqf|apply qqd|apply qqe|refine qqg ?_ GE223.out)));rintro e w20 ⟨v226,rfl,ho0,hb⟩;have n0_:=qqm (Kd.N_lower (Kd.N_mono (ok':=fun k_=>k_ ≠ gb223) ho0 (fun k_ hk_=>Or.elim hk_ (fun hs_=>Or.elim hs_ (fun hs_=>fun e_=>Nat.not_le.2 hs_ (by rw [e_];exact GW223.out)) (fun hs_=>Or.elim hs_ (fun hs_=>fun e_=>Nat.not_le.2 hs_ (by rw [e_];exact GW223.out)) (fun hs_=>fun e_=>Nat.not_le.2 hs_ (by rw [e_];exact GW223.out)))) (fun hn_=>(Kd.freshB (g:=gb223) (o:=.cells #[.int .u16 a0_0,.int .u16 a0_1,.slice A0_2 l0_2.length c0_2,.slice A0_3 l0_3.length c0_3,.slice A0_4 l0_4.length c0_4,.slice A0_5 l0_5.length c0_5] 26 (0,0)) (by (with_reducible repeat first|apply qqa|apply qqb|apply qqc);exact BK223.out) k_ hn_)))) (below_size (by with_reducible repeat first|exact HB.out|apply qqf|apply qqd|apply qqe|refine qqg ?_ GE223.out)));have n1_:=qqm (blk_below (g:=gb223) (o:=.cells #[.int .u16 a0_0,.int .u16 a0_1,.slice A0_2 l0_2.length c0_2,.slice A0_3 l0_3.length c0_3,.slice A0_4 l0_4.length c0_4,.slice A0_5 l0_5.length c0_5] 26 (0,0)) (by (with_reducible repeat first|apply qqa|apply qqb|apply qqc);exact BK223.out) hb);have n2_:=qqm (below_step (by with_reducible repeat first|exact HB.out|apply qqf|apply qqd|apply qqe|refine qqg ?_ GE223.out) hb);clear BK223 HB;have HO227:=n0_;have BK223:=n1_;have HB:=n2_;clear n0_ n1_ n2_;(try clear hb);(try clear hb2);(try clear hk);(try clear hi);(try clear ho0))))
       go_loopg [3,6] k2 (fun kq v3 v6 w'=>∃ (x3_3:Int) (x6_3:Int),v3 = .int .i64 x3_3∧v6 = .int .i64 x6_3∧Aside0 (nunciolaw07_Few.l1 kq x3_3 t225 x6_3 = some r)∧Aside0 (kq ≤ k2)∧Aside0 (Kd.N k51 51 w' w.heap.size (fun k_=>k_ ≠ gb223) v226 t225)∧Aside0 (w'.heap[gb223]? = some (.cells #[.int .u16 a0_0,.int .u16 a0_1,(.slice A0_2 l0_2.length c0_2),(.slice A0_3 l0_3.length c0_3),(.slice A0_4 l0_4.length c0_4),(.slice A0_5 l0_5.length c0_5)] 26 (0,0)))∧Aside0 (Below w.heap.size w w'))
       case atStart=>exact ⟨(x3_2),(0),(by first|rfl|(simp;done)|(simp [*];done)),(by first|rfl|(simp;done)|(simp [*];done)),H',⟨Nat.le_refl _⟩,⟨by (with_reducible repeat (first|apply Kd.N_alloc|apply Kd.N_drewN|apply Kd.N_drew));exact HO227.out⟩,⟨by (with_reducible repeat first|apply qqa|apply qqb|apply qqc);exact BK223.out⟩,⟨by with_reducible repeat first|exact HB.out|apply qqf|apply qqd|apply qqe|refine qqg ?_ GE223.out⟩⟩
       case round =>
        clear H'
        try clear c1
        try clear p2
        try clear q2
        try clear hx2
        try clear c4
        try clear c4b0
        try clear c4b1
        try clear c6
        try clear c6b0
        try clear c6b1
        try clear p6
        try clear c8
        try clear c8b0
        try clear c8b1
        try clear c10
        try clear c11
        try clear c12
        try clear c12b0
        try clear c13
        try clear c13b0
        try clear c15
        try clear c15b0
        try clear hcz10_0 hcz10_1 hcz10_2 hcz10_3 hcz10_4 hcz10_5
        try clear hcz16_0 hcz16_1 hcz16_2 hcz16_3 hcz16_4 hcz16_5
        try clear hcz17_0 hcz17_1 hcz17_2 hcz17_3 hcz17_4 hcz17_5
        try clear hcz19_0 hcz19_1 hcz19_2 hcz19_3 hcz19_4 hcz19_5
        try clear hcz5_0 hcz5_1 hcz5_2 hcz5_3 hcz5_4 hcz5_5
        try clear hcz7_0 hcz7_1 hcz7_2 hcz7_3 hcz7_4 hcz7_5
        try clear hcz9_0 hcz9_1 hcz9_2 hcz9_3 hcz9_4 hcz9_5
        try clear hfz10_0 hfz10_1 hfz10_2 hfz10_3 hfz10_4 hfz10_5
        try clear hfz16_0 hfz16_1 hfz16_2 hfz16_3 hfz16_4 hfz16_5
        try clear hfz17_0 hfz17_1 hfz17_2 hfz17_3 hfz17_4 hfz17_5
        try clear hfz19_0 hfz19_1 hfz19_2 hfz19_3 hfz19_4 hfz19_5
        try clear hfz5_0 hfz5_1 hfz5_2 hfz5_3 hfz5_4 hfz5_5
        try clear hfz7_0 hfz7_1 hfz7_2 hfz7_3 hfz7_4 hfz7_5
        try clear hfz9_0 hfz9_1 hfz9_2 hfz9_3 hfz9_4 hfz9_5
        try clear hx224_0
        try clear hx224_1
        try clear hx224_2
        try clear p2
        try clear p224
        try clear q224
        obtain ⟨x3_3,x6_3,rfl,rfl,HA,HK3,HO_5,BK223,HB⟩:=hrel
        cases gk with
        | zero => exact absurd HA.out (by simp [nunciolaw07_Few.l1])
        | succ k3 =>
         have H:=HA.out
         clear HA
         simp only [nunciolaw07_Few.l1] at H
         by_cases c21:x6_3 < (t225.length:Int)
         ·
          rw [if_pos c21] at H
          have c21b0:decide (x6_3 < (t225.length:Int)) = true:=decide_eq_true c21
          clear c21
          by_cases c22:0 ≤ x6_3
          ·
           rw [if_pos c22] at H
           have c22b0:decide (0 ≤ x6_3) = true:=decide_eq_true c22
           clear c22
           replace H:=Option.bind_eq_some_iff.mp H
           obtain ⟨t229,A230,H⟩:=H
           replace H:(if t229 = true then (nunciolaw07_Few.l2 k3 x3_3 t225 x6_3 0) else (some false)) = some r:=H
           have A23:=qqm A230
           clear A230
           by_cases c24:t229 = true
           ·
            subst c24
            have H1:(nunciolaw07_Few.l2 k3 x3_3 t225 x6_3 0) = some r:=by rw [if_pos rfl] at H;exact H
            clear H
            have H:=H1
            clear H1
            have H':=qqm H
            clear H
            obtain ⟨Ao25,co25,eo25⟩:=Kd.N_slice HO_5.out
            subst eo25
            have p228:0 ≤ (x6_3:Int):=of_decide_eq_true (by first|(with_reducible assumption)|assumption)
            have q228:x6_3 < (t225.length:Int):=of_decide_eq_true (by first|(with_reducible assumption)|assumption)
            obtain ⟨ad228,A228_4,c228_4,A228_5,c228_5,A228_6,c228_6,e228,hx228_0,hx228_1,hx228_2,hx228_3,hx228_4,hx228_5,hx228_6,hl228_4,hi228_4,hl228_5,hi228_5,hl228_6,hi228_6⟩:=at_T51 (Kd.N_reads' HO_5.out).2.2 x6_3 p228 q228
            cases e228
            obtain ⟨ce228,hce228,hMe228,hcc228⟩:=Kd.N_get HO_5.out z51 x6_3 p228 (by first|exact q228|exact of_decide_eq_true (by first|(with_reducible assumption)|assumption)|(have e_:=(Kd.N_reads' HO_5.out).1;omega))
            obtain ⟨ua228_4,uc228_4,ua228_5,uc228_5,ua228_6,uc228_6,rfl,ul228_4,ge228_4,ul228_5,ge228_5,ul228_6,ge228_6⟩:=k51_openF hMe228
            have hv228_4:=hcc228 4 _ rfl
            rw [add_field _ _ 4 (by omega)] at hv228_4
            replace hv228_4:=Option.some.inj (hv228_4.symm.trans hx228_4)
            injection hv228_4 with hva_ hvn_ hvc_
            rw [hva_] at ge228_4
            rw [hvc_] at ul228_4
            have HL228_4:=qqm (show Kd.V Kd.string 9 _ w.heap.size _ _ ((rd_T51 t225 x6_3).f4) from Kd.V_mk ul228_4 ge228_4)
            clear hva_ hvn_ hvc_ ge228_4 ul228_4
            have hv228_5:=hcc228 5 _ rfl
            rw [add_field _ _ 5 (by omega)] at hv228_5
            replace hv228_5:=Option.some.inj (hv228_5.symm.trans hx228_5)
            injection hv228_5 with hva_ hvn_ hvc_
            rw [hva_] at ge228_5
            rw [hvc_] at ul228_5
            have HL228_5:=qqm (show Kd.V (Kd.int .u32) 40 _ w.heap.size _ _ ((rd_T51 t225 x6_3).f5) from Kd.V_mk ul228_5 ge228_5)
            clear hva_ hvn_ hvc_ ge228_5 ul228_5
            have hv228_6:=hcc228 6 _ rfl
            rw [add_field _ _ 6 (by omega)] at hv228_6
            replace hv228_6:=Option.some.inj (hv228_6.symm.trans hx228_6)
            injection hv228_6 with hva_ hvn_ hvc_
            rw [hva_] at ge228_6
            rw [hvc_] at ul228_6
            have HL228_6:=qqm (show Kd.V Kd.string 9 _ w.heap.size _ _ ((rd_T51 t225 x6_3).f6) from Kd.V_mk ul228_6 ge228_6)
            clear hva_ hvn_ hvc_ ge228_6 ul228_6
            clear hcc228 hce228
            have HR228_4:=qqm hi228_4
            have HC228_4:=qqm hl228_4
            clear hi228_4 hl228_4
            have HR228_5:=qqm hi228_5
            have HC228_5:=qqm hl228_5
            clear hi228_5 hl228_5
            have HR228_6:=qqm hi228_6
            have HC228_6:=qqm hl228_6
            clear hi228_6 hl228_6
            replace p228:=eq_true p228
            replace q228:=eq_true q228
            go_wp2_with (first|(go_at_call 32;(with_reducible refine (nunciolaw05_Few.calls k3 ((rd_T51 t225 x6_3).f0) ((rd_T51 t225 x6_3).f1) ((rd_T51 t225 x6_3).f2) ((rd_T51 t225 x6_3).f3) _ _ ((rd_T51 t225 x6_3).f4) _ _ ((rd_T51 t225 x6_3).f5) _ _ ((rd_T51 t225 x6_3).f6) true _ ?side1 ?side2 ?side3 ?side4 ?side5 ?side6 A23.out).mono ?_);(case side1=>repeat (first|exact (by repeat (first|(with_reducible exact HR228_4.out)|(with_reducible first|apply Kd.C_alloc|apply Kd.C_drewN|apply Kd.C_drew)|exact HR228_4.out))|(with_reducible first|apply Kd.C_alloc|apply Kd.C_drewN|apply Kd.C_drew)));(case side2=>exact HC228_4.out);(case side3=>repeat (first|exact (by repeat (first|(with_reducible exact HR228_5.out)|(with_reducible first|apply Kd.C_alloc|apply Kd.C_drewN|apply Kd.C_drew)|exact HR228_5.out))|(with_reducible first|apply Kd.C_alloc|apply Kd.C_drewN|apply Kd.C_drew)));(case side4=>exact HC228_5.out);(case side5=>repeat (first|exact (by repeat (first|(with_reducible exact HR228_6.out)|(with_reducible first|apply Kd.C_alloc|apply Kd.C_drewN|apply Kd.C_drew)|exact HR228_6.out))|(with_reducible first|apply Kd.C_alloc|apply Kd.C_drewN|apply Kd.C_drew)));(case side6=>exact HC228_6.out);rintro e w26 ⟨rfl,hb⟩;have n0_:=qqm (Kd.N_below (by (with_reducible repeat (first|apply Kd.N_alloc|apply Kd.N_drewN|apply Kd.N_drew));exact HO_5.out) hb);have n1_:=qqm (Kd.V_below (by (with_reducible repeat (first|apply Kd.V_alloc|apply Kd.V_drewN|apply Kd.V_drew));exact HL228_4.out) hb);have n2_:=qqm (Kd.V_below (by (with_reducible repeat (first|apply Kd.V_alloc|apply Kd.V_drewN|apply Kd.V_drew));exact HL228_5.out) hb);have n3_:=qqm (Kd.V_below (by (with_reducible repeat (first|apply Kd.V_alloc|apply Kd.V_drewN|apply Kd.V_drew));exact HL228_6.out) hb);have n4_:=qqm (blk_below (g:=gb223) (o:=.cells #[.int .u16 a0_0,.int .u16 a0_1,.slice A0_2 l0_2.length c0_2,.slice A0_3 l0_3.length c0_3,.slice A0_4 l0_4.length c0_4,.slice A0_5 l0_5.length c0_5] 26 (0,0)) (by (with_reducible repeat first|apply qqa|apply qqb|apply qqc);exact BK223.out) hb);have n5_:=qqm (Kd.C_below (by repeat (first|(with_reducible exact HR228_4.out)|(with_reducible first|apply Kd.C_alloc|apply Kd.C_drewN|apply Kd.C_drew)|exact HR228_4.out)) hb);have n6_:=qqm (Kd.C_below (by repeat (first|(with_reducible exact HR228_5.out)|(with_reducible first|apply Kd.C_alloc|apply Kd.C_drewN|apply Kd.C_drew)|exact HR228_5.out)) hb);have n7_:=qqm (Kd.C_below (by repeat (first|(with_reducible exact HR228_6.out)|(with_reducible first|apply Kd.C_alloc|apply Kd.C_drewN|apply Kd.C_drew)|exact HR228_6.out)) hb);have n8_:=qqm (below_step (by with_reducible repeat first|exact HB.out|apply qqf|apply qqd|apply qqe|refine qqg ?_ GE223.out) hb);clear HO_5 HL228_4 HL228_5 HL228_6 BK223 HR228_4 HR228_5 HR228_6 HB;have HO_5:=n0_;have HL228_4:=n1_;have HL228_5:=n2_;have HL228_6:=n3_;have BK223:=n4_;have HR228_4:=n5_;have HR228_5:=n6_;have HR228_6:=n7_;have HB:=n8_;clear n0_ n1_ n2_ n3_ n4_ n5_ n6_ n7_ n8_;(try clear hb);(try clear hb2);(try clear hk);(try clear hi)))
            repeat (go_quiet (first|(go_at_call 32;(with_reducible refine (nunciolaw05_Few.calls k3 ((rd_T51 t225 x6_3).f0) ((rd_T51 t225 x6_3).f1) ((rd_T51 t225 x6_3).f2) ((rd_T51 t225 x6_3).f3) _ _ ((rd_T51 t225 x6_3).f4) _ _ ((rd_T51 t225 x6_3).f5) _ _ ((rd_T51 t225 x6_3).f6) true _ ?side1 ?side2 ?side3 ?side4 ?side5 ?side6 A23.out).mono ?_);(case side1=>repeat (first|exact (by repeat (first|(with_reducible exact HR228_4.out)|(with_reducible first|apply Kd.C_alloc|apply Kd.C_drewN|apply Kd.C_drew)|exact HR228_4.out))|(with_reducible first|apply Kd.C_alloc|apply Kd.C_drewN|apply Kd.C_drew)));(case side2=>exact HC228_4.out);(case side3=>repeat (first|exact (by repeat (first|(with_reducible exact HR228_5.out)|(with_reducible first|apply Kd.C_alloc|apply Kd.C_drewN|apply Kd.C_drew)|exact HR228_5.out))|(with_reducible first|apply Kd.C_alloc|apply Kd.C_drewN|apply Kd.C_drew)));(case side4=>exact HC228_5.out);(case side5=>repeat (first|exact (by repeat (first|(with_reducible exact HR228_6.out)|(with_reducible first|apply Kd.C_alloc|apply Kd.C_drewN|apply Kd.C_drew)|exact HR228_6.out))|(with_reducible first|apply Kd.C_alloc|apply Kd.C_drewN|apply Kd.C_drew)));(case side6=>exact HC228_6.out);rintro e w26 ⟨rfl,hb⟩;have n0_:=qqm (Kd.N_below (by (with_reducible repeat (first|apply Kd.N_alloc|apply Kd.N_drewN|apply Kd.N_drew));exact HO_5.out) hb);have n1_:=qqm (Kd.V_below (by (with_reducible repeat (first|apply Kd.V_alloc|apply Kd.V_drewN|apply Kd.V_drew));exact HL228_4.out) hb);have n2_:=qqm (Kd.V_below (by (with_reducible repeat (first|apply Kd.V_alloc|apply Kd.V_drewN|apply Kd.V_drew));exact HL228_5.out) hb);have n3_:=qqm (Kd.V_below (by (with_reducible repeat (first|apply Kd.V_alloc|apply Kd.V_drewN|apply Kd.V_drew));exact HL228_6.out) hb);have n4_:=qqm (blk_below (g:=gb223) (o:=.cells #[.int .u16 a0_0,.int .u16 a0_1,.slice A0_2 l0_2.length c0_2,.slice A0_3 l0_3.length c0_3,.slice A0_4 l0_4.length c0_4,.slice A0_5 l0_5.length c0_5] 26 (0,0)) (by (with_reducible repeat first|apply qqa|apply qqb|apply qqc);exact BK223.out) hb);have n5_:=qqm (Kd.C_below (by repeat (first|(with_reducible exact HR228_4.out)|(with_reducible first|apply Kd.C_alloc|apply Kd.C_drewN|apply Kd.C_drew)|exact HR228_4.out)) hb);have n6_:=qqm (Kd.C_below (by repeat (first|(with_reducible exact HR228_5.out)|(with_reducible first|apply Kd.C_alloc|apply Kd.C_drewN|apply Kd.C_drew)|exact HR228_5.out)) hb);have n7_:=qqm (Kd.C_below (by repeat (first|(with_reducible exact HR228_6.out)|(with_reducible first|apply Kd.C_alloc|apply Kd.C_drewN|apply Kd.C_drew)|exact HR228_6.out)) hb);have n8_:=qqm (below_step (by with_reducible repeat first|exact HB.out|apply qqf|apply qqd|apply qqe|refine qqg ?_ GE223.out) hb);clear HO_5 HL228_4 HL228_5 HL228_6 BK223 HR228_4 HR228_5 HR228_6 HB;have HO_5:=n0_;have HL228_4:=n1_;have HL228_5:=n2_;have HL228_6:=n3_;have BK223:=n4_;have HR228_4:=n5_;have HR228_5:=n6_;have HR228_6:=n7_;have HB:=n8_;clear n0_ n1_ n2_ n3_ n4_ n5_ n6_ n7_ n8_;(try clear hb);(try clear hb2);(try clear hk);(try clear hi)));try go_wp2_with (first|(go_at_call 32;(with_reducible refine (nunciolaw05_Few.calls k3 ((rd_T51 t225 x6_3).f0) ((rd_T51 t225 x6_3).f1) ((rd_T51 t225 x6_3).f2) ((rd_T51 t225 x6_3).f3) _ _ ((rd_T51 t225 x6_3).f4) _ _ ((rd_T51 t225 x6_3).f5) _ _ ((rd_T51 t225 x6_3).f6) true _ ?side1 ?side2 ?side3 ?side4 ?side5 ?side6 A23.out).mono ?_);(case side1=>repeat (first|exact (by repeat (first|(with_reducible exact HR228_4.out)|(with_reducible first|apply Kd.C_alloc|apply Kd.C_drewN|apply Kd.C_drew)|exact HR228_4.out))|(with_reducible first|apply Kd.C_alloc|apply Kd.C_drewN|apply Kd.C_drew)));(case side2=>exact HC228_4.out);(case side3=>repeat (first|exact (by repeat (first|(with_reducible exact HR228_5.out)|(with_reducible first|apply Kd.C_alloc|apply Kd.C_drewN|apply Kd.C_drew)|exact HR228_5.out))|(with_reducible first|apply Kd.C_alloc|apply Kd.C_drewN|apply Kd.C_drew)));(case side4=>exact HC228_5.out);(case side5=>repeat (first|exact (by repeat (first|(with_reducible exact HR228_6.out)|(with_reducible first|apply Kd.C_alloc|apply Kd.C_drewN|apply Kd.C_drew)|exact HR228_6.out))|(with_reducible first|apply Kd.C_alloc|apply Kd.C_drewN|apply Kd.C_drew)));(case side6=>exact HC228_6.out);rintro e w26 ⟨rfl,hb⟩;have n0_:=qqm (Kd.N_below (by (with_reducible repeat (first|apply Kd.N_alloc|apply Kd.N_drewN|apply Kd.N_drew));exact HO_5.out) hb);have n1_:=qqm (Kd.V_below (by (with_reducible repeat (first|apply Kd.V_alloc|apply Kd.V_drewN|apply Kd.V_drew));exact HL228_4.out) hb);have n2_:=qqm (Kd.V_below (by (with_reducible repeat (first|apply Kd.V_alloc|apply Kd.V_drewN|apply Kd.V_drew));exact HL228_5.out) hb);have n3_:=qqm (Kd.V_below (by (with_reducible repeat (first|apply Kd.V_alloc|apply Kd.V_drewN|apply Kd.V_drew));exact HL228_6.out) hb);have n4_:=qqm (blk_below (g:=gb223) (o:=.cells #[.int .u16 a0_0,.int .u16 a0_1,.slice A0_2 l0_2.length c0_2,.slice A0_3 l0_3.length c0_3,.slice A0_4 l0_4.length c0_4,.slice A0_5 l0_5.length c0_5] 26 (0,0)) (by (with_reducible repeat first|apply qqa|apply qqb|apply qqc);exact BK223.out) hb);have n5_:=qqm (Kd.C_below (by repeat (first|(with_reducible exact HR228_4.out)|(with_reducible first|apply Kd.C_alloc|apply Kd.C_drewN|apply Kd.C_drew)|exact HR228_4.out)) hb);have n6_:=qqm (Kd.C_below (by repeat (first|(with_reducible exact HR228_5.out)|(with_reducible first|apply Kd.C_alloc|apply Kd.C_drewN|apply Kd.C_drew)|exact HR228_5.out)) hb);have n7_:=qqm (Kd.C_below (by repeat (first|(with_reducible exact HR228_6.out)|(with_reducible first|apply Kd.C_alloc|apply Kd.C_drewN|apply Kd.C_drew)|exact HR228_6.out)) hb);have n8_:=qqm (below_step (by with_reducible repeat first|exact HB.out|apply qqf|apply qqd|apply qqe|refine qqg ?_ GE223.out) hb);clear HO_5 HL228_4 HL228_5 HL228_6 BK223 HR228_4 HR228_5 HR228_6 HB;have HO_5:=n0_;have HL228_4:=n1_;have HL228_5:=n2_;have HL228_6:=n3_;have BK223:=n4_;have HR228_4:=n5_;have HR228_5:=n6_;have HR228_6:=n7_;have HB:=n8_;clear n0_ n1_ n2_ n3_ n4_ n5_ n6_ n7_ n8_;(try clear hb);(try clear hb2);(try clear hk);(try clear hi))))
            go_loopg [3,7] k3 (fun kq v3 v7 w'=>∃ (x3_4:Int) (x7_4:Int),v3 = .int .i64 x3_4∧v7 = .int .i64 x7_4∧Aside0 (nunciolaw07_Few.l2 kq x3_4 t225 x6_3 x7_4 = some r)∧Aside0 (kq ≤ k3)∧Aside0 (Kd.N k51 51 w' w.heap.size (fun k_=>k_ ≠ gb223) (.slice (some ad228) t225.length co25) t225)∧Aside0 (w'.heap[gb223]? = some (.cells #[.int .u16 a0_0,.int .u16 a0_1,(.slice A0_2 l0_2.length c0_2),(.slice A0_3 l0_3.length c0_3),(.slice A0_4 l0_4.length c0_4),(.slice A0_5 l0_5.length c0_5)] 26 (0,0)))∧Aside0 (Kd.C Kd.string w' A228_4 ((rd_T51 t225 x6_3).f4).length ((rd_T51 t225 x6_3).f4))∧Aside0 (Kd.C (Kd.int .u32) w' A228_5 ((rd_T51 t225 x6_3).f5).length ((rd_T51 t225 x6_3).f5))∧Aside0 (Kd.C Kd.string w' A228_6 ((rd_T51 t225 x6_3).f6).length ((rd_T51 t225 x6_3).f6))∧Aside0 (Below w.heap.size w w'))
            case atStart=>exact ⟨(x3_3),(0),(by first|rfl|(simp;done)|(simp [*];done)),(by first|rfl|(simp;done)|(simp [*];done)),H',⟨Nat.le_refl _⟩,⟨by (with_reducible repeat (first|apply Kd.N_alloc|apply Kd.N_drewN|apply Kd.N_drew));exact HO_5.out⟩,⟨by (with_reducible repeat first|apply qqa|apply qqb|apply qqc);exact BK223.out⟩,⟨by repeat (first|(with_reducible exact HR228_4.out)|(with_reducible first|apply Kd.C_alloc|apply Kd.C_drewN|apply Kd.C_drew)|exact HR228_4.out)⟩,⟨by repeat (first|(with_reducible exact HR228_5.out)|(with_reducible first|apply Kd.C_alloc|apply Kd.C_drewN|apply Kd.C_drew)|exact HR228_5.out)⟩,⟨by repeat (first|(with_reducible exact HR228_6.out)|(with_reducible first|apply Kd.C_alloc|apply Kd.C_drewN|apply Kd.C_drew)|exact HR228_6.out)⟩,⟨by with_reducible repeat first|exact HB.out|apply qqf|apply qqd|apply qqe|refine qqg ?_ GE223.out⟩⟩
            case round =>
             clear H'
             try clear c1
             try clear c2
             try clear p2
             try clear q2
             try clear hx2
             try clear c4
             try clear c4b0
             try clear c4b1
             try clear c6
             try clear c6b0
             try clear c6b1
             try clear p6
             try clear c8
             try clear c8b0
             try clear c8b1
             try clear c10
             try clear c11
             try clear c12
             try clear c12b0
             try clear c13
             try clear c13b0
             try clear c15
             try clear c15b0
             try clear c21
             try clear c21b0
             try clear c22
             try clear c22b0
             try clear p22
             try clear q22
             try clear hx22
             try clear c24
             try clear hcz10_0 hcz10_1 hcz10_2 hcz10_3 hcz10_4 hcz10_5
             try clear hcz16_0 hcz16_1 hcz16_2 hcz16_3 hcz16_4 hcz16_5
             try clear hcz17_0 hcz17_1 hcz17_2 hcz17_3 hcz17_4 hcz17_5
             try clear hcz19_0 hcz19_1 hcz19_2 hcz19_3 hcz19_4 hcz19_5
             try clear hcz5_0 hcz5_1 hcz5_2 hcz5_3 hcz5_4 hcz5_5
             try clear hcz7_0 hcz7_1 hcz7_2 hcz7_3 hcz7_4 hcz7_5
             try clear hcz9_0 hcz9_1 hcz9_2 hcz9_3 hcz9_4 hcz9_5
             try clear hfz10_0 hfz10_1 hfz10_2 hfz10_3 hfz10_4 hfz10_5
             try clear hfz16_0 hfz16_1 hfz16_2 hfz16_3 hfz16_4 hfz16_5
             try clear hfz17_0 hfz17_1 hfz17_2 hfz17_3 hfz17_4 hfz17_5
             try clear hfz19_0 hfz19_1 hfz19_2 hfz19_3 hfz19_4 hfz19_5
             try clear hfz5_0 hfz5_1 hfz5_2 hfz5_3 hfz5_4 hfz5_5
             try clear hfz7_0 hfz7_1 hfz7_2 hfz7_3 hfz7_4 hfz7_5
             try clear hfz9_0 hfz9_1 hfz9_2 hfz9_3 hfz9_4 hfz9_5
             try clear hx224_0
             try clear hx224_1
             try clear hx224_2
             try clear hx228_0
             try clear hx228_1
             try clear hx228_2
             try clear hx228_3
             try clear hx228_4
             try clear hx228_5
             try clear hx228_6
             try clear p2
             try clear p224
             try clear p228
             try clear p6
             try clear q2
             try clear q224
             try clear q228
             obtain ⟨x3_4,x7_4,rfl,rfl,HA,HK4,HO_5,BK223,HR228_4,HR228_5,HR228_6,HB⟩:=hrel
             cases gk with
             | zero => exact absurd HA.out (by simp [nunciolaw07_Few.l2])
             | succ k4 =>
              have H:=HA.out
              clear HA
              simp only [nunciolaw07_Few.l2] at H
              by_cases c27:0 ≤ x6_3
              ·
               rw [if_pos c27] at H
               have c27b0:decide (0 ≤ x6_3) = true:=decide_eq_true c27
               clear c27
               by_cases c28:x6_3 < (t225.length:Int)
               ·
                rw [if_pos c28] at H
                have c28b0:decide (x6_3 < (t225.length:Int)) = true:=decide_eq_true c28
                clear c28
                by_cases c29:x7_4 < (((rd_T51 t225 x6_3).f4).length:Int)
                ·
                 rw [if_pos c29] at H
                 have c29b0:decide (x7_4 < (((rd_T51 t225 x6_3).f4).length:Int)) = true:=decide_eq_true c29
                 clear c29
                 by_cases c30:0 ≤ x7_4
                 ·
                  rw [if_pos c30] at H
                  have c30b0:decide (0 ≤ x7_4) = true:=decide_eq_true c30
                  clear c30
                  have H':=qqm H
                  clear H
                  have p230:0 ≤ (x6_3:Int):=of_decide_eq_true (by first|(with_reducible assumption)|assumption)
                  have q230:x6_3 < (t225.length:Int):=of_decide_eq_true (by first|(with_reducible assumption)|assumption)
                  obtain ⟨ad230,A230_4,c230_4,A230_5,c230_5,A230_6,c230_6,e230,hx230_0,hx230_1,hx230_2,hx230_3,hx230_4,hx230_5,hx230_6,hl230_4,hi230_4,hl230_5,hi230_5,hl230_6,hi230_6⟩:=at_T51 (Kd.N_reads' HO_5.out).2.2 x6_3 p230 q230
                  obtain rfl:ad228 = ad230:=(by injection e230)
                  obtain ⟨ce230,hce230,hMe230,hcc230⟩:=Kd.N_get HO_5.out z51 x6_3 p230 (by first|exact q230|exact of_decide_eq_true (by first|(with_reducible assumption)|assumption)|(have e_:=(Kd.N_reads' HO_5.out).1;omega))
                  obtain ⟨ua230_4,uc230_4,ua230_5,uc230_5,ua230_6,uc230_6,rfl,ul230_4,ge230_4,ul230_5,ge230_5,ul230_6,ge230_6⟩:=k51_openF hMe230
                  have hv230_4:=hcc230 4 _ rfl
                  rw [add_field _ _ 4 (by omega)] at hv230_4
                  replace hv230_4:=Option.some.inj (hv230_4.symm.trans hx230_4)
                  injection hv230_4 with hva_ hvn_ hvc_
                  rw [hva_] at ge230_4
                  rw [hvc_] at ul230_4
                  have HL230_4:=qqm (show Kd.V Kd.string 9 _ w.heap.size _ _ ((rd_T51 t225 x6_3).f4) from Kd.V_mk ul230_4 ge230_4)
                  clear hva_ hvn_ hvc_ ge230_4 ul230_4
                  have hv230_5:=hcc230 5 _ rfl
                  rw [add_field _ _ 5 (by omega)] at hv230_5
                  replace hv230_5:=Option.some.inj (hv230_5.symm.trans hx230_5)
                  injection hv230_5 with hva_ hvn_ hvc_
                  rw [hva_] at ge230_5
                  rw [hvc_] at ul230_5
                  have HL230_5:=qqm (show Kd.V (Kd.int .u32) 40 _ w.heap.size _ _ ((rd_T51 t225 x6_3).f5) from Kd.V_mk ul230_5 ge230_5)
                  clear hva_ hvn_ hvc_ ge230_5 ul230_5
                  have hv230_6:=hcc230 6 _ rfl
                  rw [add_field _ _ 6 (by omega)] at hv230_6
                  replace hv230_6:=Option.some.inj (hv230_6.symm.trans hx230_6)
                  injection hv230_6 with hva_ hvn_ hvc_
                  rw [hva_] at ge230_6
                  rw [hvc_] at ul230_6
                  have HL230_6:=qqm (show Kd.V Kd.string 9 _ w.heap.size _ _ ((rd_T51 t225 x6_3).f6) from Kd.V_mk ul230_6 ge230_6)
                  clear hva_ hvn_ hvc_ ge230_6 ul230_6
                  clear hcc230 hce230
                  have HR230_4:=qqm hi230_4
                  have HC230_4:=qqm hl230_4
                  clear hi230_4 hl230_4
                  have HR230_5:=qqm hi230_5
                  have HC230_5:=qqm hl230_5
                  clear hi230_5 hl230_5
                  have HR230_6:=qqm hi230_6
                  have HC230_6:=qqm hl230_6
                  clear hi230_6 hl230_6
                  replace p230:=eq_true p230
                  replace q230:=eq_true q230
                  have p231:0 ≤ (x6_3:Int):=of_decide_eq_true (by first|(with_reducible assumption)|assumption)
                  have q231:x6_3 < (t225.length:Int):=of_decide_eq_true (by first|(with_reducible assumption)|assumption)
                  obtain ⟨ad231,A231_4,c231_4,A231_5,c231_5,A231_6,c231_6,e231,hx231_0,hx231_1,hx231_2,hx231_3,hx231_4,hx231_5,hx231_6,hl231_4,hi231_4,hl231_5,hi231_5,hl231_6,hi231_6⟩:=at_T51 (Kd.N_reads' HO_5.out).2.2 x6_3 p231 q231
                  obtain rfl:ad228 = ad231:=(by injection e231)
                  obtain ⟨ce231,hce231,hMe231,hcc231⟩:=Kd.N_get HO_5.out z51 x6_3 p231 (by first|exact q231|exact of_decide_eq_true (by first|(with_reducible assumption)|assumption)|(have e_:=(Kd.N_reads' HO_5.out).1;omega))
                  obtain ⟨ua231_4,uc231_4,ua231_5,uc231_5,ua231_6,uc231_6,rfl,ul231_4,ge231_4,ul231_5,ge231_5,ul231_6,ge231_6⟩:=k51_openF hMe231
                  have hv231_4:=hcc231 4 _ rfl
                  rw [add_field _ _ 4 (by omega)] at hv231_4
                  replace hv231_4:=Option.some.inj (hv231_4.symm.trans hx231_4)
                  injection hv231_4 with hva_ hvn_ hvc_
                  rw [hva_] at ge231_4
                  rw [hvc_] at ul231_4
                  have HL231_4:=qqm (show Kd.V Kd.string 9 _ w.heap.size _ _ ((rd_T51 t225 x6_3).f4) from Kd.V_mk ul231_4 ge231_4)
                  clear hva_ hvn_ hvc_ ge231_4 ul231_4
                  have hv231_5:=hcc231 5 _ rfl
                  rw [add_field _ _ 5 (by omega)] at hv231_5
                  replace hv231_5:=Option.some.inj (hv231_5.symm.trans hx231_5)
                  injection hv231_5 with hva_ hvn_ hvc_
                  rw [hva_] at ge231_5
                  rw [hvc_] at ul231_5
                  have HL231_5:=qqm (show Kd.V (Kd.int .u32) 40 _ w.heap.size _ _ ((rd_T51 t225 x6_3).f5) from Kd.V_mk ul231_5 ge231_5)
                  clear hva_ hvn_ hvc_ ge231_5 ul231_5
                  have hv231_6:=hcc231 6 _ rfl
                  rw [add_field _ _ 6 (by omega)] at hv231_6
                  replace hv231_6:=Option.some.inj (hv231_6.symm.trans hx231_6)
                  injection hv231_6 with hva_ hvn_ hvc_
                  rw [hva_] at ge231_6
                  rw [hvc_] at ul231_6
                  have HL231_6:=qqm (show Kd.V Kd.string 9 _ w.heap.size _ _ ((rd_T51 t225 x6_3).f6) from Kd.V_mk ul231_6 ge231_6)
                  clear hva_ hvn_ hvc_ ge231_6 ul231_6
                  clear hcc231 hce231
                  have HR231_4:=qqm hi231_4
                  have HC231_4:=qqm hl231_4
                  clear hi231_4 hl231_4
                  have HR231_5:=qqm hi231_5
                  have HC231_5:=qqm hl231_5
                  clear hi231_5 hl231_5
                  have HR231_6:=qqm hi231_6
                  have HC231_6:=qqm hl231_6
                  clear hi231_6 hl231_6
                  replace p231:=eq_true p231
                  replace q231:=eq_true q231
                  have ea_:=Option.some.inj (hx230_4.symm.trans hx231_4)
                  injection ea_ with ea_ en_ ec_
                  subst ea_
                  subst ec_
                  clear en_
                  have ea_:=Option.some.inj (hx230_5.symm.trans hx231_5)
                  injection ea_ with ea_ en_ ec_
                  subst ea_
                  subst ec_
                  clear en_
                  have ea_:=Option.some.inj (hx230_6.symm.trans hx231_6)
                  injection ea_ with ea_ en_ ec_
                  subst ea_
                  subst ec_
                  clear en_
                  have p232:0 ≤ (x7_4:Int):=of_decide_eq_true (by first|(with_reducible assumption)|assumption)
                  have q232:x7_4 < (((rd_T51 t225 x6_3).f4).length:Int):=of_decide_eq_true (by first|(with_reducible assumption)|assumption)
                  obtain ⟨ad232,e232,hx232_0⟩:=Kd.at_string (by repeat (first|(with_reducible exact HR231_4.out)|(with_reducible first|apply Kd.C_alloc|apply Kd.C_drewN|apply Kd.C_drew)|exact HR231_4.out)) x7_4 p232 q232
                  cases e232
                  replace p232:=eq_true p232
                  replace q232:=eq_true q232
                  go_wp2
                  repeat (go_quiet (fail);try go_wp2)
                  go_roundg k4
                  case measure=>have:=HJ1.out;have:=HK2.out;have:=HK3.out;have:=HK4.out;omega
                  case rel=>exact ⟨(wrap64 (x3_4 + ((rdOf ByteArray.empty ((rd_T51 t225 x6_3).f4) x7_4).size:Int))),(wrap64 (x7_4 + 1)),(by first|rfl|(simp;done)|(simp [*];done)),(by first|rfl|(simp;done)|(simp [*];done)),H',⟨by have:=HJ1.out;have:=HK2.out;have:=HK3.out;have:=HK4.out;omega⟩,⟨by (with_reducible repeat (first|apply Kd.N_alloc|apply Kd.N_drewN|apply Kd.N_drew));exact HO_5.out⟩,⟨by (with_reducible repeat first|apply qqa|apply qqb|apply qqc);exact BK223.out⟩,⟨by repeat (first|(with_reducible exact HR228_4.out)|(with_reducible first|apply Kd.C_alloc|apply Kd.C_drewN|apply Kd.C_drew)|exact HR228_4.out)⟩,⟨by repeat (first|(with_reducible exact HR228_5.out)|(with_reducible first|apply Kd.C_alloc|apply Kd.C_drewN|apply Kd.C_drew)|exact HR228_5.out)⟩,⟨by repeat (first|(with_reducible exact HR228_6.out)|(with_reducible first|apply Kd.C_alloc|apply Kd.C_drewN|apply Kd.C_drew)|exact HR228_6.out)⟩,⟨by with_reducible repeat first|exact HB.out|apply qqf|apply qqd|apply qqe|refine qqg ?_ GE223.out⟩⟩
                 ·
                  rw [if_neg c30] at H
                  exact absurd H (by simp)
                ·
                 rw [if_neg c29] at H
                 have c29b0:decide (x7_4 < (((rd_T51 t225 x6_3).f4).length:Int)) = false:=decide_eq_false c29
                 clear c29
                 have H':=qqm H
                 clear H
                 have p230:0 ≤ (x6_3:Int):=of_decide_eq_true (by first|(with_reducible assumption)|assumption)
                 have q230:x6_3 < (t225.length:Int):=of_decide_eq_true (by first|(with_reducible assumption)|assumption)
                 obtain ⟨ad230,A230_4,c230_4,A230_5,c230_5,A230_6,c230_6,e230,hx230_0,hx230_1,hx230_2,hx230_3,hx230_4,hx230_5,hx230_6,hl230_4,hi230_4,hl230_5,hi230_5,hl230_6,hi230_6⟩:=at_T51 (Kd.N_reads' HO_5.out).2.2 x6_3 p230 q230
                 obtain rfl:ad228 = ad230:=(by injection e230)
                 obtain ⟨ce230,hce230,hMe230,hcc230⟩:=Kd.N_get HO_5.out z51 x6_3 p230 (by first|exact q230|exact of_decide_eq_true (by first|(with_reducible assumption)|assumption)|(have e_:=(Kd.N_reads' HO_5.out).1;omega))
                 obtain ⟨ua230_4,uc230_4,ua230_5,uc230_5,ua230_6,uc230_6,rfl,ul230_4,ge230_4,ul230_5,ge230_5,ul230_6,ge230_6⟩:=k51_openF hMe230
                 have hv230_4:=hcc230 4 _ rfl
                 rw [add_field _ _ 4 (by omega)] at hv230_4
                 replace hv230_4:=Option.some.inj (hv230_4.symm.trans hx230_4)
                 injection hv230_4 with hva_ hvn_ hvc_
                 rw [hva_] at ge230_4
                 rw [hvc_] at ul230_4
                 have HL230_4:=qqm (show Kd.V Kd.string 9 _ w.heap.size _ _ ((rd_T51 t225 x6_3).f4) from Kd.V_mk ul230_4 ge230_4)
                 clear hva_ hvn_ hvc_ ge230_4 ul230_4
                 have hv230_5:=hcc230 5 _ rfl
                 rw [add_field _ _ 5 (by omega)] at hv230_5
                 replace hv230_5:=Option.some.inj (hv230_5.symm.trans hx230_5)
                 injection hv230_5 with hva_ hvn_ hvc_
                 rw [hva_] at ge230_5
                 rw [hvc_] at ul230_5
                 have HL230_5:=qqm (show Kd.V (Kd.int .u32) 40 _ w.heap.size _ _ ((rd_T51 t225 x6_3).f5) from Kd.V_mk ul230_5 ge230_5)
                 clear hva_ hvn_ hvc_ ge230_5 ul230_5
                 have hv230_6:=hcc230 6 _ rfl
                 rw [add_field _ _ 6 (by omega)] at hv230_6
                 replace hv230_6:=Option.some.inj (hv230_6.symm.trans hx230_6)
                 injection hv230_6 with hva_ hvn_ hvc_
                 rw [hva_] at ge230_6
                 rw [hvc_] at ul230_6
                 have HL230_6:=qqm (show Kd.V Kd.string 9 _ w.heap.size _ _ ((rd_T51 t225 x6_3).f6) from Kd.V_mk ul230_6 ge230_6)
                 clear hva_ hvn_ hvc_ ge230_6 ul230_6
                 clear hcc230 hce230
                 have HR230_4:=qqm hi230_4
                 have HC230_4:=qqm hl230_4
                 clear hi230_4 hl230_4
                 have HR230_5:=qqm hi230_5
                 have HC230_5:=qqm hl230_5
                 clear hi230_5 hl230_5
                 have HR230_6:=qqm hi230_6
                 have HC230_6:=qqm hl230_6
                 clear hi230_6 hl230_6
                 replace p230:=eq_true p230
                 replace q230:=eq_true q230
                 go_wp2
                 repeat (go_quiet (fail);try go_wp2)
                 go_loopg [3,8] k4 (fun kq v3 v8 w'=>∃ (x3_5:Int) (x8_5:Int),v3 = .int .i64 x3_5∧v8 = .int .i64 x8_5∧Aside0 (nunciolaw07_Few.l3 kq x3_5 t225 x6_3 x8_5 = some r)∧Aside0 (kq ≤ k4)∧Aside0 (Kd.N k51 51 w' w.heap.size (fun k_=>k_ ≠ gb223) (.slice (some ad228) t225.length co25) t225)∧Aside0 (w'.heap[gb223]? = some (.cells #[.int .u16 a0_0,.int .u16 a0_1,(.slice A0_2 l0_2.length c0_2),(.slice A0_3 l0_3.length c0_3),(.slice A0_4 l0_4.length c0_4),(.slice A0_5 l0_5.length c0_5)] 26 (0,0)))∧Aside0 (Kd.C Kd.string w' A228_4 ((rd_T51 t225 x6_3).f4).length ((rd_T51 t225 x6_3).f4))∧Aside0 (Kd.C (Kd.int .u32) w' A228_5 ((rd_T51 t225 x6_3).f5).length ((rd_T51 t225 x6_3).f5))∧Aside0 (Kd.C Kd.string w' A228_6 ((rd_T51 t225 x6_3).f6).length ((rd_T51 t225 x6_3).f6))∧Aside0 (Kd.C Kd.string w' A230_4 ((rd_T51 t225 x6_3).f4).length ((rd_T51 t225 x6_3).f4))∧Aside0 (Kd.C (Kd.int .u32) w' A230_5 ((rd_T51 t225 x6_3).f5).length ((rd_T51 t225 x6_3).f5))∧Aside0 (Kd.C Kd.string w' A230_6 ((rd_T51 t225 x6_3).f6).length ((rd_T51 t225 x6_3).f6))∧Aside0 (Below w.heap.size w w'))
                 case atStart=>exact ⟨(x3_4),(0),(by first|rfl|(simp;done)|(simp [*];done)),(by first|rfl|(simp;done)|(simp [*];done)),H',⟨Nat.le_refl _⟩,⟨by (with_reducible repeat (first|apply Kd.N_alloc|apply Kd.N_drewN|apply Kd.N_drew));exact HO_5.out⟩,⟨by (with_reducible repeat first|apply qqa|apply qqb|apply qqc);exact BK223.out⟩,⟨by repeat (first|(with_reducible exact HR228_4.out)|(with_reducible first|apply Kd.C_alloc|apply Kd.C_drewN|apply Kd.C_drew)|exact HR228_4.out)⟩,⟨by repeat (first|(with_reducible exact HR228_5.out)|(with_reducible first|apply Kd.C_alloc|apply Kd.C_drewN|apply Kd.C_drew)|exact HR228_5.out)⟩,⟨by repeat (first|(with_reducible exact HR228_6.out)|(with_reducible first|apply Kd.C_alloc|apply Kd.C_drewN|apply Kd.C_drew)|exact HR228_6.out)⟩,⟨by repeat (first|(with_reducible exact HR230_4.out)|(with_reducible first|apply Kd.C_alloc|apply Kd.C_drewN|apply Kd.C_drew)|exact HR230_4.out)⟩,⟨by repeat (first|(with_reducible exact HR230_5.out)|(with_reducible first|apply Kd.C_alloc|apply Kd.C_drewN|apply Kd.C_drew)|exact HR230_5.out)⟩,⟨by repeat (first|(with_reducible exact HR230_6.out)|(with_reducible first|apply Kd.C_alloc|apply Kd.C_drewN|apply Kd.C_drew)|exact HR230_6.out)⟩,⟨by with_reducible repeat first|exact HB.out|apply qqf|apply qqd|apply qqe|refine qqg ?_ GE223.out⟩⟩
                 case round =>
                  clear H'
                  try clear c1
                  try clear c2
                  try clear p2
                  try clear q2
                  try clear hx2
                  try clear c3
                  try clear c4
                  try clear c4b0
                  try clear c4b1
                  try clear c6
                  try clear c6b0
                  try clear c6b1
                  try clear p6
                  try clear c8
                  try clear c8b0
                  try clear c8b1
                  try clear c10
                  try clear c11
                  try clear c12
                  try clear c12b0
                  try clear c13
                  try clear c13b0
                  try clear c15
                  try clear c15b0
                  try clear c21
                  try clear c21b0
                  try clear c22
                  try clear c22b0
                  try clear p22
                  try clear q22
                  try clear hx22
                  try clear c23
                  try clear p23
                  try clear q23
                  try clear hx23
                  try clear c24
                  try clear c27
                  try clear c27b0
                  try clear c28
                  try clear c28b0
                  try clear c29
                  try clear c29b0
                  try clear c30
                  try clear c30b0
                  try clear hcz10_0 hcz10_1 hcz10_2 hcz10_3 hcz10_4 hcz10_5
                  try clear hcz16_0 hcz16_1 hcz16_2 hcz16_3 hcz16_4 hcz16_5
                  try clear hcz17_0 hcz17_1 hcz17_2 hcz17_3 hcz17_4 hcz17_5
                  try clear hcz19_0 hcz19_1 hcz19_2 hcz19_3 hcz19_4 hcz19_5
                  try clear hcz5_0 hcz5_1 hcz5_2 hcz5_3 hcz5_4 hcz5_5
                  try clear hcz7_0 hcz7_1 hcz7_2 hcz7_3 hcz7_4 hcz7_5
                  try clear hcz9_0 hcz9_1 hcz9_2 hcz9_3 hcz9_4 hcz9_5
                  try clear hfz10_0 hfz10_1 hfz10_2 hfz10_3 hfz10_4 hfz10_5
                  try clear hfz16_0 hfz16_1 hfz16_2 hfz16_3 hfz16_4 hfz16_5
                  try clear hfz17_0 hfz17_1 hfz17_2 hfz17_3 hfz17_4 hfz17_5
                  try clear hfz19_0 hfz19_1 hfz19_2 hfz19_3 hfz19_4 hfz19_5
                  try clear hfz5_0 hfz5_1 hfz5_2 hfz5_3 hfz5_4 hfz5_5
                  try clear hfz7_0 hfz7_1 hfz7_2 hfz7_3 hfz7_4 hfz7_5
                  try clear hfz9_0 hfz9_1 hfz9_2 hfz9_3 hfz9_4 hfz9_5
                  try clear hx224_0
                  try clear hx224_1
                  try clear hx224_2
                  try clear hx228_0
                  try clear hx228_1
                  try clear hx228_2
                  try clear hx228_3
                  try clear hx228_4
                  try clear hx228_5
                  try clear hx228_6
                  try clear hx230_0
                  try clear hx230_1
                  try clear hx230_2
                  try clear hx230_3
                  try clear hx230_4
                  try clear hx230_5
                  try clear hx230_6
                  try clear hx231_0
                  try clear hx231_1
                  try clear hx231_2
                  try clear hx231_3
                  try clear hx231_4
                  try clear hx231_5
                  try clear hx231_6
                  try clear hx232_0
                  try clear p2
                  try clear p22
                  try clear p224
                  try clear p228
                  try clear p230
                  try clear p231
                  try clear p232
                  try clear p6
                  try clear q2
                  try clear q22
                  try clear q224
                  try clear q228
                  try clear q230
                  try clear q231
                  try clear q232
                  obtain ⟨x3_5,x8_5,rfl,rfl,HA,HK5,HO_5,BK223,HR228_4,HR228_5,HR228_6,HR230_4,HR230_5,HR230_6,HB⟩:=hrel
                  cases gk with
                  | zero => exact absurd HA.out (by simp [nunciolaw07_Few.l3])
                  | succ k5 =>
                   have H:=HA.out
                   clear HA
                   simp only [nunciolaw07_Few.l3] at H
                   by_cases c31:0 ≤ x6_3
                   ·
                    rw [if_pos c31] at H
                    have c31b0:decide (0 ≤ x6_3) = true:=decide_eq_true c31
                    clear c31
                    by_cases c32:x6_3 < (t225.length:Int)
                    ·
                     rw [if_pos c32] at H
                     have c32b0:decide (x6_3 < (t225.length:Int)) = true:=decide_eq_true c32
                     clear c32
                     by_cases c33:x8_5 < (((rd_T51 t225 x6_3).f6).length:Int)
                     ·
                      rw [if_pos c33] at H
                      have c33b0:decide (x8_5 < (((rd_T51 t225 x6_3).f6).length:Int)) = true:=decide_eq_true c33
                      clear c33
                      by_cases c34:0 ≤ x8_5
                      ·
                       rw [if_pos c34] at H
                       have c34b0:decide (0 ≤ x8_5) = true:=decide_eq_true c34
                       clear c34
                       have H':=qqm H
                       clear H
                       have p233:0 ≤ (x6_3:Int):=of_decide_eq_true (by first|(with_reducible assumption)|assumption)
                       have q233:x6_3 < (t225.length:Int):=of_decide_eq_true (by first|(with_reducible assumption)|assumption)
                       obtain ⟨ad233,A233_4,c233_4,A233_5,c233_5,A233_6,c233_6,e233,hx233_0,hx233_1,hx233_2,hx233_3,hx233_4,hx233_5,hx233_6,hl233_4,hi233_4,hl233_5,hi233_5,hl233_6,hi233_6⟩:=at_T51 (Kd.N_reads' HO_5.out).2.2 x6_3 p233 q233
                       obtain rfl:ad228 = ad233:=(by injection e233)
                       obtain ⟨ce233,hce233,hMe233,hcc233⟩:=Kd.N_get HO_5.out z51 x6_3 p233 (by first|exact q233|exact of_decide_eq_true (by first|(with_reducible assumption)|assumption)|(have e_:=(Kd.N_reads' HO_5.out).1;omega))
                       obtain ⟨ua233_4,uc233_4,ua233_5,uc233_5,ua233_6,uc233_6,rfl,ul233_4,ge233_4,ul233_5,ge233_5,ul233_6,ge233_6⟩:=k51_openF hMe233
                       have hv233_4:=hcc233 4 _ rfl
                       rw [add_field _ _ 4 (by omega)] at hv233_4
                       replace hv233_4:=Option.some.inj (hv233_4.symm.trans hx233_4)
                       injection hv233_4 with hva_ hvn_ hvc_
                       rw [hva_] at ge233_4
                       rw [hvc_] at ul233_4
                       have HL233_4:=qqm (show Kd.V Kd.string 9 _ w.heap.size _ _ ((rd_T51 t225 x6_3).f4) from Kd.V_mk ul233_4 ge233_4)
                       clear hva_ hvn_ hvc_ ge233_4 ul233_4
                       have hv233_5:=hcc233 5 _ rfl
                       rw [add_field _ _ 5 (by omega)] at hv233_5
                       replace hv233_5:=Option.some.inj (hv233_5.symm.trans hx233_5)
                       injection hv233_5 with hva_ hvn_ hvc_
                       rw [hva_] at ge233_5
                       rw [hvc_] at ul233_5
                       have HL233_5:=qqm (show Kd.V (Kd.int .u32) 40 _ w.heap.size _ _ ((rd_T51 t225 x6_3).f5) from Kd.V_mk ul233_5 ge233_5)
                       clear hva_ hvn_ hvc_ ge233_5 ul233_5
                       have hv233_6:=hcc233 6 _ rfl
                       rw [add_field _ _ 6 (by omega)] at hv233_6
                       replace hv233_6:=Option.some.inj (hv233_6.symm.trans hx233_6)
                       injection hv233_6 with hva_ hvn_ hvc_
                       rw [hva_] at ge233_6
                       rw [hvc_] at ul233_6
                       have HL233_6:=qqm (show Kd.V Kd.string 9 _ w.heap.size _ _ ((rd_T51 t225 x6_3).f6) from Kd.V_mk ul233_6 ge233_6)
                       clear hva_ hvn_ hvc_ ge233_6 ul233_6
                       clear hcc233 hce233
                       have HR233_4:=qqm hi233_4
                       have HC233_4:=qqm hl233_4
                       clear hi233_4 hl233_4
                       have HR233_5:=qqm hi233_5
                       have HC233_5:=qqm hl233_5
                       clear hi233_5 hl233_5
                       have HR233_6:=qqm hi233_6
                       have HC233_6:=qqm hl233_6
                       clear hi233_6 hl233_6
                       replace p233:=eq_true p233
                       replace q233:=eq_true q233
                       have p234:0 ≤ (x6_3:Int):=of_decide_eq_true (by first|(with_reducible assumption)|assumption)
                       have q234:x6_3 < (t225.length:Int):=of_decide_eq_true (by first|(with_reducible assumption)|assumption)
                       obtain ⟨ad234,A234_4,c234_4,A234_5,c234_5,A234_6,c234_6,e234,hx234_0,hx234_1,hx234_2,hx234_3,hx234_4,hx234_5,hx234_6,hl234_4,hi234_4,hl234_5,hi234_5,hl234_6,hi234_6⟩:=at_T51 (Kd.N_reads' HO_5.out).2.2 x6_3 p234 q234
                       obtain rfl:ad228 = ad234:=(by injection e234)
                       obtain ⟨ce234,hce234,hMe234,hcc234⟩:=Kd.N_get HO_5.out z51 x6_3 p234 (by first|exact q234|exact of_decide_eq_true (by first|(with_reducible assumption)|assumption)|(have e_:=(Kd.N_reads' HO_5.out).1;omega))
                       obtain ⟨ua234_4,uc234_4,ua234_5,uc234_5,ua234_6,uc234_6,rfl,ul234_4,ge234_4,ul234_5,ge234_5,ul234_6,ge234_6⟩:=k51_openF hMe234
                       have hv234_4:=hcc234 4 _ rfl
                       rw [add_field _ _ 4 (by omega)] at hv234_4
                       replace hv234_4:=Option.some.inj (hv234_4.symm.trans hx234_4)
                       injection hv234_4 with hva_ hvn_ hvc_
                       rw [hva_] at ge234_4
                       rw [hvc_] at ul234_4
                       have HL234_4:=qqm (show Kd.V Kd.string 9 _ w.heap.size _ _ ((rd_T51 t225 x6_3).f4) from Kd.V_mk ul234_4 ge234_4)
                       clear hva_ hvn_ hvc_ ge234_4 ul234_4
                       have hv234_5:=hcc234 5 _ rfl
                       rw [add_field _ _ 5 (by omega)] at hv234_5
                       replace hv234_5:=Option.some.inj (hv234_5.symm.trans hx234_5)
                       injection hv234_5 with hva_ hvn_ hvc_
                       rw [hva_] at ge234_5
                       rw [hvc_] at ul234_5
                       have HL234_5:=qqm (show Kd.V (Kd.int .u32) 40 _ w.heap.size _ _ ((rd_T51 t225 x6_3).f5) from Kd.V_mk ul234_5 ge234_5)
                       clear hva_ hvn_ hvc_ ge234_5 ul234_5
                       have hv234_6:=hcc234 6 _ rfl
                       rw [add_field _ _ 6 (by omega)] at hv234_6
                       replace hv234_6:=Option.some.inj (hv234_6.symm.trans hx234_6)
                       injection hv234_6 with hva_ hvn_ hvc_
                       rw [hva_] at ge234_6
                       rw [hvc_] at ul234_6
                       have HL234_6:=qqm (show Kd.V Kd.string 9 _ w.heap.size _ _ ((rd_T51 t225 x6_3).f6) from Kd.V_mk ul234_6 ge234_6)
                       clear hva_ hvn_ hvc_ ge234_6 ul234_6
                       clear hcc234 hce234
                       have HR234_4:=qqm hi234_4
                       have HC234_4:=qqm hl234_4
                       clear hi234_4 hl234_4
                       have HR234_5:=qqm hi234_5
                       have HC234_5:=qqm hl234_5
                       clear hi234_5 hl234_5
                       have HR234_6:=qqm hi234_6
                       have HC234_6:=qqm hl234_6
                       clear hi234_6 hl234_6
                       replace p234:=eq_true p234
                       replace q234:=eq_true q234
                       have ea_:=Option.some.inj (hx233_4.symm.trans hx234_4)
                       injection ea_ with ea_ en_ ec_
                       subst ea_
                       subst ec_
                       clear en_
                       have ea_:=Option.some.inj (hx233_5.symm.trans hx234_5)
                       injection ea_ with ea_ en_ ec_
                       subst ea_
                       subst ec_
                       clear en_
                       have ea_:=Option.some.inj (hx233_6.symm.trans hx234_6)
                       injection ea_ with ea_ en_ ec_
                       subst ea_
                       subst ec_
                       clear en_
                       have p235:0 ≤ (x8_5:Int):=of_decide_eq_true (by first|(with_reducible assumption)|assumption)
                       have q235:x8_5 < (((rd_T51 t225 x6_3).f6).length:Int):=of_decide_eq_true (by first|(with_reducible assumption)|assumption)
                       obtain ⟨ad235,e235,hx235_0⟩:=Kd.at_string (by repeat (first|(with_reducible exact HR234_6.out)|(with_reducible first|apply Kd.C_alloc|apply Kd.C_drewN|apply Kd.C_drew)|exact HR234_6.out)) x8_5 p235 q235
                       cases e235
                       replace p235:=eq_true p235
                       replace q235:=eq_true q235
                       go_wp2
                       repeat (go_quiet (fail);try go_wp2)
                       go_roundg k5
                       case measure=>have:=HJ1.out;have:=HK2.out;have:=HK3.out;have:=HK4.out;have:=HK5.out;omega
                       case rel=>exact ⟨(wrap64 (x3_5 + ((rdOf ByteArray.empty ((rd_T51 t225 x6_3).f6) x8_5).size:Int))),(wrap64 (x8_5 + 1)),(by first|rfl|(simp;done)|(simp [*];done)),(by first|rfl|(simp;done)|(simp [*];done)),H',⟨by have:=HJ1.out;have:=HK2.out;have:=HK3.out;have:=HK4.out;have:=HK5.out;omega⟩,⟨by (with_reducible repeat (first|apply Kd.N_alloc|apply Kd.N_drewN|apply Kd.N_drew));exact HO_5.out⟩,⟨by (with_reducible repeat first|apply qqa|apply qqb|apply qqc);exact BK223.out⟩,⟨by repeat (first|(with_reducible exact HR228_4.out)|(with_reducible first|apply Kd.C_alloc|apply Kd.C_drewN|apply Kd.C_drew)|exact HR228_4.out)⟩,⟨by repeat (first|(with_reducible exact HR228_5.out)|(with_reducible first|apply Kd.C_alloc|apply Kd.C_drewN|apply Kd.C_drew)|exact HR228_5.out)⟩,⟨by repeat (first|(with_reducible exact HR228_6.out)|(with_reducible first|apply Kd.C_alloc|apply Kd.C_drewN|apply Kd.C_drew)|exact HR228_6.out)⟩,⟨by repeat (first|(with_reducible exact HR230_4.out)|(with_reducible first|apply Kd.C_alloc|apply Kd.C_drewN|apply Kd.C_drew)|exact HR230_4.out)⟩,⟨by repeat (first|(with_reducible exact HR230_5.out)|(with_reducible first|apply Kd.C_alloc|apply Kd.C_drewN|apply Kd.C_drew)|exact HR230_5.out)⟩,⟨by repeat (first|(with_reducible exact HR230_6.out)|(with_reducible first|apply Kd.C_alloc|apply Kd.C_drewN|apply Kd.C_drew)|exact HR230_6.out)⟩,⟨by with_reducible repeat first|exact HB.out|apply qqf|apply qqd|apply qqe|refine qqg ?_ GE223.out⟩⟩
                      ·
                       rw [if_neg c34] at H
                       exact absurd H (by simp)
                     ·
                      rw [if_neg c33] at H
                      have c33b0:decide (x8_5 < (((rd_T51 t225 x6_3).f6).length:Int)) = false:=decide_eq_false c33
                      clear c33
                      by_cases c35:(wrap64 ((wrap64 (x3_5 + (((rd_T51 t225 x6_3).f0).size:Int))) + (((rd_T51 t225 x6_3).f5).length:Int))) > 70000
                      ·
                       rw [if_pos c35] at H
                       have c35b0:decide (70000 < (wrap64 ((wrap64 (x3_5 + (((rd_T51 t225 x6_3).f0).size:Int))) + (((rd_T51 t225 x6_3).f5).length:Int)))) = true:=decide_eq_true c35
                       clear c35
                       obtain rfl:=Option.some.inj H
                       have p233:0 ≤ (x6_3:Int):=of_decide_eq_true (by first|(with_reducible assumption)|assumption)
                       have q233:x6_3 < (t225.length:Int):=of_decide_eq_true (by first|(with_reducible assumption)|assumption)
                       obtain ⟨ad233,A233_4,c233_4,A233_5,c233_5,A233_6,c233_6,e233,hx233_0,hx233_1,hx233_2,hx233_3,hx233_4,hx233_5,hx233_6,hl233_4,hi233_4,hl233_5,hi233_5,hl233_6,hi233_6⟩:=at_T51 (Kd.N_reads' HO_5.out).2.2 x6_3 p233 q233
                       obtain rfl:ad228 = ad233:=(by injection e233)
                       obtain ⟨ce233,hce233,hMe233,hcc233⟩:=Kd.N_get HO_5.out z51 x6_3 p233 (by first|exact q233|exact of_decide_eq_true (by first|(with_reducible assumption)|assumption)|(have e_:=(Kd.N_reads' HO_5.out).1;omega))
                       obtain ⟨ua233_4,uc233_4,ua233_5,uc233_5,ua233_6,uc233_6,rfl,ul233_4,ge233_4,ul233_5,ge233_5,ul233_6,ge233_6⟩:=k51_openF hMe233
                       have hv233_4:=hcc233 4 _ rfl
                       rw [add_field _ _ 4 (by omega)] at hv233_4
                       replace hv233_4:=Option.some.inj (hv233_4.symm.trans hx233_4)
                       injection hv233_4 with hva_ hvn_ hvc_
                       rw [hva_] at ge233_4
                       rw [hvc_] at ul233_4
                       have HL233_4:=qqm (show Kd.V Kd.string 9 _ w.heap.size _ _ ((rd_T51 t225 x6_3).f4) from Kd.V_mk ul233_4 ge233_4)
                       clear hva_ hvn_ hvc_ ge233_4 ul233_4
                       have hv233_5:=hcc233 5 _ rfl
                       rw [add_field _ _ 5 (by omega)] at hv233_5
                       replace hv233_5:=Option.some.inj (hv233_5.symm.trans hx233_5)
                       injection hv233_5 with hva_ hvn_ hvc_
                       rw [hva_] at ge233_5
                       rw [hvc_] at ul233_5
                       have HL233_5:=qqm (show Kd.V (Kd.int .u32) 40 _ w.heap.size _ _ ((rd_T51 t225 x6_3).f5) from Kd.V_mk ul233_5 ge233_5)
                       clear hva_ hvn_ hvc_ ge233_5 ul233_5
                       have hv233_6:=hcc233 6 _ rfl
                       rw [add_field _ _ 6 (by omega)] at hv233_6
                       replace hv233_6:=Option.some.inj (hv233_6.symm.trans hx233_6)
                       injection hv233_6 with hva_ hvn_ hvc_
                       rw [hva_] at ge233_6
                       rw [hvc_] at ul233_6
                       have HL233_6:=qqm (show Kd.V Kd.string 9 _ w.heap.size _ _ ((rd_T51 t225 x6_3).f6) from Kd.V_mk ul233_6 ge233_6)
                       clear hva_ hvn_ hvc_ ge233_6 ul233_6
                       clear hcc233 hce233
                       have HR233_4:=qqm hi233_4
                       have HC233_4:=qqm hl233_4
                       clear hi233_4 hl233_4
                       have HR233_5:=qqm hi233_5
                       have HC233_5:=qqm hl233_5
                       clear hi233_5 hl233_5
                       have HR233_6:=qqm hi233_6
                       have HC233_6:=qqm hl233_6
                       clear hi233_6 hl233_6
                       replace p233:=eq_true p233
                       replace q233:=eq_true q233
                       have p236:0 ≤ (x6_3:Int):=of_decide_eq_true (by first|(with_reducible assumption)|assumption)
                       have q236:x6_3 < (t225.length:Int):=of_decide_eq_true (by first|(with_reducible assumption)|assumption)
                       obtain ⟨ad236,A236_4,c236_4,A236_5,c236_5,A236_6,c236_6,e236,hx236_0,hx236_1,hx236_2,hx236_3,hx236_4,hx236_5,hx236_6,hl236_4,hi236_4,hl236_5,hi236_5,hl236_6,hi236_6⟩:=at_T51 (Kd.N_reads' HO_5.out).2.2 x6_3 p236 q236
                       obtain rfl:ad228 = ad236:=(by injection e236)
                       obtain ⟨ce236,hce236,hMe236,hcc236⟩:=Kd.N_get HO_5.out z51 x6_3 p236 (by first|exact q236|exact of_decide_eq_true (by first|(with_reducible assumption)|assumption)|(have e_:=(Kd.N_reads' HO_5.out).1;omega))
                       obtain ⟨ua236_4,uc236_4,ua236_5,uc236_5,ua236_6,uc236_6,rfl,ul236_4,ge236_4,ul236_5,ge236_5,ul236_6,ge236_6⟩:=k51_openF hMe236
                       have hv236_4:=hcc236 4 _ rfl
                       rw [add_field _ _ 4 (by omega)] at hv236_4
                       replace hv236_4:=Option.some.inj (hv236_4.symm.trans hx236_4)
                       injection hv236_4 with hva_ hvn_ hvc_
                       rw [hva_] at ge236_4
                       rw [hvc_] at ul236_4
                       have HL236_4:=qqm (show Kd.V Kd.string 9 _ w.heap.size _ _ ((rd_T51 t225 x6_3).f4) from Kd.V_mk ul236_4 ge236_4)
                       clear hva_ hvn_ hvc_ ge236_4 ul236_4
                       have hv236_5:=hcc236 5 _ rfl
                       rw [add_field _ _ 5 (by omega)] at hv236_5
                       replace hv236_5:=Option.some.inj (hv236_5.symm.trans hx236_5)
                       injection hv236_5 with hva_ hvn_ hvc_
                       rw [hva_] at ge236_5
                       rw [hvc_] at ul236_5
                       have HL236_5:=qqm (show Kd.V (Kd.int .u32) 40 _ w.heap.size _ _ ((rd_T51 t225 x6_3).f5) from Kd.V_mk ul236_5 ge236_5)
                       clear hva_ hvn_ hvc_ ge236_5 ul236_5
                       have hv236_6:=hcc236 6 _ rfl
                       rw [add_field _ _ 6 (by omega)] at hv236_6
                       replace hv236_6:=Option.some.inj (hv236_6.symm.trans hx236_6)
                       injection hv236_6 with hva_ hvn_ hvc_
                       rw [hva_] at ge236_6
                       rw [hvc_] at ul236_6
                       have HL236_6:=qqm (show Kd.V Kd.string 9 _ w.heap.size _ _ ((rd_T51 t225 x6_3).f6) from Kd.V_mk ul236_6 ge236_6)
                       clear hva_ hvn_ hvc_ ge236_6 ul236_6
                       clear hcc236 hce236
                       have HR236_4:=qqm hi236_4
                       have HC236_4:=qqm hl236_4
                       clear hi236_4 hl236_4
                       have HR236_5:=qqm hi236_5
                       have HC236_5:=qqm hl236_5
                       clear hi236_5 hl236_5
                       have HR236_6:=qqm hi236_6
                       have HC236_6:=qqm hl236_6
                       clear hi236_6 hl236_6
                       replace p236:=eq_true p236
                       replace q236:=eq_true q236
                       have ea_:=Option.some.inj (hx233_4.symm.trans hx236_4)
                       injection ea_ with ea_ en_ ec_
                       subst ea_
                       subst ec_
                       clear en_
                       have ea_:=Option.some.inj (hx233_5.symm.trans hx236_5)
                       injection ea_ with ea_ en_ ec_
                       subst ea_
                       subst ec_
                       clear en_
                       have ea_:=Option.some.inj (hx233_6.symm.trans hx236_6)
                       injection ea_ with ea_ en_ ec_
                       subst ea_
                       subst ec_
                       clear en_
                       have p237:0 ≤ (x6_3:Int):=of_decide_eq_true (by first|(with_reducible assumption)|assumption)
                       have q237:x6_3 < (t225.length:Int):=of_decide_eq_true (by first|(with_reducible assumption)|assumption)
                       obtain ⟨ad237,A237_4,c237_4,A237_5,c237_5,A237_6,c237_6,e237,hx237_0,hx237_1,hx237_2,hx237_3,hx237_4,hx237_5,hx237_6,hl237_4,hi237_4,hl237_5,hi237_5,hl237_6,hi237_6⟩:=at_T51 (Kd.N_reads' HO_5.out).2.2 x6_3 p237 q237
                       obtain rfl:ad228 = ad237:=(by injection e237)
                       obtain ⟨ce237,hce237,hMe237,hcc237⟩:=Kd.N_get HO_5.out z51 x6_3 p237 (by first|exact q237|exact of_decide_eq_true (by first|(with_reducible assumption)|assumption)|(have e_:=(Kd.N_reads' HO_5.out).1;omega))
                       obtain ⟨ua237_4,uc237_4,ua237_5,uc237_5,ua237_6,uc237_6,rfl,ul237_4,ge237_4,ul237_5,ge237_5,ul237_6,ge237_6⟩:=k51_openF hMe237
                       have hv237_4:=hcc237 4 _ rfl
                       rw [add_field _ _ 4 (by omega)] at hv237_4
                       replace hv237_4:=Option.some.inj (hv237_4.symm.trans hx237_4)
                       injection hv237_4 with hva_ hvn_ hvc_
                       rw [hva_] at ge237_4
                       rw [hvc_] at ul237_4
                       have HL237_4:=qqm (show Kd.V Kd.string 9 _ w.heap.size _ _ ((rd_T51 t225 x6_3).f4) from Kd.V_mk ul237_4 ge237_4)
                       clear hva_ hvn_ hvc_ ge237_4 ul237_4
                       have hv237_5:=hcc237 5 _ rfl
                       rw [add_field _ _ 5 (by omega)] at hv237_5
                       replace hv237_5:=Option.some.inj (hv237_5.symm.trans hx237_5)
                       injection hv237_5 with hva_ hvn_ hvc_
                       rw [hva_] at ge237_5
                       rw [hvc_] at ul237_5
                       have HL237_5:=qqm (show Kd.V (Kd.int .u32) 40 _ w.heap.size _ _ ((rd_T51 t225 x6_3).f5) from Kd.V_mk ul237_5 ge237_5)
                       clear hva_ hvn_ hvc_ ge237_5 ul237_5
                       have hv237_6:=hcc237 6 _ rfl
                       rw [add_field _ _ 6 (by omega)] at hv237_6
                       replace hv237_6:=Option.some.inj (hv237_6.symm.trans hx237_6)
                       injection hv237_6 with hva_ hvn_ hvc_
                       rw [hva_] at ge237_6
                       rw [hvc_] at ul237_6
                       have HL237_6:=qqm (show Kd.V Kd.string 9 _ w.heap.size _ _ ((rd_T51 t225 x6_3).f6) from Kd.V_mk ul237_6 ge237_6)
                       clear hva_ hvn_ hvc_ ge237_6 ul237_6
                       clear hcc237 hce237
                       have HR237_4:=qqm hi237_4
                       have HC237_4:=qqm hl237_4
                       clear hi237_4 hl237_4
                       have HR237_5:=qqm hi237_5
                       have HC237_5:=qqm hl237_5
                       clear hi237_5 hl237_5
                       have HR237_6:=qqm hi237_6
                       have HC237_6:=qqm hl237_6
                       clear hi237_6 hl237_6
                       replace p237:=eq_true p237
                       replace q237:=eq_true q237
                       have ea_:=Option.some.inj (hx233_4.symm.trans hx237_4)
                       injection ea_ with ea_ en_ ec_
                       subst ea_
                       subst ec_
                       clear en_
                       have ea_:=Option.some.inj (hx233_5.symm.trans hx237_5)
                       injection ea_ with ea_ en_ ec_
                       subst ea_
                       subst ec_
                       clear en_
                       have ea_:=Option.some.inj (hx233_6.symm.trans hx237_6)
                       injection ea_ with ea_ en_ ec_
                       subst ea_
                       subst ec_
                       clear en_
                       go_wp2
                       repeat (go_quiet (fail);try go_wp2)
                       go_ret
                       exact ⟨by first|rfl|(simp [errW_none,errW_some] <;> rfl)|(simp [*,errW_none,errW_some] <;> rfl),by with_reducible repeat first|exact HB.out|apply qqf|apply qqd|apply qqe|refine qqg ?_ GE223.out⟩
                      ·
                       rw [if_neg c35] at H
                       have c35b0:decide (70000 < (wrap64 ((wrap64 (x3_5 + (((rd_T51 t225 x6_3).f0).size:Int))) + (((rd_T51 t225 x6_3).f5).length:Int)))) = false:=decide_eq_false c35
                       clear c35
                       have H':=qqm H
                       clear H
                       have p233:0 ≤ (x6_3:Int):=of_decide_eq_true (by first|(with_reducible assumption)|assumption)
                       have q233:x6_3 < (t225.length:Int):=of_decide_eq_true (by first|(with_reducible assumption)|assumption)
                       obtain ⟨ad233,A233_4,c233_4,A233_5,c233_5,A233_6,c233_6,e233,hx233_0,hx233_1,hx233_2,hx233_3,hx233_4,hx233_5,hx233_6,hl233_4,hi233_4,hl233_5,hi233_5,hl233_6,hi233_6⟩:=at_T51 (Kd.N_reads' HO_5.out).2.2 x6_3 p233 q233
                       obtain rfl:ad228 = ad233:=(by injection e233)
                       obtain ⟨ce233,hce233,hMe233,hcc233⟩:=Kd.N_get HO_5.out z51 x6_3 p233 (by first|exact q233|exact of_decide_eq_true (by first|(with_reducible assumption)|assumption)|(have e_:=(Kd.N_reads' HO_5.out).1;omega))
                       obtain ⟨ua233_4,uc233_4,ua233_5,uc233_5,ua233_6,uc233_6,rfl,ul233_4,ge233_4,ul233_5,ge233_5,ul233_6,ge233_6⟩:=k51_openF hMe233
                       have hv233_4:=hcc233 4 _ rfl
                       rw [add_field _ _ 4 (by omega)] at hv233_4
                       replace hv233_4:=Option.some.inj (hv233_4.symm.trans hx233_4)
                       injection hv233_4 with hva_ hvn_ hvc_
                       rw [hva_] at ge233_4
                       rw [hvc_] at ul233_4
                       have HL233_4:=qqm (show Kd.V Kd.string 9 _ w.heap.size _ _ ((rd_T51 t225 x6_3).f4) from Kd.V_mk ul233_4 ge233_4)
                       clear hva_ hvn_ hvc_ ge233_4 ul233_4
                       have hv233_5:=hcc233 5 _ rfl
                       rw [add_field _ _ 5 (by omega)] at hv233_5
                       replace hv233_5:=Option.some.inj (hv233_5.symm.trans hx233_5)
                       injection hv233_5 with hva_ hvn_ hvc_
                       rw [hva_] at ge233_5
                       rw [hvc_] at ul233_5
                       have HL233_5:=qqm (show Kd.V (Kd.int .u32) 40 _ w.heap.size _ _ ((rd_T51 t225 x6_3).f5) from Kd.V_mk ul233_5 ge233_5)
                       clear hva_ hvn_ hvc_ ge233_5 ul233_5
                       have hv233_6:=hcc233 6 _ rfl
                       rw [add_field _ _ 6 (by omega)] at hv233_6
                       replace hv233_6:=Option.some.inj (hv233_6.symm.trans hx233_6)
                       injection hv233_6 with hva_ hvn_ hvc_
                       rw [hva_] at ge233_6
                       rw [hvc_] at ul233_6
                       have HL233_6:=qqm (show Kd.V Kd.string 9 _ w.heap.size _ _ ((rd_T51 t225 x6_3).f6) from Kd.V_mk ul233_6 ge233_6)
                       clear hva_ hvn_ hvc_ ge233_6 ul233_6
                       clear hcc233 hce233
                       have HR233_4:=qqm hi233_4
                       have HC233_4:=qqm hl233_4
                       clear hi233_4 hl233_4
                       have HR233_5:=qqm hi233_5
                       have HC233_5:=qqm hl233_5
                       clear hi233_5 hl233_5
                       have HR233_6:=qqm hi233_6
                       have HC233_6:=qqm hl233_6
                       clear hi233_6 hl233_6
                       replace p233:=eq_true p233
                       replace q233:=eq_true q233
                       have p236:0 ≤ (x6_3:Int):=of_decide_eq_true (by first|(with_reducible assumption)|assumption)
                       have q236:x6_3 < (t225.length:Int):=of_decide_eq_true (by first|(with_reducible assumption)|assumption)
                       obtain ⟨ad236,A236_4,c236_4,A236_5,c236_5,A236_6,c236_6,e236,hx236_0,hx236_1,hx236_2,hx236_3,hx236_4,hx236_5,hx236_6,hl236_4,hi236_4,hl236_5,hi236_5,hl236_6,hi236_6⟩:=at_T51 (Kd.N_reads' HO_5.out).2.2 x6_3 p236 q236
                       obtain rfl:ad228 = ad236:=(by injection e236)
                       obtain ⟨ce236,hce236,hMe236,hcc236⟩:=Kd.N_get HO_5.out z51 x6_3 p236 (by first|exact q236|exact of_decide_eq_true (by first|(with_reducible assumption)|assumption)|(have e_:=(Kd.N_reads' HO_5.out).1;omega))
                       obtain ⟨ua236_4,uc236_4,ua236_5,uc236_5,ua236_6,uc236_6,rfl,ul236_4,ge236_4,ul236_5,ge236_5,ul236_6,ge236_6⟩:=k51_openF hMe236
                       have hv236_4:=hcc236 4 _ rfl
                       rw [add_field _ _ 4 (by omega)] at hv236_4
                       replace hv236_4:=Option.some.inj (hv236_4.symm.trans hx236_4)
                       injection hv236_4 with hva_ hvn_ hvc_
                       rw [hva_] at ge236_4
                       rw [hvc_] at ul236_4
                       have HL236_4:=qqm (show Kd.V Kd.string 9 _ w.heap.size _ _ ((rd_T51 t225 x6_3).f4) from Kd.V_mk ul236_4 ge236_4)
                       clear hva_ hvn_ hvc_ ge236_4 ul236_4
                       have hv236_5:=hcc236 5 _ rfl
                       rw [add_field _ _ 5 (by omega)] at hv236_5
                       replace hv236_5:=Option.some.inj (hv236_5.symm.trans hx236_5)
                       injection hv236_5 with hva_ hvn_ hvc_
                       rw [hva_] at ge236_5
                       rw [hvc_] at ul236_5
                       have HL236_5:=qqm (show Kd.V (Kd.int .u32) 40 _ w.heap.size _ _ ((rd_T51 t225 x6_3).f5) from Kd.V_mk ul236_5 ge236_5)
                       clear hva_ hvn_ hvc_ ge236_5 ul236_5
                       have hv236_6:=hcc236 6 _ rfl
                       rw [add_field _ _ 6 (by omega)] at hv236_6
                       replace hv236_6:=Option.some.inj (hv236_6.symm.trans hx236_6)
                       injection hv236_6 with hva_ hvn_ hvc_
                       rw [hva_] at ge236_6
                       rw [hvc_] at ul236_6
                       have HL236_6:=qqm (show Kd.V Kd.string 9 _ w.heap.size _ _ ((rd_T51 t225 x6_3).f6) from Kd.V_mk ul236_6 ge236_6)
                       clear hva_ hvn_ hvc_ ge236_6 ul236_6
                       clear hcc236 hce236
                       have HR236_4:=qqm hi236_4
                       have HC236_4:=qqm hl236_4
                       clear hi236_4 hl236_4
                       have HR236_5:=qqm hi236_5
                       have HC236_5:=qqm hl236_5
                       clear hi236_5 hl236_5
                       have HR236_6:=qqm hi236_6
                       have HC236_6:=qqm hl236_6
                       clear hi236_6 hl236_6
                       replace p236:=eq_true p236
                       replace q236:=eq_true q236
                       have ea_:=Option.some.inj (hx233_4.symm.trans hx236_4)
                       injection ea_ with ea_ en_ ec_
                       subst ea_
                       subst ec_
                       clear en_
                       have ea_:=Option.some.inj (hx233_5.symm.trans hx236_5)
                       injection ea_ with ea_ en_ ec_
                       subst ea_
                       subst ec_
                       clear en_
                       have ea_:=Option.some.inj (hx233_6.symm.trans hx236_6)
                       injection ea_ with ea_ en_ ec_
                       subst ea_
                       subst ec_
                       clear en_
                       have p237:0 ≤ (x6_3:Int):=of_decide_eq_true (by first|(with_reducible assumption)|assumption)
                       have q237:x6_3 < (t225.length:Int):=of_decide_eq_true (by first|(with_reducible assumption)|assumption)
                       obtain ⟨ad237,A237_4,c237_4,A237_5,c237_5,A237_6,c237_6,e237,hx237_0,hx237_1,hx237_2,hx237_3,hx237_4,hx237_5,hx237_6,hl237_4,hi237_4,hl237_5,hi237_5,hl237_6,hi237_6⟩:=at_T51 (Kd.N_reads' HO_5.out).2.2 x6_3 p237 q237
                       obtain rfl:ad228 = ad237:=(by injection e237)
                       obtain ⟨ce237,hce237,hMe237,hcc237⟩:=Kd.N_get HO_5.out z51 x6_3 p237 (by first|exact q237|exact of_decide_eq_true (by first|(with_reducible assumption)|assumption)|(have e_:=(Kd.N_reads' HO_5.out).1;omega))
                       obtain ⟨ua237_4,uc237_4,ua237_5,uc237_5,ua237_6,uc237_6,rfl,ul237_4,ge237_4,ul237_5,ge237_5,ul237_6,ge237_6⟩:=k51_openF hMe237
                       have hv237_4:=hcc237 4 _ rfl
                       rw [add_field _ _ 4 (by omega)] at hv237_4
                       replace hv237_4:=Option.some.inj (hv237_4.symm.trans hx237_4)
                       injection hv237_4 with hva_ hvn_ hvc_
                       rw [hva_] at ge237_4
                       rw [hvc_] at ul237_4
                       have HL237_4:=qqm (show Kd.V Kd.string 9 _ w.heap.size _ _ ((rd_T51 t225 x6_3).f4) from Kd.V_mk ul237_4 ge237_4)
                       clear hva_ hvn_ hvc_ ge237_4 ul237_4
                       have hv237_5:=hcc237 5 _ rfl
                       rw [add_field _ _ 5 (by omega)] at hv237_5
                       replace hv237_5:=Option.some.inj (hv237_5.symm.trans hx237_5)
                       injection hv237_5 with hva_ hvn_ hvc_
                       rw [hva_] at ge237_5
                       rw [hvc_] at ul237_5
                       have HL237_5:=qqm (show Kd.V (Kd.int .u32) 40 _ w.heap.size _ _ ((rd_T51 t225 x6_3).f5) from Kd.V_mk ul237_5 ge237_5)
                       clear hva_ hvn_ hvc_ ge237_5 ul237_5
                       have hv237_6:=hcc237 6 _ rfl
                       rw [add_field _ _ 6 (by omega)] at hv237_6
                       replace hv237_6:=Option.some.inj (hv237_6.symm.trans hx237_6)
                       injection hv237_6 with hva_ hvn_ hvc_
                       rw [hva_] at ge237_6
                       rw [hvc_] at ul237_6
                       have HL237_6:=qqm (show Kd.V Kd.string 9 _ w.heap.size _ _ ((rd_T51 t225 x6_3).f6) from Kd.V_mk ul237_6 ge237_6)
                       clear hva_ hvn_ hvc_ ge237_6 ul237_6
                       clear hcc237 hce237
                       have HR237_4:=qqm hi237_4
                       have HC237_4:=qqm hl237_4
                       clear hi237_4 hl237_4
                       have HR237_5:=qqm hi237_5
                       have HC237_5:=qqm hl237_5
                       clear hi237_5 hl237_5
                       have HR237_6:=qqm hi237_6
                       have HC237_6:=qqm hl237_6
                       clear hi237_6 hl237_6
                       replace p237:=eq_true p237
                       replace q237:=eq_true q237
                       have ea_:=Option.some.inj (hx233_4.symm.trans hx237_4)
                       injection ea_ with ea_ en_ ec_
                       subst ea_
                       subst ec_
                       clear en_
                       have ea_:=Option.some.inj (hx233_5.symm.trans hx237_5)
                       injection ea_ with ea_ en_ ec_
                       subst ea_
                       subst ec_
                       clear en_
                       have ea_:=Option.some.inj (hx233_6.symm.trans hx237_6)
                       injection ea_ with ea_ en_ ec_
                       subst ea_
                       subst ec_
                       clear en_
                       go_wp2
                       repeat (go_quiet (fail);try go_wp2)
                       go_roundg k5
                       case measure=>have:=HJ1.out;have:=HK2.out;have:=HK3.out;have:=HK4.out;have:=HK5.out;omega
                       case rel=>exact ⟨(wrap64 ((wrap64 (x3_5 + (((rd_T51 t225 x6_3).f0).size:Int))) + (((rd_T51 t225 x6_3).f5).length:Int))),(wrap64 (x6_3 + 1)),(by first|rfl|(simp;done)|(simp [*];done)),(by first|rfl|(simp;done)|(simp [*];done)),H',⟨by have:=HJ1.out;have:=HK2.out;have:=HK3.out;have:=HK4.out;have:=HK5.out;omega⟩,⟨by (with_reducible repeat (first|apply Kd.N_alloc|apply Kd.N_drewN|apply Kd.N_drew));exact HO_5.out⟩,⟨by (with_reducible repeat first|apply qqa|apply qqb|apply qqc);exact BK223.out⟩,⟨by with_reducible repeat first|exact HB.out|apply qqf|apply qqd|apply qqe|refine qqg ?_ GE223.out⟩⟩
                    ·
                     rw [if_neg c32] at H
                     exact absurd H (by simp)
                   ·
                    rw [if_neg c31] at H
                    exact absurd H (by simp)
               ·
                rw [if_neg c28] at H
                exact absurd H (by simp)
              ·
               rw [if_neg c27] at H
               exact absurd H (by simp)
           ·
            replace c24:=Bool.eq_false_iff.mpr c24
            subst c24
            have H1:(some false) = some r:=by rw [if_neg (show ¬ (false = true) by decide)] at H;exact H
            clear H
            have H:=H1
            clear H1
            obtain rfl:=Option.some.inj H
            obtain ⟨Ao36,co36,eo36⟩:=Kd.N_slice HO_5.out
            subst eo36
            have p228:0 ≤ (x6_3:Int):=of_decide_eq_true (by first|(with_reducible assumption)|assumption)
            have q228:x6_3 < (t225.length:Int):=of_decide_eq_true (by first|(with_reducible assumption)|assumption)
            obtain ⟨ad228,A228_4,c228_4,A228_5,c228_5,A228_6,c228_6,e228,hx228_0,hx228_1,hx228_2,hx228_3,hx228_4,hx228_5,hx228_6,hl228_4,hi228_4,hl228_5,hi228_5,hl228_6,hi228_6⟩:=at_T51 (Kd.N_reads' HO_5.out).2.2 x6_3 p228 q228
            cases e228
            obtain ⟨ce228,hce228,hMe228,hcc228⟩:=Kd.N_get HO_5.out z51 x6_3 p228 (by first|exact q228|exact of_decide_eq_true (by first|(with_reducible assumption)|assumption)|(have e_:=(Kd.N_reads' HO_5.out).1;omega))
            obtain ⟨ua228_4,uc228_4,ua228_5,uc228_5,ua228_6,uc228_6,rfl,ul228_4,ge228_4,ul228_5,ge228_5,ul228_6,ge228_6⟩:=k51_openF hMe228
            have hv228_4:=hcc228 4 _ rfl
            rw [add_field _ _ 4 (by omega)] at hv228_4
            replace hv228_4:=Option.some.inj (hv228_4.symm.trans hx228_4)
            injection hv228_4 with hva_ hvn_ hvc_
            rw [hva_] at ge228_4
            rw [hvc_] at ul228_4
            have HL228_4:=qqm (show Kd.V Kd.string 9 _ w.heap.size _ _ ((rd_T51 t225 x6_3).f4) from Kd.V_mk ul228_4 ge228_4)
            clear hva_ hvn_ hvc_ ge228_4 ul228_4
            have hv228_5:=hcc228 5 _ rfl
            rw [add_field _ _ 5 (by omega)] at hv228_5
            replace hv228_5:=Option.some.inj (hv228_5.symm.trans hx228_5)
            injection hv228_5 with hva_ hvn_ hvc_
            rw [hva_] at ge228_5
            rw [hvc_] at ul228_5
            have HL228_5:=qqm (show Kd.V (Kd.int .u32) 40 _ w.heap.size _ _ ((rd_T51 t225 x6_3).f5) from Kd.V_mk ul228_5 ge228_5)
            clear hva_ hvn_ hvc_ ge228_5 ul228_5
            have hv228_6:=hcc228 6 _ rfl
            rw [add_field _ _ 6 (by omega)] at hv228_6
            replace hv228_6:=Option.some.inj (hv228_6.symm.trans hx228_6)
            injection hv228_6 with hva_ hvn_ hvc_
            rw [hva_] at ge228_6
            rw [hvc_] at ul228_6
            have HL228_6:=qqm (show Kd.V Kd.string 9 _ w.heap.size _ _ ((rd_T51 t225 x6_3).f6) from Kd.V_mk ul228_6 ge228_6)
            clear hva_ hvn_ hvc_ ge228_6 ul228_6
            clear hcc228 hce228
            have HR228_4:=qqm hi228_4
            have HC228_4:=qqm hl228_4
            clear hi228_4 hl228_4
            have HR228_5:=qqm hi228_5
            have HC228_5:=qqm hl228_5
            clear hi228_5 hl228_5
            have HR228_6:=qqm hi228_6
            have HC228_6:=qqm hl228_6
            clear hi228_6 hl228_6
            replace p228:=eq_true p228
            replace q228:=eq_true q228
            go_wp2_with (first|(go_at_call 32;(with_reducible refine (nunciolaw05_Few.calls k3 ((rd_T51 t225 x6_3).f0) ((rd_T51 t225 x6_3).f1) ((rd_T51 t225 x6_3).f2) ((rd_T51 t225 x6_3).f3) _ _ ((rd_T51 t225 x6_3).f4) _ _ ((rd_T51 t225 x6_3).f5) _ _ ((rd_T51 t225 x6_3).f6) false _ ?side1 ?side2 ?side3 ?side4 ?side5 ?side6 A23.out).mono ?_);(case side1=>repeat (first|exact (by repeat (first|(with_reducible exact HR228_4.out)|(with_reducible first|apply Kd.C_alloc|apply Kd.C_drewN|apply Kd.C_drew)|exact HR228_4.out))|(with_reducible first|apply Kd.C_alloc|apply Kd.C_drewN|apply Kd.C_drew)));(case side2=>exact HC228_4.out);(case side3=>repeat (first|exact (by repeat (first|(with_reducible exact HR228_5.out)|(with_reducible first|apply Kd.C_alloc|apply Kd.C_drewN|apply Kd.C_drew)|exact HR228_5.out))|(with_reducible first|apply Kd.C_alloc|apply Kd.C_drewN|apply Kd.C_drew)));(case side4=>exact HC228_5.out);(case side5=>repeat (first|exact (by repeat (first|(with_reducible exact HR228_6.out)|(with_reducible first|apply Kd.C_alloc|apply Kd.C_drewN|apply Kd.C_drew)|exact HR228_6.out))|(with_reducible first|apply Kd.C_alloc|apply Kd.C_drewN|apply Kd.C_drew)));(case side6=>exact HC228_6.out);rintro e w37 ⟨rfl,hb⟩;have n0_:=qqm (Kd.N_below (by (with_reducible repeat (first|apply Kd.N_alloc|apply Kd.N_drewN|apply Kd.N_drew));exact HO_5.out) hb);have n1_:=qqm (Kd.V_below (by (with_reducible repeat (first|apply Kd.V_alloc|apply Kd.V_drewN|apply Kd.V_drew));exact HL228_4.out) hb);have n2_:=qqm (Kd.V_below (by (with_reducible repeat (first|apply Kd.V_alloc|apply Kd.V_drewN|apply Kd.V_drew));exact HL228_5.out) hb);have n3_:=qqm (Kd.V_below (by (with_reducible repeat (first|apply Kd.V_alloc|apply Kd.V_drewN|apply Kd.V_drew));exact HL228_6.out) hb);have n4_:=qqm (blk_below (g:=gb223) (o:=.cells #[.int .u16 a0_0,.int .u16 a0_1,.slice A0_2 l0_2.length c0_2,.slice A0_3 l0_3.length c0_3,.slice A0_4 l0_4.length c0_4,.slice A0_5 l0_5.length c0_5] 26 (0,0)) (by (with_reducible repeat first|apply qqa|apply qqb|apply qqc);exact BK223.out) hb);have n5_:=qqm (Kd.C_below (by repeat (first|(with_reducible exact HR228_4.out)|(with_reducible first|apply Kd.C_alloc|apply Kd.C_drewN|apply Kd.C_drew)|exact HR228_4.out)) hb);have n6_:=qqm (Kd.C_below (by repeat (first|(with_reducible exact HR228_5.out)|(with_reducible first|apply Kd.C_alloc|apply Kd.C_drewN|apply Kd.C_drew)|exact HR228_5.out)) hb);have n7_:=qqm (Kd.C_below (by repeat (first|(with_reducible exact HR228_6.out)|(with_reducible first|apply Kd.C_alloc|apply Kd.C_drewN|apply Kd.C_drew)|exact HR228_6.out)) hb);have n8_:=qqm (below_step (by with_reducible repeat first|exact HB.out|apply qqf|apply qqd|apply qqe|refine qqg ?_ GE223.out) hb);clear HO_5 HL228_4 HL228_5 HL228_6 BK223 HR228_4 HR228_5 HR228_6 HB;have HO_5:=n0_;have HL228_4:=n1_;have HL228_5:=n2_;have HL228_6:=n3_;have BK223:=n4_;have HR228_4:=n5_;have HR228_5:=n6_;have HR228_6:=n7_;have HB:=n8_;clear n0_ n1_ n2_ n3_ n4_ n5_ n6_ n7_ n8_;(try clear hb);(try clear hb2);(try clear hk);(try clear hi)))
            repeat (go_quiet (first|(go_at_call 32;(with_reducible refine (nunciolaw05_Few.calls k3 ((rd_T51 t225 x6_3).f0) ((rd_T51 t225 x6_3).f1) ((rd_T51 t225 x6_3).f2) ((rd_T51 t225 x6_3).f3) _ _ ((rd_T51 t225 x6_3).f4) _ _ ((rd_T51 t225 x6_3).f5) _ _ ((rd_T51 t225 x6_3).f6) false _ ?side1 ?side2 ?side3 ?side4 ?side5 ?side6 A23.out).mono ?_);(case side1=>repeat (first|exact (by repeat (first|(with_reducible exact HR228_4.out)|(with_reducible first|apply Kd.C_alloc|apply Kd.C_drewN|apply Kd.C_drew)|exact HR228_4.out))|(with_reducible first|apply Kd.C_alloc|apply Kd.C_drewN|apply Kd.C_drew)));(case side2=>exact HC228_4.out);(case side3=>repeat (first|exact (by repeat (first|(with_reducible exact HR228_5.out)|(with_reducible first|apply Kd.C_alloc|apply Kd.C_drewN|apply Kd.C_drew)|exact HR228_5.out))|(with_reducible first|apply Kd.C_alloc|apply Kd.C_drewN|apply Kd.C_drew)));(case side4=>exact HC228_5.out);(case side5=>repeat (first|exact (by repeat (first|(with_reducible exact HR228_6.out)|(with_reducible first|apply Kd.C_alloc|apply Kd.C_drewN|apply Kd.C_drew)|exact HR228_6.out))|(with_reducible first|apply Kd.C_alloc|apply Kd.C_drewN|apply Kd.C_drew)));(case side6=>exact HC228_6.out);rintro e w37 ⟨rfl,hb⟩;have n0_:=qqm (Kd.N_below (by (with_reducible repeat (first|apply Kd.N_alloc|apply Kd.N_drewN|apply Kd.N_drew));exact HO_5.out) hb);have n1_:=qqm (Kd.V_below (by (with_reducible repeat (first|apply Kd.V_alloc|apply Kd.V_drewN|apply Kd.V_drew));exact HL228_4.out) hb);have n2_:=qqm (Kd.V_below (by (with_reducible repeat (first|apply Kd.V_alloc|apply Kd.V_drewN|apply Kd.V_drew));exact HL228_5.out) hb);have n3_:=qqm (Kd.V_below (by (with_reducible repeat (first|apply Kd.V_alloc|apply Kd.V_drewN|apply Kd.V_drew));exact HL228_6.out) hb);have n4_:=qqm (blk_below (g:=gb223) (o:=.cells #[.int .u16 a0_0,.int .u16 a0_1,.slice A0_2 l0_2.length c0_2,.slice A0_3 l0_3.length c0_3,.slice A0_4 l0_4.length c0_4,.slice A0_5 l0_5.length c0_5] 26 (0,0)) (by (with_reducible repeat first|apply qqa|apply qqb|apply qqc);exact BK223.out) hb);have n5_:=qqm (Kd.C_below (by repeat (first|(with_reducible exact HR228_4.out)|(with_reducible first|apply Kd.C_alloc|apply Kd.C_drewN|apply Kd.C_drew)|exact HR228_4.out)) hb);have n6_:=qqm (Kd.C_below (by repeat (first|(with_reducible exact HR228_5.out)|(with_reducible first|apply Kd.C_alloc|apply Kd.C_drewN|apply Kd.C_drew)|exact HR228_5.out)) hb);have n7_:=qqm (Kd.C_below (by repeat (first|(with_reducible exact HR228_6.out)|(with_reducible first|apply Kd.C_alloc|apply Kd.C_drewN|apply Kd.C_drew)|exact HR228_6.out)) hb);have n8_:=qqm (below_step (by with_reducible repeat first|exact HB.out|apply qqf|apply qqd|apply qqe|refine qqg ?_ GE223.out) hb);clear HO_5 HL228_4 HL228_5 HL228_6 BK223 HR228_4 HR228_5 HR228_6 HB;have HO_5:=n0_;have HL228_4:=n1_;have HL228_5:=n2_;have HL228_6:=n3_;have BK223:=n4_;have HR228_4:=n5_;have HR228_5:=n6_;have HR228_6:=n7_;have HB:=n8_;clear n0_ n1_ n2_ n3_ n4_ n5_ n6_ n7_ n8_;(try clear hb);(try clear hb2);(try clear hk);(try clear hi)));try go_wp2_with (first|(go_at_call 32;(with_reducible refine (nunciolaw05_Few.calls k3 ((rd_T51 t225 x6_3).f0) ((rd_T51 t225 x6_3).f1) ((rd_T51 t225 x6_3).f2) ((rd_T51 t225 x6_3).f3) _ _ ((rd_T51 t225 x6_3).f4) _ _ ((rd_T51 t225 x6_3).f5) _ _ ((rd_T51 t225 x6_3).f6) false _ ?side1 ?side2 ?side3 ?side4 ?side5 ?side6 A23.out).mono ?_);(case side1=>repeat (first|exact (by repeat (first|(with_reducible exact HR228_4.out)|(with_reducible first|apply Kd.C_alloc|apply Kd.C_drewN|apply Kd.C_drew)|exact HR228_4.out))|(with_reducible first|apply Kd.C_alloc|apply Kd.C_drewN|apply Kd.C_drew)));(case side2=>exact HC228_4.out);(case side3=>repeat (first|exact (by repeat (first|(with_reducible exact HR228_5.out)|(with_reducible first|apply Kd.C_alloc|apply Kd.C_drewN|apply Kd.C_drew)|exact HR228_5.out))|(with_reducible first|apply Kd.C_alloc|apply Kd.C_drewN|apply Kd.C_drew)));(case side4=>exact HC228_5.out);(case side5=>repeat (first|exact (by repeat (first|(with_reducible exact HR228_6.out)|(with_reducible first|apply Kd.C_alloc|apply Kd.C_drewN|apply Kd.C_drew)|exact HR228_6.out))|(with_reducible first|apply Kd.C_alloc|apply Kd.C_drewN|apply Kd.C_drew)));(case side6=>exact HC228_6.out);rintro e w37 ⟨rfl,hb⟩;have n0_:=qqm (Kd.N_below (by (with_reducible repeat (first|apply Kd.N_alloc|apply Kd.N_drewN|apply Kd.N_drew));exact HO_5.out) hb);have n1_:=qqm (Kd.V_below (by (with_reducible repeat (first|apply Kd.V_alloc|apply Kd.V_drewN|apply Kd.V_drew));exact HL228_4.out) hb);have n2_:=qqm (Kd.V_below (by (with_reducible repeat (first|apply Kd.V_alloc|apply Kd.V_drewN|apply Kd.V_drew));exact HL228_5.out) hb);have n3_:=qqm (Kd.V_below (by (with_reducible repeat (first|apply Kd.V_alloc|apply Kd.V_drewN|apply Kd.V_drew));exact HL228_6.out) hb);have n4_:=qqm (blk_below (g:=gb223) (o:=.cells #[.int .u16 a0_0,.int .u16 a0_1,.slice A0_2 l0_2.length c0_2,.slice A0_3 l0_3.length c0_3,.slice A0_4 l0_4.length c0_4,.slice A0_5 l0_5.length c0_5] 26 (0,0)) (by (with_reducible repeat first|apply qqa|apply qqb|apply qqc);exact BK223.out) hb);have n5_:=qqm (Kd.C_below (by repeat (first|(with_reducible exact HR228_4.out)|(with_reducible first|apply Kd.C_alloc|apply Kd.C_drewN|apply Kd.C_drew)|exact HR228_4.out)) hb);have n6_:=qqm (Kd.C_below (by repeat (first|(with_reducible exact HR228_5.out)|(with_reducible first|apply Kd.C_alloc|apply Kd.C_drewN|apply Kd.C_drew)|exact HR228_5.out)) hb);have n7_:=qqm (Kd.C_below (by repeat (first|(with_reducible exact HR228_6.out)|(with_reducible first|apply Kd.C_alloc|apply Kd.C_drewN|apply Kd.C_drew)|exact HR228_6.out)) hb);have n8_:=qqm (below_step (by with_reducible repeat first|exact HB.out|apply qqf|apply qqd|apply qqe|refine qqg ?_ GE223.out) hb);clear HO_5 HL228_4 HL228_5 HL228_6 BK223 HR228_4 HR228_5 HR228_6 HB;have HO_5:=n0_;have HL228_4:=n1_;have HL228_5:=n2_;have HL228_6:=n3_;have BK223:=n4_;have HR228_4:=n5_;have HR228_5:=n6_;have HR228_6:=n7_;have HB:=n8_;clear n0_ n1_ n2_ n3_ n4_ n5_ n6_ n7_ n8_;(try clear hb);(try clear hb2);(try clear hk);(try clear hi))))
            go_ret
            exact ⟨by first|rfl|(simp [errW_none,errW_some] <;> rfl)|(simp [*,errW_none,errW_some] <;> rfl),by with_reducible repeat first|exact HB.out|apply qqf|apply qqd|apply qqe|refine qqg ?_ GE223.out⟩
          ·
           rw [if_neg c22] at H
           exact absurd H (by simp)
         ·
          rw [if_neg c21] at H
          have c21b0:decide (x6_3 < (t225.length:Int)) = false:=decide_eq_false c21
          clear c21
          obtain rfl:=Option.some.inj H
          obtain ⟨Ao38,co38,eo38⟩:=Kd.N_slice HO_5.out
          subst eo38
          go_wp2
          repeat (go_quiet (fail);try go_wp2)
          go_ret
          exact ⟨by first|rfl|(simp [errW_none,errW_some] <;> rfl)|(simp [*,errW_none,errW_some] <;> rfl),by with_reducible repeat first|exact HB.out|apply qqf|apply qqd|apply qqe|refine qqg ?_ GE223.out⟩

end Go.Proofs.Ythkdfnbhlinhiaa.Mine
