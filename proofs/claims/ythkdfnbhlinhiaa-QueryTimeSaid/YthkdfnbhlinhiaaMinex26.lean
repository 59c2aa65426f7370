-- Written by this repo's own printer (wip/print), which builds on the kit's.
import Derived.Test.YthkdfnbhlinhiaaMinex0
import Derived.Test.YthkdfnbhlinhiaaMinex25
namespace Go.Proofs.Ythkdfnbhlinhiaa.Mine
open Go.RowKit Go.Proofs.YthkdfnbhlinhiaaW.PrintWords Go.Proofs.YthkdfnbhlinhiaaW.PrintLast Go.Proofs.YthkdfnbhlinhiaaW.PrintMore
attribute [local go_sem] max2_int min2_int max_two min_two max_three min_three max_four min_four   -- for this text's walks alone
set_option linter.unusedVariables false
set_option linter.unusedSimpArgs false

/-! ### nuncioref05_Same: function 53 -/
mutual
def nuncioref05_Same.j0 : Nat → Bool → ByteArray → Int → Int → Int → List ByteArray → List Int → List ByteArray → ByteArray → Int → Int → Int → List ByteArray → List Int → List ByteArray → Option (Bool)
 | 0, _, _, _, _, _, _, _, _, _, _, _, _, _, _, _ => none
 | k + 1, x56, x288000, x288001, x288002, x288003, x288004, x288005, x288006, x289000, x289001, x289002, x289003, x289004, x289005, x289006 => if x56 = true then (some false) else (nuncioref05_Same.l0 k 0 x288000 x288001 x288002 x288003 x288004 x288005 x288006 x289000 x289001 x289002 x289003 x289004 x289005 x289006)
def nuncioref05_Same.l0 : Nat → Int → ByteArray → Int → Int → Int → List ByteArray → List Int → List ByteArray → ByteArray → Int → Int → Int → List ByteArray → List Int → List ByteArray → Option (Bool)
 | 0, _, _, _, _, _, _, _, _, _, _, _, _, _, _, _ => none
 | k + 1, x5, x288000, x288001, x288002, x288003, x288004, x288005, x288006, x289000, x289001, x289002, x289003, x289004, x289005, x289006 => if x5 < (x288005.length : Int) then (if 0 ≤ x5 then (if x5 < (x289005.length : Int) then (if (rd x288005 x5) = (rd x289005 x5) then (nuncioref05_Same.l0 k (wrap64 (x5 + 1)) x288000 x288001 x288002 x288003 x288004 x288005 x288006 x289000 x289001 x289002 x289003 x289004 x289005 x289006) else (some false)) else (none)) else (none)) else (some true)
end
def nuncioref05_Same.f (k : Nat) (a0_0 : ByteArray) (a0_1 : Int) (a0_2 : Int) (a0_3 : Int) (l0_4 : List ByteArray) (l0_5 : List Int) (l0_6 : List ByteArray) (a1_0 : ByteArray) (a1_1 : Int) (a1_2 : Int) (a1_3 : Int) (l1_4 : List ByteArray) (l1_5 : List Int) (l1_6 : List ByteArray) : Option (Bool) := if a0_0.toList = a1_0.toList then (if a0_1 = a1_1 then (if a0_2 = a1_2 then (if a0_3 = a1_3 then ((nuncioref05_texts.f k l0_4 l1_4).bind fun t289 => (if t289 = true then ((nuncioref05_texts.f k l0_6 l1_6).bind fun t290 => (if t290 = true then (nuncioref05_Same.j0 k ((l0_5.length : Int) != (l1_5.length : Int)) a0_0 a0_1 a0_2 a0_3 l0_4 l0_5 l0_6 a1_0 a1_1 a1_2 a1_3 l1_4 l1_5 l1_6) else (nuncioref05_Same.j0 k true a0_0 a0_1 a0_2 a0_3 l0_4 l0_5 l0_6 a1_0 a1_1 a1_2 a1_3 l1_4 l1_5 l1_6))) else (nuncioref05_Same.j0 k true a0_0 a0_1 a0_2 a0_3 l0_4 l0_5 l0_6 a1_0 a1_1 a1_2 a1_3 l1_4 l1_5 l1_6))) else (nuncioref05_Same.j0 k true a0_0 a0_1 a0_2 a0_3 l0_4 l0_5 l0_6 a1_0 a1_1 a1_2 a1_3 l1_4 l1_5 l1_6)) else (nuncioref05_Same.j0 k true a0_0 a0_1 a0_2 a0_3 l0_4 l0_5 l0_6 a1_0 a1_1 a1_2 a1_3 l1_4 l1_5 l1_6)) else (nuncioref05_Same.j0 k true a0_0 a0_1 a0_2 a0_3 l0_4 l0_5 l0_6 a1_0 a1_1 a1_2 a1_3 l1_4 l1_5 l1_6)) else (nuncioref05_Same.j0 k true a0_0 a0_1 a0_2 a0_3 l0_4 l0_5 l0_6 a1_0 a1_1 a1_2 a1_3 l1_4 l1_5 l1_6)
theorem nuncioref05_Same.mono_l : ∀ k, (∀ y0 y1 y2 y3 y4 y5 y6 y7 y8 y9 y10 y11 y12 y13 y14, LeO (nuncioref05_Same.j0 k y0 y1 y2 y3 y4 y5 y6 y7 y8 y9 y10 y11 y12 y13 y14) (nuncioref05_Same.j0 (k + 1) y0 y1 y2 y3 y4 y5 y6 y7 y8 y9 y10 y11 y12 y13 y14)) ∧ (∀ y0 y1 y2 y3 y4 y5 y6 y7 y8 y9 y10 y11 y12 y13 y14, LeO (nuncioref05_Same.l0 k y0 y1 y2 y3 y4 y5 y6 y7 y8 y9 y10 y11 y12 y13 y14) (nuncioref05_Same.l0 (k + 1) y0 y1 y2 y3 y4 y5 y6 y7 y8 y9 y10 y11 y12 y13 y14))
 | 0 => ⟨fun _ _ _ _ _ _ _ _ _ _ _ _ _ _ _ r h => by simp [nuncioref05_Same.j0] at h, fun _ _ _ _ _ _ _ _ _ _ _ _ _ _ _ r h => by simp [nuncioref05_Same.l0] at h⟩
 | k + 1 => by
  obtain ⟨ih0,ih1⟩:=nuncioref05_Same.mono_l k
  refine ⟨?_,?_⟩
  ·
   intro y0 y1 y2 y3 y4 y5 y6 y7 y8 y9 y10 y11 y12 y13 y14
   unfold nuncioref05_Same.j0
   repeat' first
   | (with_reducible exact ih0 _ _ _ _ _ _ _ _ _ _ _ _ _ _ _)
   | (with_reducible exact ih1 _ _ _ _ _ _ _ _ _ _ _ _ _ _ _)
   | (with_reducible exact nuncioref05_texts.mono _ _ _)
   | (with_reducible exact LeO.refl _)
   | (with_reducible exact LeO.none _)
   | (with_reducible refine LeO.ite ?_ ?_)
   | (with_reducible refine LeO.bind ?_ (fun _ => ?_))
   | exact ih0 _ _ _ _ _ _ _ _ _ _ _ _ _ _ _
   | exact ih1 _ _ _ _ _ _ _ _ _ _ _ _ _ _ _
   | exact nuncioref05_texts.mono _ _ _
   | exact LeO.none _
   | refine LeO.ite ?_ ?_
   | refine LeO.bind ?_ (fun _ => ?_)
  ·
   intro y0 y1 y2 y3 y4 y5 y6 y7 y8 y9 y10 y11 y12 y13 y14
   unfold nuncioref05_Same.l0
   repeat' first
   | (with_reducible exact ih0 _ _ _ _ _ _ _ _ _ _ _ _ _ _ _)
   | (with_reducible exact ih1 _ _ _ _ _ _ _ _ _ _ _ _ _ _ _)
   | (with_reducible exact nuncioref05_texts.mono _ _ _)
   | (with_reducible exact LeO.refl _)
   | (with_reducible exact LeO.none _)
   | (with_reducible refine LeO.ite ?_ ?_)
   | (with_reducible refine LeO.bind ?_ (fun _ => ?_))
   | exact ih0 _ _ _ _ _ _ _ _ _ _ _ _ _ _ _
   | exact ih1 _ _ _ _ _ _ _ _ _ _ _ _ _ _ _
   | exact nuncioref05_texts.mono _ _ _
   | exact LeO.none _
   | refine LeO.ite ?_ ?_
   | refine LeO.bind ?_ (fun _ => ?_)
theorem nuncioref05_Same.mono : ∀ a0 a1 a2 a3 a4 a5 a6 a7 a8 a9 a10 a11 a12 a13 k, LeO (nuncioref05_Same.f k a0 a1 a2 a3 a4 a5 a6 a7 a8 a9 a10 a11 a12 a13) (nuncioref05_Same.f (k + 1) a0 a1 a2 a3 a4 a5 a6 a7 a8 a9 a10 a11 a12 a13) := by
 intro a0 a1 a2 a3 a4 a5 a6 a7 a8 a9 a10 a11 a12 a13 k
 obtain ⟨ih0,ih1⟩:=nuncioref05_Same.mono_l k
 unfold nuncioref05_Same.f
 repeat' first
   | (with_reducible exact ih0 _ _ _ _ _ _ _ _ _ _ _ _ _ _ _)
   | (with_reducible exact ih1 _ _ _ _ _ _ _ _ _ _ _ _ _ _ _)
   | (with_reducible exact nuncioref05_texts.mono _ _ _)
   | (with_reducible exact LeO.refl _)
   | (with_reducible exact LeO.none _)
   | (with_reducible refine LeO.ite ?_ ?_)
   | (with_reducible refine LeO.bind ?_ (fun _ => ?_))
   | exact ih0 _ _ _ _ _ _ _ _ _ _ _ _ _ _ _
   | exact ih1 _ _ _ _ _ _ _ _ _ _ _ _ _ _ _
   | exact nuncioref05_texts.mono _ _ _
   | exact LeO.none _
   | refine LeO.ite ?_ ?_
   | refine LeO.bind ?_ (fun _ => ?_)
set_option maxHeartbeats 8000000 in
set_option maxRecDepth 100000 in
theorem nuncioref05_Same.calls (k : Nat) (a0_0 : ByteArray) (a0_1 : Int) (a0_2 : Int) (a0_3 : Int) (A0_4 : Option Addr) (c0_4 : Nat) (l0_4 : List ByteArray) (A0_5 : Option Addr) (c0_5 : Nat) (l0_5 : List Int) (A0_6 : Option Addr) (c0_6 : Nat) (l0_6 : List ByteArray) (a1_0 : ByteArray) (a1_1 : Int) (a1_2 : Int) (a1_3 : Int) (A1_4 : Option Addr) (c1_4 : Nat) (l1_4 : List ByteArray) (A1_5 : Option Addr) (c1_5 : Nat) (l1_5 : List Int) (A1_6 : Option Addr) (c1_6 : Nat) (l1_6 : List ByteArray) (r : Bool) (w : World) (hr0_4 : Kd.C Kd.string w A0_4 l0_4.length l0_4) (hc0_4 : l0_4.length ≤ c0_4) (hr0_5 : Kd.C (Kd.int .u32) w A0_5 l0_5.length l0_5) (hc0_5 : l0_5.length ≤ c0_5) (hr0_6 : Kd.C Kd.string w A0_6 l0_6.length l0_6) (hc0_6 : l0_6.length ≤ c0_6) (hr1_4 : Kd.C Kd.string w A1_4 l1_4.length l1_4) (hc1_4 : l1_4.length ≤ c1_4) (hr1_5 : Kd.C (Kd.int .u32) w A1_5 l1_5.length l1_5) (hc1_5 : l1_5.length ≤ c1_5) (hr1_6 : Kd.C Kd.string w A1_6 l1_6.length l1_6) (hc1_6 : l1_6.length ≤ c1_6) (h : nuncioref05_Same.f k a0_0 a0_1 a0_2 a0_3 l0_4 l0_5 l0_6 a1_0 a1_1 a1_2 a1_3 l1_4 l1_5 l1_6 = some r) :
  Calls Try.prog 53 #[.agg #[.string a0_0,.int .u16 a0_1,.int .u16 a0_2,.int .u32 a0_3,.slice A0_4 l0_4.length c0_4,.slice A0_5 l0_5.length c0_5,.slice A0_6 l0_6.length c0_6],.agg #[.string a1_0,.int .u16 a1_1,.int .u16 a1_2,.int .u32 a1_3,.slice A1_4 l1_4.length c1_4,.slice A1_5 l1_5.length c1_5,.slice A1_6 l1_6.length c1_6]] w fun e w' => e = .returned (.bool r)∧Below w.heap.size w w':=by
 have hu51:=Try.underlying51
 have HR0_4:=Aside0.mk hr0_4
 have HC0_4:=Aside0.mk hc0_4
 clear hr0_4 hc0_4
 have HR0_5:=Aside0.mk hr0_5
 have HC0_5:=Aside0.mk hc0_5
 clear hr0_5 hc0_5
 have HR0_6:=Aside0.mk hr0_6
 have HC0_6:=Aside0.mk hc0_6
 clear hr0_6 hc0_6
 have HR1_4:=Aside0.mk hr1_4
 have HC1_4:=Aside0.mk hc1_4
 clear hr1_4 hc1_4
 have HR1_5:=Aside0.mk hr1_5
 have HC1_5:=Aside0.mk hc1_5
 clear hr1_5 hc1_5
 have HR1_6:=Aside0.mk hr1_6
 have HC1_6:=Aside0.mk hc1_6
 clear hr1_6 hc1_6
 have HB:=Aside0.mk (Below.refl w.heap.size w)
 have H : (if a0_0.toList = a1_0.toList then (if a0_1 = a1_1 then (if a0_2 = a1_2 then (if a0_3 = a1_3 then ((nuncioref05_texts.f k l0_4 l1_4).bind fun t289 => (if t289 = true then ((nuncioref05_texts.f k l0_6 l1_6).bind fun t290 => (if t290 = true then (nuncioref05_Same.j0 k ((l0_5.length : Int) != (l1_5.length : Int)) a0_0 a0_1 a0_2 a0_3 l0_4 l0_5 l0_6 a1_0 a1_1 a1_2 a1_3 l1_4 l1_5 l1_6) else (nuncioref05_Same.j0 k true a0_0 a0_1 a0_2 a0_3 l0_4 l0_5 l0_6 a1_0 a1_1 a1_2 a1_3 l1_4 l1_5 l1_6))) else (nuncioref05_Same.j0 k true a0_0 a0_1 a0_2 a0_3 l0_4 l0_5 l0_6 a1_0 a1_1 a1_2 a1_3 l1_4 l1_5 l1_6))) else (nuncioref05_Same.j0 k true a0_0 a0_1 a0_2 a0_3 l0_4 l0_5 l0_6 a1_0 a1_1 a1_2 a1_3 l1_4 l1_5 l1_6)) else (nuncioref05_Same.j0 k true a0_0 a0_1 a0_2 a0_3 l0_4 l0_5 l0_6 a1_0 a1_1 a1_2 a1_3 l1_4 l1_5 l1_6)) else (nuncioref05_Same.j0 k true a0_0 a0_1 a0_2 a0_3 l0_4 l0_5 l0_6 a1_0 a1_1 a1_2 a1_3 l1_4 l1_5 l1_6)) else (nuncioref05_Same.j0 k true a0_0 a0_1 a0_2 a0_3 l0_4 l0_5 l0_6 a1_0 a1_1 a1_2 a1_3 l1_4 l1_5 l1_6)) = some r:=h
 clear h
 have HC3:=Aside0.mk H
 clear H
 go_enter Try.func53,Try.ntmps53
 go_upto_region 1 with (first|((with_reducible refine gate_dst (N:=2) rfl ?_);(try (refine gate_guard (by rfl) ?_;dsimp only));refine box_event ?hg (N:=2) ?hd (cs:=#[.string a0_0,.int .u16 a0_1,.int .u16 a0_2,.int .u32 a0_3,.slice A0_4 l0_4.length c0_4,.slice A0_5 l0_5.length c0_5,.slice A0_6 l0_6.length c0_6]) (t:=51) ?hr ?_;(case hd => rfl);(case hg => rfl);(case hr => first|(go_simp;done)|(go_simp;rfl));intro gb287 hg w4 hbox hb;have n0_:=Aside0.mk (below_step (by repeat (first|(with_reducible first|exact HB.out|apply qqf|apply qqd|apply qqe)|exact HB.out)) hb);have n1_:=Aside0.mk (hbox);have n2_:=Aside0.mk ((by rw [hg];exact (below_size (by repeat (first|(with_reducible first|exact HB.out|apply qqf|apply qqd|apply qqe)|exact HB.out))) : w.heap.size ≤ gb287));have n3_:=Aside0.mk ((by rw [hg];exact (below_size (by repeat (first|(with_reducible first|exact HB.out|apply qqf|apply qqd|apply qqe)|exact HB.out))) : w.heap.size ≤ gb287));clear HB;have HB:=n0_;have BK287:=n1_;have GW287:=n2_;have GE287:=n3_;clear n0_ n1_ n2_ n3_;clear hb hbox hg)|((with_reducible refine gate_dst (N:=3) rfl ?_);(try (refine gate_guard (by rfl) ?_;dsimp only));refine box_event ?hg (N:=3) ?hd (cs:=#[.string a1_0,.int .u16 a1_1,.int .u16 a1_2,.int .u32 a1_3,.slice A1_4 l1_4.length c1_4,.slice A1_5 l1_5.length c1_5,.slice A1_6 l1_6.length c1_6]) (t:=51) ?hr ?_;(case hd => rfl);(case hg => rfl);(case hr => first|(go_simp;done)|(go_simp;rfl));intro gb288 hg w5 hbox hb;have n0_:=Aside0.mk (blk_below (g:=gb287) (o:=.cells #[.string a0_0,.int .u16 a0_1,.int .u16 a0_2,.int .u32 a0_3,.slice A0_4 l0_4.length c0_4,.slice A0_5 l0_5.length c0_5,.slice A0_6 l0_6.length c0_6] 51 (0,0)) (by (with_reducible repeat first|apply qqa|apply qqb|apply qqc);exact BK287.out) hb);have n1_:=Aside0.mk (below_step (by repeat (first|(with_reducible first|exact HB.out|apply qqf|apply qqd|apply qqe|refine qqg ?_ GE287.out)|exact HB.out)) hb);have n2_:=Aside0.mk (hbox);have n3_:=Aside0.mk ((by rw [hg];exact (below_size (by repeat (first|(with_reducible first|exact HB.out|apply qqf|apply qqd|apply qqe|refine qqg ?_ GE287.out)|exact HB.out))) : w.heap.size ≤ gb288));have n4_:=Aside0.mk ((by rw [hg];exact (below_size (by repeat (first|(with_reducible first|exact HB.out|apply qqf|apply qqd|apply qqe|refine qqg ?_ GE287.out)|exact HB.out))) : w.heap.size ≤ gb288));have n5_:=Aside0.mk ((by rw [hg];exact Nat.ne_of_lt (blk_lt (g:=gb287) (o:=.cells #[.string a0_0,.int .u16 a0_1,.int .u16 a0_2,.int .u32 a0_3,.slice A0_4 l0_4.length c0_4,.slice A0_5 l0_5.length c0_5,.slice A0_6 l0_6.length c0_6] 51 (0,0)) (by (with_reducible repeat first|apply qqa|apply qqb|apply qqc);exact BK287.out)) : gb287 ≠ gb288));have n6_:=Aside0.mk ((by rw [hg];exact Nat.ne_of_gt (blk_lt (g:=gb287) (o:=.cells #[.string a0_0,.int .u16 a0_1,.int .u16 a0_2,.int .u32 a0_3,.slice A0_4 l0_4.length c0_4,.slice A0_5 l0_5.length c0_5,.slice A0_6 l0_6.length c0_6] 51 (0,0)) (by (with_reducible repeat first|apply qqa|apply qqb|apply qqc);exact BK287.out)) : gb288 ≠ gb287));clear BK287;clear HB;have BK287:=n0_;have HB:=n1_;have BK288:=n2_;have GW288:=n3_;have GE288:=n4_;have NB287_288:=n5_;have NB288_287:=n6_;clear n0_ n1_ n2_ n3_ n4_ n5_ n6_;clear hb hbox hg))
 repeat (go_quiet (first|((with_reducible refine gate_dst (N:=2) rfl ?_);(try (refine gate_guard (by rfl) ?_;dsimp only));refine box_event ?hg (N:=2) ?hd (cs:=#[.string a0_0,.int .u16 a0_1,.int .u16 a0_2,.int .u32 a0_3,.slice A0_4 l0_4.length c0_4,.slice A0_5 l0_5.length c0_5,.slice A0_6 l0_6.length c0_6]) (t:=51) ?hr ?_;(case hd => rfl);(case hg => rfl);(case hr => first|(go_simp;done)|(go_simp;rfl));intro gb287 hg w4 hbox hb;have n0_:=Aside0.mk (below_step (by repeat (first|(with_reducible first|exact HB.out|apply qqf|apply qqd|apply qqe)|exact HB.out)) hb);have n1_:=Aside0.mk (hbox);have n2_:=Aside0.mk ((by rw [hg];exact (below_size (by repeat (first|(with_reducible first|exact HB.out|apply qqf|apply qqd|apply qqe)|exact HB.out))) : w.heap.size ≤ gb287));have n3_:=Aside0.mk ((by rw [hg];exact (below_size (by repeat (first|(with_reducible first|exact HB.out|apply qqf|apply qqd|apply qqe)|exact HB.out))) : w.heap.size ≤ gb287));clear HB;have HB:=n0_;have BK287:=n1_;have GW287:=n2_;have GE287:=n3_;clear n0_ n1_ n2_ n3_;clear hb hbox hg)|((with_reducible refine gate_dst (N:=3) rfl ?_);(try (refine gate_guard (by rfl) ?_;dsimp only));refine box_event ?hg (N:=3) ?hd (cs:=#[.string a1_0,.int .u16 a1_1,.int .u16 a1_2,.int .u32 a1_3,.slice A1_4 l1_4.length c1_4,.slice A1_5 l1_5.length c1_5,.slice A1_6 l1_6.length c1_6]) (t:=51) ?hr ?_;(case hd => rfl);(case hg => rfl);(case hr => first|(go_simp;done)|(go_simp;rfl));intro gb288 hg w5 hbox hb;have n0_:=Aside0.mk (blk_below (g:=gb287) (o:=.cells #[.string a0_0,.int .u16 a0_1,.int .u16 a0_2,.int .u32 a0_3,.slice A0_4 l0_4.length c0_4,.slice A0_5 l0_5.length c0_5,.slice A0_6 l0_6.length c0_6] 51 (0,0)) (by (with_reducible repeat first|apply qqa|apply qqb|apply qqc);exact BK287.out) hb);have n1_:=Aside0.mk (below_step (by repeat (first|(with_reducible first|exact HB.out|apply qqf|apply qqd|apply qqe|refine qqg ?_ GE287.out)|exact HB.out)) hb);have n2_:=Aside0.mk (hbox);have n3_:=Aside0.mk ((by rw [hg];exact (below_size (by repeat (first|(with_reducible first|exact HB.out|apply qqf|apply qqd|apply qqe|refine qqg ?_ GE287.out)|exact HB.out))) : w.heap.size ≤ gb288));have n4_:=Aside0.mk ((by rw [hg];exact (below_size (by repeat (first|(with_reducible first|exact HB.out|apply qqf|apply qqd|apply qqe|refine qqg ?_ GE287.out)|exact HB.out))) : w.heap.size ≤ gb288));have n5_:=Aside0.mk ((by rw [hg];exact Nat.ne_of_lt (blk_lt (g:=gb287) (o:=.cells #[.string a0_0,.int .u16 a0_1,.int .u16 a0_2,.int .u32 a0_3,.slice A0_4 l0_4.length c0_4,.slice A0_5 l0_5.length c0_5,.slice A0_6 l0_6.length c0_6] 51 (0,0)) (by (with_reducible repeat first|apply qqa|apply qqb|apply qqc);exact BK287.out)) : gb287 ≠ gb288));have n6_:=Aside0.mk ((by rw [hg];exact Nat.ne_of_gt (blk_lt (g:=gb287) (o:=.cells #[.string a0_0,.int .u16 a0_1,.int .u16 a0_2,.int .u32 a0_3,.slice A0_4 l0_4.length c0_4,.slice A0_5 l0_5.length c0_5,.slice A0_6 l0_6.length c0_6] 51 (0,0)) (by (with_reducible repeat first|apply qqa|apply qqb|apply qqc);exact BK287.out)) : gb288 ≠ gb287));clear BK287;clear HB;have BK287:=n0_;have HB:=n1_;have BK288:=n2_;have GW288:=n3_;have GE288:=n4_;have NB287_288:=n5_;have NB288_287:=n6_;clear n0_ n1_ n2_ n3_ n4_ n5_ n6_;clear hb hbox hg));go_upto_region 1 with (first|((with_reducible refine gate_dst (N:=2) rfl ?_);(try (refine gate_guard (by rfl) ?_;dsimp only));refine box_event ?hg (N:=2) ?hd (cs:=#[.string a0_0,.int .u16 a0_1,.int .u16 a0_2,.int .u32 a0_3,.slice A0_4 l0_4.length c0_4,.slice A0_5 l0_5.length c0_5,.slice A0_6 l0_6.length c0_6]) (t:=51) ?hr ?_;(case hd => rfl);(case hg => rfl);(case hr => first|(go_simp;done)|(go_simp;rfl));intro gb287 hg w4 hbox hb;have n0_:=Aside0.mk (below_step (by repeat (first|(with_reducible first|exact HB.out|apply qqf|apply qqd|apply qqe)|exact HB.out)) hb);have n1_:=Aside0.mk (hbox);have n2_:=Aside0.mk ((by rw [hg];exact (below_size (by repeat (first|(with_reducible first|exact HB.out|apply qqf|apply qqd|apply qqe)|exact HB.out))) : w.heap.size ≤ gb287));have n3_:=Aside0.mk ((by rw [hg];exact (below_size (by repeat (first|(with_reducible first|exact HB.out|apply qqf|apply qqd|apply qqe)|exact HB.out))) : w.heap.size ≤ gb287));clear HB;have HB:=n0_;have BK287:=n1_;have GW287:=n2_;have GE287:=n3_;clear n0_ n1_ n2_ n3_;clear hb hbox hg)|((with_reducible refine gate_dst (N:=3) rfl ?_);(try (refine gate_guard (by rfl) ?_;dsimp only));refine box_event ?hg (N:=3) ?hd (cs:=#[.string a1_0,.int .u16 a1_1,.int .u16 a1_2,.int .u32 a1_3,.slice A1_4 l1_4.length c1_4,.slice A1_5 l1_5.length c1_5,.slice A1_6 l1_6.length c1_6]) (t:=51) ?hr ?_;(case hd => rfl);(case hg => rfl);(case hr => first|(go_simp;done)|(go_simp;rfl));intro gb288 hg w5 hbox hb;have n0_:=Aside0.mk (blk_below (g:=gb287) (o:=.cells #[.string a0_0,.int .u16 a0_1,.int .u16 a0_2,.int .u32 a0_3,.slice A0_4 l0_4.length c0_4,.slice A0_5 l0_5.length c0_5,.slice A0_6 l0_6.length c0_6] 51 (0,0)) (by (with_reducible repeat first|apply qqa|apply qqb|apply qqc);exact BK287.out) hb);have n1_:=Aside0.mk (below_step (by repeat (first|(with_reducible first|exact HB.out|apply qqf|apply qqd|apply qqe|refine qqg ?_ GE287.out)|exact HB.out)) hb);have n2_:=Aside0.mk (hbox);have n3_:=Aside0.mk ((by rw [hg];exact (below_size (by repeat (first|(with_reducible first|exact HB.out|apply qqf|apply qqd|apply qqe|refine qqg ?_ GE287.out)|exact HB.out))) : w.heap.size ≤ gb288));have n4_:=Aside0.mk ((by rw [hg];exact (below_size (by repeat (first|(with_reducible first|exact HB.out|apply qqf|apply qqd|apply qqe|refine qqg ?_ GE287.out)|exact HB.out))) : w.heap.size ≤ gb288));have n5_:=Aside0.mk ((by rw [hg];exact Nat.ne_of_lt (blk_lt (g:=gb287) (o:=.cells #[.string a0_0,.int .u16 a0_1,.int .u16 a0_2,.int .u32 a0_3,.slice A0_4 l0_4.length c0_4,.slice A0_5 l0_5.length c0_5,.slice A0_6 l0_6.length c0_6] 51 (0,0)) (by (with_reducible repeat first|apply qqa|apply qqb|apply qqc);exact BK287.out)) : gb287 ≠ gb288));have n6_:=Aside0.mk ((by rw [hg];exact Nat.ne_of_gt (blk_lt (g:=gb287) (o:=.cells #[.string a0_0,.int .u16 a0_1,.int .u16 a0_2,.int .u32 a0_3,.slice A0_4 l0_4.length c0_4,.slice A0_5 l0_5.length c0_5,.slice A0_6 l0_6.length c0_6] 51 (0,0)) (by (with_reducible repeat first|apply qqa|apply qqb|apply qqc);exact BK287.out)) : gb288 ≠ gb287));clear BK287;clear HB;have BK287:=n0_;have HB:=n1_;have BK288:=n2_;have GW288:=n3_;have GE288:=n4_;have NB287_288:=n5_;have NB288_287:=n6_;clear n0_ n1_ n2_ n3_ n4_ n5_ n6_;clear hb hbox hg)))
 (try simp only [Act.put,qqj,qqk,qql])
 go_cut [56] (fun v56 wc => ∃ (kq : Nat) (x56_2 : Bool),v56 = .bool x56_2∧Aside0 (nuncioref05_Same.j0 kq x56_2 a0_0 a0_1 a0_2 a0_3 l0_4 l0_5 l0_6 a1_0 a1_1 a1_2 a1_3 l1_4 l1_5 l1_6 = some r)∧Aside0 (kq ≤ k)∧Aside0 (wc.heap[gb287]? = some (.cells #[.string a0_0,.int .u16 a0_1,.int .u16 a0_2,.int .u32 a0_3,(.slice A0_4 l0_4.length c0_4),(.slice A0_5 l0_5.length c0_5),(.slice A0_6 l0_6.length c0_6)] 51 (0,0)))∧Aside0 (wc.heap[gb288]? = some (.cells #[.string a1_0,.int .u16 a1_1,.int .u16 a1_2,.int .u32 a1_3,(.slice A1_4 l1_4.length c1_4),(.slice A1_5 l1_5.length c1_5),(.slice A1_6 l1_6.length c1_6)] 51 (0,0)))∧Aside0 (Below w.heap.size w wc))
 case first =>
  have H:=HC3.out
  clear HC3
  by_cases c6 : a0_0.toList = a1_0.toList
  ·
   rw [if_pos c6] at H
   have c6b0 : (a0_0.toList == a1_0.toList) = true:=beq_iff_eq.mpr c6
   have c6b1 : (a0_0.toList != a1_0.toList) = false:=bne_eq_false_iff_eq.mpr c6
   clear c6
   (first|rw [c6b0]|rw [c6b1]|(simp only [i64_w,i32_w];rw [c6b0])|skip)
   by_cases c7 : a0_1 = a1_1
   ·
    rw [if_pos c7] at H
    have c7b0 : (a0_1 == a1_1) = true:=beq_iff_eq.mpr c7
    have c7b1 : (a0_1 != a1_1) = false:=bne_eq_false_iff_eq.mpr c7
    clear c7
    by_cases c8 : a0_2 = a1_2
    ·
     rw [if_pos c8] at H
     have c8b0 : (a0_2 == a1_2) = true:=beq_iff_eq.mpr c8
     have c8b1 : (a0_2 != a1_2) = false:=bne_eq_false_iff_eq.mpr c8
     clear c8
     by_cases c9 : a0_3 = a1_3
     ·
      rw [if_pos c9] at H
      have c9b0 : (a0_3 == a1_3) = true:=beq_iff_eq.mpr c9
      have c9b1 : (a0_3 != a1_3) = false:=bne_eq_false_iff_eq.mpr c9
      clear c9
      replace H:=Option.bind_eq_some_iff.mp H
      obtain ⟨t289,A100,H⟩:=H
      replace H : (if t289 = true then ((nuncioref05_texts.f k l0_6 l1_6).bind fun t290 => (if t290 = true then (nuncioref05_Same.j0 k ((l0_5.length : Int) != (l1_5.length : Int)) a0_0 a0_1 a0_2 a0_3 l0_4 l0_5 l0_6 a1_0 a1_1 a1_2 a1_3 l1_4 l1_5 l1_6) else (nuncioref05_Same.j0 k true a0_0 a0_1 a0_2 a0_3 l0_4 l0_5 l0_6 a1_0 a1_1 a1_2 a1_3 l1_4 l1_5 l1_6))) else (nuncioref05_Same.j0 k true a0_0 a0_1 a0_2 a0_3 l0_4 l0_5 l0_6 a1_0 a1_1 a1_2 a1_3 l1_4 l1_5 l1_6)) = some r:=H
      have A10:=Aside0.mk A100
      clear A100
      by_cases c11 : t289 = true
      ·
       subst c11
       have H1 : ((nuncioref05_texts.f k l0_6 l1_6).bind fun t290 => (if t290 = true then (nuncioref05_Same.j0 k ((l0_5.length : Int) != (l1_5.length : Int)) a0_0 a0_1 a0_2 a0_3 l0_4 l0_5 l0_6 a1_0 a1_1 a1_2 a1_3 l1_4 l1_5 l1_6) else (nuncioref05_Same.j0 k true a0_0 a0_1 a0_2 a0_3 l0_4 l0_5 l0_6 a1_0 a1_1 a1_2 a1_3 l1_4 l1_5 l1_6))) = some r:=by rw [if_pos rfl] at H;exact H
       clear H
       have H:=H1
       clear H1
       replace H:=Option.bind_eq_some_iff.mp H
       obtain ⟨t290,A120,H⟩:=H
       replace H : (if t290 = true then (nuncioref05_Same.j0 k ((l0_5.length : Int) != (l1_5.length : Int)) a0_0 a0_1 a0_2 a0_3 l0_4 l0_5 l0_6 a1_0 a1_1 a1_2 a1_3 l1_4 l1_5 l1_6) else (nuncioref05_Same.j0 k true a0_0 a0_1 a0_2 a0_3 l0_4 l0_5 l0_6 a1_0 a1_1 a1_2 a1_3 l1_4 l1_5 l1_6)) = some r:=H
       have A12:=Aside0.mk A120
       clear A120
       by_cases c13 : t290 = true
       ·
        subst c13
        have H1 : (nuncioref05_Same.j0 k ((l0_5.length : Int) != (l1_5.length : Int)) a0_0 a0_1 a0_2 a0_3 l0_4 l0_5 l0_6 a1_0 a1_1 a1_2 a1_3 l1_4 l1_5 l1_6) = some r:=by rw [if_pos rfl] at H;exact H
        clear H
        have H:=H1
        clear H1
        have H':=Aside0.mk H
        clear H
        have hnb14:=NB287_288.out
        have hnc14:=NB288_287.out
        have hcz15_0 : w5.cell? ⟨gb287,0,none⟩ = some (.string a0_0):=(qqh BK287.out 0).trans rfl
        have hcz15_1 : w5.cell? ⟨gb287,1,none⟩ = some (.int .u16 a0_1):=(qqh BK287.out 1).trans rfl
        have hcz15_2 : w5.cell? ⟨gb287,2,none⟩ = some (.int .u16 a0_2):=(qqh BK287.out 2).trans rfl
        have hcz15_3 : w5.cell? ⟨gb287,3,none⟩ = some (.int .u32 a0_3):=(qqh BK287.out 3).trans rfl
        have hcz15_4 : w5.cell? ⟨gb287,4,none⟩ = some (.slice A0_4 l0_4.length c0_4):=(qqh BK287.out 4).trans rfl
        have hcz15_5 : w5.cell? ⟨gb287,5,none⟩ = some (.slice A0_5 l0_5.length c0_5):=(qqh BK287.out 5).trans rfl
        have hcz15_6 : w5.cell? ⟨gb287,6,none⟩ = some (.slice A0_6 l0_6.length c0_6):=(qqh BK287.out 6).trans rfl
        have hfz15_0:=qqi BK287.out 0
        have hfz15_1:=qqi BK287.out 1
        have hfz15_2:=qqi BK287.out 2
        have hfz15_3:=qqi BK287.out 3
        have hfz15_4:=qqi BK287.out 4
        have hfz15_5:=qqi BK287.out 5
        have hfz15_6:=qqi BK287.out 6
        have hcz16_0 : w5.cell? ⟨gb288,0,none⟩ = some (.string a1_0):=(qqh BK288.out 0).trans rfl
        have hcz16_1 : w5.cell? ⟨gb288,1,none⟩ = some (.int .u16 a1_1):=(qqh BK288.out 1).trans rfl
        have hcz16_2 : w5.cell? ⟨gb288,2,none⟩ = some (.int .u16 a1_2):=(qqh BK288.out 2).trans rfl
        have hcz16_3 : w5.cell? ⟨gb288,3,none⟩ = some (.int .u32 a1_3):=(qqh BK288.out 3).trans rfl
        have hcz16_4 : w5.cell? ⟨gb288,4,none⟩ = some (.slice A1_4 l1_4.length c1_4):=(qqh BK288.out 4).trans rfl
        have hcz16_5 : w5.cell? ⟨gb288,5,none⟩ = some (.slice A1_5 l1_5.length c1_5):=(qqh BK288.out 5).trans rfl
        have hcz16_6 : w5.cell? ⟨gb288,6,none⟩ = some (.slice A1_6 l1_6.length c1_6):=(qqh BK288.out 6).trans rfl
        have hfz16_0:=qqi BK288.out 0
        have hfz16_1:=qqi BK288.out 1
        have hfz16_2:=qqi BK288.out 2
        have hfz16_3:=qqi BK288.out 3
        have hfz16_4:=qqi BK288.out 4
        have hfz16_5:=qqi BK288.out 5
        have hfz16_6:=qqi BK288.out 6
        go_wp2_with (first|(go_at_call 60;(with_reducible refine (nuncioref05_texts.calls k _ _ l0_4 _ _ l1_4 true _ ?side1 ?side2 ?side3 ?side4 A10.out).mono ?_);(case side1 => repeat (first|exact (Kd.C_below HR0_4.out HB.out)|(with_reducible refine Kd.C_alloc ?_ _)|(with_reducible refine Kd.C_drewN ?_ _)|(with_reducible refine Kd.C_drew ?_)));(case side2 => exact HC0_4.out);(case side3 => repeat (first|exact (Kd.C_below HR1_4.out HB.out)|(with_reducible refine Kd.C_alloc ?_ _)|(with_reducible refine Kd.C_drewN ?_ _)|(with_reducible refine Kd.C_drew ?_)));(case side4 => exact HC1_4.out);rintro e w' ⟨rfl,⟨nd,rfl⟩⟩;(try first|exact ⟨rfl,_,World.drewN_drewN _ _ _⟩|exact ⟨rfl,_,Eq.trans (World.drewN_drewN _ _ _) (congrArg (World.drewN _) (Nat.add_assoc _ _ _))⟩))|(go_at_call 60;(with_reducible refine (nuncioref05_texts.calls k _ _ l0_6 _ _ l1_6 true _ ?side1 ?side2 ?side3 ?side4 A12.out).mono ?_);(case side1 => repeat (first|exact (Kd.C_below HR0_6.out (by repeat (first|(with_reducible first|exact HB.out|apply qqf|apply qqd|apply qqe|refine qqg ?_ GE287.out|refine qqg ?_ GE288.out)|exact HB.out)))|(with_reducible refine Kd.C_alloc ?_ _)|(with_reducible refine Kd.C_drewN ?_ _)|(with_reducible refine Kd.C_drew ?_)));(case side2 => exact HC0_6.out);(case side3 => repeat (first|exact (Kd.C_below HR1_6.out (by repeat (first|(with_reducible first|exact HB.out|apply qqf|apply qqd|apply qqe|refine qqg ?_ GE287.out|refine qqg ?_ GE288.out)|exact HB.out)))|(with_reducible refine Kd.C_alloc ?_ _)|(with_reducible refine Kd.C_drewN ?_ _)|(with_reducible refine Kd.C_drew ?_)));(case side4 => exact HC1_6.out);rintro e w' ⟨rfl,⟨nd,rfl⟩⟩;(try first|exact ⟨rfl,_,World.drewN_drewN _ _ _⟩|exact ⟨rfl,_,Eq.trans (World.drewN_drewN _ _ _) (congrArg (World.drewN _) (Nat.add_assoc _ _ _))⟩)))
        repeat (go_quiet (first|(go_at_call 60;(with_reducible refine (nuncioref05_texts.calls k _ _ l0_4 _ _ l1_4 true _ ?side1 ?side2 ?side3 ?side4 A10.out).mono ?_);(case side1 => repeat (first|exact (Kd.C_below HR0_4.out HB.out)|(with_reducible refine Kd.C_alloc ?_ _)|(with_reducible refine Kd.C_drewN ?_ _)|(with_reducible refine Kd.C_drew ?_)));(case side2 => exact HC0_4.out);(case side3 => repeat (first|exact (Kd.C_below HR1_4.out HB.out)|(with_reducible refine Kd.C_alloc ?_ _)|(with_reducible refine Kd.C_drewN ?_ _)|(with_reducible refine Kd.C_drew ?_)));(case side4 => exact HC1_4.out);rintro e w' ⟨rfl,⟨nd,rfl⟩⟩;(try first|exact ⟨rfl,_,World.drewN_drewN _ _ _⟩|exact ⟨rfl,_,Eq.trans (World.drewN_drewN _ _ _) (congrArg (World.drewN _) (Nat.add_assoc _ _ _))⟩))|(go_at_call 60;(with_reducible refine (nuncioref05_texts.calls k _ _ l0_6 _ _ l1_6 true _ ?side1 ?side2 ?side3 ?side4 A12.out).mono ?_);(case side1 => repeat (first|exact (Kd.C_below HR0_6.out (by repeat (first|(with_reducible first|exact HB.out|apply qqf|apply qqd|apply qqe|refine qqg ?_ GE287.out|refine qqg ?_ GE288.out)|exact HB.out)))|(with_reducible refine Kd.C_alloc ?_ _)|(with_reducible refine Kd.C_drewN ?_ _)|(with_reducible refine Kd.C_drew ?_)));(case side2 => exact HC0_6.out);(case side3 => repeat (first|exact (Kd.C_below HR1_6.out (by repeat (first|(with_reducible first|exact HB.out|apply qqf|apply qqd|apply qqe|refine qqg ?_ GE287.out|refine qqg ?_ GE288.out)|exact HB.out)))|(with_reducible refine Kd.C_alloc ?_ _)|(with_reducible refine Kd.C_drewN ?_ _)|(with_reducible refine Kd.C_drew ?_)));(case side4 => exact HC1_6.out);rintro e w' ⟨rfl,⟨nd,rfl⟩⟩;(try first|exact ⟨rfl,_,World.drewN_drewN _ _ _⟩|exact ⟨rfl,_,Eq.trans (World.drewN_drewN _ _ _) (congrArg (World.drewN _) (Nat.add_assoc _ _ _))⟩)));try go_wp2_with (first|(go_at_call 60;(with_reducible refine (nuncioref05_texts.calls k _ _ l0_4 _ _ l1_4 true _ ?side1 ?side2 ?side3 ?side4 A10.out).mono ?_);(case side1 => repeat (first|exact (Kd.C_below HR0_4.out HB.out)|(with_reducible refine Kd.C_alloc ?_ _)|(with_reducible refine Kd.C_drewN ?_ _)|(with_reducible refine Kd.C_drew ?_)));(case side2 => exact HC0_4.out);(case side3 => repeat (first|exact (Kd.C_below HR1_4.out HB.out)|(with_reducible refine Kd.C_alloc ?_ _)|(with_reducible refine Kd.C_drewN ?_ _)|(with_reducible refine Kd.C_drew ?_)));(case side4 => exact HC1_4.out);rintro e w' ⟨rfl,⟨nd,rfl⟩⟩;(try first|exact ⟨rfl,_,World.drewN_drewN _ _ _⟩|exact ⟨rfl,_,Eq.trans (World.drewN_drewN _ _ _) (congrArg (World.drewN _) (Nat.add_assoc _ _ _))⟩))|(go_at_call 60;(with_reducible refine (nuncioref05_texts.calls k _ _ l0_6 _ _ l1_6 true _ ?side1 ?side2 ?side3 ?side4 A12.out).mono ?_);(case side1 => repeat (first|exact (Kd.C_below HR0_6.out (by repeat (first|(with_reducible first|exact HB.out|apply qqf|apply qqd|apply qqe|refine qqg ?_ GE287.out|refine qqg ?_ GE288.out)|exact HB.out)))|(with_reducible refine Kd.C_alloc ?_ _)|(with_reducible refine Kd.C_drewN ?_ _)|(with_reducible refine Kd.C_drew ?_)));(case side2 => exact HC0_6.out);(case side3 => repeat (first|exact (Kd.C_below HR1_6.out (by repeat (first|(with_reducible first|exact HB.out|apply qqf|apply qqd|apply qqe|refine qqg ?_ GE287.out|refine qqg ?_ GE288.out)|exact HB.out)))|(with_reducible refine Kd.C_alloc ?_ _)|(with_reducible refine Kd.C_drewN ?_ _)|(with_reducible refine Kd.C_drew ?_)));(case side4 => exact HC1_6.out);rintro e w' ⟨rfl,⟨nd,rfl⟩⟩;(try first|exact ⟨rfl,_,World.drewN_drewN _ _ _⟩|exact ⟨rfl,_,Eq.trans (World.drewN_drewN _ _ _) (congrArg (World.drewN _) (Nat.add_assoc _ _ _))⟩))))
        go_meet
        case rel => exact ⟨_,(((l0_5.length : Int) != (l1_5.length : Int))),(by first|rfl|(simp;done)|(simp [*];done)),H',⟨by first|omega|exact Nat.le_refl _⟩,⟨by (with_reducible repeat first|apply qqa|apply qqb|apply qqc);exact BK287.out⟩,⟨by (with_reducible repeat first|apply qqa|apply qqb|apply qqc);exact BK288.out⟩,⟨by repeat (first|(with_reducible first|exact HB.out|apply qqf|apply qqd|apply qqe|refine qqg ?_ GE287.out|refine qqg ?_ GE288.out)|exact HB.out)⟩⟩
       ·
        replace c13:=Bool.eq_false_iff.mpr c13
        subst c13
        have H1 : (nuncioref05_Same.j0 k true a0_0 a0_1 a0_2 a0_3 l0_4 l0_5 l0_6 a1_0 a1_1 a1_2 a1_3 l1_4 l1_5 l1_6) = some r:=by rw [if_neg (show ¬ (false = true) by decide)] at H;exact H
        clear H
        have H:=H1
        clear H1
        have H':=Aside0.mk H
        clear H
        have hnb17:=NB287_288.out
        have hnc17:=NB288_287.out
        have hcz18_0 : w5.cell? ⟨gb287,0,none⟩ = some (.string a0_0):=(qqh BK287.out 0).trans rfl
        have hcz18_1 : w5.cell? ⟨gb287,1,none⟩ = some (.int .u16 a0_1):=(qqh BK287.out 1).trans rfl
        have hcz18_2 : w5.cell? ⟨gb287,2,none⟩ = some (.int .u16 a0_2):=(qqh BK287.out 2).trans rfl
        have hcz18_3 : w5.cell? ⟨gb287,3,none⟩ = some (.int .u32 a0_3):=(qqh BK287.out 3).trans rfl
        have hcz18_4 : w5.cell? ⟨gb287,4,none⟩ = some (.slice A0_4 l0_4.length c0_4):=(qqh BK287.out 4).trans rfl
        have hcz18_5 : w5.cell? ⟨gb287,5,none⟩ = some (.slice A0_5 l0_5.length c0_5):=(qqh BK287.out 5).trans rfl
        have hcz18_6 : w5.cell? ⟨gb287,6,none⟩ = some (.slice A0_6 l0_6.length c0_6):=(qqh BK287.out 6).trans rfl
        have hfz18_0:=qqi BK287.out 0
        have hfz18_1:=qqi BK287.out 1
        have hfz18_2:=qqi BK287.out 2
        have hfz18_3:=qqi BK287.out 3
        have hfz18_4:=qqi BK287.out 4
        have hfz18_5:=qqi BK287.out 5
        have hfz18_6:=qqi BK287.out 6
        have hcz19_0 : w5.cell? ⟨gb288,0,none⟩ = some (.string a1_0):=(qqh BK288.out 0).trans rfl
        have hcz19_1 : w5.cell? ⟨gb288,1,none⟩ = some (.int .u16 a1_1):=(qqh BK288.out 1).trans rfl
        have hcz19_2 : w5.cell? ⟨gb288,2,none⟩ = some (.int .u16 a1_2):=(qqh BK288.out 2).trans rfl
        have hcz19_3 : w5.cell? ⟨gb288,3,none⟩ = some (.int .u32 a1_3):=(qqh BK288.out 3).trans rfl
        have hcz19_4 : w5.cell? ⟨gb288,4,none⟩ = some (.slice A1_4 l1_4.length c1_4):=(qqh BK288.out 4).trans rfl
        have hcz19_5 : w5.cell? ⟨gb288,5,none⟩ = some (.slice A1_5 l1_5.length c1_5):=(qqh BK288.out 5).trans rfl
        have hcz19_6 : w5.cell? ⟨gb288,6,none⟩ = some (.slice A1_6 l1_6.length c1_6):=(qqh BK288.out 6).trans rfl
        have hfz19_0:=qqi BK288.out 0
        have hfz19_1:=qqi BK288.out 1
        have hfz19_2:=qqi BK288.out 2
        have hfz19_3:=qqi BK288.out 3
        have hfz19_4:=qqi BK288.out 4
        have hfz19_5:=qqi BK288.out 5
        have hfz19_6:=qqi BK288.out 6
        go_wp2_with (first|(go_at_call 60;(with_reducible refine (nuncioref05_texts.calls k _ _ l0_4 _ _ l1_4 true _ ?side1 ?side2 ?side3 ?side4 A10.out).mono ?_);(case side1 => repeat (first|exact (Kd.C_below HR0_4.out HB.out)|(with_reducible refine Kd.C_alloc ?_ _)|(with_reducible refine Kd.C_drewN ?_ _)|(with_reducible refine Kd.C_drew ?_)));(case side2 => exact HC0_4.out);(case side3 => repeat (first|exact (Kd.C_below HR1_4.out HB.out)|(with_reducible refine Kd.C_alloc ?_ _)|(with_reducible refine Kd.C_drewN ?_ _)|(with_reducible refine Kd.C_drew ?_)));(case side4 => exact HC1_4.out);rintro e w' ⟨rfl,⟨nd,rfl⟩⟩;(try first|exact ⟨rfl,_,World.drewN_drewN _ _ _⟩|exact ⟨rfl,_,Eq.trans (World.drewN_drewN _ _ _) (congrArg (World.drewN _) (Nat.add_assoc _ _ _))⟩))|(go_at_call 60;(with_reducible refine (nuncioref05_texts.calls k _ _ l0_6 _ _ l1_6 false _ ?side1 ?side2 ?side3 ?side4 A12.out).mono ?_);(case side1 => repeat (first|exact (Kd.C_below HR0_6.out (by repeat (first|(with_reducible first|exact HB.out|apply qqf|apply qqd|apply qqe|refine qqg ?_ GE287.out|refine qqg ?_ GE288.out)|exact HB.out)))|(with_reducible refine Kd.C_alloc ?_ _)|(with_reducible refine Kd.C_drewN ?_ _)|(with_reducible refine Kd.C_drew ?_)));(case side2 => exact HC0_6.out);(case side3 => repeat (first|exact (Kd.C_below HR1_6.out (by repeat (first|(with_reducible first|exact HB.out|apply qqf|apply qqd|apply qqe|refine qqg ?_ GE287.out|refine qqg ?_ GE288.out)|exact HB.out)))|(with_reducible refine Kd.C_alloc ?_ _)|(with_reducible refine Kd.C_drewN ?_ _)|(with_reducible refine Kd.C_drew ?_)));(case side4 => exact HC1_6.out);rintro e w' ⟨rfl,⟨nd,rfl⟩⟩;(try first|exact ⟨rfl,_,World.drewN_drewN _ _ _⟩|exact ⟨rfl,_,Eq.trans (World.drewN_drewN _ _ _) (congrArg (World.drewN _) (Nat.add_assoc _ _ _))⟩)))
        repeat (go_quiet (first|(go_at_call 60;(with_reducible refine (nuncioref05_texts.calls k _ _ l0_4 _ _ l1_4 true _ ?side1 ?side2 ?side3 ?side4 A10.out).mono ?_);(case side1 => repeat (first|exact (Kd.C_below HR0_4.out HB.out)|(with_reducible refine Kd.C_alloc ?_ _)|(with_reducible refine Kd.C_drewN ?_ _)|(with_reducible refine Kd.C_drew ?_)));(case side2 => exact HC0_4.out);(case side3 => repeat (first|exact (Kd.C_below HR1_4.out HB.out)|(with_reducible refine Kd.C_alloc ?_ _)|(with_reducible refine Kd.C_drewN ?_ _)|(with_reducible refine Kd.C_drew ?_)));(case side4 => exact HC1_4.out);rintro e w' ⟨rfl,⟨nd,rfl⟩⟩;(try first|exact ⟨rfl,_,World.drewN_drewN _ _ _⟩|exact ⟨rfl,_,Eq.trans (World.drewN_drewN _ _ _) (congrArg (World.drewN _) (Nat.add_assoc _ _ _))⟩))|(go_at_call 60;(with_reducible refine (nuncioref05_texts.calls k _ _ l0_6 _ _ l1_6 false _ ?side1 ?side2 ?side3 ?side4 A12.out).mono ?_);(case side1 => repeat (first|exact (Kd.C_below HR0_6.out (by repeat (first|(with_reducible first|exact HB.out|apply qqf|apply qqd|apply qqe|refine qqg ?_ GE287.out|refine qqg ?_ GE288.out)|exact HB.out)))|(with_reducible refine Kd.C_alloc ?_ _)|(with_reducible refine Kd.C_drewN ?_ _)|(with_reducible refine Kd.C_drew ?_)));(case side2 => exact HC0_6.out);(case side3 => repeat (first|exact (Kd.C_below HR1_6.out (by repeat (first|(with_reducible first|exact HB.out|apply qqf|apply qqd|apply qqe|refine qqg ?_ GE287.out|refine qqg ?_ GE288.out)|exact HB.out)))|(with_reducible refine Kd.C_alloc ?_ _)|(with_reducible refine Kd.C_drewN ?_ _)|(with_reducible refine Kd.C_drew ?_)));(case side4 => exact HC1_6.out);rintro e w' ⟨rfl,⟨nd,rfl⟩⟩;(try first|exact ⟨rfl,_,World.drewN_drewN _ _ _⟩|exact ⟨rfl,_,Eq.trans (World.drewN_drewN _ _ _) (congrArg (World.drewN _) (Nat.add_assoc _ _ _))⟩)));try go_wp2_with (first|(go_at_call 60;(with_reducible refine (nuncioref05_texts.calls k _ _ l0_4 _ _ l1_4 true _ ?side1 ?side2 ?side3 ?side4 A10.out).mono ?_);(case side1 => repeat (first|exact (Kd.C_below HR0_4.out HB.out)|(with_reducible refine Kd.C_alloc ?_ _)|(with_reducible refine Kd.C_drewN ?_ _)|(with_reducible refine Kd.C_drew ?_)));(case side2 => exact HC0_4.out);(case side3 => repeat (first|exact (Kd.C_below HR1_4.out HB.out)|(with_reducible refine Kd.C_alloc ?_ _)|(with_reducible refine Kd.C_drewN ?_ _)|(with_reducible refine Kd.C_drew ?_)));(case side4 => exact HC1_4.out);rintro e w' ⟨rfl,⟨nd,rfl⟩⟩;(try first|exact ⟨rfl,_,World.drewN_drewN _ _ _⟩|exact ⟨rfl,_,Eq.trans (World.drewN_drewN _ _ _) (congrArg (World.drewN _) (Nat.add_assoc _ _ _))⟩))|(go_at_call 60;(with_reducible refine (nuncioref05_texts.calls k _ _ l0_6 _ _ l1_6 false _ ?side1 ?side2 ?side3 ?side4 A12.out).mono ?_);(case side1 => repeat (first|exact (Kd.C_below HR0_6.out (by repeat (first|(with_reducible first|exact HB.out|apply qqf|apply qqd|apply qqe|refine qqg ?_ GE287.out|refine qqg ?_ GE288.out)|exact HB.out)))|(with_reducible refine Kd.C_alloc ?_ _)|(with_reducible refine Kd.C_drewN ?_ _)|(with_reducible refine Kd.C_drew ?_)));(case side2 => exact HC0_6.out);(case side3 => repeat (first|exact (Kd.C_below HR1_6.out (by repeat (first|(with_reducible first|exact HB.out|apply qqf|apply qqd|apply qqe|refine qqg ?_ GE287.out|refine qqg ?_ GE288.out)|exact HB.out)))|(with_reducible refine Kd.C_alloc ?_ _)|(with_reducible refine Kd.C_drewN ?_ _)|(with_reducible refine Kd.C_drew ?_)));(case side4 => exact HC1_6.out);rintro e w' ⟨rfl,⟨nd,rfl⟩⟩;(try first|exact ⟨rfl,_,World.drewN_drewN _ _ _⟩|exact ⟨rfl,_,Eq.trans (World.drewN_drewN _ _ _) (congrArg (World.drewN _) (Nat.add_assoc _ _ _))⟩))))
        go_meet
        case rel => exact ⟨_,(true),(by first|rfl|(simp;done)|(simp [*];done)),H',⟨by first|omega|exact Nat.le_refl _⟩,⟨by (with_reducible repeat first|apply qqa|apply qqb|apply qqc);exact BK287.out⟩,⟨by (with_reducible repeat first|apply qqa|apply qqb|apply qqc);exact BK288.out⟩,⟨by repeat (first|(with_reducible first|exact HB.out|apply qqf|apply qqd|apply qqe|refine qqg ?_ GE287.out|refine qqg ?_ GE288.out)|exact HB.out)⟩⟩
      ·
       replace c11:=Bool.eq_false_iff.mpr c11
       subst c11
       have H1 : (nuncioref05_Same.j0 k true a0_0 a0_1 a0_2 a0_3 l0_4 l0_5 l0_6 a1_0 a1_1 a1_2 a1_3 l1_4 l1_5 l1_6) = some r:=by rw [if_neg (show ¬ (false = true) by decide)] at H;exact H
       clear H
       have H:=H1
       clear H1
       have H':=Aside0.mk H
       clear H
       have hnb20:=NB287_288.out
       have hnc20:=NB288_287.out
       have hcz21_0 : w5.cell? ⟨gb287,0,none⟩ = some (.string a0_0):=(qqh BK287.out 0).trans rfl
       have hcz21_1 : w5.cell? ⟨gb287,1,none⟩ = some (.int .u16 a0_1):=(qqh BK287.out 1).trans rfl
       have hcz21_2 : w5.cell? ⟨gb287,2,none⟩ = some (.int .u16 a0_2):=(qqh BK287.out 2).trans rfl
       have hcz21_3 : w5.cell? ⟨gb287,3,none⟩ = some (.int .u32 a0_3):=(qqh BK287.out 3).trans rfl
       have hcz21_4 : w5.cell? ⟨gb287,4,none⟩ = some (.slice A0_4 l0_4.length c0_4):=(qqh BK287.out 4).trans rfl
       have hcz21_5 : w5.cell? ⟨gb287,5,none⟩ = some (.slice A0_5 l0_5.length c0_5):=(qqh BK287.out 5).trans rfl
       have hcz21_6 : w5.cell? ⟨gb287,6,none⟩ = some (.slice A0_6 l0_6.length c0_6):=(qqh BK287.out 6).trans rfl
       have hfz21_0:=qqi BK287.out 0
       have hfz21_1:=qqi BK287.out 1
       have hfz21_2:=qqi BK287.out 2
       have hfz21_3:=qqi BK287.out 3
       have hfz21_4:=qqi BK287.out 4
       have hfz21_5:=qqi BK287.out 5
       have hfz21_6:=qqi BK287.out 6
       have hcz22_0 : w5.cell? ⟨gb288,0,none⟩ = some (.string a1_0):=(qqh BK288.out 0).trans rfl
       have hcz22_1 : w5.cell? ⟨gb288,1,none⟩ = some (.int .u16 a1_1):=(qqh BK288.out 1).trans rfl
       have hcz22_2 : w5.cell? ⟨gb288,2,none⟩ = some (.int .u16 a1_2):=(qqh BK288.out 2).trans rfl
       have hcz22_3 : w5.cell? ⟨gb288,3,none⟩ = some (.int .u32 a1_3):=(qqh BK288.out 3).trans rfl
       have hcz22_4 : w5.cell? ⟨gb288,4,none⟩ = some (.slice A1_4 l1_4.length c1_4):=(qqh BK288.out 4).trans rfl
       have hcz22_5 : w5.cell? ⟨gb288,5,none⟩ = some (.slice A1_5 l1_5.length c1_5):=(qqh BK288.out 5).trans rfl
       have hcz22_6 : w5.cell? ⟨gb288,6,none⟩ = some (.slice A1_6 l1_6.length c1_6):=(qqh BK288.out 6).trans rfl
       have hfz22_0:=qqi BK288.out 0
       have hfz22_1:=qqi BK288.out 1
       have hfz22_2:=qqi BK288.out 2
       have hfz22_3:=qqi BK288.out 3
       have hfz22_4:=qqi BK288.out 4
       have hfz22_5:=qqi BK288.out 5
       have hfz22_6:=qqi BK288.out 6
       go_wp2_with (first|(go_at_call 60;(with_reducible refine (nuncioref05_texts.calls k _ _ l0_4 _ _ l1_4 false _ ?side1 ?side2 ?side3 ?side4 A10.out).mono ?_);(case side1 => repeat (first|exact (Kd.C_below HR0_4.out HB.out)|(with_reducible refine Kd.C_alloc ?_ _)|(with_reducible refine Kd.C_drewN ?_ _)|(with_reducible refine Kd.C_drew ?_)));(case side2 => exact HC0_4.out);(case side3 => repeat (first|exact (Kd.C_below HR1_4.out HB.out)|(with_reducible refine Kd.C_alloc ?_ _)|(with_reducible refine Kd.C_drewN ?_ _)|(with_reducible refine Kd.C_drew ?_)));(case side4 => exact HC1_4.out);rintro e w' ⟨rfl,⟨nd,rfl⟩⟩;(try first|exact ⟨rfl,_,World.drewN_drewN _ _ _⟩|exact ⟨rfl,_,Eq.trans (World.drewN_drewN _ _ _) (congrArg (World.drewN _) (Nat.add_assoc _ _ _))⟩)))
       repeat (go_quiet (first|(go_at_call 60;(with_reducible refine (nuncioref05_texts.calls k _ _ l0_4 _ _ l1_4 false _ ?side1 ?side2 ?side3 ?side4 A10.out).mono ?_);(case side1 => repeat (first|exact (Kd.C_below HR0_4.out HB.out)|(with_reducible refine Kd.C_alloc ?_ _)|(with_reducible refine Kd.C_drewN ?_ _)|(with_reducible refine Kd.C_drew ?_)));(case side2 => exact HC0_4.out);(case side3 => repeat (first|exact (Kd.C_below HR1_4.out HB.out)|(with_reducible refine Kd.C_alloc ?_ _)|(with_reducible refine Kd.C_drewN ?_ _)|(with_reducible refine Kd.C_drew ?_)));(case side4 => exact HC1_4.out);rintro e w' ⟨rfl,⟨nd,rfl⟩⟩;(try first|exact ⟨rfl,_,World.drewN_drewN _ _ _⟩|exact ⟨rfl,_,Eq.trans (World.drewN_drewN _ _ _) (congrArg (World.drewN _) (Nat.add_assoc _ _ _))⟩)));try go_wp2_with (first|(go_at_call 60;(with_reducible refine (nuncioref05_texts.calls k _ _ l0_4 _ _ l1_4 false _ ?side1 ?side2 ?side3 ?side4 A10.out).mono ?_);(case side1 => repeat (first|exact (Kd.C_below HR0_4.out HB.out)|(with_reducible refine Kd.C_alloc ?_ _)|(with_reducible refine Kd.C_drewN ?_ _)|(with_reducible refine Kd.C_drew ?_)));(case side2 => exact HC0_4.out);(case side3 => repeat (first|exact (Kd.C_below HR1_4.out HB.out)|(with_reducible refine Kd.C_alloc ?_ _)|(with_reducible refine Kd.C_drewN ?_ _)|(with_reducible refine Kd.C_drew ?_)));(case side4 => exact HC1_4.out);rintro e w' ⟨rfl,⟨nd,rfl⟩⟩;(try first|exact ⟨rfl,_,World.drewN_drewN _ _ _⟩|exact ⟨rfl,_,Eq.trans (World.drewN_drewN _ _ _) (congrArg (World.drewN _) (Nat.add_assoc _ _ _))⟩))))
       go_meet
       case rel => exact ⟨_,(true),(by first|rfl|(simp;done)|(simp [*];done)),H',⟨by first|omega|exact Nat.le_refl _⟩,⟨by (with_reducible repeat first|apply qqa|apply qqb|apply qqc);exact BK287.out⟩,⟨by (with_reducible repeat first|apply qqa|apply qqb|apply qqc);exact BK288.out⟩,⟨by repeat (first|(with_reducible first|exact HB.out|apply qqf|apply qqd|apply qqe|refine qqg ?_ GE287.out|refine qqg ?_ GE288.out)|exact HB.out)⟩⟩
     ·
      rw [if_neg c9] at H
      have c9b0 : (a0_3 == a1_3) = false:=beq_eq_false_iff_ne.mpr c9
      have c9b1 : (a0_3 != a1_3) = true:=bne_iff_ne.mpr c9
      have H':=Aside0.mk H
      clear H
      have hnb23:=NB287_288.out
      have hnc23:=NB288_287.out
      have hcz24_0 : w5.cell? ⟨gb287,0,none⟩ = some (.string a0_0):=(qqh BK287.out 0).trans rfl
      have hcz24_1 : w5.cell? ⟨gb287,1,none⟩ = some (.int .u16 a0_1):=(qqh BK287.out 1).trans rfl
      have hcz24_2 : w5.cell? ⟨gb287,2,none⟩ = some (.int .u16 a0_2):=(qqh BK287.out 2).trans rfl
      have hcz24_3 : w5.cell? ⟨gb287,3,none⟩ = some (.int .u32 a0_3):=(qqh BK287.out 3).trans rfl
      have hcz24_4 : w5.cell? ⟨gb287,4,none⟩ = some (.slice A0_4 l0_4.length c0_4):=(qqh BK287.out 4).trans rfl
      have hcz24_5 : w5.cell? ⟨gb287,5,none⟩ = some (.slice A0_5 l0_5.length c0_5):=(qqh BK287.out 5).trans rfl
      have hcz24_6 : w5.cell? ⟨gb287,6,none⟩ = some (.slice A0_6 l0_6.length c0_6):=(qqh BK287.out 6).trans rfl
      have hfz24_0:=qqi BK287.out 0
      have hfz24_1:=qqi BK287.out 1
      have hfz24_2:=qqi BK287.out 2
      have hfz24_3:=qqi BK287.out 3
      have hfz24_4:=qqi BK287.out 4
      have hfz24_5:=qqi BK287.out 5
      have hfz24_6:=qqi BK287.out 6
      have hcz25_0 : w5.cell? ⟨gb288,0,none⟩ = some (.string a1_0):=(qqh BK288.out 0).trans rfl
      have hcz25_1 : w5.cell? ⟨gb288,1,none⟩ = some (.int .u16 a1_1):=(qqh BK288.out 1).trans rfl
      have hcz25_2 : w5.cell? ⟨gb288,2,none⟩ = some (.int .u16 a1_2):=(qqh BK288.out 2).trans rfl
      have hcz25_3 : w5.cell? ⟨gb288,3,none⟩ = some (.int .u32 a1_3):=(qqh BK288.out 3).trans rfl
      have hcz25_4 : w5.cell? ⟨gb288,4,none⟩ = some (.slice A1_4 l1_4.length c1_4):=(qqh BK288.out 4).trans rfl
      have hcz25_5 : w5.cell? ⟨gb288,5,none⟩ = some (.slice A1_5 l1_5.length c1_5):=(qqh BK288.out 5).trans rfl
      have hcz25_6 : w5.cell? ⟨gb288,6,none⟩ = some (.slice A1_6 l1_6.length c1_6):=(qqh BK288.out 6).trans rfl
      have hfz25_0:=qqi BK288.out 0
      have hfz25_1:=qqi BK288.out 1
      have hfz25_2:=qqi BK288.out 2
      have hfz25_3:=qqi BK288.out 3
      have hfz25_4:=qqi BK288.out 4
      have hfz25_5:=qqi BK288.out 5
      have hfz25_6:=qqi BK288.out 6
      go_wp2
      repeat (go_quiet (fail);try go_wp2)
      go_meet
      case rel => exact ⟨_,(true),(by first|rfl|(simp;done)|(simp [*];done)),H',⟨by first|omega|exact Nat.le_refl _⟩,⟨by (with_reducible repeat first|apply qqa|apply qqb|apply qqc);exact BK287.out⟩,⟨by (with_reducible repeat first|apply qqa|apply qqb|apply qqc);exact BK288.out⟩,⟨by repeat (first|(with_reducible first|exact HB.out|apply qqf|apply qqd|apply qqe|refine qqg ?_ GE287.out|refine qqg ?_ GE288.out)|exact HB.out)⟩⟩
    ·
     rw [if_neg c8] at H
     have c8b0 : (a0_2 == a1_2) = false:=beq_eq_false_iff_ne.mpr c8
     have c8b1 : (a0_2 != a1_2) = true:=bne_iff_ne.mpr c8
     have H':=Aside0.mk H
     clear H
     have hnb26:=NB287_288.out
     have hnc26:=NB288_287.out
     have hcz27_0 : w5.cell? ⟨gb287,0,none⟩ = some (.string a0_0):=(qqh BK287.out 0).trans rfl
     have hcz27_1 : w5.cell? ⟨gb287,1,none⟩ = some (.int .u16 a0_1):=(qqh BK287.out 1).trans rfl
     have hcz27_2 : w5.cell? ⟨gb287,2,none⟩ = some (.int .u16 a0_2):=(qqh BK287.out 2).trans rfl
     have hcz27_3 : w5.cell? ⟨gb287,3,none⟩ = some (.int .u32 a0_3):=(qqh BK287.out 3).trans rfl
     have hcz27_4 : w5.cell? ⟨gb287,4,none⟩ = some (.slice A0_4 l0_4.length c0_4):=(qqh BK287.out 4).trans rfl
     have hcz27_5 : w5.cell? ⟨gb287,5,none⟩ = some (.slice A0_5 l0_5.length c0_5):=(qqh BK287.out 5).trans rfl
     have hcz27_6 : w5.cell? ⟨gb287,6,none⟩ = some (.slice A0_6 l0_6.length c0_6):=(qqh BK287.out 6).trans rfl
     have hfz27_0:=qqi BK287.out 0
     have hfz27_1:=qqi BK287.out 1
     have hfz27_2:=qqi BK287.out 2
     have hfz27_3:=qqi BK287.out 3
     have hfz27_4:=qqi BK287.out 4
     have hfz27_5:=qqi BK287.out 5
     have hfz27_6:=qqi BK287.out 6
     have hcz28_0 : w5.cell? ⟨gb288,0,none⟩ = some (.string a1_0):=(qqh BK288.out 0).trans rfl
     have hcz28_1 : w5.cell? ⟨gb288,1,none⟩ = some (.int .u16 a1_1):=(qqh BK288.out 1).trans rfl
     have hcz28_2 : w5.cell? ⟨gb288,2,none⟩ = some (.int .u16 a1_2):=(qqh BK288.out 2).trans rfl
     have hcz28_3 : w5.cell? ⟨gb288,3,none⟩ = some (.int .u32 a1_3):=(qqh BK288.out 3).trans rfl
     have hcz28_4 : w5.cell? ⟨gb288,4,none⟩ = some (.slice A1_4 l1_4.length c1_4):=(qqh BK288.out 4).trans rfl
     have hcz28_5 : w5.cell? ⟨gb288,5,none⟩ = some (.slice A1_5 l1_5.length c1_5):=(qqh BK288.out 5).trans rfl
     have hcz28_6 : w5.cell? ⟨gb288,6,none⟩ = some (.slice A1_6 l1_6.length c1_6):=(qqh BK288.out 6).trans rfl
     have hfz28_0:=qqi BK288.out 0
     have hfz28_1:=qqi BK288.out 1
     have hfz28_2:=qqi BK288.out 2
     have hfz28_3:=qqi BK288.out 3
     have hfz28_4:=qqi BK288.out 4
     have hfz28_5:=qqi BK288.out 5
     have hfz28_6:=qqi BK288.out 6
     go_wp2
     repeat (go_quiet (fail);try go_wp2)
     go_meet
     case rel => exact ⟨_,(true),(by first|rfl|(simp;done)|(simp [*];done)),H',⟨by first|omega|exact Nat.le_refl _⟩,⟨by (with_reducible repeat first|apply qqa|apply qqb|apply qqc);exact BK287.out⟩,⟨by (with_reducible repeat first|apply qqa|apply qqb|apply qqc);exact BK288.out⟩,⟨by repeat (first|(with_reducible first|exact HB.out|apply qqf|apply qqd|apply qqe|refine qqg ?_ GE287.out|refine qqg ?_ GE288.out)|exact HB.out)⟩⟩
   ·
    rw [if_neg c7] at H
    have c7b0 : (a0_1 == a1_1) = false:=beq_eq_false_iff_ne.mpr c7
    have c7b1 : (a0_1 != a1_1) = true:=bne_iff_ne.mpr c7
    have H':=Aside0.mk H
    clear H
    have hnb29:=NB287_288.out
    have hnc29:=NB288_287.out
    have hcz30_0 : w5.cell? ⟨gb287,0,none⟩ = some (.string a0_0):=(qqh BK287.out 0).trans rfl
    have hcz30_1 : w5.cell? ⟨gb287,1,none⟩ = some (.int .u16 a0_1):=(qqh BK287.out 1).trans rfl
    have hcz30_2 : w5.cell? ⟨gb287,2,none⟩ = some (.int .u16 a0_2):=(qqh BK287.out 2).trans rfl
    have hcz30_3 : w5.cell? ⟨gb287,3,none⟩ = some (.int .u32 a0_3):=(qqh BK287.out 3).trans rfl
    have hcz30_4 : w5.cell? ⟨gb287,4,none⟩ = some (.slice A0_4 l0_4.length c0_4):=(qqh BK287.out 4).trans rfl
    have hcz30_5 : w5.cell? ⟨gb287,5,none⟩ = some (.slice A0_5 l0_5.length c0_5):=(qqh BK287.out 5).trans rfl
    have hcz30_6 : w5.cell? ⟨gb287,6,none⟩ = some (.slice A0_6 l0_6.length c0_6):=(qqh BK287.out 6).trans rfl
    have hfz30_0:=qqi BK287.out 0
    have hfz30_1:=qqi BK287.out 1
    have hfz30_2:=qqi BK287.out 2
    have hfz30_3:=qqi BK287.out 3
    have hfz30_4:=qqi BK287.out 4
    have hfz30_5:=qqi BK287.out 5
    have hfz30_6:=qqi BK287.out 6
    have hcz31_0 : w5.cell? ⟨gb288,0,none⟩ = some (.string a1_0):=(qqh BK288.out 0).trans rfl
    have hcz31_1 : w5.cell? ⟨gb288,1,none⟩ = some (.int .u16 a1_1):=(qqh BK288.out 1).trans rfl
    have hcz31_2 : w5.cell? ⟨gb288,2,none⟩ = some (.int .u16 a1_2):=(qqh BK288.out 2).trans rfl
    have hcz31_3 : w5.cell? ⟨gb288,3,none⟩ = some (.int .u32 a1_3):=(qqh BK288.out 3).trans rfl
    have hcz31_4 : w5.cell? ⟨gb288,4,none⟩ = some (.slice A1_4 l1_4.length c1_4):=(qqh BK288.out 4).trans rfl
    have hcz31_5 : w5.cell? ⟨gb288,5,none⟩ = some (.slice A1_5 l1_5.length c1_5):=(qqh BK288.out 5).trans rfl
    have hcz31_6 : w5.cell? ⟨gb288,6,none⟩ = some (.slice A1_6 l1_6.length c1_6):=(qqh BK288.out 6).trans rfl
    have hfz31_0:=qqi BK288.out 0
    have hfz31_1:=qqi BK288.out 1
    have hfz31_2:=qqi BK288.out 2
    have hfz31_3:=qqi BK288.out 3
    have hfz31_4:=qqi BK288.out 4
    have hfz31_5:=qqi BK288.out 5
    have hfz31_6:=qqi BK288.out 6
    go_wp2
    repeat (go_quiet (fail);try go_wp2)
    go_meet
    case rel => exact ⟨_,(true),(by first|rfl|(simp;done)|(simp [*];done)),H',⟨by first|omega|exact Nat.le_refl _⟩,⟨by (with_reducible repeat first|apply qqa|apply qqb|apply qqc);exact BK287.out⟩,⟨by (with_reducible repeat first|apply qqa|apply qqb|apply qqc);exact BK288.out⟩,⟨by repeat (first|(with_reducible first|exact HB.out|apply qqf|apply qqd|apply qqe|refine qqg ?_ GE287.out|refine qqg ?_ GE288.out)|exact HB.out)⟩⟩
  ·
   rw [if_neg c6] at H
   have c6b0 : (a0_0.toList == a1_0.toList) = false:=beq_eq_false_iff_ne.mpr c6
   have c6b1 : (a0_0.toList != a1_0.toList) = true:=bne_iff_ne.mpr c6
   (first|rw [c6b0]|rw [c6b1]|(simp only [i64_w,i32_w];rw [c6b0])|skip)
   have H':=Aside0.mk H
   clear H
   have hnb32:=NB287_288.out
   have hnc32:=NB288_287.out
   have hcz33_0 : w5.cell? ⟨gb287,0,none⟩ = some (.string a0_0):=(qqh BK287.out 0).trans rfl
   have hcz33_1 : w5.cell? ⟨gb287,1,none⟩ = some (.int .u16 a0_1):=(qqh BK287.out 1).trans rfl
   have hcz33_2 : w5.cell? ⟨gb287,2,none⟩ = some (.int .u16 a0_2):=(qqh BK287.out 2).trans rfl
   have hcz33_3 : w5.cell? ⟨gb287,3,none⟩ = some (.int .u32 a0_3):=(qqh BK287.out 3).trans rfl
   have hcz33_4 : w5.cell? ⟨gb287,4,none⟩ = some (.slice A0_4 l0_4.length c0_4):=(qqh BK287.out 4).trans rfl
   have hcz33_5 : w5.cell? ⟨gb287,5,none⟩ = some (.slice A0_5 l0_5.length c0_5):=(qqh BK287.out 5).trans rfl
   have hcz33_6 : w5.cell? ⟨gb287,6,none⟩ = some (.slice A0_6 l0_6.length c0_6):=(qqh BK287.out 6).trans rfl
   have hfz33_0:=qqi BK287.out 0
   have hfz33_1:=qqi BK287.out 1
   have hfz33_2:=qqi BK287.out 2
   have hfz33_3:=qqi BK287.out 3
   have hfz33_4:=qqi BK287.out 4
   have hfz33_5:=qqi BK287.out 5
   have hfz33_6:=qqi BK287.out 6
   have hcz34_0 : w5.cell? ⟨gb288,0,none⟩ = some (.string a1_0):=(qqh BK288.out 0).trans rfl
   have hcz34_1 : w5.cell? ⟨gb288,1,none⟩ = some (.int .u16 a1_1):=(qqh BK288.out 1).trans rfl
   have hcz34_2 : w5.cell? ⟨gb288,2,none⟩ = some (.int .u16 a1_2):=(qqh BK288.out 2).trans rfl
   have hcz34_3 : w5.cell? ⟨gb288,3,none⟩ = some (.int .u32 a1_3):=(qqh BK288.out 3).trans rfl
   have hcz34_4 : w5.cell? ⟨gb288,4,none⟩ = some (.slice A1_4 l1_4.length c1_4):=(qqh BK288.out 4).trans rfl
   have hcz34_5 : w5.cell? ⟨gb288,5,none⟩ = some (.slice A1_5 l1_5.length c1_5):=(qqh BK288.out 5).trans rfl
   have hcz34_6 : w5.cell? ⟨gb288,6,none⟩ = some (.slice A1_6 l1_6.length c1_6):=(qqh BK288.out 6).trans rfl
   have hfz34_0:=qqi BK288.out 0
   have hfz34_1:=qqi BK288.out 1
   have hfz34_2:=qqi BK288.out 2
   have hfz34_3:=qqi BK288.out 3
   have hfz34_4:=qqi BK288.out 4
   have hfz34_5:=qqi BK288.out 5
   have hfz34_6:=qqi BK288.out 6
   go_wp2
   repeat (go_quiet (fail);try go_wp2)
   go_meet
   case rel => exact ⟨_,(true),(by first|rfl|(simp;done)|(simp [*];done)),H',⟨by first|omega|exact Nat.le_refl _⟩,⟨by (with_reducible repeat first|apply qqa|apply qqb|apply qqc);exact BK287.out⟩,⟨by (with_reducible repeat first|apply qqa|apply qqb|apply qqc);exact BK288.out⟩,⟨by repeat (first|(with_reducible first|exact HB.out|apply qqf|apply qqd|apply qqe|refine qqg ?_ GE287.out|refine qqg ?_ GE288.out)|exact HB.out)⟩⟩
 case rest =>
  clear HC3
  try clear c1
  try clear c2
  try clear p2
  try clear c3
  try clear c5
  try clear c6
  try clear c6b0
  try clear c6b1
  try clear c7
  try clear c7b0
  try clear c7b1
  try clear c8
  try clear c8b0
  try clear c8b1
  try clear c9
  try clear c9b0
  try clear c9b1
  try clear c11
  try clear c13
  try clear c14
  try clear c17
  try clear c20
  try clear c23
  try clear c26
  try clear c29
  try clear c32
  try clear hcz15_0
  try clear hcz15_1
  try clear hcz15_2
  try clear hcz15_3
  try clear hcz15_4
  try clear hcz15_5
  try clear hcz15_6
  try clear hcz16_0
  try clear hcz16_1
  try clear hcz16_2
  try clear hcz16_3
  try clear hcz16_4
  try clear hcz16_5
  try clear hcz16_6
  try clear hcz18_0
  try clear hcz18_1
  try clear hcz18_2
  try clear hcz18_3
  try clear hcz18_4
  try clear hcz18_5
  try clear hcz18_6
  try clear hcz19_0
  try clear hcz19_1
  try clear hcz19_2
  try clear hcz19_3
  try clear hcz19_4
  try clear hcz19_5
  try clear hcz19_6
  try clear hcz21_0
  try clear hcz21_1
  try clear hcz21_2
  try clear hcz21_3
  try clear hcz21_4
  try clear hcz21_5
  try clear hcz21_6
  try clear hcz22_0
  try clear hcz22_1
  try clear hcz22_2
  try clear hcz22_3
  try clear hcz22_4
  try clear hcz22_5
  try clear hcz22_6
  try clear hcz24_0
  try clear hcz24_1
  try clear hcz24_2
  try clear hcz24_3
  try clear hcz24_4
  try clear hcz24_5
  try clear hcz24_6
  try clear hcz25_0
  try clear hcz25_1
  try clear hcz25_2
  try clear hcz25_3
  try clear hcz25_4
  try clear hcz25_5
  try clear hcz25_6
  try clear hcz27_0
  try clear hcz27_1
  try clear hcz27_2
  try clear hcz27_3
  try clear hcz27_4
  try clear hcz27_5
  try clear hcz27_6
  try clear hcz28_0
  try clear hcz28_1
  try clear hcz28_2
  try clear hcz28_3
  try clear hcz28_4
  try clear hcz28_5
  try clear hcz28_6
  try clear hcz30_0
  try clear hcz30_1
  try clear hcz30_2
  try clear hcz30_3
  try clear hcz30_4
  try clear hcz30_5
  try clear hcz30_6
  try clear hcz31_0
  try clear hcz31_1
  try clear hcz31_2
  try clear hcz31_3
  try clear hcz31_4
  try clear hcz31_5
  try clear hcz31_6
  try clear hcz33_0
  try clear hcz33_1
  try clear hcz33_2
  try clear hcz33_3
  try clear hcz33_4
  try clear hcz33_5
  try clear hcz33_6
  try clear hcz34_0
  try clear hcz34_1
  try clear hcz34_2
  try clear hcz34_3
  try clear hcz34_4
  try clear hcz34_5
  try clear hcz34_6
  try clear hfz15_0
  try clear hfz15_1
  try clear hfz15_2
  try clear hfz15_3
  try clear hfz15_4
  try clear hfz15_5
  try clear hfz15_6
  try clear hfz16_0
  try clear hfz16_1
  try clear hfz16_2
  try clear hfz16_3
  try clear hfz16_4
  try clear hfz16_5
  try clear hfz16_6
  try clear hfz18_0
  try clear hfz18_1
  try clear hfz18_2
  try clear hfz18_3
  try clear hfz18_4
  try clear hfz18_5
  try clear hfz18_6
  try clear hfz19_0
  try clear hfz19_1
  try clear hfz19_2
  try clear hfz19_3
  try clear hfz19_4
  try clear hfz19_5
  try clear hfz19_6
  try clear hfz21_0
  try clear hfz21_1
  try clear hfz21_2
  try clear hfz21_3
  try clear hfz21_4
  try clear hfz21_5
  try clear hfz21_6
  try clear hfz22_0
  try clear hfz22_1
  try clear hfz22_2
  try clear hfz22_3
  try clear hfz22_4
  try clear hfz22_5
  try clear hfz22_6
  try clear hfz24_0
  try clear hfz24_1
  try clear hfz24_2
  try clear hfz24_3
  try clear hfz24_4
  try clear hfz24_5
  try clear hfz24_6
  try clear hfz25_0
  try clear hfz25_1
  try clear hfz25_2
  try clear hfz25_3
  try clear hfz25_4
  try clear hfz25_5
  try clear hfz25_6
  try clear hfz27_0
  try clear hfz27_1
  try clear hfz27_2
  try clear hfz27_3
  try clear hfz27_4
  try clear hfz27_5
  try clear hfz27_6
  try clear hfz28_0
  try clear hfz28_1
  try clear hfz28_2
  try clear hfz28_3
  try clear hfz28_4
  try clear hfz28_5
  try clear hfz28_6
  try clear hfz30_0
  try clear hfz30_1
  try clear hfz30_2
  try clear hfz30_3
  try clear hfz30_4
  try clear hfz30_5
  try clear hfz30_6
  try clear hfz31_0
  try clear hfz31_1
  try clear hfz31_2
  try clear hfz31_3
  try clear hfz31_4
  try clear hfz31_5
  try clear hfz31_6
  try clear hfz33_0
  try clear hfz33_1
  try clear hfz33_2
  try clear hfz33_3
  try clear hfz33_4
  try clear hfz33_5
  try clear hfz33_6
  try clear hfz34_0
  try clear hfz34_1
  try clear hfz34_2
  try clear hfz34_3
  try clear hfz34_4
  try clear hfz34_5
  try clear hfz34_6
  obtain ⟨kq,x56_2,rfl,HA,HJ2,BK287,BK288,HB⟩:=hcut
  cases kq with
  | zero => exact absurd HA.out (by simp [nuncioref05_Same.j0])
  | succ kj2 =>
   have H:=HA.out
   clear HA
   simp only [nuncioref05_Same.j0] at H
   by_cases c35 : x56_2 = true
   ·
    subst c35
    have H1 : (some false) = some r:=by rw [if_pos rfl] at H;exact H
    clear H
    have H:=H1
    clear H1
    obtain rfl:=Option.some.inj H
    go_wp2
    repeat (go_quiet (fail);try go_wp2)
    go_ret
    exact ⟨by first|rfl|(simp [errW_none,errW_some] <;> rfl)|(simp [*,errW_none,errW_some] <;> rfl),by repeat (first|(with_reducible first|exact HB.out|apply qqf|apply qqd|apply qqe|refine qqg ?_ GE287.out|refine qqg ?_ GE288.out)|exact HB.out)⟩
   ·
    replace c35:=Bool.eq_false_iff.mpr c35
    subst c35
    have H1 : (nuncioref05_Same.l0 kj2 0 a0_0 a0_1 a0_2 a0_3 l0_4 l0_5 l0_6 a1_0 a1_1 a1_2 a1_3 l1_4 l1_5 l1_6) = some r:=by rw [if_neg (show ¬ (false = true) by decide)] at H;exact H
    clear H
    have H:=H1
    clear H1
    have H':=Aside0.mk H
    clear H
    go_wp2
    repeat (go_quiet (fail);try go_wp2)
    go_loopg [5] kj2 (fun kq v5 w' => ∃ (x5_2 : Int),v5 = .int .i64 x5_2∧Aside0 (nuncioref05_Same.l0 kq x5_2 a0_0 a0_1 a0_2 a0_3 l0_4 l0_5 l0_6 a1_0 a1_1 a1_2 a1_3 l1_4 l1_5 l1_6 = some r)∧Aside0 (kq ≤ kj2)∧Aside0 (w'.heap[gb287]? = some (.cells #[.string a0_0,.int .u16 a0_1,.int .u16 a0_2,.int .u32 a0_3,(.slice A0_4 l0_4.length c0_4),(.slice A0_5 l0_5.length c0_5),(.slice A0_6 l0_6.length c0_6)] 51 (0,0)))∧Aside0 (w'.heap[gb288]? = some (.cells #[.string a1_0,.int .u16 a1_1,.int .u16 a1_2,.int .u32 a1_3,(.slice A1_4 l1_4.length c1_4),(.slice A1_5 l1_5.length c1_5),(.slice A1_6 l1_6.length c1_6)] 51 (0,0)))∧Aside0 (Below w.heap.size w w'))
    case atStart => exact ⟨(0),(by first|rfl|(simp;done)|(simp [*];done)),H',⟨Nat.le_refl _⟩,⟨by (with_reducible repeat first|apply qqa|apply qqb|apply qqc);exact BK287.out⟩,⟨by (with_reducible repeat first|apply qqa|apply qqb|apply qqc);exact BK288.out⟩,⟨by repeat (first|(with_reducible first|exact HB.out|apply qqf|apply qqd|apply qqe|refine qqg ?_ GE287.out|refine qqg ?_ GE288.out)|exact HB.out)⟩⟩
    case round =>
     clear H'
     try clear c1
     try clear c2
     try clear p2
     try clear c3
     try clear c5
     try clear c6
     try clear c6b0
     try clear c6b1
     try clear c7
     try clear c7b0
     try clear c7b1
     try clear c8
     try clear c8b0
     try clear c8b1
     try clear c9
     try clear c9b0
     try clear c9b1
     try clear c11
     try clear c13
     try clear c14
     try clear c17
     try clear c20
     try clear c23
     try clear c26
     try clear c29
     try clear c32
     try clear c35
     try clear hcz15_0
     try clear hcz15_1
     try clear hcz15_2
     try clear hcz15_3
     try clear hcz15_4
     try clear hcz15_5
     try clear hcz15_6
     try clear hcz16_0
     try clear hcz16_1
     try clear hcz16_2
     try clear hcz16_3
     try clear hcz16_4
     try clear hcz16_5
     try clear hcz16_6
     try clear hcz18_0
     try clear hcz18_1
     try clear hcz18_2
     try clear hcz18_3
     try clear hcz18_4
     try clear hcz18_5
     try clear hcz18_6
     try clear hcz19_0
     try clear hcz19_1
     try clear hcz19_2
     try clear hcz19_3
     try clear hcz19_4
     try clear hcz19_5
     try clear hcz19_6
     try clear hcz21_0
     try clear hcz21_1
     try clear hcz21_2
     try clear hcz21_3
     try clear hcz21_4
     try clear hcz21_5
     try clear hcz21_6
     try clear hcz22_0
     try clear hcz22_1
     try clear hcz22_2
     try clear hcz22_3
     try clear hcz22_4
     try clear hcz22_5
     try clear hcz22_6
     try clear hcz24_0
     try clear hcz24_1
     try clear hcz24_2
     try clear hcz24_3
     try clear hcz24_4
     try clear hcz24_5
     try clear hcz24_6
     try clear hcz25_0
     try clear hcz25_1
     try clear hcz25_2
     try clear hcz25_3
     try clear hcz25_4
     try clear hcz25_5
     try clear hcz25_6
     try clear hcz27_0
     try clear hcz27_1
     try clear hcz27_2
     try clear hcz27_3
     try clear hcz27_4
     try clear hcz27_5
     try clear hcz27_6
     try clear hcz28_0
     try clear hcz28_1
     try clear hcz28_2
     try clear hcz28_3
     try clear hcz28_4
     try clear hcz28_5
     try clear hcz28_6
     try clear hcz30_0
     try clear hcz30_1
     try clear hcz30_2
     try clear hcz30_3
     try clear hcz30_4
     try clear hcz30_5
     try clear hcz30_6
     try clear hcz31_0
     try clear hcz31_1
     try clear hcz31_2
     try clear hcz31_3
     try clear hcz31_4
     try clear hcz31_5
     try clear hcz31_6
     try clear hcz33_0
     try clear hcz33_1
     try clear hcz33_2
     try clear hcz33_3
     try clear hcz33_4
     try clear hcz33_5
     try clear hcz33_6
     try clear hcz34_0
     try clear hcz34_1
     try clear hcz34_2
     try clear hcz34_3
     try clear hcz34_4
     try clear hcz34_5
     try clear hcz34_6
     try clear hfz15_0
     try clear hfz15_1
     try clear hfz15_2
     try clear hfz15_3
     try clear hfz15_4
     try clear hfz15_5
     try clear hfz15_6
     try clear hfz16_0
     try clear hfz16_1
     try clear hfz16_2
     try clear hfz16_3
     try clear hfz16_4
     try clear hfz16_5
     try clear hfz16_6
     try clear hfz18_0
     try clear hfz18_1
     try clear hfz18_2
     try clear hfz18_3
     try clear hfz18_4
     try clear hfz18_5
     try clear hfz18_6
     try clear hfz19_0
     try clear hfz19_1
     try clear hfz19_2
     try clear hfz19_3
     try clear hfz19_4
     try clear hfz19_5
     try clear hfz19_6
     try clear hfz21_0
     try clear hfz21_1
     try clear hfz21_2
     try clear hfz21_3
     try clear hfz21_4
     try clear hfz21_5
     try clear hfz21_6
     try clear hfz22_0
     try clear hfz22_1
     try clear hfz22_2
     try clear hfz22_3
     try clear hfz22_4
     try clear hfz22_5
     try clear hfz22_6
     try clear hfz24_0
     try clear hfz24_1
     try clear hfz24_2
     try clear hfz24_3
     try clear hfz24_4
     try clear hfz24_5
     try clear hfz24_6
     try clear hfz25_0
     try clear hfz25_1
     try clear hfz25_2
     try clear hfz25_3
     try clear hfz25_4
     try clear hfz25_5
     try clear hfz25_6
     try clear hfz27_0
     try clear hfz27_1
     try clear hfz27_2
     try clear hfz27_3
     try clear hfz27_4
     try clear hfz27_5
     try clear hfz27_6
     try clear hfz28_0
     try clear hfz28_1
     try clear hfz28_2
     try clear hfz28_3
     try clear hfz28_4
     try clear hfz28_5
     try clear hfz28_6
     try clear hfz30_0
     try clear hfz30_1
     try clear hfz30_2
     try clear hfz30_3
     try clear hfz30_4
     try clear hfz30_5
     try clear hfz30_6
     try clear hfz31_0
     try clear hfz31_1
     try clear hfz31_2
     try clear hfz31_3
     try clear hfz31_4
     try clear hfz31_5
     try clear hfz31_6
     try clear hfz33_0
     try clear hfz33_1
     try clear hfz33_2
     try clear hfz33_3
     try clear hfz33_4
     try clear hfz33_5
     try clear hfz33_6
     try clear hfz34_0
     try clear hfz34_1
     try clear hfz34_2
     try clear hfz34_3
     try clear hfz34_4
     try clear hfz34_5
     try clear hfz34_6
     try clear p2
     obtain ⟨x5_2,rfl,HA,HK2,BK287,BK288,HB⟩:=hrel
     cases gk with
     | zero => exact absurd HA.out (by simp [nuncioref05_Same.l0])
     | succ k2 =>
      have H:=HA.out
      clear HA
      simp only [nuncioref05_Same.l0] at H
      by_cases c36 : x5_2 < (l0_5.length : Int)
      ·
       rw [if_pos c36] at H
       have c36b0 : decide (x5_2 < (l0_5.length : Int)) = true:=decide_eq_true c36
       clear c36
       by_cases c37 : 0 ≤ x5_2
       ·
        rw [if_pos c37] at H
        have c37b0 : decide (0 ≤ x5_2) = true:=decide_eq_true c37
        clear c37
        by_cases c38 : x5_2 < (l1_5.length : Int)
        ·
         rw [if_pos c38] at H
         have c38b0 : decide (x5_2 < (l1_5.length : Int)) = true:=decide_eq_true c38
         clear c38
         by_cases c39 : (rd l0_5 x5_2) = (rd l1_5 x5_2)
         ·
          rw [if_pos c39] at H
          have c39b0 : ((rd l0_5 x5_2) == (rd l1_5 x5_2)) = true:=beq_iff_eq.mpr c39
          have c39b1 : ((rd l0_5 x5_2) != (rd l1_5 x5_2)) = false:=bne_eq_false_iff_eq.mpr c39
          clear c39
          have H':=Aside0.mk H
          clear H
          have hnb40:=NB287_288.out
          have hnc40:=NB288_287.out
          have hcz41_0 : wr.cell? ⟨gb287,0,none⟩ = some (.string a0_0):=(qqh BK287.out 0).trans rfl
          have hcz41_1 : wr.cell? ⟨gb287,1,none⟩ = some (.int .u16 a0_1):=(qqh BK287.out 1).trans rfl
          have hcz41_2 : wr.cell? ⟨gb287,2,none⟩ = some (.int .u16 a0_2):=(qqh BK287.out 2).trans rfl
          have hcz41_3 : wr.cell? ⟨gb287,3,none⟩ = some (.int .u32 a0_3):=(qqh BK287.out 3).trans rfl
          have hcz41_4 : wr.cell? ⟨gb287,4,none⟩ = some (.slice A0_4 l0_4.length c0_4):=(qqh BK287.out 4).trans rfl
          have hcz41_5 : wr.cell? ⟨gb287,5,none⟩ = some (.slice A0_5 l0_5.length c0_5):=(qqh BK287.out 5).trans rfl
          have hcz41_6 : wr.cell? ⟨gb287,6,none⟩ = some (.slice A0_6 l0_6.length c0_6):=(qqh BK287.out 6).trans rfl
          have hfz41_0:=qqi BK287.out 0
          have hfz41_1:=qqi BK287.out 1
          have hfz41_2:=qqi BK287.out 2
          have hfz41_3:=qqi BK287.out 3
          have hfz41_4:=qqi BK287.out 4
          have hfz41_5:=qqi BK287.out 5
          have hfz41_6:=qqi BK287.out 6
          have p291 : 0 ≤ (x5_2 : Int):=of_decide_eq_true (by first|(with_reducible assumption)|assumption)
          have q291 : x5_2 < (l0_5.length : Int):=of_decide_eq_true (by first|(with_reducible assumption)|assumption)
          obtain ⟨ad291,e291,hx291_0⟩:=Kd.at_int HR0_5.out x5_2 p291 q291
          cases e291
          replace hx291_0:=(HB.out.cell (World.block_lt_of_cell? w _ hx291_0)).trans hx291_0
          replace p291:=eq_true p291
          replace q291:=eq_true q291
          have hcz42_0 : wr.cell? ⟨gb288,0,none⟩ = some (.string a1_0):=(qqh BK288.out 0).trans rfl
          have hcz42_1 : wr.cell? ⟨gb288,1,none⟩ = some (.int .u16 a1_1):=(qqh BK288.out 1).trans rfl
          have hcz42_2 : wr.cell? ⟨gb288,2,none⟩ = some (.int .u16 a1_2):=(qqh BK288.out 2).trans rfl
          have hcz42_3 : wr.cell? ⟨gb288,3,none⟩ = some (.int .u32 a1_3):=(qqh BK288.out 3).trans rfl
          have hcz42_4 : wr.cell? ⟨gb288,4,none⟩ = some (.slice A1_4 l1_4.length c1_4):=(qqh BK288.out 4).trans rfl
          have hcz42_5 : wr.cell? ⟨gb288,5,none⟩ = some (.slice A1_5 l1_5.length c1_5):=(qqh BK288.out 5).trans rfl
          have hcz42_6 : wr.cell? ⟨gb288,6,none⟩ = some (.slice A1_6 l1_6.length c1_6):=(qqh BK288.out 6).trans rfl
          have hfz42_0:=qqi BK288.out 0
          have hfz42_1:=qqi BK288.out 1
          have hfz42_2:=qqi BK288.out 2
          have hfz42_3:=qqi BK288.out 3
          have hfz42_4:=qqi BK288.out 4
          have hfz42_5:=qqi BK288.out 5
          have hfz42_6:=qqi BK288.out 6
          have p292 : 0 ≤ (x5_2 : Int):=of_decide_eq_true (by first|(with_reducible assumption)|assumption)
          have q292 : x5_2 < (l1_5.length : Int):=of_decide_eq_true (by first|(with_reducible assumption)|assumption)
          obtain ⟨ad292,e292,hx292_0⟩:=Kd.at_int HR1_5.out x5_2 p292 q292
          cases e292
          replace hx292_0:=(HB.out.cell (World.block_lt_of_cell? w _ hx292_0)).trans hx292_0
          replace p292:=eq_true p292
          replace q292:=eq_true q292
          go_wp2
          repeat (go_quiet (fail);try go_wp2)
          go_roundg k2
          case measure => have:=HJ2.out;have:=HK2.out;omega
          case rel => exact ⟨(wrap64 (x5_2 + 1)),(by first|rfl|(simp;done)|(simp [*];done)),H',⟨by have:=HJ2.out;have:=HK2.out;omega⟩,⟨by (with_reducible repeat first|apply qqa|apply qqb|apply qqc);exact BK287.out⟩,⟨by (with_reducible repeat first|apply qqa|apply qqb|apply qqc);exact BK288.out⟩,⟨by repeat (first|(with_reducible first|exact HB.out|apply qqf|apply qqd|apply qqe|refine qqg ?_ GE287.out|refine qqg ?_ GE288.out)|exact HB.out)⟩⟩
         ·
          rw [if_neg c39] at H
          have c39b0 : ((rd l0_5 x5_2) == (rd l1_5 x5_2)) = false:=beq_eq_false_iff_ne.mpr c39
          have c39b1 : ((rd l0_5 x5_2) != (rd l1_5 x5_2)) = true:=bne_iff_ne.mpr c39
          obtain rfl:=Option.some.inj H
          have hnb43:=NB287_288.out
          have hnc43:=NB288_287.out
          have hcz44_0 : wr.cell? ⟨gb287,0,none⟩ = some (.string a0_0):=(qqh BK287.out 0).trans rfl
          have hcz44_1 : wr.cell? ⟨gb287,1,none⟩ = some (.int .u16 a0_1):=(qqh BK287.out 1).trans rfl
          have hcz44_2 : wr.cell? ⟨gb287,2,none⟩ = some (.int .u16 a0_2):=(qqh BK287.out 2).trans rfl
          have hcz44_3 : wr.cell? ⟨gb287,3,none⟩ = some (.int .u32 a0_3):=(qqh BK287.out 3).trans rfl
          have hcz44_4 : wr.cell? ⟨gb287,4,none⟩ = some (.slice A0_4 l0_4.length c0_4):=(qqh BK287.out 4).trans rfl
          have hcz44_5 : wr.cell? ⟨gb287,5,none⟩ = some (.slice A0_5 l0_5.length c0_5):=(qqh BK287.out 5).trans rfl
          have hcz44_6 : wr.cell? ⟨gb287,6,none⟩ = some (.slice A0_6 l0_6.length c0_6):=(qqh BK287.out 6).trans rfl
          have hfz44_0:=qqi BK287.out 0
          have hfz44_1:=qqi BK287.out 1
          have hfz44_2:=qqi BK287.out 2
          have hfz44_3:=qqi BK287.out 3
          have hfz44_4:=qqi BK287.out 4
          have hfz44_5:=qqi BK287.out 5
          have hfz44_6:=qqi BK287.out 6
          have p291 : 0 ≤ (x5_2 : Int):=of_decide_eq_true (by first|(with_reducible assumption)|assumption)
          have q291 : x5_2 < (l0_5.length : Int):=of_decide_eq_true (by first|(with_reducible assumption)|assumption)
          obtain ⟨ad291,e291,hx291_0⟩:=Kd.at_int HR0_5.out x5_2 p291 q291
          cases e291
          replace hx291_0:=(HB.out.cell (World.block_lt_of_cell? w _ hx291_0)).trans hx291_0
          replace p291:=eq_true p291
          replace q291:=eq_true q291
          have hcz45_0 : wr.cell? ⟨gb288,0,none⟩ = some (.string a1_0):=(qqh BK288.out 0).trans rfl
          have hcz45_1 : wr.cell? ⟨gb288,1,none⟩ = some (.int .u16 a1_1):=(qqh BK288.out 1).trans rfl
          have hcz45_2 : wr.cell? ⟨gb288,2,none⟩ = some (.int .u16 a1_2):=(qqh BK288.out 2).trans rfl
          have hcz45_3 : wr.cell? ⟨gb288,3,none⟩ = some (.int .u32 a1_3):=(qqh BK288.out 3).trans rfl
          have hcz45_4 : wr.cell? ⟨gb288,4,none⟩ = some (.slice A1_4 l1_4.length c1_4):=(qqh BK288.out 4).trans rfl
          have hcz45_5 : wr.cell? ⟨gb288,5,none⟩ = some (.slice A1_5 l1_5.length c1_5):=(qqh BK288.out 5).trans rfl
          have hcz45_6 : wr.cell? ⟨gb288,6,none⟩ = some (.slice A1_6 l1_6.length c1_6):=(qqh BK288.out 6).trans rfl
          have hfz45_0:=qqi BK288.out 0
          have hfz45_1:=qqi BK288.out 1
          have hfz45_2:=qqi BK288.out 2
          have hfz45_3:=qqi BK288.out 3
          have hfz45_4:=qqi BK288.out 4
          have hfz45_5:=qqi BK288.out 5
          have hfz45_6:=qqi BK288.out 6
          have p292 : 0 ≤ (x5_2 : Int):=of_decide_eq_true (by first|(with_reducible assumption)|assumption)
          have q292 : x5_2 < (l1_5.length : Int):=of_decide_eq_true (by first|(with_reducible assumption)|assumption)
          obtain ⟨ad292,e292,hx292_0⟩:=Kd.at_int HR1_5.out x5_2 p292 q292
          cases e292
          replace hx292_0:=(HB.out.cell (World.block_lt_of_cell? w _ hx292_0)).trans hx292_0
          replace p292:=eq_true p292
          replace q292:=eq_true q292
          go_wp2
          repeat (go_quiet (fail);try go_wp2)
          go_ret
          exact ⟨by first|rfl|(simp [errW_none,errW_some] <;> rfl)|(simp [*,errW_none,errW_some] <;> rfl),by repeat (first|(with_reducible first|exact HB.out|apply qqf|apply qqd|apply qqe|refine qqg ?_ GE287.out|refine qqg ?_ GE288.out)|exact HB.out)⟩
        ·
         rw [if_neg c38] at H
         exact absurd H (by simp)
       ·
        rw [if_neg c37] at H
        exact absurd H (by simp)
      ·
       rw [if_neg c36] at H
       have c36b0 : decide (x5_2 < (l0_5.length : Int)) = false:=decide_eq_false c36
       clear c36
       obtain rfl:=Option.some.inj H
       have hnb46:=NB287_288.out
       have hnc46:=NB288_287.out
       have hcz47_0 : wr.cell? ⟨gb287,0,none⟩ = some (.string a0_0):=(qqh BK287.out 0).trans rfl
       have hcz47_1 : wr.cell? ⟨gb287,1,none⟩ = some (.int .u16 a0_1):=(qqh BK287.out 1).trans rfl
       have hcz47_2 : wr.cell? ⟨gb287,2,none⟩ = some (.int .u16 a0_2):=(qqh BK287.out 2).trans rfl
       have hcz47_3 : wr.cell? ⟨gb287,3,none⟩ = some (.int .u32 a0_3):=(qqh BK287.out 3).trans rfl
       have hcz47_4 : wr.cell? ⟨gb287,4,none⟩ = some (.slice A0_4 l0_4.length c0_4):=(qqh BK287.out 4).trans rfl
       have hcz47_5 : wr.cell? ⟨gb287,5,none⟩ = some (.slice A0_5 l0_5.length c0_5):=(qqh BK287.out 5).trans rfl
       have hcz47_6 : wr.cell? ⟨gb287,6,none⟩ = some (.slice A0_6 l0_6.length c0_6):=(qqh BK287.out 6).trans rfl
       have hfz47_0:=qqi BK287.out 0
       have hfz47_1:=qqi BK287.out 1
       have hfz47_2:=qqi BK287.out 2
       have hfz47_3:=qqi BK287.out 3
       have hfz47_4:=qqi BK287.out 4
       have hfz47_5:=qqi BK287.out 5
       have hfz47_6:=qqi BK287.out 6
       go_wp2
       repeat (go_quiet (fail);try go_wp2)
       go_ret
       exact ⟨by first|rfl|(simp [errW_none,errW_some] <;> rfl)|(simp [*,errW_none,errW_some] <;> rfl),by repeat (first|(with_reducible first|exact HB.out|apply qqf|apply qqd|apply qqe|refine qqg ?_ GE287.out|refine qqg ?_ GE288.out)|exact HB.out)⟩

end Go.Proofs.Ythkdfnbhlinhiaa.Mine
