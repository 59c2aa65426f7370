-- Written by this repo's own printer (wip/print), which builds on the kit's.
import Derived.Test.YtlglgfcdhflecaaMinex0
import Derived.Test.YtlglgfcdhflecaaMinex2
import Derived.Test.YtlglgfcdhflecaaMinex5
import Derived.Test.YtlglgfcdhflecaaMinex6
import Derived.Test.YtlglgfcdhflecaaMinex9
import Derived.Test.YtlglgfcdhflecaaMinex10
namespace Go.Proofs.Ytlglgfcdhflecaa.Mine
open Go.RowKit Go.Proofs.YtlglgfcdhflecaaW.PrintWords Go.Proofs.YtlglgfcdhflecaaW.PrintLast Go.Proofs.YtlglgfcdhflecaaW.PrintMore
attribute [local go_sem] max2_int min2_int max_two min_two max_three min_three max_four min_four   -- for this text's walks alone
set_option linter.unusedVariables false
set_option linter.unusedSimpArgs false

/-! ### nunciolaw15_FeedTakes: function 3 -/
mutual
def nunciolaw15_FeedTakes.j0 : Nat → Bool → List ByteArray → Bool → Option (Bool)
 | 0, _, _, _ => none
 | k + 1, x0, x1, x24 => if x24 = true then (some true) else ((feed_New.f x0).bind fun bt195 => (nunciolaw15_FeedTakes.l0 k x0 x1 (⟨#[]⟩ : ByteArray) ([] : List (S40)) false 0 bt195.1 bt195.2.1 bt195.2.2))
def nunciolaw15_FeedTakes.l0 : Nat → Bool → List ByteArray → ByteArray → List (S40) → Bool → Int → ByteArray → Bool → Bool → Option (Bool)
 | 0, _, _, _, _, _, _, _, _, _ => none
 | k + 1, x0, x1, x6, x7, x8, x9, x199000, x199001, x199002 => if x9 < (x1.length : Int) then (if 0 ≤ x9 then ((feed_Feed_Add.f k x199000 x199001 x199002 (rdOf ByteArray.empty x1 x9)).bind fun bt200 => (if x8 = true then (if (bt200.1.length : Int) = 0 then (if bt200.2.1 = 0 then ((feed_Feed_Down.f bt200.2.2.1 bt200.2.2.2.1 bt200.2.2.2.2).bind fun bt207 => (if bt207.1 = true then ((feed_Feed_Held.f bt207.2.1 bt207.2.2.1 bt207.2.2.2).bind fun bt211 => (if bt211.1 = 0 then (nunciolaw15_FeedTakes.l0 k x0 x1 x6 x7 x8 (wrap64 (x9 + 1)) bt211.2.1 bt211.2.2.1 bt211.2.2.2) else (some false))) else (some false))) else (some false)) else (some false)) else (if x6.size + (rdOf ByteArray.empty x1 x9).size ≤ 9223372036854775807 then (if x7.length + bt200.1.length < 5864062014805 then ((some (x7 ++ bt200.1 : List (S40))).bind fun y216 => ((nuncioref15_All.f k (x6 ++ (rdOf ByteArray.empty x1 x9)) x0).bind fun bt219 => ((nuncioref15_Same.f k y216 bt219.1).bind fun t224 => (if t224 = true then (if (wrap64 (bt200.2.1)) = bt219.2.1 then ((feed_Feed_Held.f bt200.2.2.1 bt200.2.2.2.1 bt200.2.2.2.2).bind fun bt225 => (if bt225.1 = bt219.2.2 then ((feed_Feed_Down.f bt225.2.1 bt225.2.2.1 bt225.2.2.2).bind fun bt229 => (if (bt229.1 != (bt219.2.1 != 0)) = true then (some false) else (nunciolaw15_FeedTakes.l0 k x0 x1 (x6 ++ (rdOf ByteArray.empty x1 x9)) y216 (bt219.2.1 != 0) (wrap64 (x9 + 1)) bt229.2.1 bt229.2.2.1 bt229.2.2.2))) else (some false))) else (some false)) else (some false))))) else (none)) else (none)))) else (none)) else (some true)
end
def nunciolaw15_FeedTakes.f (k : Nat) (a0 : Bool) (l1 : List ByteArray) : Option (Bool) := (nunciolaw15_awake.f k).bind fun t193 => (if t193 = true then ((nunciolaw15_Few.f k l1).bind fun t194 => (if t194 = true then (nunciolaw15_FeedTakes.j0 k a0 l1 (decide ((l1.length : Int) > 100))) else (nunciolaw15_FeedTakes.j0 k a0 l1 true))) else (some false))
theorem nunciolaw15_FeedTakes.mono_l : ∀ k, (∀ y0 y1 y2, LeO (nunciolaw15_FeedTakes.j0 k y0 y1 y2) (nunciolaw15_FeedTakes.j0 (k + 1) y0 y1 y2)) ∧ (∀ y0 y1 y2 y3 y4 y5 y6 y7 y8, LeO (nunciolaw15_FeedTakes.l0 k y0 y1 y2 y3 y4 y5 y6 y7 y8) (nunciolaw15_FeedTakes.l0 (k + 1) y0 y1 y2 y3 y4 y5 y6 y7 y8))
 | 0 => ⟨fun _ _ _ r h => by simp [nunciolaw15_FeedTakes.j0] at h, fun _ _ _ _ _ _ _ _ _ r h => by simp [nunciolaw15_FeedTakes.l0] at h⟩
 | k + 1 => by
  obtain ⟨ih0, ih1⟩ := nunciolaw15_FeedTakes.mono_l k
  refine ⟨?_, ?_⟩
  ·
   intro y0 y1 y2
   unfold nunciolaw15_FeedTakes.j0
   repeat' first
   | (with_reducible exact ih0 _ _ _)
   | (with_reducible exact ih1 _ _ _ _ _ _ _ _ _)
   | (with_reducible exact feed_Feed_Add.mono _ _ _ _ _)
   | (with_reducible exact nunciolaw15_Few.mono _ _)
   | (with_reducible exact nunciolaw15_awake.mono _)
   | (with_reducible exact nuncioref15_All.mono _ _ _)
   | (with_reducible exact nuncioref15_Same.mono _ _ _)
   | (with_reducible exact LeO.refl _)
   | (with_reducible exact LeO.none _)
   | (with_reducible refine LeO.ite ?_ ?_)
   | (with_reducible refine LeO.bind ?_ (fun _ => ?_))
   | exact ih0 _ _ _
   | exact ih1 _ _ _ _ _ _ _ _ _
   | exact feed_Feed_Add.mono _ _ _ _ _
   | exact nunciolaw15_Few.mono _ _
   | exact nunciolaw15_awake.mono _
   | exact nuncioref15_All.mono _ _ _
   | exact nuncioref15_Same.mono _ _ _
   | exact LeO.none _
   | refine LeO.ite ?_ ?_
   | refine LeO.bind ?_ (fun _ => ?_)
  ·
   intro y0 y1 y2 y3 y4 y5 y6 y7 y8
   unfold nunciolaw15_FeedTakes.l0
   repeat' first
   | (with_reducible exact ih0 _ _ _)
   | (with_reducible exact ih1 _ _ _ _ _ _ _ _ _)
   | (with_reducible exact feed_Feed_Add.mono _ _ _ _ _)
   | (with_reducible exact nunciolaw15_Few.mono _ _)
   | (with_reducible exact nunciolaw15_awake.mono _)
   | (with_reducible exact nuncioref15_All.mono _ _ _)
   | (with_reducible exact nuncioref15_Same.mono _ _ _)
   | (with_reducible exact LeO.refl _)
   | (with_reducible exact LeO.none _)
   | (with_reducible refine LeO.ite ?_ ?_)
   | (with_reducible refine LeO.bind ?_ (fun _ => ?_))
   | exact ih0 _ _ _
   | exact ih1 _ _ _ _ _ _ _ _ _
   | exact feed_Feed_Add.mono _ _ _ _ _
   | exact nunciolaw15_Few.mono _ _
   | exact nunciolaw15_awake.mono _
   | exact nuncioref15_All.mono _ _ _
   | exact nuncioref15_Same.mono _ _ _
   | exact LeO.none _
   | refine LeO.ite ?_ ?_
   | refine LeO.bind ?_ (fun _ => ?_)
theorem nunciolaw15_FeedTakes.mono : ∀ a0 a1 k, LeO (nunciolaw15_FeedTakes.f k a0 a1) (nunciolaw15_FeedTakes.f (k + 1) a0 a1) := by
 intro a0 a1 k
 obtain ⟨ih0, ih1⟩ := nunciolaw15_FeedTakes.mono_l k
 unfold nunciolaw15_FeedTakes.f
 repeat' first
   | (with_reducible exact ih0 _ _ _)
   | (with_reducible exact ih1 _ _ _ _ _ _ _ _ _)
   | (with_reducible exact feed_Feed_Add.mono _ _ _ _ _)
   | (with_reducible exact nunciolaw15_Few.mono _ _)
   | (with_reducible exact nunciolaw15_awake.mono _)
   | (with_reducible exact nuncioref15_All.mono _ _ _)
   | (with_reducible exact nuncioref15_Same.mono _ _ _)
   | (with_reducible exact LeO.refl _)
   | (with_reducible exact LeO.none _)
   | (with_reducible refine LeO.ite ?_ ?_)
   | (with_reducible refine LeO.bind ?_ (fun _ => ?_))
   | exact ih0 _ _ _
   | exact ih1 _ _ _ _ _ _ _ _ _
   | exact feed_Feed_Add.mono _ _ _ _ _
   | exact nunciolaw15_Few.mono _ _
   | exact nunciolaw15_awake.mono _
   | exact nuncioref15_All.mono _ _ _
   | exact nuncioref15_Same.mono _ _ _
   | exact LeO.none _
   | refine LeO.ite ?_ ?_
   | refine LeO.bind ?_ (fun _ => ?_)
set_option maxHeartbeats 8000000 in
set_option maxRecDepth 100000 in
theorem nunciolaw15_FeedTakes.calls (k : Nat) (a0 : Bool) (A1 : Option Addr) (c1 : Nat) (l1 : List ByteArray) (r : Bool) (w : World) (hr1 : Kd.C Kd.string w A1 l1.length l1) (hc1 : l1.length ≤ c1) (h : nunciolaw15_FeedTakes.f k a0 l1 = some r) (hT : r = true) :
  Calls Try.prog 3 #[.bool a0, .slice A1 l1.length c1] w fun e w' => e = .returned (.bool r) ∧ Below w.heap.size w w' := by
 have HR1 := Aside0.mk hr1
 have HC1 := Aside0.mk hc1
 clear hr1 hc1
 have HB := Aside0.mk (Below.refl w.heap.size w)
 have HT := Aside0.mk hT
 clear hT
 have H : ((nunciolaw15_awake.f k).bind fun t193 => (if t193 = true then ((nunciolaw15_Few.f k l1).bind fun t194 => (if t194 = true then (nunciolaw15_FeedTakes.j0 k a0 l1 (decide ((l1.length : Int) > 100))) else (nunciolaw15_FeedTakes.j0 k a0 l1 true))) else (some false))) = some r := h
 clear h
 replace H := Option.bind_eq_some_iff.mp H
 obtain ⟨t193, A30, H⟩ := H
 replace H : (if t193 = true then ((nunciolaw15_Few.f k l1).bind fun t194 => (if t194 = true then (nunciolaw15_FeedTakes.j0 k a0 l1 (decide ((l1.length : Int) > 100))) else (nunciolaw15_FeedTakes.j0 k a0 l1 true))) else (some false)) = some r := H
 have A3 := Aside0.mk A30
 clear A30
 by_cases c4 : t193 = true
 ·
  subst c4
  have H1 : ((nunciolaw15_Few.f k l1).bind fun t194 => (if t194 = true then (nunciolaw15_FeedTakes.j0 k a0 l1 (decide ((l1.length : Int) > 100))) else (nunciolaw15_FeedTakes.j0 k a0 l1 true))) = some r := by rw [if_pos rfl] at H; exact H
  clear H
  have H := H1
  clear H1
  have HC5 := Aside0.mk H
  clear H
  go_enter Try.func3, Try.ntmps3
  go_upto_region 3 with (first | ((with_reducible refine gate_callee (f := 6) rfl ?_); refine goesL_ (some 15) rfl rfl Try.func6 (by kernel_rfl) rfl #[] rfl (by (try simp only [List.map_toArray, List.map_cons, List.map_nil]); first | done | rfl | (simp only [List.length_drop, List.length_take]; rfl)) ?_; (with_reducible refine (nunciolaw15_awake.calls k  true _ A3.out).mono ?_); rintro e w6 ⟨rfl, hb⟩; refine ⟨_, rfl, ?_⟩; have n0_ := Aside0.mk (below_step (by repeat (first | (with_reducible first | exact HB.out | apply below_alloc | apply pw_below_drewN | apply below_drew1) | exact HB.out)) hb); clear HB; have HB := n0_; clear n0_; (try clear hb); (try clear hb2); (try clear hk); (try clear hi)))
  (try simp only [Act.put, List.setIfInBounds_toArray, List.set_cons_zero, List.set_cons_succ])
  go_cut [24] (fun v24 wc => ∃ (kq : Nat) (x24_4 : Bool), v24 = .bool x24_4 ∧ Aside0 (nunciolaw15_FeedTakes.j0 kq a0 l1 x24_4 = some r) ∧ Aside0 (kq ≤ k) ∧ Aside0 (Below w.heap.size w wc))
  case first =>
   have H := HC5.out
   clear HC5
   replace H := Option.bind_eq_some_iff.mp H
   obtain ⟨t194, A70, H⟩ := H
   replace H : (if t194 = true then (nunciolaw15_FeedTakes.j0 k a0 l1 (decide ((l1.length : Int) > 100))) else (nunciolaw15_FeedTakes.j0 k a0 l1 true)) = some r := H
   have A7 := Aside0.mk A70
   clear A70
   by_cases c8 : t194 = true
   ·
    subst c8
    have H1 : (nunciolaw15_FeedTakes.j0 k a0 l1 (decide ((l1.length : Int) > 100))) = some r := by rw [if_pos rfl] at H; exact H
    clear H
    have H := H1
    clear H1
    have H' := Aside0.mk H
    clear H
    go_wp2_with (first | ((with_reducible refine gate_callee (f := 7) rfl ?_); refine goesL_ (some 18) rfl rfl Try.func7 (by kernel_rfl) rfl #[.slice A1 l1.length c1] rfl (by (try simp only [List.map_toArray, List.map_cons, List.map_nil]); first | done | rfl | (simp only [List.length_drop, List.length_take]; rfl)) ?_; (with_reducible refine (nunciolaw15_Few.calls k _ _ l1 true _ ?side1 ?side2 A7.out).mono ?_); (case side1 => repeat (first | exact (Kd.C_below HR1.out HB.out) | (with_reducible refine Kd.C_alloc ?_ _) | (with_reducible refine Kd.C_drewN ?_ _) | (with_reducible refine Kd.C_drew ?_))); (case side2 => exact HC1.out); rintro e w9 ⟨rfl, hb⟩; refine ⟨_, rfl, ?_⟩; have n0_ := Aside0.mk (below_step (by repeat (first | (with_reducible first | exact HB.out | apply below_alloc | apply pw_below_drewN | apply below_drew1) | exact HB.out)) hb); clear HB; have HB := n0_; clear n0_; (try clear hb); (try clear hb2); (try clear hk); (try clear hi)))
    go_meet
    case rel => exact ⟨_, (decide ((l1.length : Int) > 100)), (by first | rfl | (simp; done) | (simp [*]; done)), H', ⟨by first | omega | exact Nat.le_refl _⟩, ⟨by repeat (first | (with_reducible first | exact HB.out | apply below_alloc | apply pw_below_drewN | apply below_drew1) | exact HB.out)⟩⟩
   ·
    replace c8 := Bool.eq_false_iff.mpr c8
    subst c8
    have H1 : (nunciolaw15_FeedTakes.j0 k a0 l1 true) = some r := by rw [if_neg (show ¬ (false = true) by decide)] at H; exact H
    clear H
    have H := H1
    clear H1
    have H' := Aside0.mk H
    clear H
    go_wp2_with (first | ((with_reducible refine gate_callee (f := 7) rfl ?_); refine goesL_ (some 18) rfl rfl Try.func7 (by kernel_rfl) rfl #[.slice A1 l1.length c1] rfl (by (try simp only [List.map_toArray, List.map_cons, List.map_nil]); first | done | rfl | (simp only [List.length_drop, List.length_take]; rfl)) ?_; (with_reducible refine (nunciolaw15_Few.calls k _ _ l1 false _ ?side1 ?side2 A7.out).mono ?_); (case side1 => repeat (first | exact (Kd.C_below HR1.out HB.out) | (with_reducible refine Kd.C_alloc ?_ _) | (with_reducible refine Kd.C_drewN ?_ _) | (with_reducible refine Kd.C_drew ?_))); (case side2 => exact HC1.out); rintro e w10 ⟨rfl, hb⟩; refine ⟨_, rfl, ?_⟩; have n0_ := Aside0.mk (below_step (by repeat (first | (with_reducible first | exact HB.out | apply below_alloc | apply pw_below_drewN | apply below_drew1) | exact HB.out)) hb); clear HB; have HB := n0_; clear n0_; (try clear hb); (try clear hb2); (try clear hk); (try clear hi)))
    go_meet
    case rel => exact ⟨_, (true), (by first | rfl | (simp; done) | (simp [*]; done)), H', ⟨by first | omega | exact Nat.le_refl _⟩, ⟨by repeat (first | (with_reducible first | exact HB.out | apply below_alloc | apply pw_below_drewN | apply below_drew1) | exact HB.out)⟩⟩
  case rest =>
   clear HC5
   try clear c1
   try clear p2
   try clear c3
   try clear c4
   try clear c6
   try clear c7
   try clear c8
   obtain ⟨kq, x24_4, rfl, HA, HJ4, HB⟩ := hcut
   cases kq with
   | zero => exact absurd HA.out (by simp [nunciolaw15_FeedTakes.j0])
   | succ kj4 =>
    have H := HA.out
    clear HA
    simp only [nunciolaw15_FeedTakes.j0] at H
    by_cases c11 : x24_4 = true
    ·
     subst c11
     have H1 : (some true) = some r := by rw [if_pos rfl] at H; exact H
     clear H
     have H := H1
     clear H1
     obtain rfl := Option.some.inj H
     go_wp2
     go_ret
     exact ⟨by first | rfl | (simp [errW_none, errW_some] <;> rfl) | (simp [*, errW_none, errW_some] <;> rfl), by repeat (first | (with_reducible first | exact HB.out | apply below_alloc | apply pw_below_drewN | apply below_drew1) | exact HB.out)⟩
    ·
     replace c11 := Bool.eq_false_iff.mpr c11
     subst c11
     have H1 : ((feed_New.f a0).bind fun bt195 => (nunciolaw15_FeedTakes.l0 kj4 a0 l1 (⟨#[]⟩ : ByteArray) ([] : List (S40)) false 0 bt195.1 bt195.2.1 bt195.2.2)) = some r := by rw [if_neg (show ¬ (false = true) by decide)] at H; exact H
     clear H
     have H := H1
     clear H1
     replace H := Option.bind_eq_some_iff.mp H
     obtain ⟨⟨t195, t196, t197⟩, A120, H⟩ := H
     replace H : (nunciolaw15_FeedTakes.l0 kj4 a0 l1 (⟨#[]⟩ : ByteArray) ([] : List (S40)) false 0 t195 t196 t197) = some r := H
     have A12 := Aside0.mk A120
     clear A120
     have H' := Aside0.mk H
     clear H
     go_wp2_with (first | ((with_reducible refine gate_callee (f := 8) rfl ?_); refine goesL_ (some 26) rfl rfl Try.func8 (by kernel_rfl) rfl #[.bool a0] rfl (by (try simp only [List.map_toArray, List.map_cons, List.map_nil]); first | done | rfl | (simp only [List.length_drop, List.length_take]; rfl)) ?_; (with_reducible refine (feed_New.calls a0 t195 t196 t197 w _ ?side1 A12.out).mono ?_); (case side1 => repeat (first | (with_reducible first | exact HB.out | apply below_alloc | apply pw_below_drewN | apply below_drew1) | exact HB.out)); rintro e w13 ⟨g198, rfl, hi, hb, hb2⟩; refine ⟨_, rfl, ?_⟩; have n0_ := Aside0.mk (hb); have n1_ := Aside0.mk (hi); clear HB; have HB := n0_; have HI198 := n1_; clear n0_ n1_; (try clear hb); (try clear hb2); (try clear hk); (try clear hi)))
     go_loopg [6, 7, 8, 9] kj4 (fun kq v6 v7 v8 v9 w' => ∃ (x6_2 : ByteArray) (x7_2 : List (S40)) (x8_2 : Bool) (x9_2 : Int) (x199000_2 : ByteArray) (x199001_2 : Bool) (x199002_2 : Bool), v6 = .string x6_2 ∧ v8 = .bool x8_2 ∧ v9 = .int .i64 x9_2 ∧ Aside0 (nunciolaw15_FeedTakes.l0 kq a0 l1 x6_2 x7_2 x8_2 x9_2 x199000_2 x199001_2 x199002_2 = some r) ∧ Aside0 (kq ≤ kj4) ∧ Aside0 (Kd.R k40 40 w' w.heap.size (fun _ => True) v7 x7_2) ∧ Aside0 (IsS43 w w' g198 x199000_2 x199001_2 x199002_2) ∧ Aside0 (Below w.heap.size w w'))
     case atStart => exact ⟨((⟨#[]⟩ : ByteArray)), (([] : List (S40))), (false), (0), (t195), (t196), (t197), (by first | rfl | (simp; done) | (simp [*]; done)), (by first | rfl | (simp; done) | (simp [*]; done)), (by first | rfl | (simp; done) | (simp [*]; done)), H', ⟨Nat.le_refl _⟩, ⟨by first | exact Kd.R_nil _ _ _ _ _ | exact Kd.N_nil _ _ _ _ _ | exact Kd.V_nil _ _ _ _ _ | exact Kd.Q_nil _ _ _ _ _ | exact Kd.S_nil _ _ _ _ _⟩, ⟨by repeat (first | (with_reducible first | exact HI198.out | apply IsS43.alloc | apply IsS43.drewN | apply IsS43.drew | apply IsS43.set_0 | apply IsS43.set_1 | apply IsS43.set_2) | exact HI198.out | simp only [*])⟩, ⟨by repeat (first | (with_reducible first | exact HB.out | apply below_alloc | apply pw_below_drewN | apply below_drew1 | refine below_set ?_ (IsS43.ge HI198.out)) | exact HB.out)⟩⟩
     case round =>
      clear H'
      try clear c1
      try clear p2
      try clear c3
      try clear c4
      try clear c6
      try clear c7
      try clear c8
      try clear c11
      try clear p2
      obtain ⟨x6_2, x7_2, x8_2, x9_2, x199000_2, x199001_2, x199002_2, rfl, rfl, rfl, HA, HK2, HO_7, HI198, HB⟩ := hrel
      cases gk with
      | zero => exact absurd HA.out (by simp [nunciolaw15_FeedTakes.l0])
      | succ k2 =>
       have H := HA.out
       clear HA
       simp only [nunciolaw15_FeedTakes.l0] at H
       by_cases c14 : x9_2 < (l1.length : Int)
       ·
        rw [if_pos c14] at H
        have c14b0 : decide (x9_2 < (l1.length : Int)) = true := decide_eq_true c14
        clear c14
        by_cases c15 : 0 ≤ x9_2
        ·
         rw [if_pos c15] at H
         have c15b0 : decide (0 ≤ x9_2) = true := decide_eq_true c15
         clear c15
         replace H := Option.bind_eq_some_iff.mp H
         obtain ⟨⟨t200, t203, t204, t205, t206⟩, A160, H⟩ := H
         replace H : (if x8_2 = true then (if (t200.length : Int) = 0 then (if t203 = 0 then ((feed_Feed_Down.f t204 t205 t206).bind fun bt207 => (if bt207.1 = true then ((feed_Feed_Held.f bt207.2.1 bt207.2.2.1 bt207.2.2.2).bind fun bt211 => (if bt211.1 = 0 then (nunciolaw15_FeedTakes.l0 k2 a0 l1 x6_2 x7_2 x8_2 (wrap64 (x9_2 + 1)) bt211.2.1 bt211.2.2.1 bt211.2.2.2) else (some false))) else (some false))) else (some false)) else (some false)) else (if x6_2.size + (rdOf ByteArray.empty l1 x9_2).size ≤ 9223372036854775807 then (if x7_2.length + t200.length < 5864062014805 then ((some (x7_2 ++ t200 : List (S40))).bind fun y216 => ((nuncioref15_All.f k2 (x6_2 ++ (rdOf ByteArray.empty l1 x9_2)) a0).bind fun bt219 => ((nuncioref15_Same.f k2 y216 bt219.1).bind fun t224 => (if t224 = true then (if (wrap64 (t203)) = bt219.2.1 then ((feed_Feed_Held.f t204 t205 t206).bind fun bt225 => (if bt225.1 = bt219.2.2 then ((feed_Feed_Down.f bt225.2.1 bt225.2.2.1 bt225.2.2.2).bind fun bt229 => (if (bt229.1 != (bt219.2.1 != 0)) = true then (some false) else (nunciolaw15_FeedTakes.l0 k2 a0 l1 (x6_2 ++ (rdOf ByteArray.empty l1 x9_2)) y216 (bt219.2.1 != 0) (wrap64 (x9_2 + 1)) bt229.2.1 bt229.2.2.1 bt229.2.2.2))) else (some false))) else (some false)) else (some false))))) else (none)) else (none))) = some r := H
         have A16 := Aside0.mk A160
         clear A160
         by_cases c17 : x8_2 = true
         ·
          subst c17
          have H1 : (if (t200.length : Int) = 0 then (if t203 = 0 then ((feed_Feed_Down.f t204 t205 t206).bind fun bt207 => (if bt207.1 = true then ((feed_Feed_Held.f bt207.2.1 bt207.2.2.1 bt207.2.2.2).bind fun bt211 => (if bt211.1 = 0 then (nunciolaw15_FeedTakes.l0 k2 a0 l1 x6_2 x7_2 true (wrap64 (x9_2 + 1)) bt211.2.1 bt211.2.2.1 bt211.2.2.2) else (some false))) else (some false))) else (some false)) else (some false)) = some r := by rw [if_pos rfl] at H; exact H
          clear H
          have H := H1
          clear H1
          by_cases c18 : (t200.length : Int) = 0
          ·
           rw [if_pos c18] at H
           have c18b0 : ((t200.length : Int) == 0) = true := beq_iff_eq.mpr c18
           have c18b1 : ((t200.length : Int) != 0) = false := bne_eq_false_iff_eq.mpr c18
           clear c18
           by_cases c19 : t203 = 0
           ·
            rw [if_pos c19] at H
            have c19b0 : (t203 == 0) = true := beq_iff_eq.mpr c19
            have c19b1 : (t203 != 0) = false := bne_eq_false_iff_eq.mpr c19
            clear c19
            replace H := Option.bind_eq_some_iff.mp H
            obtain ⟨⟨t207, t208, t209, t210⟩, A200, H⟩ := H
            replace H : (if t207 = true then ((feed_Feed_Held.f t208 t209 t210).bind fun bt211 => (if bt211.1 = 0 then (nunciolaw15_FeedTakes.l0 k2 a0 l1 x6_2 x7_2 true (wrap64 (x9_2 + 1)) bt211.2.1 bt211.2.2.1 bt211.2.2.2) else (some false))) else (some false)) = some r := H
            have A20 := Aside0.mk A200
            clear A200
            by_cases c21 : t207 = true
            ·
             subst c21
             have H1 : ((feed_Feed_Held.f t208 t209 t210).bind fun bt211 => (if bt211.1 = 0 then (nunciolaw15_FeedTakes.l0 k2 a0 l1 x6_2 x7_2 true (wrap64 (x9_2 + 1)) bt211.2.1 bt211.2.2.1 bt211.2.2.2) else (some false))) = some r := by rw [if_pos rfl] at H; exact H
             clear H
             have H := H1
             clear H1
             replace H := Option.bind_eq_some_iff.mp H
             obtain ⟨⟨t211, t212, t213, t214⟩, A220, H⟩ := H
             replace H : (if t211 = 0 then (nunciolaw15_FeedTakes.l0 k2 a0 l1 x6_2 x7_2 true (wrap64 (x9_2 + 1)) t212 t213 t214) else (some false)) = some r := H
             have A22 := Aside0.mk A220
             clear A220
             by_cases c23 : t211 = 0
             ·
              rw [if_pos c23] at H
              have c23b0 : (t211 == 0) = true := beq_iff_eq.mpr c23
              have c23b1 : (t211 != 0) = false := bne_eq_false_iff_eq.mpr c23
              clear c23
              have H' := Aside0.mk H
              clear H
              have p199 : 0 ≤ (x9_2 : Int) := of_decide_eq_true (by first | (with_reducible assumption) | assumption)
              have q199 : x9_2 < (l1.length : Int) := of_decide_eq_true (by first | (with_reducible assumption) | assumption)
              obtain ⟨ad199, e199, hx199_0⟩ := Kd.at_string HR1.out x9_2 p199 q199
              cases e199
              replace hx199_0 := (HB.out.cell (World.block_lt_of_cell? w _ hx199_0)).trans hx199_0
              replace p199 := eq_true p199
              replace q199 := eq_true q199
              go_wp2_with (first | ((with_reducible refine gate_callee (f := 9) rfl ?_); refine goesL_ (some 39) rfl rfl Try.func9 (by kernel_rfl) rfl #[.pointer (some ⟨g198, 0, none⟩), .string (rdOf ByteArray.empty l1 x9_2)] rfl (by (try simp only [List.map_toArray, List.map_cons, List.map_nil]); first | done | rfl | (simp only [List.length_drop, List.length_take]; rfl)) ?_; (with_reducible refine (feed_Feed_Add.calls k2 g198 x199000_2 x199001_2 x199002_2 (rdOf ByteArray.empty l1 x9_2) t200 t203 t204 t205 t206 w _ ?side1 ?side2 A16.out).mono ?_); (case side1 => repeat (first | (with_reducible first | exact HI198.out | apply IsS43.alloc | apply IsS43.drewN | apply IsS43.drew | apply IsS43.set_0 | apply IsS43.set_1 | apply IsS43.set_2) | exact HI198.out | simp only [*])); (case side2 => repeat (first | (with_reducible first | exact HB.out | apply below_alloc | apply pw_below_drewN | apply below_drew1 | refine below_set ?_ (IsS43.ge HI198.out)) | exact HB.out)); rintro e w24 ⟨v201, rfl, ho0, hi, hb, hk⟩; refine ⟨_, rfl, ?_⟩; have n0_ := Aside0.mk (Kd.R_mono (Kd.R_told (Kd.R_oldK (IsS43.apart (show IsS43 w _ g198 x199000_2 x199001_2 x199002_2 from by repeat (first | (with_reducible first | exact HI198.out | apply IsS43.alloc | apply IsS43.drewN | apply IsS43.drew | apply IsS43.set_0 | apply IsS43.set_1 | apply IsS43.set_2) | exact HI198.out | simp only [*])) (by (with_reducible repeat (first | apply Kd.R_alloc | apply Kd.R_drewN | apply Kd.R_drew)); exact HO_7.out) (by decide)) hk) (Kd.R_base ho0)) (fun _ h_ => h_.1)); have n1_ := Aside0.mk (Kd.R_lower (Kd.R_new' ho0 (Kd.R_lt (by (with_reducible repeat (first | apply Kd.R_alloc | apply Kd.R_drewN | apply Kd.R_drew)); exact HO_7.out))) (below_size (by repeat (first | (with_reducible first | exact HB.out | apply below_alloc | apply pw_below_drewN | apply below_drew1 | refine below_set ?_ (IsS43.ge HI198.out)) | exact HB.out)))); have n2_ := Aside0.mk (hb); have n3_ := Aside0.mk (hi); clear HO_7; clear HB; clear HI198; have HO_7 := n0_; have HO202 := n1_; have HB := n2_; have HI198 := n3_; clear n0_ n1_ n2_ n3_; (try clear hb); (try clear hb2); (try clear hk); (try clear hi); (try clear ho0); obtain ⟨Ao25, co25, eo25⟩ := Kd.R_slice HO202.out; subst eo25) | (go_at_call 10; (with_reducible refine (feed_Feed_Down.calls g198 t204 t205 t206 true t208 t209 t210 w _ ?side1 ?side2 A20.out).mono ?_); (case side1 => repeat (first | (with_reducible first | exact HI198.out | apply IsS43.alloc | apply IsS43.drewN | apply IsS43.drew | apply IsS43.set_0 | apply IsS43.set_1 | apply IsS43.set_2) | exact HI198.out | simp only [*])); (case side2 => repeat (first | (with_reducible first | exact HB.out | apply below_alloc | apply pw_below_drewN | apply below_drew1 | refine below_set ?_ (IsS43.ge HI198.out)) | exact HB.out)); rintro e w26 ⟨rfl, hi, hb, hk⟩; have n0_ := Aside0.mk (Kd.R_mono (Kd.R_keep (IsS43.apart (show IsS43 w _ g198 t204 t205 t206 from by repeat (first | (with_reducible first | exact HI198.out | apply IsS43.alloc | apply IsS43.drewN | apply IsS43.drew | apply IsS43.set_0 | apply IsS43.set_1 | apply IsS43.set_2) | exact HI198.out | simp only [*])) (by (with_reducible repeat (first | apply Kd.R_alloc | apply Kd.R_drewN | apply Kd.R_drew)); exact HO_7.out) (by decide)) hk (fun _ h => h.2)) (fun _ h => h.1)); have n1_ := Aside0.mk (Kd.R_mono (Kd.R_keep (IsS43.apart (show IsS43 w _ g198 t204 t205 t206 from by repeat (first | (with_reducible first | exact HI198.out | apply IsS43.alloc | apply IsS43.drewN | apply IsS43.drew | apply IsS43.set_0 | apply IsS43.set_1 | apply IsS43.set_2) | exact HI198.out | simp only [*])) (by (with_reducible repeat (first | apply Kd.R_alloc | apply Kd.R_drewN | apply Kd.R_drew)); exact HO202.out) (by decide)) hk (fun _ h => h.2)) (fun _ h => h.1)); have n2_ := Aside0.mk (hb); have n3_ := Aside0.mk (hi); clear HO_7; clear HO202; clear HB; clear HI198; have HO_7 := n0_; have HO202 := n1_; have HB := n2_; have HI198 := n3_; clear n0_ n1_ n2_ n3_; (try clear hb); (try clear hb2); (try clear hk); (try clear hi)) | (go_at_call 11; (with_reducible refine (feed_Feed_Held.calls g198 t208 t209 t210 t211 t212 t213 t214 w _ ?side1 ?side2 A22.out).mono ?_); (case side1 => repeat (first | (with_reducible first | exact HI198.out | apply IsS43.alloc | apply IsS43.drewN | apply IsS43.drew | apply IsS43.set_0 | apply IsS43.set_1 | apply IsS43.set_2) | exact HI198.out | simp only [*])); (case side2 => repeat (first | (with_reducible first | exact HB.out | apply below_alloc | apply pw_below_drewN | apply below_drew1 | refine below_set ?_ (IsS43.ge HI198.out)) | exact HB.out)); rintro e w27 ⟨rfl, hi, hb, hk⟩; have n0_ := Aside0.mk (Kd.R_mono (Kd.R_keep (IsS43.apart (show IsS43 w _ g198 t208 t209 t210 from by repeat (first | (with_reducible first | exact HI198.out | apply IsS43.alloc | apply IsS43.drewN | apply IsS43.drew | apply IsS43.set_0 | apply IsS43.set_1 | apply IsS43.set_2) | exact HI198.out | simp only [*])) (by (with_reducible repeat (first | apply Kd.R_alloc | apply Kd.R_drewN | apply Kd.R_drew)); exact HO_7.out) (by decide)) hk (fun _ h => h.2)) (fun _ h => h.1)); have n1_ := Aside0.mk (Kd.R_mono (Kd.R_keep (IsS43.apart (show IsS43 w _ g198 t208 t209 t210 from by repeat (first | (with_reducible first | exact HI198.out | apply IsS43.alloc | apply IsS43.drewN | apply IsS43.drew | apply IsS43.set_0 | apply IsS43.set_1 | apply IsS43.set_2) | exact HI198.out | simp only [*])) (by (with_reducible repeat (first | apply Kd.R_alloc | apply Kd.R_drewN | apply Kd.R_drew)); exact HO202.out) (by decide)) hk (fun _ h => h.2)) (fun _ h => h.1)); have n2_ := Aside0.mk (hb); have n3_ := Aside0.mk (hi); clear HO_7; clear HO202; clear HB; clear HI198; have HO_7 := n0_; have HO202 := n1_; have HB := n2_; have HI198 := n3_; clear n0_ n1_ n2_ n3_; (try clear hb); (try clear hb2); (try clear hk); (try clear hi)))
              go_roundg k2
              case measure => have := HJ4.out; have := HK2.out; omega
              case rel => exact ⟨(x6_2), (x7_2), (true), (wrap64 (x9_2 + 1)), (t212), (t213), (t214), (by first | rfl | (simp; done) | (simp [*]; done)), (by first | rfl | (simp; done) | (simp [*]; done)), (by first | rfl | (simp; done) | (simp [*]; done)), H', ⟨by have := HJ4.out; have := HK2.out; omega⟩, ⟨by (with_reducible repeat (first | apply Kd.R_alloc | apply Kd.R_drewN | apply Kd.R_drew)); exact Kd.R_mono HO_7.out (fun _ hk => trivial)⟩, ⟨by repeat (first | (with_reducible first | exact HI198.out | apply IsS43.alloc | apply IsS43.drewN | apply IsS43.drew | apply IsS43.set_0 | apply IsS43.set_1 | apply IsS43.set_2) | exact HI198.out | simp only [*])⟩, ⟨by repeat (first | (with_reducible first | exact HB.out | apply below_alloc | apply pw_below_drewN | apply below_drew1 | refine below_set ?_ (IsS43.ge HI198.out)) | exact HB.out)⟩⟩
             ·
              rw [if_neg c23] at H
              have c23b0 : (t211 == 0) = false := beq_eq_false_iff_ne.mpr c23
              have c23b1 : (t211 != 0) = true := bne_iff_ne.mpr c23
              exact absurd ((Option.some.inj H).trans HT.out) (by decide)
            ·
             replace c21 := Bool.eq_false_iff.mpr c21
             subst c21
             have H1 : (some false) = some r := by rw [if_neg (show ¬ (false = true) by decide)] at H; exact H
             clear H
             have H := H1
             clear H1
             exact absurd ((Option.some.inj H).trans HT.out) (by decide)
           ·
            rw [if_neg c19] at H
            have c19b0 : (t203 == 0) = false := beq_eq_false_iff_ne.mpr c19
            have c19b1 : (t203 != 0) = true := bne_iff_ne.mpr c19
            exact absurd ((Option.some.inj H).trans HT.out) (by decide)
          ·
           rw [if_neg c18] at H
           have c18b0 : ((t200.length : Int) == 0) = false := beq_eq_false_iff_ne.mpr c18
           have c18b1 : ((t200.length : Int) != 0) = true := bne_iff_ne.mpr c18
           have c18b2 : ¬ (t200 = []) := fun h_ => c18 (by rw [h_]; rfl)
           exact absurd ((Option.some.inj H).trans HT.out) (by decide)
         ·
          replace c17 := Bool.eq_false_iff.mpr c17
          subst c17
          have H1 : (if x6_2.size + (rdOf ByteArray.empty l1 x9_2).size ≤ 9223372036854775807 then (if x7_2.length + t200.length < 5864062014805 then ((some (x7_2 ++ t200 : List (S40))).bind fun y216 => ((nuncioref15_All.f k2 (x6_2 ++ (rdOf ByteArray.empty l1 x9_2)) a0).bind fun bt219 => ((nuncioref15_Same.f k2 y216 bt219.1).bind fun t224 => (if t224 = true then (if (wrap64 (t203)) = bt219.2.1 then ((feed_Feed_Held.f t204 t205 t206).bind fun bt225 => (if bt225.1 = bt219.2.2 then ((feed_Feed_Down.f bt225.2.1 bt225.2.2.1 bt225.2.2.2).bind fun bt229 => (if (bt229.1 != (bt219.2.1 != 0)) = true then (some false) else (nunciolaw15_FeedTakes.l0 k2 a0 l1 (x6_2 ++ (rdOf ByteArray.empty l1 x9_2)) y216 (bt219.2.1 != 0) (wrap64 (x9_2 + 1)) bt229.2.1 bt229.2.2.1 bt229.2.2.2))) else (some false))) else (some false)) else (some false))))) else (none)) else (none)) = some r := by rw [if_neg (show ¬ (false = true) by decide)] at H; exact H
          clear H
          have H := H1
          clear H1
          by_cases c28 : x6_2.size + (rdOf ByteArray.empty l1 x9_2).size ≤ 9223372036854775807
          ·
           rw [if_pos c28] at H
           have c28b0 := eq_true c28
           have c28b1 : decide (x6_2.size + (rdOf ByteArray.empty l1 x9_2).size ≤ 9223372036854775807) = true := decide_eq_true c28
           try have c28b2 : (9223372036854775807 < x6_2.size + (rdOf ByteArray.empty l1 x9_2).size) = False := eq_false (Nat.not_lt.2 c28)
           by_cases c29 : x7_2.length + t200.length < 5864062014805
           ·
            rw [if_pos c29] at H
            have LMc29 := Aside0.mk c29
            clear c29
            obtain ⟨y216, hy216⟩ : ∃ y_ : List (S40), y_ = (x7_2 ++ t200) := ⟨_, rfl⟩
            replace H : ((nuncioref15_All.f k2 (x6_2 ++ (rdOf ByteArray.empty l1 x9_2)) a0).bind fun bt219 => ((nuncioref15_Same.f k2 y216 bt219.1).bind fun t224 => (if t224 = true then (if (wrap64 (t203)) = bt219.2.1 then ((feed_Feed_Held.f t204 t205 t206).bind fun bt225 => (if bt225.1 = bt219.2.2 then ((feed_Feed_Down.f bt225.2.1 bt225.2.2.1 bt225.2.2.2).bind fun bt229 => (if (bt229.1 != (bt219.2.1 != 0)) = true then (some false) else (nunciolaw15_FeedTakes.l0 k2 a0 l1 (x6_2 ++ (rdOf ByteArray.empty l1 x9_2)) y216 (bt219.2.1 != 0) (wrap64 (x9_2 + 1)) bt229.2.1 bt229.2.2.1 bt229.2.2.2))) else (some false))) else (some false)) else (some false)))) = some r := by first | (rw [hy216]; with_reducible exact H) | (have H2_ := (Option.bind_some _ _).symm.trans H; rw [hy216]; with_reducible exact H2_) | (have H2_ := (Option.bind_some _ _).symm.trans H; with_reducible exact H2_) | with_reducible exact H | (rw [hy216]; exact H) | exact H
            have Ny216 := Aside0.mk hy216
            clear hy216
            replace H := Option.bind_eq_some_iff.mp H
            obtain ⟨⟨t219, t220, t221⟩, A300, H⟩ := H
            replace H : ((nuncioref15_Same.f k2 y216 t219).bind fun t224 => (if t224 = true then (if (wrap64 (t203)) = t220 then ((feed_Feed_Held.f t204 t205 t206).bind fun bt225 => (if bt225.1 = t221 then ((feed_Feed_Down.f bt225.2.1 bt225.2.2.1 bt225.2.2.2).bind fun bt229 => (if (bt229.1 != (t220 != 0)) = true then (some false) else (nunciolaw15_FeedTakes.l0 k2 a0 l1 (x6_2 ++ (rdOf ByteArray.empty l1 x9_2)) y216 (t220 != 0) (wrap64 (x9_2 + 1)) bt229.2.1 bt229.2.2.1 bt229.2.2.2))) else (some false))) else (some false)) else (some false))) = some r := H
            have A30 := Aside0.mk A300
            clear A300
            replace H := Option.bind_eq_some_iff.mp H
            obtain ⟨t224, A310, H⟩ := H
            replace H : (if t224 = true then (if (wrap64 (t203)) = t220 then ((feed_Feed_Held.f t204 t205 t206).bind fun bt225 => (if bt225.1 = t221 then ((feed_Feed_Down.f bt225.2.1 bt225.2.2.1 bt225.2.2.2).bind fun bt229 => (if (bt229.1 != (t220 != 0)) = true then (some false) else (nunciolaw15_FeedTakes.l0 k2 a0 l1 (x6_2 ++ (rdOf ByteArray.empty l1 x9_2)) y216 (t220 != 0) (wrap64 (x9_2 + 1)) bt229.2.1 bt229.2.2.1 bt229.2.2.2))) else (some false))) else (some false)) else (some false)) = some r := H
            have A31 := Aside0.mk A310
            clear A310
            by_cases c32 : t224 = true
            ·
             subst c32
             have H1 : (if (wrap64 (t203)) = t220 then ((feed_Feed_Held.f t204 t205 t206).bind fun bt225 => (if bt225.1 = t221 then ((feed_Feed_Down.f bt225.2.1 bt225.2.2.1 bt225.2.2.2).bind fun bt229 => (if (bt229.1 != (t220 != 0)) = true then (some false) else (nunciolaw15_FeedTakes.l0 k2 a0 l1 (x6_2 ++ (rdOf ByteArray.empty l1 x9_2)) y216 (t220 != 0) (wrap64 (x9_2 + 1)) bt229.2.1 bt229.2.2.1 bt229.2.2.2))) else (some false))) else (some false)) = some r := by rw [if_pos rfl] at H; exact H
             clear H
             have H := H1
             clear H1
             by_cases c33 : (wrap64 (t203)) = t220
             ·
              rw [if_pos c33] at H
              have c33b0 : ((wrap64 (t203)) == t220) = true := beq_iff_eq.mpr c33
              have c33b1 : ((wrap64 (t203)) != t220) = false := bne_eq_false_iff_eq.mpr c33
              clear c33
              replace H := Option.bind_eq_some_iff.mp H
              obtain ⟨⟨t225, t226, t227, t228⟩, A340, H⟩ := H
              replace H : (if t225 = t221 then ((feed_Feed_Down.f t226 t227 t228).bind fun bt229 => (if (bt229.1 != (t220 != 0)) = true then (some false) else (nunciolaw15_FeedTakes.l0 k2 a0 l1 (x6_2 ++ (rdOf ByteArray.empty l1 x9_2)) y216 (t220 != 0) (wrap64 (x9_2 + 1)) bt229.2.1 bt229.2.2.1 bt229.2.2.2))) else (some false)) = some r := H
              have A34 := Aside0.mk A340
              clear A340
              by_cases c35 : t225 = t221
              ·
               rw [if_pos c35] at H
               have c35b0 : (t225 == t221) = true := beq_iff_eq.mpr c35
               have c35b1 : (t225 != t221) = false := bne_eq_false_iff_eq.mpr c35
               clear c35
               replace H := Option.bind_eq_some_iff.mp H
               obtain ⟨⟨t229, t230, t231, t232⟩, A360, H⟩ := H
               replace H : (if (t229 != (t220 != 0)) = true then (some false) else (nunciolaw15_FeedTakes.l0 k2 a0 l1 (x6_2 ++ (rdOf ByteArray.empty l1 x9_2)) y216 (t220 != 0) (wrap64 (x9_2 + 1)) t230 t231 t232)) = some r := H
               have A36 := Aside0.mk A360
               clear A360
               by_cases c37 : (t229 != (t220 != 0)) = true
               ·
                rw [if_pos c37] at H
                have c37b0 : (t229 != (t220 != 0)) = true := c37
                (try (have c37b1 : decide (t229 = (t220 != 0)) = false := by simpa using c37))
                (try (have c37b2 : (t229 == (t220 != 0)) = false := by simpa using c37))
                (try (have c37b3 : ¬ (t229 = (t220 != 0)) := by simpa using c37))
                clear c37
                exact absurd ((Option.some.inj H).trans HT.out) (by decide)
               ·
                rw [if_neg c37] at H
                have c37b0 : (t229 != (t220 != 0)) = false := by simpa using c37
                (try (have c37b1 : decide (t229 = (t220 != 0)) = true := by simpa using c37))
                (try (have c37b2 : (t229 == (t220 != 0)) = true := by simpa using c37))
                clear c37
                have H' := Aside0.mk H
                clear H
                have p199 : 0 ≤ (x9_2 : Int) := of_decide_eq_true (by first | (with_reducible assumption) | assumption)
                have q199 : x9_2 < (l1.length : Int) := of_decide_eq_true (by first | (with_reducible assumption) | assumption)
                obtain ⟨ad199, e199, hx199_0⟩ := Kd.at_string HR1.out x9_2 p199 q199
                cases e199
                replace hx199_0 := (HB.out.cell (World.block_lt_of_cell? w _ hx199_0)).trans hx199_0
                replace p199 := eq_true p199
                replace q199 := eq_true q199
                go_wp2_with (first | ((with_reducible refine gate_callee (f := 9) rfl ?_); refine goesL_ (some 39) rfl rfl Try.func9 (by kernel_rfl) rfl #[.pointer (some ⟨g198, 0, none⟩), .string (rdOf ByteArray.empty l1 x9_2)] rfl (by (try simp only [List.map_toArray, List.map_cons, List.map_nil]); first | done | rfl | (simp only [List.length_drop, List.length_take]; rfl)) ?_; (with_reducible refine (feed_Feed_Add.calls k2 g198 x199000_2 x199001_2 x199002_2 (rdOf ByteArray.empty l1 x9_2) t200 t203 t204 t205 t206 w _ ?side1 ?side2 A16.out).mono ?_); (case side1 => repeat (first | (with_reducible first | exact HI198.out | apply IsS43.alloc | apply IsS43.drewN | apply IsS43.drew | apply IsS43.set_0 | apply IsS43.set_1 | apply IsS43.set_2) | exact HI198.out | simp only [*])); (case side2 => repeat (first | (with_reducible first | exact HB.out | apply below_alloc | apply pw_below_drewN | apply below_drew1 | refine below_set ?_ (IsS43.ge HI198.out)) | exact HB.out)); rintro e w38 ⟨v201, rfl, ho0, hi, hb, hk⟩; refine ⟨_, rfl, ?_⟩; have n0_ := Aside0.mk (Kd.R_mono (Kd.R_told (Kd.R_oldK (IsS43.apart (show IsS43 w _ g198 x199000_2 x199001_2 x199002_2 from by repeat (first | (with_reducible first | exact HI198.out | apply IsS43.alloc | apply IsS43.drewN | apply IsS43.drew | apply IsS43.set_0 | apply IsS43.set_1 | apply IsS43.set_2) | exact HI198.out | simp only [*])) (by (with_reducible repeat (first | apply Kd.R_alloc | apply Kd.R_drewN | apply Kd.R_drew)); exact HO_7.out) (by decide)) hk) (Kd.R_base ho0)) (fun _ h_ => h_.1)); have n1_ := Aside0.mk (Kd.R_lower (Kd.R_new' ho0 (Kd.R_lt (by (with_reducible repeat (first | apply Kd.R_alloc | apply Kd.R_drewN | apply Kd.R_drew)); exact HO_7.out))) (below_size (by repeat (first | (with_reducible first | exact HB.out | apply below_alloc | apply pw_below_drewN | apply below_drew1 | refine below_set ?_ (IsS43.ge HI198.out)) | exact HB.out)))); have n2_ := Aside0.mk (hb); have n3_ := Aside0.mk (hi); clear HO_7; clear HB; clear HI198; have HO_7 := n0_; have HO202 := n1_; have HB := n2_; have HI198 := n3_; clear n0_ n1_ n2_ n3_; (try clear hb); (try clear hb2); (try clear hk); (try clear hi); (try clear ho0); have p215 : 0 ≤ (x9_2 : Int) := of_decide_eq_true (by first | (with_reducible assumption) | assumption); have q215 : x9_2 < (l1.length : Int) := of_decide_eq_true (by first | (with_reducible assumption) | assumption); obtain ⟨ad215, e215, hx215_0⟩ := Kd.at_string HR1.out x9_2 p215 q215; obtain rfl : ad199 = ad215 := (by injection e215); replace hx215_0 := (HB.out.cell (World.block_lt_of_cell? w _ hx215_0)).trans hx215_0; replace p215 := eq_true p215; replace q215 := eq_true q215; obtain ⟨Ao40, co40, eo40⟩ := Kd.R_slice HO202.out; subst eo40) | ((with_reducible refine gate_builtin (b := .append) (xs := #[.tmp 66, .tmp 67]) rfl ?_); (try (refine gate_guard (by rfl) ?_; dsimp only)); at_builtin; refine Kd.R_append_rows k40 (w0 := w) w.heap.size rfl (.tmp 66) (.tmp 67) 27 40 (.agg #[(.int .u8 0), (.int .u8 0), (.int .u32 0), (.string ⟨#[]⟩)]) 24 rfl Try.underlying27 info40 rfl (by decide) (by omega) u7 x7_2 t200 _ _ _ (fun k_ => some k_ ≠ (.slice Ao40 t200.length co40 : Value).ownBlock) (fun _ => False) rfl rfl ?aO ?aR (fun _ _ h => h) (fun _ h => h.elim) ?aF ?aB ?aS ?aL ?_; (case aR => repeat (first | exact (Kd.R_reads' HO202.out).2.2 | (with_reducible refine Kd.C_alloc ?_ _) | (with_reducible refine Kd.C_drewN ?_ _) | (with_reducible refine Kd.C_drew ?_))); (case aB => exact (by repeat (first | (with_reducible first | exact HB.out | apply below_alloc | apply pw_below_drewN | apply below_drew1 | refine below_set ?_ (IsS43.ge HI198.out)) | exact HB.out))); (case aF => exact (fun k_ hk => Kd.fresh' (Kd.R_lt (by (with_reducible repeat (first | apply Kd.R_alloc | apply Kd.R_drewN | apply Kd.R_drew)); exact HO202.out)) k_ hk)); (case aO => exact (by (with_reducible repeat (first | apply Kd.R_alloc | apply Kd.R_drewN | apply Kd.R_drew)); exact Kd.R_mono HO_7.out (fun _ hk => hk.2))); (case aS => exact (below_size (by repeat (first | (with_reducible first | exact HB.out | apply below_alloc | apply pw_below_drewN | apply below_drew1 | refine below_set ?_ (IsS43.ge HI198.out)) | exact HB.out)))); (case aL => have := LMc29.out; omega); intro v217 w39 ho hb hg hat; rw [← Ny216.out] at ho; have n0_ := Aside0.mk (IsS43.grown (w0 := w) (f0 := t204) (f1 := t205) (f2 := t206) (by repeat (first | (with_reducible first | exact HI198.out | apply IsS43.alloc | apply IsS43.drewN | apply IsS43.drew | apply IsS43.set_0 | apply IsS43.set_1 | apply IsS43.set_2) | exact HI198.out | simp only [*])) hg (IsS43.own_ne HI198.out HO_7.out (by decide))); have n1_ := Aside0.mk (Kd.R_after (ok := (fun _ => True)) (by (with_reducible repeat (first | apply Kd.R_alloc | apply Kd.R_drewN | apply Kd.R_drew)); exact HO202.out) hg hat); have n2_ := Aside0.mk (hb); have n3_ := Aside0.mk (ho); clear HI198; clear HO202; clear HB; clear HO_7; have HI198 := n0_; have HO202 := n1_; have HB := n2_; have HO218 := n3_; clear n0_ n1_ n2_ n3_; clear ho hb hg hat) | ((with_reducible refine gate_callee (f := 12) rfl ?_); refine goesL_ (some 72) rfl rfl Try.func12 (by kernel_rfl) rfl #[.string (x6_2 ++ (rdOf ByteArray.empty l1 x9_2)), .bool a0] rfl (by (try simp only [List.map_toArray, List.map_cons, List.map_nil]); first | done | rfl | (simp only [List.length_drop, List.length_take]; rfl)) ?_; (with_reducible refine (nuncioref15_All.calls k2 (x6_2 ++ (rdOf ByteArray.empty l1 x9_2)) a0 t219 t220 t221 _ A30.out).mono ?_); rintro e w41 ⟨v222, rfl, ho0, hb⟩; refine ⟨_, rfl, ?_⟩; have n0_ := Aside0.mk (Kd.R_elder' (by (with_reducible repeat (first | apply Kd.R_alloc | apply Kd.R_drewN | apply Kd.R_drew)); exact HO202.out) (Kd.R_base ho0) hb); have n1_ := Aside0.mk (Kd.R_elder' (by (with_reducible repeat (first | apply Kd.R_alloc | apply Kd.R_drewN | apply Kd.R_drew)); exact HO218.out) (Kd.R_base ho0) hb); have n2_ := Aside0.mk (Kd.R_lower (Kd.R_new' (Kd.R_new' ho0 (Kd.R_lt (by (with_reducible repeat (first | apply Kd.R_alloc | apply Kd.R_drewN | apply Kd.R_drew)); exact HO202.out))) (Kd.R_lt (by (with_reducible repeat (first | apply Kd.R_alloc | apply Kd.R_drewN | apply Kd.R_drew)); exact HO218.out))) (below_size (by repeat (first | (with_reducible first | exact HB.out | apply below_alloc | apply pw_below_drewN | apply below_drew1 | refine below_set ?_ (IsS43.ge HI198.out)) | exact HB.out)))); have n3_ := Aside0.mk (IsS43.below (by repeat (first | (with_reducible first | exact HI198.out | apply IsS43.alloc | apply IsS43.drewN | apply IsS43.drew | apply IsS43.set_0 | apply IsS43.set_1 | apply IsS43.set_2) | exact HI198.out | simp only [*])) hb); have n4_ := Aside0.mk (below_step (by repeat (first | (with_reducible first | exact HB.out | apply below_alloc | apply pw_below_drewN | apply below_drew1 | refine below_set ?_ (IsS43.ge HI198.out)) | exact HB.out)) hb); clear HO202; clear HO218; clear HI198; clear HB; have HO202 := n0_; have HO218 := n1_; have HO223 := n2_; have HI198 := n3_; have HB := n4_; clear n0_ n1_ n2_ n3_ n4_; (try clear hb); (try clear hb2); (try clear hk); (try clear hi); (try clear ho0); obtain ⟨Ao42, co42, eo42⟩ := Kd.R_slice HO218.out; subst eo42; obtain ⟨Ao43, co43, eo43⟩ := Kd.R_slice HO223.out; subst eo43) | ((with_reducible refine gate_callee (f := 13) rfl ?_); refine goesL_ (some 78) rfl rfl Try.func13 (by kernel_rfl) rfl #[.slice Ao42 y216.length co42, .slice Ao43 t219.length co43] rfl (by (try simp only [List.map_toArray, List.map_cons, List.map_nil]); first | done | rfl | (simp only [List.length_drop, List.length_take]; rfl)) ?_; (with_reducible refine (nuncioref15_Same.calls k2 _ _ y216 _ _ t219 true _ ?side1 ?side2 ?side3 ?side4 A31.out).mono ?_); (case side1 => repeat (first | exact (Kd.R_reads' HO218.out).2.2 | (with_reducible refine Kd.C_alloc ?_ _) | (with_reducible refine Kd.C_drewN ?_ _) | (with_reducible refine Kd.C_drew ?_))); (case side2 => exact (Kd.R_reads' HO218.out).2.1); (case side3 => repeat (first | exact (Kd.R_reads' HO223.out).2.2 | (with_reducible refine Kd.C_alloc ?_ _) | (with_reducible refine Kd.C_drewN ?_ _) | (with_reducible refine Kd.C_drew ?_))); (case side4 => exact (Kd.R_reads' HO223.out).2.1); rintro e w' ⟨rfl, ⟨nd, rfl⟩⟩; refine ⟨_, rfl, ?_⟩) | (go_at_call 11; (with_reducible refine (feed_Feed_Held.calls g198 t204 t205 t206 t225 t226 t227 t228 w _ ?side1 ?side2 A34.out).mono ?_); (case side1 => repeat (first | (with_reducible first | exact HI198.out | apply IsS43.alloc | apply IsS43.drewN | apply IsS43.drew | apply IsS43.set_0 | apply IsS43.set_1 | apply IsS43.set_2) | exact HI198.out | simp only [*])); (case side2 => repeat (first | (with_reducible first | exact HB.out | apply below_alloc | apply pw_below_drewN | apply below_drew1 | refine below_set ?_ (IsS43.ge HI198.out)) | exact HB.out)); rintro e w44 ⟨rfl, hi, hb, hk⟩; have n0_ := Aside0.mk (Kd.R_mono (Kd.R_keep (IsS43.apart (show IsS43 w _ g198 t204 t205 t206 from by repeat (first | (with_reducible first | exact HI198.out | apply IsS43.alloc | apply IsS43.drewN | apply IsS43.drew | apply IsS43.set_0 | apply IsS43.set_1 | apply IsS43.set_2) | exact HI198.out | simp only [*])) (by (with_reducible repeat (first | apply Kd.R_alloc | apply Kd.R_drewN | apply Kd.R_drew)); exact HO202.out) (by decide)) hk (fun _ h => h.2)) (fun _ h => h.1)); have n1_ := Aside0.mk (Kd.R_mono (Kd.R_keep (IsS43.apart (show IsS43 w _ g198 t204 t205 t206 from by repeat (first | (with_reducible first | exact HI198.out | apply IsS43.alloc | apply IsS43.drewN | apply IsS43.drew | apply IsS43.set_0 | apply IsS43.set_1 | apply IsS43.set_2) | exact HI198.out | simp only [*])) (by (with_reducible repeat (first | apply Kd.R_alloc | apply Kd.R_drewN | apply Kd.R_drew)); exact HO218.out) (by decide)) hk (fun _ h => h.2)) (fun _ h => h.1)); have n2_ := Aside0.mk (Kd.R_mono (Kd.R_keep (IsS43.apart (show IsS43 w _ g198 t204 t205 t206 from by repeat (first | (with_reducible first | exact HI198.out | apply IsS43.alloc | apply IsS43.drewN | apply IsS43.drew | apply IsS43.set_0 | apply IsS43.set_1 | apply IsS43.set_2) | exact HI198.out | simp only [*])) (by (with_reducible repeat (first | apply Kd.R_alloc | apply Kd.R_drewN | apply Kd.R_drew)); exact HO223.out) (by decide)) hk (fun _ h => h.2)) (fun _ h => h.1)); have n3_ := Aside0.mk (hb); have n4_ := Aside0.mk (hi); clear HO202; clear HO218; clear HO223; clear HB; clear HI198; have HO202 := n0_; have HO218 := n1_; have HO223 := n2_; have HB := n3_; have HI198 := n4_; clear n0_ n1_ n2_ n3_ n4_; (try clear hb); (try clear hb2); (try clear hk); (try clear hi)) | (go_at_call 10; (with_reducible refine (feed_Feed_Down.calls g198 t226 t227 t228 t229 t230 t231 t232 w _ ?side1 ?side2 A36.out).mono ?_); (case side1 => repeat (first | (with_reducible first | exact HI198.out | apply IsS43.alloc | apply IsS43.drewN | apply IsS43.drew | apply IsS43.set_0 | apply IsS43.set_1 | apply IsS43.set_2) | exact HI198.out | simp only [*])); (case side2 => repeat (first | (with_reducible first | exact HB.out | apply below_alloc | apply pw_below_drewN | apply below_drew1 | refine below_set ?_ (IsS43.ge HI198.out)) | exact HB.out)); rintro e w45 ⟨rfl, hi, hb, hk⟩; have n0_ := Aside0.mk (Kd.R_mono (Kd.R_keep (IsS43.apart (show IsS43 w _ g198 t226 t227 t228 from by repeat (first | (with_reducible first | exact HI198.out | apply IsS43.alloc | apply IsS43.drewN | apply IsS43.drew | apply IsS43.set_0 | apply IsS43.set_1 | apply IsS43.set_2) | exact HI198.out | simp only [*])) (by (with_reducible repeat (first | apply Kd.R_alloc | apply Kd.R_drewN | apply Kd.R_drew)); exact HO202.out) (by decide)) hk (fun _ h => h.2)) (fun _ h => h.1)); have n1_ := Aside0.mk (Kd.R_mono (Kd.R_keep (IsS43.apart (show IsS43 w _ g198 t226 t227 t228 from by repeat (first | (with_reducible first | exact HI198.out | apply IsS43.alloc | apply IsS43.drewN | apply IsS43.drew | apply IsS43.set_0 | apply IsS43.set_1 | apply IsS43.set_2) | exact HI198.out | simp only [*])) (by (with_reducible repeat (first | apply Kd.R_alloc | apply Kd.R_drewN | apply Kd.R_drew)); exact HO218.out) (by decide)) hk (fun _ h => h.2)) (fun _ h => h.1)); have n2_ := Aside0.mk (Kd.R_mono (Kd.R_keep (IsS43.apart (show IsS43 w _ g198 t226 t227 t228 from by repeat (first | (with_reducible first | exact HI198.out | apply IsS43.alloc | apply IsS43.drewN | apply IsS43.drew | apply IsS43.set_0 | apply IsS43.set_1 | apply IsS43.set_2) | exact HI198.out | simp only [*])) (by (with_reducible repeat (first | apply Kd.R_alloc | apply Kd.R_drewN | apply Kd.R_drew)); exact HO223.out) (by decide)) hk (fun _ h => h.2)) (fun _ h => h.1)); have n3_ := Aside0.mk (hb); have n4_ := Aside0.mk (hi); clear HO202; clear HO218; clear HO223; clear HB; clear HI198; have HO202 := n0_; have HO218 := n1_; have HO223 := n2_; have HB := n3_; have HI198 := n4_; clear n0_ n1_ n2_ n3_ n4_; (try clear hb); (try clear hb2); (try clear hk); (try clear hi)))
                go_roundg k2
                case measure => have := HJ4.out; have := HK2.out; omega
                case rel => exact ⟨(x6_2 ++ (rdOf ByteArray.empty l1 x9_2)), (y216), ((t220 != 0)), (wrap64 (x9_2 + 1)), (t230), (t231), (t232), (by first | rfl | (simp; done) | (simp [*]; done)), (by first | rfl | (simp; done) | (simp [*]; done)), (by first | rfl | (simp; done) | (simp [*]; done)), H', ⟨by have := HJ4.out; have := HK2.out; omega⟩, ⟨by (with_reducible repeat (first | apply Kd.R_alloc | apply Kd.R_drewN | apply Kd.R_drew)); exact Kd.R_mono HO218.out (fun _ hk => trivial)⟩, ⟨by repeat (first | (with_reducible first | exact HI198.out | apply IsS43.alloc | apply IsS43.drewN | apply IsS43.drew | apply IsS43.set_0 | apply IsS43.set_1 | apply IsS43.set_2) | exact HI198.out | simp only [*])⟩, ⟨by repeat (first | (with_reducible first | exact HB.out | apply below_alloc | apply pw_below_drewN | apply below_drew1 | refine below_set ?_ (IsS43.ge HI198.out)) | exact HB.out)⟩⟩
              ·
               rw [if_neg c35] at H
               have c35b0 : (t225 == t221) = false := beq_eq_false_iff_ne.mpr c35
               have c35b1 : (t225 != t221) = true := bne_iff_ne.mpr c35
               exact absurd ((Option.some.inj H).trans HT.out) (by decide)
             ·
              rw [if_neg c33] at H
              have c33b0 : ((wrap64 (t203)) == t220) = false := beq_eq_false_iff_ne.mpr c33
              have c33b1 : ((wrap64 (t203)) != t220) = true := bne_iff_ne.mpr c33
              exact absurd ((Option.some.inj H).trans HT.out) (by decide)
            ·
             replace c32 := Bool.eq_false_iff.mpr c32
             subst c32
             have H1 : (some false) = some r := by rw [if_neg (show ¬ (false = true) by decide)] at H; exact H
             clear H
             have H := H1
             clear H1
             exact absurd ((Option.some.inj H).trans HT.out) (by decide)
           ·
            rw [if_neg c29] at H
            exact absurd H (by simp)
          ·
           rw [if_neg c28] at H
           exact absurd H (by simp)
        ·
         rw [if_neg c15] at H
         exact absurd H (by simp)
       ·
        rw [if_neg c14] at H
        have c14b0 : decide (x9_2 < (l1.length : Int)) = false := decide_eq_false c14
        clear c14
        obtain rfl := Option.some.inj H
        go_wp2
        go_ret
        exact ⟨by first | rfl | (simp [errW_none, errW_some] <;> rfl) | (simp [*, errW_none, errW_some] <;> rfl), by repeat (first | (with_reducible first | exact HB.out | apply below_alloc | apply pw_below_drewN | apply below_drew1 | refine below_set ?_ (IsS43.ge HI198.out)) | exact HB.out)⟩
 ·
  replace c4 := Bool.eq_false_iff.mpr c4
  subst c4
  have H1 : (some false) = some r := by rw [if_neg (show ¬ (false = true) by decide)] at H; exact H
  clear H
  have H := H1
  clear H1
  exact absurd ((Option.some.inj H).trans HT.out) (by decide)

/-- THE ONE PURE STATEMENT of nunciolaw15_FeedTakes: yours. -/
def nunciolaw15_FeedTakes.Pure : Prop := ∀ (a0 : Bool) (l1 : List ByteArray), (l1.length ≤ 9223372036854775807 ∧ l1.length * 16 ≤ 140737488351232 ∧ ∀ x_ ∈ l1, x_.size ≤ 140737488351232) → ∃ k, nunciolaw15_FeedTakes.f k a0 l1 = some true
theorem nunciolaw15_FeedTakes.walk (P : nunciolaw15_FeedTakes.Pure) (a0 : Bool) (A1 : Option Addr) (c1 : Nat) (l1 : List ByteArray) (w : World) (hr1 : Kd.C Kd.string w A1 l1.length l1) (hc1 : l1.length ≤ c1) (w1 : l1.length ≤ 9223372036854775807 ∧ l1.length * 16 ≤ 140737488351232 ∧ ∀ x_ ∈ l1, x_.size ≤ 140737488351232) :
  Calls Try.prog 3 #[.bool a0, .slice A1 l1.length c1] w fun e w' => e = .returned (.bool true) ∧ Below w.heap.size w w' := by
 obtain ⟨k, h⟩ := P a0 l1 w1
 refine (nunciolaw15_FeedTakes.calls k a0 _ _ l1 true w hr1 hc1 h rfl).mono ?_
 rintro e w' ⟨rfl, hd⟩
 exact ⟨rfl, hd⟩

end Go.Proofs.Ytlglgfcdhflecaa.Mine
