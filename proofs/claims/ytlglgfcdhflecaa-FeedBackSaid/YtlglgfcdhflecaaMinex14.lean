-- Written by this repo's own printer (wip/print), which builds on the kit's.
import Derived.Test.YtlglgfcdhflecaaMinex0
import Derived.Test.YtlglgfcdhflecaaMinex2
import Derived.Test.YtlglgfcdhflecaaMinex5
import Derived.Test.YtlglgfcdhflecaaMinex6
import Derived.Test.YtlglgfcdhflecaaMinex10
import Derived.Test.YtlglgfcdhflecaaMinex13
namespace Go.Proofs.Ytlglgfcdhflecaa.Mine
open Go.RowKit Go.Proofs.YtlglgfcdhflecaaW.PrintWords Go.Proofs.YtlglgfcdhflecaaW.PrintLast Go.Proofs.YtlglgfcdhflecaaW.PrintMore
attribute [local go_sem] max2_int min2_int max_two min_two max_three min_three max_four min_four   -- for this text's walks alone
set_option linter.unusedVariables false
set_option linter.unusedSimpArgs false

/-! ### nunciolaw15_FeedBack: function 5 -/
mutual
def nunciolaw15_FeedBack.j0 : Nat → Bool → List (S40) → ByteArray → Bool → Option (Bool)
 | 0, _, _, _, _ => none
 | k + 1, x0, x1, x2, x24 => if x24 = true then (some true) else (if x0 = true then (nunciolaw15_FeedBack.j1 k x0 x1 x2 (⟨#[80, 82, 73, 32, 42, 32, 72, 84, 84, 80, 47, 50, 46, 48, 13, 10, 13, 10, 83, 77, 13, 10, 13, 10]⟩ : ByteArray)) else (nunciolaw15_FeedBack.j1 k x0 x1 x2 (⟨#[]⟩ : ByteArray)))
def nunciolaw15_FeedBack.j1 : Nat → Bool → List (S40) → ByteArray → ByteArray → Option (Bool)
 | 0, _, _, _, _ => none
 | k + 1, x0, x1, x2, x7 => nunciolaw15_FeedBack.l0 k x0 x1 x2 x7 ([] : List (S40)) 0
def nunciolaw15_FeedBack.l0 : Nat → Bool → List (S40) → ByteArray → ByteArray → List (S40) → Int → Option (Bool)
 | 0, _, _, _, _, _, _ => none
 | k + 1, x0, x1, x2, x7, x8, x9 => if x9 < (x1.length : Int) then (nunciolaw15_FeedBack.j3 k x0 x1 x2 x7 x8 x9 (decide ((x7.size : Int) < 40000))) else (nunciolaw15_FeedBack.j3 k x0 x1 x2 x7 x8 x9 false)
def nunciolaw15_FeedBack.j3 : Nat → Bool → List (S40) → ByteArray → ByteArray → List (S40) → Int → Bool → Option (Bool)
 | 0, _, _, _, _, _, _, _ => none
 | k + 1, x0, x1, x2, x7, x8, x9, x34 => if x34 = true then (if 0 ≤ x9 then (if x9 < (x1.length : Int) then ((nuncioref14_Print.f k ((rd_T40 x1 x9).f0) ((rd_T40 x1 x9).f1) ((rd_T40 x1 x9).f2) ((rd_T40 x1 x9).f3)).bind fun bt309 => (if bt309.2 = 0 then (if x7.size + bt309.1.size ≤ 9223372036854775807 then (if x8.length < 5864062014805 then (nunciolaw15_FeedBack.l0 k x0 x1 x2 (x7 ++ bt309.1) (x8 ++ [(⟨(rd_T40 x1 x9).f0, (rd_T40 x1 x9).f1, (rd_T40 x1 x9).f2, (rd_T40 x1 x9).f3⟩ : S40)]) (wrap64 (x9 + 1))) else (none)) else (none)) else (nunciolaw15_FeedBack.l0 k x0 x1 x2 x7 x8 (wrap64 (x9 + 1))))) else (none)) else (none)) else ((feed_New.f x0).bind fun bt315 => ((feed_Feed_Add.f k bt315.1 bt315.2.1 bt315.2.2 x7).bind fun bt319 => ((nuncioref15_Same.f k bt319.1 x8).bind fun t326 => (if t326 = true then (if bt319.2.1 = 0 then ((feed_Feed_Held.f bt319.2.2.1 bt319.2.2.2.1 bt319.2.2.2.2).bind fun bt327 => (nunciolaw15_FeedBack.j4 k x2 (bt327.1 != 0) bt327.2.1 bt327.2.2.1 bt327.2.2.2)) else (nunciolaw15_FeedBack.j4 k x2 true bt319.2.2.1 bt319.2.2.2.1 bt319.2.2.2.2)) else (nunciolaw15_FeedBack.j4 k x2 true bt319.2.2.1 bt319.2.2.2.1 bt319.2.2.2.2)))))
def nunciolaw15_FeedBack.j4 : Nat → ByteArray → Bool → ByteArray → Bool → Bool → Option (Bool)
 | 0, _, _, _, _, _ => none
 | k + 1, x2, x77, x319000, x319001, x319002 => if x77 = true then (some false) else ((feed_Feed_Add.f k x319000 x319001 x319002 x2).bind fun bt331 => ((feed_Feed_Held.f bt331.2.2.1 bt331.2.2.2.1 bt331.2.2.2.2).bind fun bt338 => (some (decide (bt338.1 < 16393)))))
end
def nunciolaw15_FeedBack.f (k : Nat) (a0 : Bool) (l1 : List (S40)) (a2 : ByteArray) : Option (Bool) := (nunciolaw15_awake.f k).bind fun t307 => (if t307 = true then (if (l1.length : Int) > 50 then (nunciolaw15_FeedBack.j0 k a0 l1 a2 true) else (nunciolaw15_FeedBack.j0 k a0 l1 a2 (decide ((a2.size : Int) > 40000)))) else (some false))
theorem nunciolaw15_FeedBack.mono_l : ∀ k, (∀ y0 y1 y2 y3, LeO (nunciolaw15_FeedBack.j0 k y0 y1 y2 y3) (nunciolaw15_FeedBack.j0 (k + 1) y0 y1 y2 y3)) ∧ (∀ y0 y1 y2 y3, LeO (nunciolaw15_FeedBack.j1 k y0 y1 y2 y3) (nunciolaw15_FeedBack.j1 (k + 1) y0 y1 y2 y3)) ∧ (∀ y0 y1 y2 y3 y4 y5, LeO (nunciolaw15_FeedBack.l0 k y0 y1 y2 y3 y4 y5) (nunciolaw15_FeedBack.l0 (k + 1) y0 y1 y2 y3 y4 y5)) ∧ (∀ y0 y1 y2 y3 y4 y5 y6, LeO (nunciolaw15_FeedBack.j3 k y0 y1 y2 y3 y4 y5 y6) (nunciolaw15_FeedBack.j3 (k + 1) y0 y1 y2 y3 y4 y5 y6)) ∧ (∀ y0 y1 y2 y3 y4, LeO (nunciolaw15_FeedBack.j4 k y0 y1 y2 y3 y4) (nunciolaw15_FeedBack.j4 (k + 1) y0 y1 y2 y3 y4))
 | 0 => ⟨fun _ _ _ _ r h => by simp [nunciolaw15_FeedBack.j0] at h, fun _ _ _ _ r h => by simp [nunciolaw15_FeedBack.j1] at h, fun _ _ _ _ _ _ r h => by simp [nunciolaw15_FeedBack.l0] at h, fun _ _ _ _ _ _ _ r h => by simp [nunciolaw15_FeedBack.j3] at h, fun _ _ _ _ _ r h => by simp [nunciolaw15_FeedBack.j4] at h⟩
 | k + 1 => by
  obtain ⟨ih0, ih1, ih2, ih3, ih4⟩ := nunciolaw15_FeedBack.mono_l k
  refine ⟨?_, ?_, ?_, ?_, ?_⟩
  ·
   intro y0 y1 y2 y3
   unfold nunciolaw15_FeedBack.j0
   repeat' first
   | (with_reducible exact ih0 _ _ _ _)
   | (with_reducible exact ih1 _ _ _ _)
   | (with_reducible exact ih2 _ _ _ _ _ _)
   | (with_reducible exact ih3 _ _ _ _ _ _ _)
   | (with_reducible exact ih4 _ _ _ _ _)
   | (with_reducible exact feed_Feed_Add.mono _ _ _ _ _)
   | (with_reducible exact nunciolaw15_awake.mono _)
   | (with_reducible exact nuncioref14_Print.mono _ _ _ _ _)
   | (with_reducible exact nuncioref15_Same.mono _ _ _)
   | (with_reducible exact LeO.refl _)
   | (with_reducible exact LeO.none _)
   | (with_reducible refine LeO.ite ?_ ?_)
   | (with_reducible refine LeO.bind ?_ (fun _ => ?_))
   | exact ih0 _ _ _ _
   | exact ih1 _ _ _ _
   | exact ih2 _ _ _ _ _ _
   | exact ih3 _ _ _ _ _ _ _
   | exact ih4 _ _ _ _ _
   | exact feed_Feed_Add.mono _ _ _ _ _
   | exact nunciolaw15_awake.mono _
   | exact nuncioref14_Print.mono _ _ _ _ _
   | exact nuncioref15_Same.mono _ _ _
   | exact LeO.none _
   | refine LeO.ite ?_ ?_
   | refine LeO.bind ?_ (fun _ => ?_)
  ·
   intro y0 y1 y2 y3
   unfold nunciolaw15_FeedBack.j1
   repeat' first
   | (with_reducible exact ih0 _ _ _ _)
   | (with_reducible exact ih1 _ _ _ _)
   | (with_reducible exact ih2 _ _ _ _ _ _)
   | (with_reducible exact ih3 _ _ _ _ _ _ _)
   | (with_reducible exact ih4 _ _ _ _ _)
   | (with_reducible exact feed_Feed_Add.mono _ _ _ _ _)
   | (with_reducible exact nunciolaw15_awake.mono _)
   | (with_reducible exact nuncioref14_Print.mono _ _ _ _ _)
   | (with_reducible exact nuncioref15_Same.mono _ _ _)
   | (with_reducible exact LeO.refl _)
   | (with_reducible exact LeO.none _)
   | (with_reducible refine LeO.ite ?_ ?_)
   | (with_reducible refine LeO.bind ?_ (fun _ => ?_))
   | exact ih0 _ _ _ _
   | exact ih1 _ _ _ _
   | exact ih2 _ _ _ _ _ _
   | exact ih3 _ _ _ _ _ _ _
   | exact ih4 _ _ _ _ _
   | exact feed_Feed_Add.mono _ _ _ _ _
   | exact nunciolaw15_awake.mono _
   | exact nuncioref14_Print.mono _ _ _ _ _
   | exact nuncioref15_Same.mono _ _ _
   | exact LeO.none _
   | refine LeO.ite ?_ ?_
   | refine LeO.bind ?_ (fun _ => ?_)
  ·
   intro y0 y1 y2 y3 y4 y5
   unfold nunciolaw15_FeedBack.l0
   repeat' first
   | (with_reducible exact ih0 _ _ _ _)
   | (with_reducible exact ih1 _ _ _ _)
   | (with_reducible exact ih2 _ _ _ _ _ _)
   | (with_reducible exact ih3 _ _ _ _ _ _ _)
   | (with_reducible exact ih4 _ _ _ _ _)
   | (with_reducible exact feed_Feed_Add.mono _ _ _ _ _)
   | (with_reducible exact nunciolaw15_awake.mono _)
   | (with_reducible exact nuncioref14_Print.mono _ _ _ _ _)
   | (with_reducible exact nuncioref15_Same.mono _ _ _)
   | (with_reducible exact LeO.refl _)
   | (with_reducible exact LeO.none _)
   | (with_reducible refine LeO.ite ?_ ?_)
   | (with_reducible refine LeO.bind ?_ (fun _ => ?_))
   | exact ih0 _ _ _ _
   | exact ih1 _ _ _ _
   | exact ih2 _ _ _ _ _ _
   | exact ih3 _ _ _ _ _ _ _
   | exact ih4 _ _ _ _ _
   | exact feed_Feed_Add.mono _ _ _ _ _
   | exact nunciolaw15_awake.mono _
   | exact nuncioref14_Print.mono _ _ _ _ _
   | exact nuncioref15_Same.mono _ _ _
   | exact LeO.none _
   | refine LeO.ite ?_ ?_
   | refine LeO.bind ?_ (fun _ => ?_)
  ·
   intro y0 y1 y2 y3 y4 y5 y6
   unfold nunciolaw15_FeedBack.j3
   repeat' first
   | (with_reducible exact ih0 _ _ _ _)
   | (with_reducible exact ih1 _ _ _ _)
   | (with_reducible exact ih2 _ _ _ _ _ _)
   | (with_reducible exact ih3 _ _ _ _ _ _ _)
   | (with_reducible exact ih4 _ _ _ _ _)
   | (with_reducible exact feed_Feed_Add.mono _ _ _ _ _)
   | (with_reducible exact nunciolaw15_awake.mono _)
   | (with_reducible exact nuncioref14_Print.mono _ _ _ _ _)
   | (with_reducible exact nuncioref15_Same.mono _ _ _)
   | (with_reducible exact LeO.refl _)
   | (with_reducible exact LeO.none _)
   | (with_reducible refine LeO.ite ?_ ?_)
   | (with_reducible refine LeO.bind ?_ (fun _ => ?_))
   | exact ih0 _ _ _ _
   | exact ih1 _ _ _ _
   | exact ih2 _ _ _ _ _ _
   | exact ih3 _ _ _ _ _ _ _
   | exact ih4 _ _ _ _ _
   | exact feed_Feed_Add.mono _ _ _ _ _
   | exact nunciolaw15_awake.mono _
   | exact nuncioref14_Print.mono _ _ _ _ _
   | exact nuncioref15_Same.mono _ _ _
   | exact LeO.none _
   | refine LeO.ite ?_ ?_
   | refine LeO.bind ?_ (fun _ => ?_)
  ·
   intro y0 y1 y2 y3 y4
   unfold nunciolaw15_FeedBack.j4
   repeat' first
   | (with_reducible exact ih0 _ _ _ _)
   | (with_reducible exact ih1 _ _ _ _)
   | (with_reducible exact ih2 _ _ _ _ _ _)
   | (with_reducible exact ih3 _ _ _ _ _ _ _)
   | (with_reducible exact ih4 _ _ _ _ _)
   | (with_reducible exact feed_Feed_Add.mono _ _ _ _ _)
   | (with_reducible exact nunciolaw15_awake.mono _)
   | (with_reducible exact nuncioref14_Print.mono _ _ _ _ _)
   | (with_reducible exact nuncioref15_Same.mono _ _ _)
   | (with_reducible exact LeO.refl _)
   | (with_reducible exact LeO.none _)
   | (with_reducible refine LeO.ite ?_ ?_)
   | (with_reducible refine LeO.bind ?_ (fun _ => ?_))
   | exact ih0 _ _ _ _
   | exact ih1 _ _ _ _
   | exact ih2 _ _ _ _ _ _
   | exact ih3 _ _ _ _ _ _ _
   | exact ih4 _ _ _ _ _
   | exact feed_Feed_Add.mono _ _ _ _ _
   | exact nunciolaw15_awake.mono _
   | exact nuncioref14_Print.mono _ _ _ _ _
   | exact nuncioref15_Same.mono _ _ _
   | exact LeO.none _
   | refine LeO.ite ?_ ?_
   | refine LeO.bind ?_ (fun _ => ?_)
theorem nunciolaw15_FeedBack.mono : ∀ a0 a1 a2 k, LeO (nunciolaw15_FeedBack.f k a0 a1 a2) (nunciolaw15_FeedBack.f (k + 1) a0 a1 a2) := by
 intro a0 a1 a2 k
 obtain ⟨ih0, ih1, ih2, ih3, ih4⟩ := nunciolaw15_FeedBack.mono_l k
 unfold nunciolaw15_FeedBack.f
 repeat' first
   | (with_reducible exact ih0 _ _ _ _)
   | (with_reducible exact ih1 _ _ _ _)
   | (with_reducible exact ih2 _ _ _ _ _ _)
   | (with_reducible exact ih3 _ _ _ _ _ _ _)
   | (with_reducible exact ih4 _ _ _ _ _)
   | (with_reducible exact feed_Feed_Add.mono _ _ _ _ _)
   | (with_reducible exact nunciolaw15_awake.mono _)
   | (with_reducible exact nuncioref14_Print.mono _ _ _ _ _)
   | (with_reducible exact nuncioref15_Same.mono _ _ _)
   | (with_reducible exact LeO.refl _)
   | (with_reducible exact LeO.none _)
   | (with_reducible refine LeO.ite ?_ ?_)
   | (with_reducible refine LeO.bind ?_ (fun _ => ?_))
   | exact ih0 _ _ _ _
   | exact ih1 _ _ _ _
   | exact ih2 _ _ _ _ _ _
   | exact ih3 _ _ _ _ _ _ _
   | exact ih4 _ _ _ _ _
   | exact feed_Feed_Add.mono _ _ _ _ _
   | exact nunciolaw15_awake.mono _
   | exact nuncioref14_Print.mono _ _ _ _ _
   | exact nuncioref15_Same.mono _ _ _
   | exact LeO.none _
   | refine LeO.ite ?_ ?_
   | refine LeO.bind ?_ (fun _ => ?_)
set_option maxHeartbeats 8000000 in
set_option maxRecDepth 100000 in
theorem nunciolaw15_FeedBack.calls (k : Nat) (a0 : Bool) (A1 : Option Addr) (c1 : Nat) (l1 : List (S40)) (a2 : ByteArray) (r : Bool) (w : World) (hr1 : Kd.C k40 w A1 l1.length l1) (hc1 : l1.length ≤ c1) (h : nunciolaw15_FeedBack.f k a0 l1 a2 = some r) (hT : r = true) :
  Calls Try.prog 5 #[.bool a0, .slice A1 l1.length c1, .string a2] w fun e w' => e = .returned (.bool r) ∧ Below w.heap.size w w' := by
 have hu40 := Try.underlying40
 have HR1 := Aside0.mk hr1
 have HC1 := Aside0.mk hc1
 clear hr1 hc1
 have HB := Aside0.mk (Below.refl w.heap.size w)
 have HT := Aside0.mk hT
 clear hT
 have H : ((nunciolaw15_awake.f k).bind fun t307 => (if t307 = true then (if (l1.length : Int) > 50 then (nunciolaw15_FeedBack.j0 k a0 l1 a2 true) else (nunciolaw15_FeedBack.j0 k a0 l1 a2 (decide ((a2.size : Int) > 40000)))) else (some false))) = some r := h
 clear h
 replace H := Option.bind_eq_some_iff.mp H
 obtain ⟨t307, A40, H⟩ := H
 replace H : (if t307 = true then (if (l1.length : Int) > 50 then (nunciolaw15_FeedBack.j0 k a0 l1 a2 true) else (nunciolaw15_FeedBack.j0 k a0 l1 a2 (decide ((a2.size : Int) > 40000)))) else (some false)) = some r := H
 have A4 := Aside0.mk A40
 clear A40
 by_cases c5 : t307 = true
 ·
  subst c5
  have H1 : (if (l1.length : Int) > 50 then (nunciolaw15_FeedBack.j0 k a0 l1 a2 true) else (nunciolaw15_FeedBack.j0 k a0 l1 a2 (decide ((a2.size : Int) > 40000)))) = some r := by rw [if_pos rfl] at H; exact H
  clear H
  have H := H1
  clear H1
  have HC6 := Aside0.mk H
  clear H
  go_enter Try.func5, Try.ntmps5
  go_upto_region 3 with (first | ((with_reducible refine gate_callee (f := 6) rfl ?_); refine goesL_ (some 15) rfl rfl Try.func6 (by kernel_rfl) rfl #[] rfl (by (try simp only [List.map_toArray, List.map_cons, List.map_nil]); first | done | rfl | (simp only [List.length_drop, List.length_take]; rfl)) ?_; (with_reducible refine (nunciolaw15_awake.calls k  true _ A4.out).mono ?_); rintro e w7 ⟨rfl, hb⟩; refine ⟨_, rfl, ?_⟩; have n0_ := Aside0.mk (below_step (by repeat (first | (with_reducible first | exact HB.out | apply below_alloc | apply pw_below_drewN | apply below_drew1) | exact HB.out)) hb); clear HB; have HB := n0_; clear n0_; (try clear hb); (try clear hb2); (try clear hk); (try clear hi)))
  (try simp only [Act.put, List.setIfInBounds_toArray, List.set_cons_zero, List.set_cons_succ])
  go_cut [24] (fun v24 wc => ∃ (kq : Nat) (x24_5 : Bool), v24 = .bool x24_5 ∧ Aside0 (nunciolaw15_FeedBack.j0 kq a0 l1 a2 x24_5 = some r) ∧ Aside0 (kq ≤ k) ∧ Aside0 (Below w.heap.size w wc))
  case first =>
   have H := HC6.out
   clear HC6
   by_cases c8 : (l1.length : Int) > 50
   ·
    rw [if_pos c8] at H
    have c8b0 : decide (50 < (l1.length : Int)) = true := decide_eq_true c8
    have c8b1 : decide (50 < l1.length) = true := decide_eq_true (by omega)
    clear c8
    (first | rw [c8b0] | (simp only [i64_w, i32_w]; rw [c8b0]) | skip)
    have H' := Aside0.mk H
    clear H
    go_wp2
    go_meet
    case rel => exact ⟨_, (true), (by first | rfl | (simp; done) | (simp [*]; done)), H', ⟨by first | omega | exact Nat.le_refl _⟩, ⟨by repeat (first | (with_reducible first | exact HB.out | apply below_alloc | apply pw_below_drewN | apply below_drew1) | exact HB.out)⟩⟩
   ·
    rw [if_neg c8] at H
    have c8b0 : decide (50 < (l1.length : Int)) = false := decide_eq_false c8
    have c8b1 : decide (50 < l1.length) = false := decide_eq_false (by omega)
    clear c8
    (first | rw [c8b0] | (simp only [i64_w, i32_w]; rw [c8b0]) | skip)
    have H' := Aside0.mk H
    clear H
    go_wp2
    go_meet
    case rel => exact ⟨_, (decide ((a2.size : Int) > 40000)), (by first | rfl | (simp; done) | (simp [*]; done)), H', ⟨by first | omega | exact Nat.le_refl _⟩, ⟨by repeat (first | (with_reducible first | exact HB.out | apply below_alloc | apply pw_below_drewN | apply below_drew1) | exact HB.out)⟩⟩
  case rest =>
   clear HC6
   try clear c1
   try clear p2
   try clear c5
   try clear c6
   try clear c8
   try clear c8b0
   try clear c8b1
   obtain ⟨kq, x24_5, rfl, HA, HJ5, HB⟩ := hcut
   cases kq with
   | zero => exact absurd HA.out (by simp [nunciolaw15_FeedBack.j0])
   | succ kj5 =>
    have H := HA.out
    clear HA
    simp only [nunciolaw15_FeedBack.j0] at H
    by_cases c9 : x24_5 = true
    ·
     subst c9
     have H1 : (some true) = some r := by rw [if_pos rfl] at H; exact H
     clear H
     have H := H1
     clear H1
     obtain rfl := Option.some.inj H
     go_wp2
     go_ret
     exact ⟨by first | rfl | (simp [errW_none, errW_some] <;> rfl) | (simp [*, errW_none, errW_some] <;> rfl), by repeat (first | (with_reducible first | exact HB.out | apply below_alloc | apply pw_below_drewN | apply below_drew1) | exact HB.out)⟩
    ·
     replace c9 := Bool.eq_false_iff.mpr c9
     subst c9
     have H1 : (if a0 = true then (nunciolaw15_FeedBack.j1 kj5 a0 l1 a2 (⟨#[80, 82, 73, 32, 42, 32, 72, 84, 84, 80, 47, 50, 46, 48, 13, 10, 13, 10, 83, 77, 13, 10, 13, 10]⟩ : ByteArray)) else (nunciolaw15_FeedBack.j1 kj5 a0 l1 a2 (⟨#[]⟩ : ByteArray))) = some r := by rw [if_neg (show ¬ (false = true) by decide)] at H; exact H
     clear H
     have H := H1
     clear H1
     have HC10 := Aside0.mk H
     clear H
     go_upto_if 25 with (fail)
     go_cut [7] (fun v7 wc => ∃ (kq : Nat) (x7_9 : ByteArray), v7 = .string x7_9 ∧ Aside0 (nunciolaw15_FeedBack.j1 kq a0 l1 a2 x7_9 = some r) ∧ Aside0 (kq ≤ kj5) ∧ Aside0 (Below w.heap.size w wc))
     case first =>
      have H := HC10.out
      clear HC10
      by_cases c11 : a0 = true
      ·
       subst c11
       have H1 : (nunciolaw15_FeedBack.j1 kj5 true l1 a2 (⟨#[80, 82, 73, 32, 42, 32, 72, 84, 84, 80, 47, 50, 46, 48, 13, 10, 13, 10, 83, 77, 13, 10, 13, 10]⟩ : ByteArray)) = some r := by rw [if_pos rfl] at H; exact H
       clear H
       have H := H1
       clear H1
       have H' := Aside0.mk H
       clear H
       go_wp2
       go_meet
       case rel => exact ⟨_, ((⟨#[80, 82, 73, 32, 42, 32, 72, 84, 84, 80, 47, 50, 46, 48, 13, 10, 13, 10, 83, 77, 13, 10, 13, 10]⟩ : ByteArray)), (by first | rfl | (simp; done) | (simp [*]; done)), H', ⟨by have := HJ5.out; first | omega | exact Nat.le_refl _⟩, ⟨by repeat (first | (with_reducible first | exact HB.out | apply below_alloc | apply pw_below_drewN | apply below_drew1) | exact HB.out)⟩⟩
      ·
       replace c11 := Bool.eq_false_iff.mpr c11
       subst c11
       have H1 : (nunciolaw15_FeedBack.j1 kj5 false l1 a2 (⟨#[]⟩ : ByteArray)) = some r := by rw [if_neg (show ¬ (false = true) by decide)] at H; exact H
       clear H
       have H := H1
       clear H1
       have H' := Aside0.mk H
       clear H
       go_wp2
       go_meet
       case rel => exact ⟨_, ((⟨#[]⟩ : ByteArray)), (by first | rfl | (simp; done) | (simp [*]; done)), H', ⟨by have := HJ5.out; first | omega | exact Nat.le_refl _⟩, ⟨by repeat (first | (with_reducible first | exact HB.out | apply below_alloc | apply pw_below_drewN | apply below_drew1) | exact HB.out)⟩⟩
     case rest =>
      clear HC10
      try clear c1
      try clear p2
      try clear c5
      try clear c6
      try clear c8
      try clear c8b0
      try clear c8b1
      try clear c9
      try clear c11
      try clear p2
      obtain ⟨kq, x7_9, rfl, HA, HJ9, HB⟩ := hcut
      cases kq with
      | zero => exact absurd HA.out (by simp [nunciolaw15_FeedBack.j1])
      | succ kj9 =>
       have H := HA.out
       clear HA
       simp only [nunciolaw15_FeedBack.j1] at H
       have H' := Aside0.mk H
       clear H
       go_wp2
       go_loopg [7, 8, 9] kj9 (fun kq v7 v8 v9 w' => ∃ (x7_3 : ByteArray) (x8_3 : List (S40)) (x9_3 : Int), v7 = .string x7_3 ∧ v9 = .int .i64 x9_3 ∧ Aside0 (nunciolaw15_FeedBack.l0 kq a0 l1 a2 x7_3 x8_3 x9_3 = some r) ∧ Aside0 (kq ≤ kj9) ∧ Aside0 (Kd.R k40 40 w' w.heap.size (fun _ => True) v8 x8_3) ∧ Aside0 (Below w.heap.size w w'))
       case atStart => exact ⟨(x7_9), (([] : List (S40))), (0), (by first | rfl | (simp; done) | (simp [*]; done)), (by first | rfl | (simp; done) | (simp [*]; done)), H', ⟨Nat.le_refl _⟩, ⟨by first | exact Kd.R_nil _ _ _ _ _ | exact Kd.N_nil _ _ _ _ _ | exact Kd.V_nil _ _ _ _ _ | exact Kd.Q_nil _ _ _ _ _ | exact Kd.S_nil _ _ _ _ _⟩, ⟨by repeat (first | (with_reducible first | exact HB.out | apply below_alloc | apply pw_below_drewN | apply below_drew1) | exact HB.out)⟩⟩
       case round =>
        clear H'
        try clear c1
        try clear p2
        try clear c5
        try clear c6
        try clear c8
        try clear c8b0
        try clear c8b1
        try clear c9
        try clear c11
        try clear p2
        obtain ⟨x7_3, x8_3, x9_3, rfl, rfl, HA, HK3, HO_8, HB⟩ := hrel
        cases gk with
        | zero => exact absurd HA.out (by simp [nunciolaw15_FeedBack.l0])
        | succ k3 =>
         have H := HA.out
         clear HA
         simp only [nunciolaw15_FeedBack.l0] at H
         have HC12 := Aside0.mk H
         clear H
         go_upto_region 10 with (fail)
         go_cut [34] (fun v34 wc => ∃ (kq : Nat) (x34_11 : Bool), v34 = .bool x34_11 ∧ Aside0 (nunciolaw15_FeedBack.j3 kq a0 l1 a2 x7_3 x8_3 x9_3 x34_11 = some r) ∧ Aside0 (kq ≤ k3) ∧ Aside0 (Kd.R k40 40 wc w.heap.size (fun _ => True) u8 x8_3) ∧ Aside0 (Below w.heap.size w wc))
         case first =>
          have H := HC12.out
          clear HC12
          by_cases c13 : x9_3 < (l1.length : Int)
          ·
           rw [if_pos c13] at H
           have c13b0 : decide (x9_3 < (l1.length : Int)) = true := decide_eq_true c13
           clear c13
           (first | rw [c13b0] | (simp only [i64_w, i32_w]; rw [c13b0]) | skip)
           have H' := Aside0.mk H
           clear H
           go_wp2
           go_meet
           case rel => exact ⟨_, (decide ((x7_3.size : Int) < 40000)), (by first | rfl | (simp; done) | (simp [*]; done)), H', ⟨by have := HJ5.out; have := HJ9.out; have := HK3.out; first | omega | exact Nat.le_refl _⟩, ⟨by (with_reducible repeat (first | apply Kd.R_alloc | apply Kd.R_drewN | apply Kd.R_drew)); exact HO_8.out⟩, ⟨by repeat (first | (with_reducible first | exact HB.out | apply below_alloc | apply pw_below_drewN | apply below_drew1) | exact HB.out)⟩⟩
          ·
           rw [if_neg c13] at H
           have c13b0 : decide (x9_3 < (l1.length : Int)) = false := decide_eq_false c13
           clear c13
           (first | rw [c13b0] | (simp only [i64_w, i32_w]; rw [c13b0]) | skip)
           have H' := Aside0.mk H
           clear H
           go_wp2
           go_meet
           case rel => exact ⟨_, (false), (by first | rfl | (simp; done) | (simp [*]; done)), H', ⟨by have := HJ5.out; have := HJ9.out; have := HK3.out; first | omega | exact Nat.le_refl _⟩, ⟨by (with_reducible repeat (first | apply Kd.R_alloc | apply Kd.R_drewN | apply Kd.R_drew)); exact HO_8.out⟩, ⟨by repeat (first | (with_reducible first | exact HB.out | apply below_alloc | apply pw_below_drewN | apply below_drew1) | exact HB.out)⟩⟩
         case rest =>
          clear HC12
          try clear c1
          try clear p2
          try clear c5
          try clear c6
          try clear c8
          try clear c8b0
          try clear c8b1
          try clear c9
          try clear c11
          try clear c13
          try clear c13b0
          try clear p2
          obtain ⟨kq, x34_11, rfl, HA, HJ11, HO_8, HB⟩ := hcut
          cases kq with
          | zero => exact absurd HA.out (by simp [nunciolaw15_FeedBack.j3])
          | succ kj11 =>
           have H := HA.out
           clear HA
           simp only [nunciolaw15_FeedBack.j3] at H
           by_cases c14 : x34_11 = true
           ·
            subst c14
            have H1 : (if 0 ≤ x9_3 then (if x9_3 < (l1.length : Int) then ((nuncioref14_Print.f kj11 ((rd_T40 l1 x9_3).f0) ((rd_T40 l1 x9_3).f1) ((rd_T40 l1 x9_3).f2) ((rd_T40 l1 x9_3).f3)).bind fun bt309 => (if bt309.2 = 0 then (if x7_3.size + bt309.1.size ≤ 9223372036854775807 then (if x8_3.length < 5864062014805 then (nunciolaw15_FeedBack.l0 kj11 a0 l1 a2 (x7_3 ++ bt309.1) (x8_3 ++ [(⟨(rd_T40 l1 x9_3).f0, (rd_T40 l1 x9_3).f1, (rd_T40 l1 x9_3).f2, (rd_T40 l1 x9_3).f3⟩ : S40)]) (wrap64 (x9_3 + 1))) else (none)) else (none)) else (nunciolaw15_FeedBack.l0 kj11 a0 l1 a2 x7_3 x8_3 (wrap64 (x9_3 + 1))))) else (none)) else (none)) = some r := by rw [if_pos rfl] at H; exact H
            clear H
            have H := H1
            clear H1
            by_cases c15 : 0 ≤ x9_3
            ·
             rw [if_pos c15] at H
             have c15b0 : decide (0 ≤ x9_3) = true := decide_eq_true c15
             clear c15
             by_cases c16 : x9_3 < (l1.length : Int)
             ·
              rw [if_pos c16] at H
              have c16b0 : decide (x9_3 < (l1.length : Int)) = true := decide_eq_true c16
              clear c16
              replace H := Option.bind_eq_some_iff.mp H
              obtain ⟨⟨t309, t310⟩, A170, H⟩ := H
              replace H : (if t310 = 0 then (if x7_3.size + t309.size ≤ 9223372036854775807 then (if x8_3.length < 5864062014805 then (nunciolaw15_FeedBack.l0 kj11 a0 l1 a2 (x7_3 ++ t309) (x8_3 ++ [(⟨(rd_T40 l1 x9_3).f0, (rd_T40 l1 x9_3).f1, (rd_T40 l1 x9_3).f2, (rd_T40 l1 x9_3).f3⟩ : S40)]) (wrap64 (x9_3 + 1))) else (none)) else (none)) else (nunciolaw15_FeedBack.l0 kj11 a0 l1 a2 x7_3 x8_3 (wrap64 (x9_3 + 1)))) = some r := H
              have A17 := Aside0.mk A170
              clear A170
              by_cases c18 : t310 = 0
              ·
               rw [if_pos c18] at H
               have c18b0 : (t310 == 0) = true := beq_iff_eq.mpr c18
               have c18b1 : (t310 != 0) = false := bne_eq_false_iff_eq.mpr c18
               clear c18
               by_cases c19 : x7_3.size + t309.size ≤ 9223372036854775807
               ·
                rw [if_pos c19] at H
                have c19b0 := eq_true c19
                have c19b1 : decide (x7_3.size + t309.size ≤ 9223372036854775807) = true := decide_eq_true c19
                try have c19b2 : (9223372036854775807 < x7_3.size + t309.size) = False := eq_false (Nat.not_lt.2 c19)
                by_cases c20 : x8_3.length < 5864062014805
                ·
                 rw [if_pos c20] at H
                 have LMc20 := Aside0.mk c20
                 clear c20
                 obtain ⟨y312, hy312⟩ : ∃ y_ : List (S40), y_ = (x8_3 ++ [(⟨(rd_T40 l1 x9_3).f0, (rd_T40 l1 x9_3).f1, (rd_T40 l1 x9_3).f2, (rd_T40 l1 x9_3).f3⟩ : S40)]) := ⟨_, rfl⟩
                 replace H : (nunciolaw15_FeedBack.l0 kj11 a0 l1 a2 (x7_3 ++ t309) y312 (wrap64 (x9_3 + 1))) = some r := by first | (rw [hy312]; with_reducible exact H) | (have H2_ := (Option.bind_some _ _).symm.trans H; rw [hy312]; with_reducible exact H2_) | (have H2_ := (Option.bind_some _ _).symm.trans H; with_reducible exact H2_) | with_reducible exact H | (rw [hy312]; exact H) | exact H
                 have Ny312 := Aside0.mk hy312
                 clear hy312
                 have H' := Aside0.mk H
                 clear H
                 have p308 : 0 ≤ (x9_3 : Int) := of_decide_eq_true (by first | (with_reducible assumption) | assumption)
                 have q308 : x9_3 < (l1.length : Int) := of_decide_eq_true (by first | (with_reducible assumption) | assumption)
                 obtain ⟨ad308, e308, hx308_0, hx308_1, hx308_2, hx308_3⟩ := at_T40 HR1.out x9_3 p308 q308
                 cases e308
                 replace hx308_0 := (HB.out.cell (World.block_lt_of_cell? w _ hx308_0)).trans hx308_0
                 replace hx308_1 := (HB.out.cell (World.block_lt_of_cell? w _ hx308_1)).trans hx308_1
                 replace hx308_2 := (HB.out.cell (World.block_lt_of_cell? w _ hx308_2)).trans hx308_2
                 replace hx308_3 := (HB.out.cell (World.block_lt_of_cell? w _ hx308_3)).trans hx308_3
                 replace p308 := eq_true p308
                 replace q308 := eq_true q308
                 go_wp2_with (first | ((with_reducible refine gate_callee (f := 14) rfl ?_); refine goesL_ (some 42) rfl rfl Try.func14 (by kernel_rfl) rfl #[.agg #[.int .u8 ((rd_T40 l1 x9_3).f0), .int .u8 ((rd_T40 l1 x9_3).f1), .int .u32 ((rd_T40 l1 x9_3).f2), .string ((rd_T40 l1 x9_3).f3)]] rfl (by (try simp only [List.map_toArray, List.map_cons, List.map_nil]); first | done | rfl | (simp only [List.length_drop, List.length_take]; rfl)) ?_; (with_reducible refine (nuncioref14_Print.calls kj11 ((rd_T40 l1 x9_3).f0) ((rd_T40 l1 x9_3).f1) ((rd_T40 l1 x9_3).f2) ((rd_T40 l1 x9_3).f3) t309 t310 _ A17.out).mono ?_); rintro e w21 ⟨rfl, hb⟩; refine ⟨_, rfl, ?_⟩; have n0_ := Aside0.mk (Kd.R_below (by (with_reducible repeat (first | apply Kd.R_alloc | apply Kd.R_drewN | apply Kd.R_drew)); exact HO_8.out) hb); have n1_ := Aside0.mk (below_step (by repeat (first | (with_reducible first | exact HB.out | apply below_alloc | apply pw_below_drewN | apply below_drew1) | exact HB.out)) hb); clear HO_8; clear HB; have HO_8 := n0_; have HB := n1_; clear n0_ n1_; (try clear hb); (try clear hb2); (try clear hk); (try clear hi); have p311 : 0 ≤ (x9_3 : Int) := of_decide_eq_true (by first | (with_reducible assumption) | assumption); have q311 : x9_3 < (l1.length : Int) := of_decide_eq_true (by first | (with_reducible assumption) | assumption); obtain ⟨ad311, e311, hx311_0, hx311_1, hx311_2, hx311_3⟩ := at_T40 HR1.out x9_3 p311 q311; obtain rfl : ad308 = ad311 := (by injection e311); replace hx311_0 := (HB.out.cell (World.block_lt_of_cell? w _ hx311_0)).trans hx311_0; replace hx311_1 := (HB.out.cell (World.block_lt_of_cell? w _ hx311_1)).trans hx311_1; replace hx311_2 := (HB.out.cell (World.block_lt_of_cell? w _ hx311_2)).trans hx311_2; replace hx311_3 := (HB.out.cell (World.block_lt_of_cell? w _ hx311_3)).trans hx311_3; replace p311 := eq_true p311; replace q311 := eq_true q311) | ((with_reducible refine gate_builtin (b := .append) (xs := #[.tmp 50, .tmp 55]) rfl ?_); (try (refine gate_guard (by rfl) ?_; dsimp only)); at_builtin; refine Kd.R_append k40 (w0 := w) w.heap.size rfl (.tmp 50) (.tmp 55) 27 40 (.agg #[(.int .u8 0), (.int .u8 0), (.int .u32 0), (.string ⟨#[]⟩)]) 24 rfl Try.underlying27 info40 rfl (by decide) (by omega) u8 x8_3 (⟨(rd_T40 l1 x9_3).f0, (rd_T40 l1 x9_3).f1, (rd_T40 l1 x9_3).f2, (rd_T40 l1 x9_3).f3⟩ : S40) [.int .u8 ((rd_T40 l1 x9_3).f0), .int .u8 ((rd_T40 l1 x9_3).f1), .int .u32 ((rd_T40 l1 x9_3).f2), .string ((rd_T40 l1 x9_3).f3)] (fun _ => True) (fun _ => False) rfl rfl ?aP (fun _ hk => hk.elim) ?aF ?aO ?aB ?aS ?aL ?_; (case aP => exact k40_mkM _ _ _ (⟨(rd_T40 l1 x9_3).f0, (rd_T40 l1 x9_3).f1, (rd_T40 l1 x9_3).f2, (rd_T40 l1 x9_3).f3⟩ : S40)); (case aB => exact (by repeat (first | (with_reducible first | exact HB.out | apply below_alloc | apply pw_below_drewN | apply below_drew1) | exact HB.out))); (case aF => exact (fun _ _ => trivial)); (case aO => exact (by (with_reducible repeat (first | apply Kd.R_alloc | apply Kd.R_drewN | apply Kd.R_drew)); exact HO_8.out)); (case aS => exact (below_size (by repeat (first | (with_reducible first | exact HB.out | apply below_alloc | apply pw_below_drewN | apply below_drew1) | exact HB.out)))); (case aL => have := LMc20.out; omega); intro v313 w22 ho hb hg hat; rw [← Ny312.out] at ho; have n0_ := Aside0.mk (hb); have n1_ := Aside0.mk (ho); clear HB; clear HO_8; have HB := n0_; have HO314 := n1_; clear n0_ n1_; clear ho hb hg hat))
                 go_roundg kj11
                 case measure => have := HJ5.out; have := HJ9.out; have := HK3.out; have := HJ11.out; omega
                 case rel => exact ⟨(x7_3 ++ t309), (y312), (wrap64 (x9_3 + 1)), (by first | rfl | (simp; done) | (simp [*]; done)), (by first | rfl | (simp; done) | (simp [*]; done)), H', ⟨by have := HJ5.out; have := HJ9.out; have := HK3.out; have := HJ11.out; omega⟩, ⟨by (with_reducible repeat (first | apply Kd.R_alloc | apply Kd.R_drewN | apply Kd.R_drew)); exact HO314.out⟩, ⟨by repeat (first | (with_reducible first | exact HB.out | apply below_alloc | apply pw_below_drewN | apply below_drew1) | exact HB.out)⟩⟩
                ·
                 rw [if_neg c20] at H
                 exact absurd H (by simp)
               ·
                rw [if_neg c19] at H
                exact absurd H (by simp)
              ·
               rw [if_neg c18] at H
               have c18b0 : (t310 == 0) = false := beq_eq_false_iff_ne.mpr c18
               have c18b1 : (t310 != 0) = true := bne_iff_ne.mpr c18
               have H' := Aside0.mk H
               clear H
               have p308 : 0 ≤ (x9_3 : Int) := of_decide_eq_true (by first | (with_reducible assumption) | assumption)
               have q308 : x9_3 < (l1.length : Int) := of_decide_eq_true (by first | (with_reducible assumption) | assumption)
               obtain ⟨ad308, e308, hx308_0, hx308_1, hx308_2, hx308_3⟩ := at_T40 HR1.out x9_3 p308 q308
               cases e308
               replace hx308_0 := (HB.out.cell (World.block_lt_of_cell? w _ hx308_0)).trans hx308_0
               replace hx308_1 := (HB.out.cell (World.block_lt_of_cell? w _ hx308_1)).trans hx308_1
               replace hx308_2 := (HB.out.cell (World.block_lt_of_cell? w _ hx308_2)).trans hx308_2
               replace hx308_3 := (HB.out.cell (World.block_lt_of_cell? w _ hx308_3)).trans hx308_3
               replace p308 := eq_true p308
               replace q308 := eq_true q308
               go_wp2_with (first | ((with_reducible refine gate_callee (f := 14) rfl ?_); refine goesL_ (some 42) rfl rfl Try.func14 (by kernel_rfl) rfl #[.agg #[.int .u8 ((rd_T40 l1 x9_3).f0), .int .u8 ((rd_T40 l1 x9_3).f1), .int .u32 ((rd_T40 l1 x9_3).f2), .string ((rd_T40 l1 x9_3).f3)]] rfl (by (try simp only [List.map_toArray, List.map_cons, List.map_nil]); first | done | rfl | (simp only [List.length_drop, List.length_take]; rfl)) ?_; (with_reducible refine (nuncioref14_Print.calls kj11 ((rd_T40 l1 x9_3).f0) ((rd_T40 l1 x9_3).f1) ((rd_T40 l1 x9_3).f2) ((rd_T40 l1 x9_3).f3) t309 t310 _ A17.out).mono ?_); rintro e w23 ⟨rfl, hb⟩; refine ⟨_, rfl, ?_⟩; have n0_ := Aside0.mk (Kd.R_below (by (with_reducible repeat (first | apply Kd.R_alloc | apply Kd.R_drewN | apply Kd.R_drew)); exact HO_8.out) hb); have n1_ := Aside0.mk (below_step (by repeat (first | (with_reducible first | exact HB.out | apply below_alloc | apply pw_below_drewN | apply below_drew1) | exact HB.out)) hb); clear HO_8; clear HB; have HO_8 := n0_; have HB := n1_; clear n0_ n1_; (try clear hb); (try clear hb2); (try clear hk); (try clear hi)))
               go_roundg kj11
               case measure => have := HJ5.out; have := HJ9.out; have := HK3.out; have := HJ11.out; omega
               case rel => exact ⟨(x7_3), (x8_3), (wrap64 (x9_3 + 1)), (by first | rfl | (simp; done) | (simp [*]; done)), (by first | rfl | (simp; done) | (simp [*]; done)), H', ⟨by have := HJ5.out; have := HJ9.out; have := HK3.out; have := HJ11.out; omega⟩, ⟨by (with_reducible repeat (first | apply Kd.R_alloc | apply Kd.R_drewN | apply Kd.R_drew)); exact HO_8.out⟩, ⟨by repeat (first | (with_reducible first | exact HB.out | apply below_alloc | apply pw_below_drewN | apply below_drew1) | exact HB.out)⟩⟩
             ·
              rw [if_neg c16] at H
              exact absurd H (by simp)
            ·
             rw [if_neg c15] at H
             exact absurd H (by simp)
           ·
            replace c14 := Bool.eq_false_iff.mpr c14
            subst c14
            have H1 : ((feed_New.f a0).bind fun bt315 => ((feed_Feed_Add.f kj11 bt315.1 bt315.2.1 bt315.2.2 x7_3).bind fun bt319 => ((nuncioref15_Same.f kj11 bt319.1 x8_3).bind fun t326 => (if t326 = true then (if bt319.2.1 = 0 then ((feed_Feed_Held.f bt319.2.2.1 bt319.2.2.2.1 bt319.2.2.2.2).bind fun bt327 => (nunciolaw15_FeedBack.j4 kj11 a2 (bt327.1 != 0) bt327.2.1 bt327.2.2.1 bt327.2.2.2)) else (nunciolaw15_FeedBack.j4 kj11 a2 true bt319.2.2.1 bt319.2.2.2.1 bt319.2.2.2.2)) else (nunciolaw15_FeedBack.j4 kj11 a2 true bt319.2.2.1 bt319.2.2.2.1 bt319.2.2.2.2))))) = some r := by rw [if_neg (show ¬ (false = true) by decide)] at H; exact H
            clear H
            have H := H1
            clear H1
            replace H := Option.bind_eq_some_iff.mp H
            obtain ⟨⟨t315, t316, t317⟩, A240, H⟩ := H
            replace H : ((feed_Feed_Add.f kj11 t315 t316 t317 x7_3).bind fun bt319 => ((nuncioref15_Same.f kj11 bt319.1 x8_3).bind fun t326 => (if t326 = true then (if bt319.2.1 = 0 then ((feed_Feed_Held.f bt319.2.2.1 bt319.2.2.2.1 bt319.2.2.2.2).bind fun bt327 => (nunciolaw15_FeedBack.j4 kj11 a2 (bt327.1 != 0) bt327.2.1 bt327.2.2.1 bt327.2.2.2)) else (nunciolaw15_FeedBack.j4 kj11 a2 true bt319.2.2.1 bt319.2.2.2.1 bt319.2.2.2.2)) else (nunciolaw15_FeedBack.j4 kj11 a2 true bt319.2.2.1 bt319.2.2.2.1 bt319.2.2.2.2)))) = some r := H
            have A24 := Aside0.mk A240
            clear A240
            replace H := Option.bind_eq_some_iff.mp H
            obtain ⟨⟨t319, t322, t323, t324, t325⟩, A250, H⟩ := H
            replace H : ((nuncioref15_Same.f kj11 t319 x8_3).bind fun t326 => (if t326 = true then (if t322 = 0 then ((feed_Feed_Held.f t323 t324 t325).bind fun bt327 => (nunciolaw15_FeedBack.j4 kj11 a2 (bt327.1 != 0) bt327.2.1 bt327.2.2.1 bt327.2.2.2)) else (nunciolaw15_FeedBack.j4 kj11 a2 true t323 t324 t325)) else (nunciolaw15_FeedBack.j4 kj11 a2 true t323 t324 t325))) = some r := H
            have A25 := Aside0.mk A250
            clear A250
            have HC26 := Aside0.mk H
            clear H
            go_upto_region 18 with (first | ((with_reducible refine gate_callee (f := 8) rfl ?_); refine goesL_ (some 58) rfl rfl Try.func8 (by kernel_rfl) rfl #[.bool a0] rfl (by (try simp only [List.map_toArray, List.map_cons, List.map_nil]); first | done | rfl | (simp only [List.length_drop, List.length_take]; rfl)) ?_; (with_reducible refine (feed_New.calls a0 t315 t316 t317 w _ ?side1 A24.out).mono ?_); (case side1 => repeat (first | (with_reducible first | exact HB.out | apply below_alloc | apply pw_below_drewN | apply below_drew1) | exact HB.out)); rintro e w27 ⟨g318, rfl, hi, hb, hb2⟩; refine ⟨_, rfl, ?_⟩; have n0_ := Aside0.mk (Kd.R_below (by (with_reducible repeat (first | apply Kd.R_alloc | apply Kd.R_drewN | apply Kd.R_drew)); exact HO_8.out) hb2); have n1_ := Aside0.mk (hb); have n2_ := Aside0.mk (hi); clear HO_8; clear HB; have HO_8 := n0_; have HB := n1_; have HI318 := n2_; clear n0_ n1_ n2_; (try clear hb); (try clear hb2); (try clear hk); (try clear hi)) | ((with_reducible refine gate_callee (f := 9) rfl ?_); refine goesL_ (some 62) rfl rfl Try.func9 (by kernel_rfl) rfl #[.pointer (some ⟨g318, 0, none⟩), .string x7_3] rfl (by (try simp only [List.map_toArray, List.map_cons, List.map_nil]); first | done | rfl | (simp only [List.length_drop, List.length_take]; rfl)) ?_; (with_reducible refine (feed_Feed_Add.calls kj11 g318 t315 t316 t317 x7_3 t319 t322 t323 t324 t325 w _ ?side1 ?side2 A25.out).mono ?_); (case side1 => repeat (first | (with_reducible first | exact HI318.out | apply IsS43.alloc | apply IsS43.drewN | apply IsS43.drew | apply IsS43.set_0 | apply IsS43.set_1 | apply IsS43.set_2) | exact HI318.out | simp only [*])); (case side2 => repeat (first | (with_reducible first | exact HB.out | apply below_alloc | apply pw_below_drewN | apply below_drew1 | refine below_set ?_ (IsS43.ge HI318.out)) | exact HB.out)); rintro e w28 ⟨v320, rfl, ho0, hi, hb, hk⟩; refine ⟨_, rfl, ?_⟩; have n0_ := Aside0.mk (Kd.R_mono (Kd.R_told (Kd.R_oldK (IsS43.apart (show IsS43 w _ g318 t315 t316 t317 from by repeat (first | (with_reducible first | exact HI318.out | apply IsS43.alloc | apply IsS43.drewN | apply IsS43.drew | apply IsS43.set_0 | apply IsS43.set_1 | apply IsS43.set_2) | exact HI318.out | simp only [*])) (by (with_reducible repeat (first | apply Kd.R_alloc | apply Kd.R_drewN | apply Kd.R_drew)); exact HO_8.out) (by decide)) hk) (Kd.R_base ho0)) (fun _ h_ => h_.1)); have n1_ := Aside0.mk (Kd.R_lower (Kd.R_new' ho0 (Kd.R_lt (by (with_reducible repeat (first | apply Kd.R_alloc | apply Kd.R_drewN | apply Kd.R_drew)); exact HO_8.out))) (below_size (by repeat (first | (with_reducible first | exact HB.out | apply below_alloc | apply pw_below_drewN | apply below_drew1 | refine below_set ?_ (IsS43.ge HI318.out)) | exact HB.out)))); have n2_ := Aside0.mk (hb); have n3_ := Aside0.mk (hi); clear HO_8; clear HB; clear HI318; have HO_8 := n0_; have HO321 := n1_; have HB := n2_; have HI318 := n3_; clear n0_ n1_ n2_ n3_; (try clear hb); (try clear hb2); (try clear hk); (try clear hi); (try clear ho0)))
            (try simp only [Act.put, List.setIfInBounds_toArray, List.set_cons_zero, List.set_cons_succ])
            go_cut [77] (fun v77 wc => ∃ (kq : Nat) (x77_25 : Bool) (x319000_25 : ByteArray) (x319001_25 : Bool) (x319002_25 : Bool), v77 = .bool x77_25 ∧ Aside0 (nunciolaw15_FeedBack.j4 kq a2 x77_25 x319000_25 x319001_25 x319002_25 = some r) ∧ Aside0 (kq ≤ kj11) ∧ Aside0 (IsS43 w wc g318 x319000_25 x319001_25 x319002_25) ∧ Aside0 (Below w.heap.size w wc))
            case first =>
             have H := HC26.out
             clear HC26
             replace H := Option.bind_eq_some_iff.mp H
             obtain ⟨t326, A290, H⟩ := H
             replace H : (if t326 = true then (if t322 = 0 then ((feed_Feed_Held.f t323 t324 t325).bind fun bt327 => (nunciolaw15_FeedBack.j4 kj11 a2 (bt327.1 != 0) bt327.2.1 bt327.2.2.1 bt327.2.2.2)) else (nunciolaw15_FeedBack.j4 kj11 a2 true t323 t324 t325)) else (nunciolaw15_FeedBack.j4 kj11 a2 true t323 t324 t325)) = some r := H
             have A29 := Aside0.mk A290
             clear A290
             by_cases c30 : t326 = true
             ·
              subst c30
              have H1 : (if t322 = 0 then ((feed_Feed_Held.f t323 t324 t325).bind fun bt327 => (nunciolaw15_FeedBack.j4 kj11 a2 (bt327.1 != 0) bt327.2.1 bt327.2.2.1 bt327.2.2.2)) else (nunciolaw15_FeedBack.j4 kj11 a2 true t323 t324 t325)) = some r := by rw [if_pos rfl] at H; exact H
              clear H
              have H := H1
              clear H1
              by_cases c31 : t322 = 0
              ·
               rw [if_pos c31] at H
               have c31b0 : (t322 == 0) = true := beq_iff_eq.mpr c31
               have c31b1 : (t322 != 0) = false := bne_eq_false_iff_eq.mpr c31
               clear c31
               (first | rw [c31b0] | (simp only [i64_w, i32_w]; rw [c31b0]) | skip)
               replace H := Option.bind_eq_some_iff.mp H
               obtain ⟨⟨t327, t328, t329, t330⟩, A320, H⟩ := H
               replace H : (nunciolaw15_FeedBack.j4 kj11 a2 (t327 != 0) t328 t329 t330) = some r := H
               have A32 := Aside0.mk A320
               clear A320
               have H' := Aside0.mk H
               clear H
               obtain ⟨Ao33, co33, eo33⟩ := Kd.R_slice HO321.out
               subst eo33
               obtain ⟨Ao34, co34, eo34⟩ := Kd.R_slice HO_8.out
               subst eo34
               go_wp2_with (first | ((with_reducible refine gate_callee (f := 13) rfl ?_); refine goesL_ (some 67) rfl rfl Try.func13 (by kernel_rfl) rfl #[.slice Ao33 t319.length co33, .slice Ao34 x8_3.length co34] rfl (by (try simp only [List.map_toArray, List.map_cons, List.map_nil]); first | done | rfl | (simp only [List.length_drop, List.length_take]; rfl)) ?_; (with_reducible refine (nuncioref15_Same.calls kj11 _ _ t319 _ _ x8_3 true _ ?side1 ?side2 ?side3 ?side4 A29.out).mono ?_); (case side1 => repeat (first | exact (Kd.R_reads' HO321.out).2.2 | (with_reducible refine Kd.C_alloc ?_ _) | (with_reducible refine Kd.C_drewN ?_ _) | (with_reducible refine Kd.C_drew ?_))); (case side2 => exact (Kd.R_reads' HO321.out).2.1); (case side3 => repeat (first | exact (Kd.R_reads' HO_8.out).2.2 | (with_reducible refine Kd.C_alloc ?_ _) | (with_reducible refine Kd.C_drewN ?_ _) | (with_reducible refine Kd.C_drew ?_))); (case side4 => exact (Kd.R_reads' HO_8.out).2.1); rintro e w' ⟨rfl, ⟨nd, rfl⟩⟩; refine ⟨_, rfl, ?_⟩) | (go_at_call 11; (with_reducible refine (feed_Feed_Held.calls g318 t323 t324 t325 t327 t328 t329 t330 w _ ?side1 ?side2 A32.out).mono ?_); (case side1 => repeat (first | (with_reducible first | exact HI318.out | apply IsS43.alloc | apply IsS43.drewN | apply IsS43.drew | apply IsS43.set_0 | apply IsS43.set_1 | apply IsS43.set_2) | exact HI318.out | simp only [*])); (case side2 => repeat (first | (with_reducible first | exact HB.out | apply below_alloc | apply pw_below_drewN | apply below_drew1 | refine below_set ?_ (IsS43.ge HI318.out)) | exact HB.out)); rintro e w35 ⟨rfl, hi, hb, hk⟩; have n0_ := Aside0.mk (Kd.R_mono (Kd.R_keep (IsS43.apart (show IsS43 w _ g318 t323 t324 t325 from by repeat (first | (with_reducible first | exact HI318.out | apply IsS43.alloc | apply IsS43.drewN | apply IsS43.drew | apply IsS43.set_0 | apply IsS43.set_1 | apply IsS43.set_2) | exact HI318.out | simp only [*])) (by (with_reducible repeat (first | apply Kd.R_alloc | apply Kd.R_drewN | apply Kd.R_drew)); exact HO_8.out) (by decide)) hk (fun _ h => h.2)) (fun _ h => h.1)); have n1_ := Aside0.mk (Kd.R_mono (Kd.R_keep (IsS43.apart (show IsS43 w _ g318 t323 t324 t325 from by repeat (first | (with_reducible first | exact HI318.out | apply IsS43.alloc | apply IsS43.drewN | apply IsS43.drew | apply IsS43.set_0 | apply IsS43.set_1 | apply IsS43.set_2) | exact HI318.out | simp only [*])) (by (with_reducible repeat (first | apply Kd.R_alloc | apply Kd.R_drewN | apply Kd.R_drew)); exact HO321.out) (by decide)) hk (fun _ h => h.2)) (fun _ h => h.1)); have n2_ := Aside0.mk (hb); have n3_ := Aside0.mk (hi); clear HO_8; clear HO321; clear HB; clear HI318; have HO_8 := n0_; have HO321 := n1_; have HB := n2_; have HI318 := n3_; clear n0_ n1_ n2_ n3_; (try clear hb); (try clear hb2); (try clear hk); (try clear hi)))
               go_meet
               case rel => exact ⟨_, ((t327 != 0)), (t328), (t329), (t330), (by first | rfl | (simp; done) | (simp [*]; done)), H', ⟨by have := HJ5.out; have := HJ9.out; have := HK3.out; have := HJ11.out; first | omega | exact Nat.le_refl _⟩, ⟨by repeat (first | (with_reducible first | exact HI318.out | apply IsS43.alloc | apply IsS43.drewN | apply IsS43.drew | apply IsS43.set_0 | apply IsS43.set_1 | apply IsS43.set_2) | exact HI318.out | simp only [*])⟩, ⟨by repeat (first | (with_reducible first | exact HB.out | apply below_alloc | apply pw_below_drewN | apply below_drew1 | refine below_set ?_ (IsS43.ge HI318.out)) | exact HB.out)⟩⟩
              ·
               rw [if_neg c31] at H
               have c31b0 : (t322 == 0) = false := beq_eq_false_iff_ne.mpr c31
               have c31b1 : (t322 != 0) = true := bne_iff_ne.mpr c31
               (first | rw [c31b0] | (simp only [i64_w, i32_w]; rw [c31b0]) | skip)
               have H' := Aside0.mk H
               clear H
               obtain ⟨Ao36, co36, eo36⟩ := Kd.R_slice HO321.out
               subst eo36
               obtain ⟨Ao37, co37, eo37⟩ := Kd.R_slice HO_8.out
               subst eo37
               go_wp2_with (first | ((with_reducible refine gate_callee (f := 13) rfl ?_); refine goesL_ (some 67) rfl rfl Try.func13 (by kernel_rfl) rfl #[.slice Ao36 t319.length co36, .slice Ao37 x8_3.length co37] rfl (by (try simp only [List.map_toArray, List.map_cons, List.map_nil]); first | done | rfl | (simp only [List.length_drop, List.length_take]; rfl)) ?_; (with_reducible refine (nuncioref15_Same.calls kj11 _ _ t319 _ _ x8_3 true _ ?side1 ?side2 ?side3 ?side4 A29.out).mono ?_); (case side1 => repeat (first | exact (Kd.R_reads' HO321.out).2.2 | (with_reducible refine Kd.C_alloc ?_ _) | (with_reducible refine Kd.C_drewN ?_ _) | (with_reducible refine Kd.C_drew ?_))); (case side2 => exact (Kd.R_reads' HO321.out).2.1); (case side3 => repeat (first | exact (Kd.R_reads' HO_8.out).2.2 | (with_reducible refine Kd.C_alloc ?_ _) | (with_reducible refine Kd.C_drewN ?_ _) | (with_reducible refine Kd.C_drew ?_))); (case side4 => exact (Kd.R_reads' HO_8.out).2.1); rintro e w' ⟨rfl, ⟨nd, rfl⟩⟩; refine ⟨_, rfl, ?_⟩))
               go_meet
               case rel => exact ⟨_, (true), (t323), (t324), (t325), (by first | rfl | (simp; done) | (simp [*]; done)), H', ⟨by have := HJ5.out; have := HJ9.out; have := HK3.out; have := HJ11.out; first | omega | exact Nat.le_refl _⟩, ⟨by repeat (first | (with_reducible first | exact HI318.out | apply IsS43.alloc | apply IsS43.drewN | apply IsS43.drew | apply IsS43.set_0 | apply IsS43.set_1 | apply IsS43.set_2) | exact HI318.out | simp only [*])⟩, ⟨by repeat (first | (with_reducible first | exact HB.out | apply below_alloc | apply pw_below_drewN | apply below_drew1 | refine below_set ?_ (IsS43.ge HI318.out)) | exact HB.out)⟩⟩
             ·
              replace c30 := Bool.eq_false_iff.mpr c30
              subst c30
              have H1 : (nunciolaw15_FeedBack.j4 kj11 a2 true t323 t324 t325) = some r := by rw [if_neg (show ¬ (false = true) by decide)] at H; exact H
              clear H
              have H := H1
              clear H1
              have H' := Aside0.mk H
              clear H
              obtain ⟨Ao38, co38, eo38⟩ := Kd.R_slice HO321.out
              subst eo38
              obtain ⟨Ao39, co39, eo39⟩ := Kd.R_slice HO_8.out
              subst eo39
              go_wp2_with (first | ((with_reducible refine gate_callee (f := 13) rfl ?_); refine goesL_ (some 67) rfl rfl Try.func13 (by kernel_rfl) rfl #[.slice Ao38 t319.length co38, .slice Ao39 x8_3.length co39] rfl (by (try simp only [List.map_toArray, List.map_cons, List.map_nil]); first | done | rfl | (simp only [List.length_drop, List.length_take]; rfl)) ?_; (with_reducible refine (nuncioref15_Same.calls kj11 _ _ t319 _ _ x8_3 false _ ?side1 ?side2 ?side3 ?side4 A29.out).mono ?_); (case side1 => repeat (first | exact (Kd.R_reads' HO321.out).2.2 | (with_reducible refine Kd.C_alloc ?_ _) | (with_reducible refine Kd.C_drewN ?_ _) | (with_reducible refine Kd.C_drew ?_))); (case side2 => exact (Kd.R_reads' HO321.out).2.1); (case side3 => repeat (first | exact (Kd.R_reads' HO_8.out).2.2 | (with_reducible refine Kd.C_alloc ?_ _) | (with_reducible refine Kd.C_drewN ?_ _) | (with_reducible refine Kd.C_drew ?_))); (case side4 => exact (Kd.R_reads' HO_8.out).2.1); rintro e w' ⟨rfl, ⟨nd, rfl⟩⟩; refine ⟨_, rfl, ?_⟩))
              go_meet
              case rel => exact ⟨_, (true), (t323), (t324), (t325), (by first | rfl | (simp; done) | (simp [*]; done)), H', ⟨by have := HJ5.out; have := HJ9.out; have := HK3.out; have := HJ11.out; first | omega | exact Nat.le_refl _⟩, ⟨by repeat (first | (with_reducible first | exact HI318.out | apply IsS43.alloc | apply IsS43.drewN | apply IsS43.drew | apply IsS43.set_0 | apply IsS43.set_1 | apply IsS43.set_2) | exact HI318.out | simp only [*])⟩, ⟨by repeat (first | (with_reducible first | exact HB.out | apply below_alloc | apply pw_below_drewN | apply below_drew1 | refine below_set ?_ (IsS43.ge HI318.out)) | exact HB.out)⟩⟩
            case rest =>
             clear HC26
             try clear c1
             try clear c2
             try clear p2
             try clear c3
             try clear p3
             try clear q3
             try clear hx3
             try clear c5
             try clear c6
             try clear p6
             try clear c8
             try clear c8b0
             try clear c8b1
             try clear c9
             try clear c11
             try clear c13
             try clear c13b0
             try clear c14
             try clear c15
             try clear c15b0
             try clear c16
             try clear c16b0
             try clear c18
             try clear c18b0
             try clear c18b1
             try clear c19
             try clear c19b0
             try clear c19b1
             try clear c19b2
             try clear c20
             try clear c30
             try clear p30
             try clear q30
             try clear hx30
             try clear c31
             try clear c31b0
             try clear c31b1
             try clear p31
             try clear q31
             try clear hx31
             try clear hx308_0
             try clear hx308_1
             try clear hx308_2
             try clear hx308_3
             try clear hx311_0
             try clear hx311_1
             try clear hx311_2
             try clear hx311_3
             try clear p2
             try clear p308
             try clear p311
             try clear q308
             try clear q311
             obtain ⟨kq, x77_25, x319000_25, x319001_25, x319002_25, rfl, HA, HJ25, HI318, HB⟩ := hcut
             cases kq with
             | zero => exact absurd HA.out (by simp [nunciolaw15_FeedBack.j4])
             | succ kj25 =>
              have H := HA.out
              clear HA
              simp only [nunciolaw15_FeedBack.j4] at H
              by_cases c40 : x77_25 = true
              ·
               subst c40
               have H1 : (some false) = some r := by rw [if_pos rfl] at H; exact H
               clear H
               have H := H1
               clear H1
               exact absurd ((Option.some.inj H).trans HT.out) (by decide)
              ·
               replace c40 := Bool.eq_false_iff.mpr c40
               subst c40
               have H1 : ((feed_Feed_Add.f kj25 x319000_25 x319001_25 x319002_25 a2).bind fun bt331 => ((feed_Feed_Held.f bt331.2.2.1 bt331.2.2.2.1 bt331.2.2.2.2).bind fun bt338 => (some (decide (bt338.1 < 16393))))) = some r := by rw [if_neg (show ¬ (false = true) by decide)] at H; exact H
               clear H
               have H := H1
               clear H1
               replace H := Option.bind_eq_some_iff.mp H
               obtain ⟨⟨t331, t334, t335, t336, t337⟩, A410, H⟩ := H
               replace H : ((feed_Feed_Held.f t335 t336 t337).bind fun bt338 => (some (decide (bt338.1 < 16393)))) = some r := H
               have A41 := Aside0.mk A410
               clear A410
               replace H := Option.bind_eq_some_iff.mp H
               obtain ⟨⟨t338, t339, t340, t341⟩, A420, H⟩ := H
               replace H : (some (decide (t338 < 16393))) = some r := H
               have A42 := Aside0.mk A420
               clear A420
               obtain rfl := Option.some.inj H
               go_wp2_with (first | ((with_reducible refine gate_callee (f := 9) rfl ?_); refine goesL_ (some 80) rfl rfl Try.func9 (by kernel_rfl) rfl #[.pointer (some ⟨g318, 0, none⟩), .string a2] rfl (by (try simp only [List.map_toArray, List.map_cons, List.map_nil]); first | done | rfl | (simp only [List.length_drop, List.length_take]; rfl)) ?_; (with_reducible refine (feed_Feed_Add.calls kj25 g318 x319000_25 x319001_25 x319002_25 a2 t331 t334 t335 t336 t337 w _ ?side1 ?side2 A41.out).mono ?_); (case side1 => repeat (first | (with_reducible first | exact HI318.out | apply IsS43.alloc | apply IsS43.drewN | apply IsS43.drew | apply IsS43.set_0 | apply IsS43.set_1 | apply IsS43.set_2) | exact HI318.out | simp only [*])); (case side2 => repeat (first | (with_reducible first | exact HB.out | apply below_alloc | apply pw_below_drewN | apply below_drew1 | refine below_set ?_ (IsS43.ge HI318.out)) | exact HB.out)); rintro e w43 ⟨v332, rfl, ho0, hi, hb, hk⟩; refine ⟨_, rfl, ?_⟩; have n0_ := Aside0.mk (Kd.R_lower ho0 (below_size (by repeat (first | (with_reducible first | exact HB.out | apply below_alloc | apply pw_below_drewN | apply below_drew1 | refine below_set ?_ (IsS43.ge HI318.out)) | exact HB.out)))); have n1_ := Aside0.mk (hb); have n2_ := Aside0.mk (hi); clear HB; clear HI318; have HO333 := n0_; have HB := n1_; have HI318 := n2_; clear n0_ n1_ n2_; (try clear hb); (try clear hb2); (try clear hk); (try clear hi); (try clear ho0)) | ((with_reducible refine gate_callee (f := 11) rfl ?_); refine goesL_ (some 82) rfl rfl Try.func11 (by kernel_rfl) rfl #[.pointer (some ⟨g318, 0, none⟩)] rfl (by (try simp only [List.map_toArray, List.map_cons, List.map_nil]); first | done | rfl | (simp only [List.length_drop, List.length_take]; rfl)) ?_; (with_reducible refine (feed_Feed_Held.calls g318 t335 t336 t337 t338 t339 t340 t341 w _ ?side1 ?side2 A42.out).mono ?_); (case side1 => repeat (first | (with_reducible first | exact HI318.out | apply IsS43.alloc | apply IsS43.drewN | apply IsS43.drew | apply IsS43.set_0 | apply IsS43.set_1 | apply IsS43.set_2) | exact HI318.out | simp only [*])); (case side2 => repeat (first | (with_reducible first | exact HB.out | apply below_alloc | apply pw_below_drewN | apply below_drew1 | refine below_set ?_ (IsS43.ge HI318.out)) | exact HB.out)); rintro e w44 ⟨rfl, hi, hb, hk⟩; refine ⟨_, rfl, ?_⟩; have n0_ := Aside0.mk (Kd.R_mono (Kd.R_keep (IsS43.apart (show IsS43 w _ g318 t335 t336 t337 from by repeat (first | (with_reducible first | exact HI318.out | apply IsS43.alloc | apply IsS43.drewN | apply IsS43.drew | apply IsS43.set_0 | apply IsS43.set_1 | apply IsS43.set_2) | exact HI318.out | simp only [*])) (by (with_reducible repeat (first | apply Kd.R_alloc | apply Kd.R_drewN | apply Kd.R_drew)); exact HO333.out) (by decide)) hk (fun _ h => h.2)) (fun _ h => h.1)); have n1_ := Aside0.mk (hb); have n2_ := Aside0.mk (hi); clear HO333; clear HB; clear HI318; have HO333 := n0_; have HB := n1_; have HI318 := n2_; clear n0_ n1_ n2_; (try clear hb); (try clear hb2); (try clear hk); (try clear hi)))
               go_ret
               exact ⟨by first | rfl | (simp [errW_none, errW_some] <;> rfl) | (simp [*, errW_none, errW_some] <;> rfl), by repeat (first | (with_reducible first | exact HB.out | apply below_alloc | apply pw_below_drewN | apply below_drew1 | refine below_set ?_ (IsS43.ge HI318.out)) | exact HB.out)⟩
 ·
  replace c5 := Bool.eq_false_iff.mpr c5
  subst c5
  have H1 : (some false) = some r := by rw [if_neg (show ¬ (false = true) by decide)] at H; exact H
  clear H
  have H := H1
  clear H1
  exact absurd ((Option.some.inj H).trans HT.out) (by decide)

def k40_wf (x : S40) : Prop := ((Lit.int .u8 x.f0).wf = true) ∧ ((Lit.int .u8 x.f1).wf = true) ∧ ((Lit.int .u32 x.f2).wf = true) ∧ (x.f3.size ≤ 140737488351232)
theorem k40_opens : Opens Try.prog 40 k40 k40_wf := by
 refine Opens.struct (P := Try.prog) (d := (Kd.pair (Kd.int .u8) (Kd.pair (Kd.int .u8) (Kd.pair (Kd.int .u32) Kd.string)))) (wf := (fun x => ((Lit.int .u8 x.1).wf = true) ∧ (fun x => ((Lit.int .u8 x.1).wf = true) ∧ (fun x => ((Lit.int .u32 x.1).wf = true) ∧ (fun x => x.size ≤ 140737488351232) x.2) x.2) x.2)) (f := fun x : S40 => (x.f0, x.f1, x.f2, x.f3)) (g := fun y => (⟨y.1, y.2.1, y.2.2.1, y.2.2.2⟩ : S40)) ?_ Try.underlying40 (by kernel_rfl) (fun _ => rfl)
 exact (OpensCells.cons (Opens.int Try.underlying5) (by kernel_rfl) (OpensCells.cons (Opens.int Try.underlying5) (by kernel_rfl) (OpensCells.cons (Opens.int Try.underlying28) (by kernel_rfl) (OpensCells.one (Opens.string Try.underlying9) (by kernel_rfl)) rfl) rfl) rfl)
/-- THE ONE PURE STATEMENT of nunciolaw15_FeedBack: yours. -/
def nunciolaw15_FeedBack.Pure : Prop := ∀ (a0 : Bool) (l1 : List (S40)) (a2 : ByteArray), (l1.length ≤ 9223372036854775807 ∧ l1.length * 24 ≤ 140737488351232 ∧ ∀ x_ ∈ l1, k40_wf x_) → (a2.size ≤ 140737488351232) → ∃ k, nunciolaw15_FeedBack.f k a0 l1 a2 = some true
theorem nunciolaw15_FeedBack.walk (P : nunciolaw15_FeedBack.Pure) (a0 : Bool) (A1 : Option Addr) (c1 : Nat) (l1 : List (S40)) (a2 : ByteArray) (w : World) (hr1 : Kd.C k40 w A1 l1.length l1) (hc1 : l1.length ≤ c1) (w1 : l1.length ≤ 9223372036854775807 ∧ l1.length * 24 ≤ 140737488351232 ∧ ∀ x_ ∈ l1, k40_wf x_) (w2 : a2.size ≤ 140737488351232) :
  Calls Try.prog 5 #[.bool a0, .slice A1 l1.length c1, .string a2] w fun e w' => e = .returned (.bool true) ∧ Below w.heap.size w w' := by
 obtain ⟨k, h⟩ := P a0 l1 a2 w1 w2
 refine (nunciolaw15_FeedBack.calls k a0 _ _ l1 a2 true w hr1 hc1 h rfl).mono ?_
 rintro e w' ⟨rfl, hd⟩
 exact ⟨rfl, hd⟩

end Go.Proofs.Ytlglgfcdhflecaa.Mine
