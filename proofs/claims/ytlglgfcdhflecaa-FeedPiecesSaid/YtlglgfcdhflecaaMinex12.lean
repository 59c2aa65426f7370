-- Written by this repo's own printer (wip/print), which builds on the kit's.
import Derived.Test.YtlglgfcdhflecaaMinex0
import Derived.Test.YtlglgfcdhflecaaMinex2
import Derived.Test.YtlglgfcdhflecaaMinex5
import Derived.Test.YtlglgfcdhflecaaMinex6
import Derived.Test.YtlglgfcdhflecaaMinex10
namespace Go.Proofs.Ytlglgfcdhflecaa.Mine
open Go.RowKit Go.Proofs.YtlglgfcdhflecaaW.PrintWords Go.Proofs.YtlglgfcdhflecaaW.PrintLast Go.Proofs.YtlglgfcdhflecaaW.PrintMore
attribute [local go_sem] max2_int min2_int max_two min_two max_three min_three max_four min_four   -- for this text's walks alone
set_option linter.unusedVariables false
set_option linter.unusedSimpArgs false

/-! ### nunciolaw15_FeedPieces: function 4 -/
mutual
def nunciolaw15_FeedPieces.j0 : Nat → ByteArray → Int → List (S40) → Int → Bool → ByteArray → Bool → Bool → ByteArray → Bool → Bool → ByteArray → Bool → Bool → Option (Bool)
 | 0, _, _, _, _, _, _, _, _, _, _, _, _, _, _ => none
 | k + 1, x1, x2, x10, x11, x45, x238000, x238001, x238002, x242000, x242001, x242002, x246000, x246001, x246002 => if x45 = true then (nunciolaw15_FeedPieces.j1 k x1 (wrap64 ((x1.size : Int) / 2)) x10 x11 x238000 x238001 x238002 x242000 x242001 x242002 x246000 x246001 x246002) else (nunciolaw15_FeedPieces.j1 k x1 x2 x10 x11 x238000 x238001 x238002 x242000 x242001 x242002 x246000 x246001 x246002)
def nunciolaw15_FeedPieces.j1 : Nat → ByteArray → Int → List (S40) → Int → ByteArray → Bool → Bool → ByteArray → Bool → Bool → ByteArray → Bool → Bool → Option (Bool)
 | 0, _, _, _, _, _, _, _, _, _, _, _, _, _ => none
 | k + 1, x1, x2, x10, x11, x238000, x238001, x238002, x242000, x242001, x242002, x246000, x246001, x246002 => if 0 ≤ x2 then (if x2 ≤ (x1.size : Int) then ((feed_Feed_Add.f k x242000 x242001 x242002 (x1.extract 0 (x2 : Int).toNat)).bind fun bt253 => ((feed_Feed_Add.f k bt253.2.2.1 bt253.2.2.2.1 bt253.2.2.2.2 (x1.extract (x2 : Int).toNat x1.size)).bind fun bt260 => (if bt253.1.length + bt260.1.length < 5864062014805 then (nunciolaw15_FeedPieces.l0 k x1 x10 x11 (bt253.1 ++ bt260.1) bt253.2.1 bt260.2.1 ([] : List (S40)) 0 0 x238000 x238001 x238002 bt260.2.2.1 bt260.2.2.2.1 bt260.2.2.2.2 x246000 x246001 x246002) else (none)))) else (none)) else (none)
def nunciolaw15_FeedPieces.l0 : Nat → ByteArray → List (S40) → Int → List (S40) → Int → Int → List (S40) → Int → Int → ByteArray → Bool → Bool → ByteArray → Bool → Bool → ByteArray → Bool → Bool → Option (Bool)
 | 0, _, _, _, _, _, _, _, _, _, _, _, _, _, _, _, _, _, _ => none
 | k + 1, x1, x10, x11, x12, x13, x15, x16, x17, x18, x238000, x238001, x238002, x242000, x242001, x242002, x246000, x246001, x246002 => if x18 < (x1.size : Int) then (if 0 ≤ x18 then (if x18 ≤ (wrap64 (x18 + 1)) then (if (wrap64 (x18 + 1)) ≤ (x1.size : Int) then ((feed_Feed_Add.f k x246000 x246001 x246002 (x1.extract (x18 : Int).toNat ((wrap64 (x18 + 1)) : Int).toNat)).bind fun bt270 => (if x16.length + bt270.1.length < 5864062014805 then (nunciolaw15_FeedPieces.l0 k x1 x10 x11 x12 x13 x15 (x16 ++ bt270.1) (mx x17 bt270.2.1) (wrap64 (x18 + 1)) x238000 x238001 x238002 x242000 x242001 x242002 bt270.2.2.1 bt270.2.2.2.1 bt270.2.2.2.2) else (none))) else (none)) else (none)) else (none)) else ((nuncioref15_Same.f k x10 x12).bind fun t280 => (if t280 = true then ((nuncioref15_Same.f k x10 x16).bind fun t281 => (if t281 = true then (if (mx x13 x15) = x11 then (if x17 = x11 then ((feed_Feed_Held.f x238000 x238001 x238002).bind fun bt282 => ((feed_Feed_Held.f x242000 x242001 x242002).bind fun bt286 => (if bt282.1 = bt286.1 then ((feed_Feed_Held.f bt282.2.1 bt282.2.2.1 bt282.2.2.2).bind fun bt290 => ((feed_Feed_Held.f x246000 x246001 x246002).bind fun bt294 => (some (bt290.1 == bt294.1)))) else (some false)))) else (some false)) else (some false)) else (some false))) else (some false)))
end
def nunciolaw15_FeedPieces.f (k : Nat) (a0 : Bool) (a1 : ByteArray) (a2 : Int) : Option (Bool) := (nunciolaw15_awake.f k).bind fun t233 => (if t233 = true then (if (a1.size : Int) > 3000 then (some true) else ((feed_New.f a0).bind fun bt234 => ((feed_New.f a0).bind fun bt238 => ((feed_New.f a0).bind fun bt242 => ((feed_Feed_Add.f k bt234.1 bt234.2.1 bt234.2.2 a1).bind fun bt246 => (if a2 < 0 then (nunciolaw15_FeedPieces.j0 k a1 a2 bt246.1 bt246.2.1 true bt246.2.2.1 bt246.2.2.2.1 bt246.2.2.2.2 bt238.1 bt238.2.1 bt238.2.2 bt242.1 bt242.2.1 bt242.2.2) else (nunciolaw15_FeedPieces.j0 k a1 a2 bt246.1 bt246.2.1 (decide (a2 > (a1.size : Int))) bt246.2.2.1 bt246.2.2.2.1 bt246.2.2.2.2 bt238.1 bt238.2.1 bt238.2.2 bt242.1 bt242.2.1 bt242.2.2))))))) else (some false))
theorem nunciolaw15_FeedPieces.mono_l : ∀ k, (∀ y0 y1 y2 y3 y4 y5 y6 y7 y8 y9 y10 y11 y12 y13, LeO (nunciolaw15_FeedPieces.j0 k y0 y1 y2 y3 y4 y5 y6 y7 y8 y9 y10 y11 y12 y13) (nunciolaw15_FeedPieces.j0 (k + 1) y0 y1 y2 y3 y4 y5 y6 y7 y8 y9 y10 y11 y12 y13)) ∧ (∀ y0 y1 y2 y3 y4 y5 y6 y7 y8 y9 y10 y11 y12, LeO (nunciolaw15_FeedPieces.j1 k y0 y1 y2 y3 y4 y5 y6 y7 y8 y9 y10 y11 y12) (nunciolaw15_FeedPieces.j1 (k + 1) y0 y1 y2 y3 y4 y5 y6 y7 y8 y9 y10 y11 y12)) ∧ (∀ y0 y1 y2 y3 y4 y5 y6 y7 y8 y9 y10 y11 y12 y13 y14 y15 y16 y17, LeO (nunciolaw15_FeedPieces.l0 k y0 y1 y2 y3 y4 y5 y6 y7 y8 y9 y10 y11 y12 y13 y14 y15 y16 y17) (nunciolaw15_FeedPieces.l0 (k + 1) y0 y1 y2 y3 y4 y5 y6 y7 y8 y9 y10 y11 y12 y13 y14 y15 y16 y17))
 | 0 => ⟨fun _ _ _ _ _ _ _ _ _ _ _ _ _ _ r h => by simp [nunciolaw15_FeedPieces.j0] at h, fun _ _ _ _ _ _ _ _ _ _ _ _ _ r h => by simp [nunciolaw15_FeedPieces.j1] at h, fun _ _ _ _ _ _ _ _ _ _ _ _ _ _ _ _ _ _ r h => by simp [nunciolaw15_FeedPieces.l0] at h⟩
 | k + 1 => by
  obtain ⟨ih0, ih1, ih2⟩ := nunciolaw15_FeedPieces.mono_l k
  refine ⟨?_, ?_, ?_⟩
  ·
   intro y0 y1 y2 y3 y4 y5 y6 y7 y8 y9 y10 y11 y12 y13
   unfold nunciolaw15_FeedPieces.j0
   repeat' first
   | (with_reducible exact ih0 _ _ _ _ _ _ _ _ _ _ _ _ _ _)
   | (with_reducible exact ih1 _ _ _ _ _ _ _ _ _ _ _ _ _)
   | (with_reducible exact ih2 _ _ _ _ _ _ _ _ _ _ _ _ _ _ _ _ _ _)
   | (with_reducible exact feed_Feed_Add.mono _ _ _ _ _)
   | (with_reducible exact nunciolaw15_awake.mono _)
   | (with_reducible exact nuncioref15_Same.mono _ _ _)
   | (with_reducible exact LeO.refl _)
   | (with_reducible exact LeO.none _)
   | (with_reducible refine LeO.ite ?_ ?_)
   | (with_reducible refine LeO.bind ?_ (fun _ => ?_))
   | exact ih0 _ _ _ _ _ _ _ _ _ _ _ _ _ _
   | exact ih1 _ _ _ _ _ _ _ _ _ _ _ _ _
   | exact ih2 _ _ _ _ _ _ _ _ _ _ _ _ _ _ _ _ _ _
   | exact feed_Feed_Add.mono _ _ _ _ _
   | exact nunciolaw15_awake.mono _
   | exact nuncioref15_Same.mono _ _ _
   | exact LeO.none _
   | refine LeO.ite ?_ ?_
   | refine LeO.bind ?_ (fun _ => ?_)
  ·
   intro y0 y1 y2 y3 y4 y5 y6 y7 y8 y9 y10 y11 y12
   unfold nunciolaw15_FeedPieces.j1
   repeat' first
   | (with_reducible exact ih0 _ _ _ _ _ _ _ _ _ _ _ _ _ _)
   | (with_reducible exact ih1 _ _ _ _ _ _ _ _ _ _ _ _ _)
   | (with_reducible exact ih2 _ _ _ _ _ _ _ _ _ _ _ _ _ _ _ _ _ _)
   | (with_reducible exact feed_Feed_Add.mono _ _ _ _ _)
   | (with_reducible exact nunciolaw15_awake.mono _)
   | (with_reducible exact nuncioref15_Same.mono _ _ _)
   | (with_reducible exact LeO.refl _)
   | (with_reducible exact LeO.none _)
   | (with_reducible refine LeO.ite ?_ ?_)
   | (with_reducible refine LeO.bind ?_ (fun _ => ?_))
   | exact ih0 _ _ _ _ _ _ _ _ _ _ _ _ _ _
   | exact ih1 _ _ _ _ _ _ _ _ _ _ _ _ _
   | exact ih2 _ _ _ _ _ _ _ _ _ _ _ _ _ _ _ _ _ _
   | exact feed_Feed_Add.mono _ _ _ _ _
   | exact nunciolaw15_awake.mono _
   | exact nuncioref15_Same.mono _ _ _
   | exact LeO.none _
   | refine LeO.ite ?_ ?_
   | refine LeO.bind ?_ (fun _ => ?_)
  ·
   intro y0 y1 y2 y3 y4 y5 y6 y7 y8 y9 y10 y11 y12 y13 y14 y15 y16 y17
   unfold nunciolaw15_FeedPieces.l0
   repeat' first
   | (with_reducible exact ih0 _ _ _ _ _ _ _ _ _ _ _ _ _ _)
   | (with_reducible exact ih1 _ _ _ _ _ _ _ _ _ _ _ _ _)
   | (with_reducible exact ih2 _ _ _ _ _ _ _ _ _ _ _ _ _ _ _ _ _ _)
   | (with_reducible exact feed_Feed_Add.mono _ _ _ _ _)
   | (with_reducible exact nunciolaw15_awake.mono _)
   | (with_reducible exact nuncioref15_Same.mono _ _ _)
   | (with_reducible exact LeO.refl _)
   | (with_reducible exact LeO.none _)
   | (with_reducible refine LeO.ite ?_ ?_)
   | (with_reducible refine LeO.bind ?_ (fun _ => ?_))
   | exact ih0 _ _ _ _ _ _ _ _ _ _ _ _ _ _
   | exact ih1 _ _ _ _ _ _ _ _ _ _ _ _ _
   | exact ih2 _ _ _ _ _ _ _ _ _ _ _ _ _ _ _ _ _ _
   | exact feed_Feed_Add.mono _ _ _ _ _
   | exact nunciolaw15_awake.mono _
   | exact nuncioref15_Same.mono _ _ _
   | exact LeO.none _
   | refine LeO.ite ?_ ?_
   | refine LeO.bind ?_ (fun _ => ?_)
theorem nunciolaw15_FeedPieces.mono : ∀ a0 a1 a2 k, LeO (nunciolaw15_FeedPieces.f k a0 a1 a2) (nunciolaw15_FeedPieces.f (k + 1) a0 a1 a2) := by
 intro a0 a1 a2 k
 obtain ⟨ih0, ih1, ih2⟩ := nunciolaw15_FeedPieces.mono_l k
 unfold nunciolaw15_FeedPieces.f
 repeat' first
   | (with_reducible exact ih0 _ _ _ _ _ _ _ _ _ _ _ _ _ _)
   | (with_reducible exact ih1 _ _ _ _ _ _ _ _ _ _ _ _ _)
   | (with_reducible exact ih2 _ _ _ _ _ _ _ _ _ _ _ _ _ _ _ _ _ _)
   | (with_reducible exact feed_Feed_Add.mono _ _ _ _ _)
   | (with_reducible exact nunciolaw15_awake.mono _)
   | (with_reducible exact nuncioref15_Same.mono _ _ _)
   | (with_reducible exact LeO.refl _)
   | (with_reducible exact LeO.none _)
   | (with_reducible refine LeO.ite ?_ ?_)
   | (with_reducible refine LeO.bind ?_ (fun _ => ?_))
   | exact ih0 _ _ _ _ _ _ _ _ _ _ _ _ _ _
   | exact ih1 _ _ _ _ _ _ _ _ _ _ _ _ _
   | exact ih2 _ _ _ _ _ _ _ _ _ _ _ _ _ _ _ _ _ _
   | exact feed_Feed_Add.mono _ _ _ _ _
   | exact nunciolaw15_awake.mono _
   | exact nuncioref15_Same.mono _ _ _
   | exact LeO.none _
   | refine LeO.ite ?_ ?_
   | refine LeO.bind ?_ (fun _ => ?_)
set_option maxHeartbeats 8000000 in
set_option maxRecDepth 100000 in
theorem nunciolaw15_FeedPieces.calls (k : Nat) (a0 : Bool) (a1 : ByteArray) (a2 : Int) (r : Bool) (w : World) (h : nunciolaw15_FeedPieces.f k a0 a1 a2 = some r) (hT : r = true) :
  Calls Try.prog 4 #[.bool a0, .string a1, .int .i64 a2] w fun e w' => e = .returned (.bool r) ∧ Below w.heap.size w w' := by
 have HB := Aside0.mk (Below.refl w.heap.size w)
 have HT := Aside0.mk hT
 clear hT
 have H : ((nunciolaw15_awake.f k).bind fun t233 => (if t233 = true then (if (a1.size : Int) > 3000 then (some true) else ((feed_New.f a0).bind fun bt234 => ((feed_New.f a0).bind fun bt238 => ((feed_New.f a0).bind fun bt242 => ((feed_Feed_Add.f k bt234.1 bt234.2.1 bt234.2.2 a1).bind fun bt246 => (if a2 < 0 then (nunciolaw15_FeedPieces.j0 k a1 a2 bt246.1 bt246.2.1 true bt246.2.2.1 bt246.2.2.2.1 bt246.2.2.2.2 bt238.1 bt238.2.1 bt238.2.2 bt242.1 bt242.2.1 bt242.2.2) else (nunciolaw15_FeedPieces.j0 k a1 a2 bt246.1 bt246.2.1 (decide (a2 > (a1.size : Int))) bt246.2.2.1 bt246.2.2.2.1 bt246.2.2.2.2 bt238.1 bt238.2.1 bt238.2.2 bt242.1 bt242.2.1 bt242.2.2))))))) else (some false))) = some r := h
 clear h
 replace H := Option.bind_eq_some_iff.mp H
 obtain ⟨t233, A40, H⟩ := H
 replace H : (if t233 = true then (if (a1.size : Int) > 3000 then (some true) else ((feed_New.f a0).bind fun bt234 => ((feed_New.f a0).bind fun bt238 => ((feed_New.f a0).bind fun bt242 => ((feed_Feed_Add.f k bt234.1 bt234.2.1 bt234.2.2 a1).bind fun bt246 => (if a2 < 0 then (nunciolaw15_FeedPieces.j0 k a1 a2 bt246.1 bt246.2.1 true bt246.2.2.1 bt246.2.2.2.1 bt246.2.2.2.2 bt238.1 bt238.2.1 bt238.2.2 bt242.1 bt242.2.1 bt242.2.2) else (nunciolaw15_FeedPieces.j0 k a1 a2 bt246.1 bt246.2.1 (decide (a2 > (a1.size : Int))) bt246.2.2.1 bt246.2.2.2.1 bt246.2.2.2.2 bt238.1 bt238.2.1 bt238.2.2 bt242.1 bt242.2.1 bt242.2.2))))))) else (some false)) = some r := H
 have A4 := Aside0.mk A40
 clear A40
 by_cases c5 : t233 = true
 ·
  subst c5
  have H1 : (if (a1.size : Int) > 3000 then (some true) else ((feed_New.f a0).bind fun bt234 => ((feed_New.f a0).bind fun bt238 => ((feed_New.f a0).bind fun bt242 => ((feed_Feed_Add.f k bt234.1 bt234.2.1 bt234.2.2 a1).bind fun bt246 => (if a2 < 0 then (nunciolaw15_FeedPieces.j0 k a1 a2 bt246.1 bt246.2.1 true bt246.2.2.1 bt246.2.2.2.1 bt246.2.2.2.2 bt238.1 bt238.2.1 bt238.2.2 bt242.1 bt242.2.1 bt242.2.2) else (nunciolaw15_FeedPieces.j0 k a1 a2 bt246.1 bt246.2.1 (decide (a2 > (a1.size : Int))) bt246.2.2.1 bt246.2.2.2.1 bt246.2.2.2.2 bt238.1 bt238.2.1 bt238.2.2 bt242.1 bt242.2.1 bt242.2.2))))))) = some r := by rw [if_pos rfl] at H; exact H
  clear H
  have H := H1
  clear H1
  by_cases c6 : (a1.size : Int) > 3000
  ·
   rw [if_pos c6] at H
   have c6b0 : decide (3000 < (a1.size : Int)) = true := decide_eq_true c6
   have c6b1 : decide (3000 < a1.size) = true := decide_eq_true (by omega)
   clear c6
   obtain rfl := Option.some.inj H
   go_enter Try.func4, Try.ntmps4
   go_wp2_with (first | ((with_reducible refine gate_callee (f := 6) rfl ?_); refine goesL_ (some 21) rfl rfl Try.func6 (by kernel_rfl) rfl #[] rfl (by (try simp only [List.map_toArray, List.map_cons, List.map_nil]); first | done | rfl | (simp only [List.length_drop, List.length_take]; rfl)) ?_; (with_reducible refine (nunciolaw15_awake.calls k  true _ A4.out).mono ?_); rintro e w7 ⟨rfl, hb⟩; refine ⟨_, rfl, ?_⟩; have n0_ := Aside0.mk (below_step (by repeat (first | (with_reducible first | exact HB.out | apply below_alloc | apply pw_below_drewN | apply below_drew1) | exact HB.out)) hb); clear HB; have HB := n0_; clear n0_; (try clear hb); (try clear hb2); (try clear hk); (try clear hi)))
   go_ret
   exact ⟨by first | rfl | (simp [errW_none, errW_some] <;> rfl) | (simp [*, errW_none, errW_some] <;> rfl), by repeat (first | (with_reducible first | exact HB.out | apply below_alloc | apply pw_below_drewN | apply below_drew1) | exact HB.out)⟩
  ·
   rw [if_neg c6] at H
   have c6b0 : decide (3000 < (a1.size : Int)) = false := decide_eq_false c6
   have c6b1 : decide (3000 < a1.size) = false := decide_eq_false (by omega)
   clear c6
   replace H := Option.bind_eq_some_iff.mp H
   obtain ⟨⟨t234, t235, t236⟩, A80, H⟩ := H
   replace H : ((feed_New.f a0).bind fun bt238 => ((feed_New.f a0).bind fun bt242 => ((feed_Feed_Add.f k t234 t235 t236 a1).bind fun bt246 => (if a2 < 0 then (nunciolaw15_FeedPieces.j0 k a1 a2 bt246.1 bt246.2.1 true bt246.2.2.1 bt246.2.2.2.1 bt246.2.2.2.2 bt238.1 bt238.2.1 bt238.2.2 bt242.1 bt242.2.1 bt242.2.2) else (nunciolaw15_FeedPieces.j0 k a1 a2 bt246.1 bt246.2.1 (decide (a2 > (a1.size : Int))) bt246.2.2.1 bt246.2.2.2.1 bt246.2.2.2.2 bt238.1 bt238.2.1 bt238.2.2 bt242.1 bt242.2.1 bt242.2.2))))) = some r := H
   have A8 := Aside0.mk A80
   clear A80
   replace H := Option.bind_eq_some_iff.mp H
   obtain ⟨⟨t238, t239, t240⟩, A90, H⟩ := H
   replace H : ((feed_New.f a0).bind fun bt242 => ((feed_Feed_Add.f k t234 t235 t236 a1).bind fun bt246 => (if a2 < 0 then (nunciolaw15_FeedPieces.j0 k a1 a2 bt246.1 bt246.2.1 true bt246.2.2.1 bt246.2.2.2.1 bt246.2.2.2.2 t238 t239 t240 bt242.1 bt242.2.1 bt242.2.2) else (nunciolaw15_FeedPieces.j0 k a1 a2 bt246.1 bt246.2.1 (decide (a2 > (a1.size : Int))) bt246.2.2.1 bt246.2.2.2.1 bt246.2.2.2.2 t238 t239 t240 bt242.1 bt242.2.1 bt242.2.2)))) = some r := H
   have A9 := Aside0.mk A90
   clear A90
   replace H := Option.bind_eq_some_iff.mp H
   obtain ⟨⟨t242, t243, t244⟩, A100, H⟩ := H
   replace H : ((feed_Feed_Add.f k t234 t235 t236 a1).bind fun bt246 => (if a2 < 0 then (nunciolaw15_FeedPieces.j0 k a1 a2 bt246.1 bt246.2.1 true bt246.2.2.1 bt246.2.2.2.1 bt246.2.2.2.2 t238 t239 t240 t242 t243 t244) else (nunciolaw15_FeedPieces.j0 k a1 a2 bt246.1 bt246.2.1 (decide (a2 > (a1.size : Int))) bt246.2.2.1 bt246.2.2.2.1 bt246.2.2.2.2 t238 t239 t240 t242 t243 t244))) = some r := H
   have A10 := Aside0.mk A100
   clear A100
   replace H := Option.bind_eq_some_iff.mp H
   obtain ⟨⟨t246, t249, t250, t251, t252⟩, A110, H⟩ := H
   replace H : (if a2 < 0 then (nunciolaw15_FeedPieces.j0 k a1 a2 t246 t249 true t250 t251 t252 t238 t239 t240 t242 t243 t244) else (nunciolaw15_FeedPieces.j0 k a1 a2 t246 t249 (decide (a2 > (a1.size : Int))) t250 t251 t252 t238 t239 t240 t242 t243 t244)) = some r := H
   have A11 := Aside0.mk A110
   clear A110
   have HC12 := Aside0.mk H
   clear H
   go_enter Try.func4, Try.ntmps4
   go_upto_region 7 with (first | ((with_reducible refine gate_callee (f := 6) rfl ?_); refine goesL_ (some 21) rfl rfl Try.func6 (by kernel_rfl) rfl #[] rfl (by (try simp only [List.map_toArray, List.map_cons, List.map_nil]); first | done | rfl | (simp only [List.length_drop, List.length_take]; rfl)) ?_; (with_reducible refine (nunciolaw15_awake.calls k  true _ A4.out).mono ?_); rintro e w13 ⟨rfl, hb⟩; refine ⟨_, rfl, ?_⟩; have n0_ := Aside0.mk (below_step (by repeat (first | (with_reducible first | exact HB.out | apply below_alloc | apply pw_below_drewN | apply below_drew1) | exact HB.out)) hb); clear HB; have HB := n0_; clear n0_; (try clear hb); (try clear hb2); (try clear hk); (try clear hi)) | ((with_reducible refine gate_callee (f := 8) rfl ?_); refine goesL_ (some 27) rfl rfl Try.func8 (by kernel_rfl) rfl #[.bool a0] rfl (by (try simp only [List.map_toArray, List.map_cons, List.map_nil]); first | done | rfl | (simp only [List.length_drop, List.length_take]; rfl)) ?_; (with_reducible refine (feed_New.calls a0 t234 t235 t236 _ _ (Below.refl _ _) A8.out).mono ?_); rintro e w14 ⟨g237, rfl, hi, hb, hb2⟩; refine ⟨_, rfl, ?_⟩; have n0_ := Aside0.mk (below_step (by repeat (first | (with_reducible first | exact HB.out | apply below_alloc | apply pw_below_drewN | apply below_drew1) | exact HB.out)) hb2); have n1_ := Aside0.mk ((show IsS43 w w14 g237 t234 t235 t236 from ⟨hi.1, Nat.le_trans (below_size (by repeat (first | (with_reducible first | exact HB.out | apply below_alloc | apply pw_below_drewN | apply below_drew1) | exact HB.out))) (IsS43.ge hi)⟩)); clear HB; have HB := n0_; have HI237 := n1_; clear n0_ n1_; (try clear hb); (try clear hb2); (try clear hk); (try clear hi)) | ((with_reducible refine gate_callee (f := 8) rfl ?_); refine goesL_ (some 29) rfl rfl Try.func8 (by kernel_rfl) rfl #[.bool a0] rfl (by (try simp only [List.map_toArray, List.map_cons, List.map_nil]); first | done | rfl | (simp only [List.length_drop, List.length_take]; rfl)) ?_; (with_reducible refine (feed_New.calls a0 t238 t239 t240 _ _ (Below.refl _ _) A9.out).mono ?_); rintro e w15 ⟨g241, rfl, hi, hb, hb2⟩; refine ⟨_, rfl, ?_⟩; have n0_ := Aside0.mk (IsS43.below (by repeat (first | (with_reducible first | exact HI237.out | apply IsS43.alloc | apply IsS43.drewN | apply IsS43.drew | apply IsS43.set_0 | apply IsS43.set_1 | apply IsS43.set_2) | exact HI237.out | simp only [*])) hb2); have n1_ := Aside0.mk (below_step (by repeat (first | (with_reducible first | exact HB.out | apply below_alloc | apply pw_below_drewN | apply below_drew1 | refine below_set ?_ (IsS43.ge HI237.out)) | exact HB.out)) hb2); have n2_ := Aside0.mk ((show IsS43 w w15 g241 t238 t239 t240 from ⟨hi.1, Nat.le_trans (below_size (by repeat (first | (with_reducible first | exact HB.out | apply below_alloc | apply pw_below_drewN | apply below_drew1 | refine below_set ?_ (IsS43.ge HI237.out)) | exact HB.out))) (IsS43.ge hi)⟩)); have n3_ := Aside0.mk ((Nat.ne_of_lt (Nat.lt_of_lt_of_le (IsS43.lt (show IsS43 w _ g237 t234 t235 t236 from by repeat (first | (with_reducible first | exact HI237.out | apply IsS43.alloc | apply IsS43.drewN | apply IsS43.drew | apply IsS43.set_0 | apply IsS43.set_1 | apply IsS43.set_2) | exact HI237.out | simp only [*]))) (IsS43.ge hi)) : g237 ≠ g241)); have n4_ := Aside0.mk ((Nat.ne_of_gt (Nat.lt_of_lt_of_le (IsS43.lt (show IsS43 w _ g237 t234 t235 t236 from by repeat (first | (with_reducible first | exact HI237.out | apply IsS43.alloc | apply IsS43.drewN | apply IsS43.drew | apply IsS43.set_0 | apply IsS43.set_1 | apply IsS43.set_2) | exact HI237.out | simp only [*]))) (IsS43.ge hi)) : g241 ≠ g237)); clear HI237; clear HB; have HI237 := n0_; have HB := n1_; have HI241 := n2_; have NB237_241 := n3_; have NB241_237 := n4_; clear n0_ n1_ n2_ n3_ n4_; (try clear hb); (try clear hb2); (try clear hk); (try clear hi)) | ((with_reducible refine gate_callee (f := 8) rfl ?_); refine goesL_ (some 31) rfl rfl Try.func8 (by kernel_rfl) rfl #[.bool a0] rfl (by (try simp only [List.map_toArray, List.map_cons, List.map_nil]); first | done | rfl | (simp only [List.length_drop, List.length_take]; rfl)) ?_; (with_reducible refine (feed_New.calls a0 t242 t243 t244 _ _ (Below.refl _ _) A10.out).mono ?_); rintro e w16 ⟨g245, rfl, hi, hb, hb2⟩; refine ⟨_, rfl, ?_⟩; have n0_ := Aside0.mk (IsS43.below (by repeat (first | (with_reducible first | exact HI237.out | apply IsS43.alloc | apply IsS43.drewN | apply IsS43.drew | apply IsS43.set_0 | apply IsS43.set_1 | apply IsS43.set_2) | exact HI237.out | simp only [*])) hb2); have n1_ := Aside0.mk (IsS43.below (by repeat (first | (with_reducible first | exact HI241.out | apply IsS43.alloc | apply IsS43.drewN | apply IsS43.drew | apply IsS43.set_0 | apply IsS43.set_1 | apply IsS43.set_2) | exact HI241.out | simp only [*])) hb2); have n2_ := Aside0.mk (below_step (by repeat (first | (with_reducible first | exact HB.out | apply below_alloc | apply pw_below_drewN | apply below_drew1 | refine below_set ?_ (IsS43.ge HI237.out) | refine below_set ?_ (IsS43.ge HI241.out)) | exact HB.out)) hb2); have n3_ := Aside0.mk ((show IsS43 w w16 g245 t242 t243 t244 from ⟨hi.1, Nat.le_trans (below_size (by repeat (first | (with_reducible first | exact HB.out | apply below_alloc | apply pw_below_drewN | apply below_drew1 | refine below_set ?_ (IsS43.ge HI237.out) | refine below_set ?_ (IsS43.ge HI241.out)) | exact HB.out))) (IsS43.ge hi)⟩)); have n4_ := Aside0.mk ((Nat.ne_of_lt (Nat.lt_of_lt_of_le (IsS43.lt (show IsS43 w _ g237 t234 t235 t236 from by repeat (first | (with_reducible first | exact HI237.out | apply IsS43.alloc | apply IsS43.drewN | apply IsS43.drew | apply IsS43.set_0 | apply IsS43.set_1 | apply IsS43.set_2) | exact HI237.out | simp only [*]))) (IsS43.ge hi)) : g237 ≠ g245)); have n5_ := Aside0.mk ((Nat.ne_of_gt (Nat.lt_of_lt_of_le (IsS43.lt (show IsS43 w _ g237 t234 t235 t236 from by repeat (first | (with_reducible first | exact HI237.out | apply IsS43.alloc | apply IsS43.drewN | apply IsS43.drew | apply IsS43.set_0 | apply IsS43.set_1 | apply IsS43.set_2) | exact HI237.out | simp only [*]))) (IsS43.ge hi)) : g245 ≠ g237)); have n6_ := Aside0.mk ((Nat.ne_of_lt (Nat.lt_of_lt_of_le (IsS43.lt (show IsS43 w _ g241 t238 t239 t240 from by repeat (first | (with_reducible first | exact HI241.out | apply IsS43.alloc | apply IsS43.drewN | apply IsS43.drew | apply IsS43.set_0 | apply IsS43.set_1 | apply IsS43.set_2) | exact HI241.out | simp only [*]))) (IsS43.ge hi)) : g241 ≠ g245)); have n7_ := Aside0.mk ((Nat.ne_of_gt (Nat.lt_of_lt_of_le (IsS43.lt (show IsS43 w _ g241 t238 t239 t240 from by repeat (first | (with_reducible first | exact HI241.out | apply IsS43.alloc | apply IsS43.drewN | apply IsS43.drew | apply IsS43.set_0 | apply IsS43.set_1 | apply IsS43.set_2) | exact HI241.out | simp only [*]))) (IsS43.ge hi)) : g245 ≠ g241)); clear HI237; clear HI241; clear HB; have HI237 := n0_; have HI241 := n1_; have HB := n2_; have HI245 := n3_; have NB237_245 := n4_; have NB245_237 := n5_; have NB241_245 := n6_; have NB245_241 := n7_; clear n0_ n1_ n2_ n3_ n4_ n5_ n6_ n7_; (try clear hb); (try clear hb2); (try clear hk); (try clear hi)) | ((with_reducible refine gate_callee (f := 9) rfl ?_); refine goesL_ (some 35) rfl rfl Try.func9 (by kernel_rfl) rfl #[.pointer (some ⟨g237, 0, none⟩), .string a1] rfl (by (try simp only [List.map_toArray, List.map_cons, List.map_nil]); first | done | rfl | (simp only [List.length_drop, List.length_take]; rfl)) ?_; (with_reducible refine (feed_Feed_Add.calls k g237 t234 t235 t236 a1 t246 t249 t250 t251 t252 w _ ?side1 ?side2 A11.out).mono ?_); (case side1 => repeat (first | (with_reducible first | exact HI237.out | apply IsS43.alloc | apply IsS43.drewN | apply IsS43.drew | apply IsS43.set_0 | apply IsS43.set_1 | apply IsS43.set_2) | exact HI237.out | simp only [*])); (case side2 => repeat (first | (with_reducible first | exact HB.out | apply below_alloc | apply pw_below_drewN | apply below_drew1 | refine below_set ?_ (IsS43.ge HI237.out) | refine below_set ?_ (IsS43.ge HI241.out) | refine below_set ?_ (IsS43.ge HI245.out)) | exact HB.out)); rintro e w17 ⟨v247, rfl, ho0, hi, hb, hk⟩; refine ⟨_, rfl, ?_⟩; have n0_ := Aside0.mk (IsS43.kept (show IsS43 w _ g241 t238 t239 t240 from by repeat (first | (with_reducible first | exact HI241.out | apply IsS43.alloc | apply IsS43.drewN | apply IsS43.drew | apply IsS43.set_0 | apply IsS43.set_1 | apply IsS43.set_2) | exact HI241.out | simp only [*])) (Kept.of_keep (S := fun k_ => k_ = g237) (Kept.refl _ _) hk (.inl rfl)) NB241_237.out); have n1_ := Aside0.mk (IsS43.kept (show IsS43 w _ g245 t242 t243 t244 from by repeat (first | (with_reducible first | exact HI245.out | apply IsS43.alloc | apply IsS43.drewN | apply IsS43.drew | apply IsS43.set_0 | apply IsS43.set_1 | apply IsS43.set_2) | exact HI245.out | simp only [*])) (Kept.of_keep (S := fun k_ => k_ = g237) (Kept.refl _ _) hk (.inl rfl)) NB245_237.out); have n2_ := Aside0.mk (Kd.R_lower ho0 (below_size (by repeat (first | (with_reducible first | exact HB.out | apply below_alloc | apply pw_below_drewN | apply below_drew1 | refine below_set ?_ (IsS43.ge HI237.out) | refine below_set ?_ (IsS43.ge HI241.out) | refine below_set ?_ (IsS43.ge HI245.out)) | exact HB.out)))); have n3_ := Aside0.mk (hb); have n4_ := Aside0.mk (hi); clear HI241; clear HI245; clear HB; clear HI237; have HI241 := n0_; have HI245 := n1_; have HO248 := n2_; have HB := n3_; have HI237 := n4_; clear n0_ n1_ n2_ n3_ n4_; (try clear hb); (try clear hb2); (try clear hk); (try clear hi); (try clear ho0)))
   (try simp only [Act.put, List.setIfInBounds_toArray, List.set_cons_zero, List.set_cons_succ])
   go_cut [45] (fun v45 wc => ∃ (kq : Nat) (x45_11 : Bool), v45 = .bool x45_11 ∧ Aside0 (nunciolaw15_FeedPieces.j0 kq a1 a2 t246 t249 x45_11 t250 t251 t252 t238 t239 t240 t242 t243 t244 = some r) ∧ Aside0 (kq ≤ k) ∧ Aside0 (Kd.R k40 40 wc w.heap.size (fun _ => True) v247 t246) ∧ Aside0 (IsS43 w wc g237 t250 t251 t252) ∧ Aside0 (IsS43 w wc g241 t238 t239 t240) ∧ Aside0 (IsS43 w wc g245 t242 t243 t244) ∧ Aside0 (Below w.heap.size w wc))
   case first =>
    have H := HC12.out
    clear HC12
    by_cases c18 : a2 < 0
    ·
     rw [if_pos c18] at H
     have c18b0 : decide (a2 < 0) = true := decide_eq_true c18
     clear c18
     (first | rw [c18b0] | rw [c18b1] | (simp only [i64_w, i32_w]; rw [c18b0]) | skip)
     have H' := Aside0.mk H
     clear H
     go_wp2
     go_meet
     case rel => exact ⟨_, (true), (by first | rfl | (simp; done) | (simp [*]; done)), H', ⟨by first | omega | exact Nat.le_refl _⟩, ⟨by (with_reducible repeat (first | apply Kd.R_alloc | apply Kd.R_drewN | apply Kd.R_drew)); exact HO248.out⟩, ⟨by repeat (first | (with_reducible first | exact HI237.out | apply IsS43.alloc | apply IsS43.drewN | apply IsS43.drew | apply IsS43.set_0 | apply IsS43.set_1 | apply IsS43.set_2) | exact HI237.out | simp only [*])⟩, ⟨by repeat (first | (with_reducible first | exact HI241.out | apply IsS43.alloc | apply IsS43.drewN | apply IsS43.drew | apply IsS43.set_0 | apply IsS43.set_1 | apply IsS43.set_2) | exact HI241.out | simp only [*])⟩, ⟨by repeat (first | (with_reducible first | exact HI245.out | apply IsS43.alloc | apply IsS43.drewN | apply IsS43.drew | apply IsS43.set_0 | apply IsS43.set_1 | apply IsS43.set_2) | exact HI245.out | simp only [*])⟩, ⟨by repeat (first | (with_reducible first | exact HB.out | apply below_alloc | apply pw_below_drewN | apply below_drew1 | refine below_set ?_ (IsS43.ge HI237.out) | refine below_set ?_ (IsS43.ge HI241.out) | refine below_set ?_ (IsS43.ge HI245.out)) | exact HB.out)⟩⟩
    ·
     rw [if_neg c18] at H
     have c18b0 : decide (a2 < 0) = false := decide_eq_false c18
     clear c18
     (first | rw [c18b0] | rw [c18b1] | (simp only [i64_w, i32_w]; rw [c18b0]) | skip)
     have H' := Aside0.mk H
     clear H
     go_wp2
     go_meet
     case rel => exact ⟨_, (decide (a2 > (a1.size : Int))), (by first | rfl | (simp; done) | (simp [*]; done)), H', ⟨by first | omega | exact Nat.le_refl _⟩, ⟨by (with_reducible repeat (first | apply Kd.R_alloc | apply Kd.R_drewN | apply Kd.R_drew)); exact HO248.out⟩, ⟨by repeat (first | (with_reducible first | exact HI237.out | apply IsS43.alloc | apply IsS43.drewN | apply IsS43.drew | apply IsS43.set_0 | apply IsS43.set_1 | apply IsS43.set_2) | exact HI237.out | simp only [*])⟩, ⟨by repeat (first | (with_reducible first | exact HI241.out | apply IsS43.alloc | apply IsS43.drewN | apply IsS43.drew | apply IsS43.set_0 | apply IsS43.set_1 | apply IsS43.set_2) | exact HI241.out | simp only [*])⟩, ⟨by repeat (first | (with_reducible first | exact HI245.out | apply IsS43.alloc | apply IsS43.drewN | apply IsS43.drew | apply IsS43.set_0 | apply IsS43.set_1 | apply IsS43.set_2) | exact HI245.out | simp only [*])⟩, ⟨by repeat (first | (with_reducible first | exact HB.out | apply below_alloc | apply pw_below_drewN | apply below_drew1 | refine below_set ?_ (IsS43.ge HI237.out) | refine below_set ?_ (IsS43.ge HI241.out) | refine below_set ?_ (IsS43.ge HI245.out)) | exact HB.out)⟩⟩
   case rest =>
    clear HC12
    try clear c1
    try clear p2
    try clear c4
    try clear c5
    try clear c6
    try clear c6b0
    try clear c6b1
    try clear c8
    try clear c9
    try clear c18
    try clear c18b0
    try clear c18b1
    obtain ⟨kq, x45_11, rfl, HA, HJ11, HO_10, HI237, HI241, HI245, HB⟩ := hcut
    cases kq with
    | zero => exact absurd HA.out (by simp [nunciolaw15_FeedPieces.j0])
    | succ kj11 =>
     have H := HA.out
     clear HA
     simp only [nunciolaw15_FeedPieces.j0] at H
     have HC19 := Aside0.mk H
     clear H
     go_upto_if 45 with (fail)
     go_cut [2] (fun v2 wc => ∃ (kq : Nat) (x2_18 : Int), v2 = .int .i64 x2_18 ∧ Aside0 (nunciolaw15_FeedPieces.j1 kq a1 x2_18 t246 t249 t250 t251 t252 t238 t239 t240 t242 t243 t244 = some r) ∧ Aside0 (kq ≤ kj11) ∧ Aside0 (Kd.R k40 40 wc w.heap.size (fun _ => True) v247 t246) ∧ Aside0 (IsS43 w wc g237 t250 t251 t252) ∧ Aside0 (IsS43 w wc g241 t238 t239 t240) ∧ Aside0 (IsS43 w wc g245 t242 t243 t244) ∧ Aside0 (Below w.heap.size w wc))
     case first =>
      have H := HC19.out
      clear HC19
      by_cases c20 : x45_11 = true
      ·
       subst c20
       have H1 : (nunciolaw15_FeedPieces.j1 kj11 a1 (wrap64 ((a1.size : Int) / 2)) t246 t249 t250 t251 t252 t238 t239 t240 t242 t243 t244) = some r := by rw [if_pos rfl] at H; exact H
       clear H
       have H := H1
       clear H1
       have H' := Aside0.mk H
       clear H
       go_wp2
       go_meet
       case rel => exact ⟨_, (wrap64 ((a1.size : Int) / 2)), (by first | rfl | (simp; done) | (simp [*]; done)), H', ⟨by have := HJ11.out; first | omega | exact Nat.le_refl _⟩, ⟨by (with_reducible repeat (first | apply Kd.R_alloc | apply Kd.R_drewN | apply Kd.R_drew)); exact HO_10.out⟩, ⟨by repeat (first | (with_reducible first | exact HI237.out | apply IsS43.alloc | apply IsS43.drewN | apply IsS43.drew | apply IsS43.set_0 | apply IsS43.set_1 | apply IsS43.set_2) | exact HI237.out | simp only [*])⟩, ⟨by repeat (first | (with_reducible first | exact HI241.out | apply IsS43.alloc | apply IsS43.drewN | apply IsS43.drew | apply IsS43.set_0 | apply IsS43.set_1 | apply IsS43.set_2) | exact HI241.out | simp only [*])⟩, ⟨by repeat (first | (with_reducible first | exact HI245.out | apply IsS43.alloc | apply IsS43.drewN | apply IsS43.drew | apply IsS43.set_0 | apply IsS43.set_1 | apply IsS43.set_2) | exact HI245.out | simp only [*])⟩, ⟨by repeat (first | (with_reducible first | exact HB.out | apply below_alloc | apply pw_below_drewN | apply below_drew1 | refine below_set ?_ (IsS43.ge HI237.out) | refine below_set ?_ (IsS43.ge HI241.out) | refine below_set ?_ (IsS43.ge HI245.out)) | exact HB.out)⟩⟩
      ·
       replace c20 := Bool.eq_false_iff.mpr c20
       subst c20
       have H1 : (nunciolaw15_FeedPieces.j1 kj11 a1 a2 t246 t249 t250 t251 t252 t238 t239 t240 t242 t243 t244) = some r := by rw [if_neg (show ¬ (false = true) by decide)] at H; exact H
       clear H
       have H := H1
       clear H1
       have H' := Aside0.mk H
       clear H
       go_wp2
       go_meet
       case rel => exact ⟨_, (a2), (by first | rfl | (simp; done) | (simp [*]; done)), H', ⟨by have := HJ11.out; first | omega | exact Nat.le_refl _⟩, ⟨by (with_reducible repeat (first | apply Kd.R_alloc | apply Kd.R_drewN | apply Kd.R_drew)); exact HO_10.out⟩, ⟨by repeat (first | (with_reducible first | exact HI237.out | apply IsS43.alloc | apply IsS43.drewN | apply IsS43.drew | apply IsS43.set_0 | apply IsS43.set_1 | apply IsS43.set_2) | exact HI237.out | simp only [*])⟩, ⟨by repeat (first | (with_reducible first | exact HI241.out | apply IsS43.alloc | apply IsS43.drewN | apply IsS43.drew | apply IsS43.set_0 | apply IsS43.set_1 | apply IsS43.set_2) | exact HI241.out | simp only [*])⟩, ⟨by repeat (first | (with_reducible first | exact HI245.out | apply IsS43.alloc | apply IsS43.drewN | apply IsS43.drew | apply IsS43.set_0 | apply IsS43.set_1 | apply IsS43.set_2) | exact HI245.out | simp only [*])⟩, ⟨by repeat (first | (with_reducible first | exact HB.out | apply below_alloc | apply pw_below_drewN | apply below_drew1 | refine below_set ?_ (IsS43.ge HI237.out) | refine below_set ?_ (IsS43.ge HI241.out) | refine below_set ?_ (IsS43.ge HI245.out)) | exact HB.out)⟩⟩
     case rest =>
      clear HC19
      try clear c1
      try clear c2
      try clear p2
      try clear c4
      try clear c5
      try clear c6
      try clear c6b0
      try clear c6b1
      try clear p6
      try clear c8
      try clear c9
      try clear c18
      try clear c18b0
      try clear c18b1
      try clear c20
      try clear p2
      obtain ⟨kq, x2_18, rfl, HA, HJ18, HO_10, HI237, HI241, HI245, HB⟩ := hcut
      cases kq with
      | zero => exact absurd HA.out (by simp [nunciolaw15_FeedPieces.j1])
      | succ kj18 =>
       have H := HA.out
       clear HA
       simp only [nunciolaw15_FeedPieces.j1] at H
       by_cases c21 : 0 ≤ x2_18
       ·
        rw [if_pos c21] at H
        have c21b0 := eq_true c21
        have c21b1 : decide (0 ≤ x2_18) = true := decide_eq_true c21
        clear c21
        by_cases c22 : x2_18 ≤ (a1.size : Int)
        ·
         rw [if_pos c22] at H
         have c22b0 := eq_true c22
         have c22b1 : decide (x2_18 ≤ (a1.size : Int)) = true := decide_eq_true c22
         clear c22
         replace H := Option.bind_eq_some_iff.mp H
         obtain ⟨⟨t253, t256, t257, t258, t259⟩, A230, H⟩ := H
         replace H : ((feed_Feed_Add.f kj18 t257 t258 t259 (a1.extract (x2_18 : Int).toNat a1.size)).bind fun bt260 => (if t253.length + bt260.1.length < 5864062014805 then (nunciolaw15_FeedPieces.l0 kj18 a1 t246 t249 (t253 ++ bt260.1) t256 bt260.2.1 ([] : List (S40)) 0 0 t250 t251 t252 bt260.2.2.1 bt260.2.2.2.1 bt260.2.2.2.2 t242 t243 t244) else (none))) = some r := H
         have A23 := Aside0.mk A230
         clear A230
         have c24b0 := eq_true (of_decide_eq_true (by first | (with_reducible assumption) | assumption) : 0 ≤ x2_18)
         have c25b0 := eq_true (of_decide_eq_true (by first | (with_reducible assumption) | assumption) : x2_18 ≤ (a1.size : Int))
         replace H := Option.bind_eq_some_iff.mp H
         obtain ⟨⟨t260, t263, t264, t265, t266⟩, A260, H⟩ := H
         replace H : (if t253.length + t260.length < 5864062014805 then (nunciolaw15_FeedPieces.l0 kj18 a1 t246 t249 (t253 ++ t260) t256 t263 ([] : List (S40)) 0 0 t250 t251 t252 t264 t265 t266 t242 t243 t244) else (none)) = some r := H
         have A26 := Aside0.mk A260
         clear A260
         by_cases c27 : t253.length + t260.length < 5864062014805
         ·
          rw [if_pos c27] at H
          have LMc27 := Aside0.mk c27
          clear c27
          obtain ⟨y267, hy267⟩ : ∃ y_ : List (S40), y_ = (t253 ++ t260) := ⟨_, rfl⟩
          replace H : (nunciolaw15_FeedPieces.l0 kj18 a1 t246 t249 y267 t256 t263 ([] : List (S40)) 0 0 t250 t251 t252 t264 t265 t266 t242 t243 t244) = some r := by first | (rw [hy267]; with_reducible exact H) | (have H2_ := (Option.bind_some _ _).symm.trans H; rw [hy267]; with_reducible exact H2_) | (have H2_ := (Option.bind_some _ _).symm.trans H; with_reducible exact H2_) | with_reducible exact H | (rw [hy267]; exact H) | exact H
          have Ny267 := Aside0.mk hy267
          clear hy267
          have H' := Aside0.mk H
          clear H
          have tk32 : True := trivial
          have tk33 : True := trivial
          go_wp2_with (first | (have _t : True := tk32; clear tk32 _t; (with_reducible refine gate_callee (f := 9) rfl ?_); refine goesL_ (some 54) rfl rfl Try.func9 (by kernel_rfl) rfl #[.pointer (some ⟨g241, 0, none⟩), .string (a1.extract 0 (x2_18 : Int).toNat)] rfl (by (try simp only [List.map_toArray, List.map_cons, List.map_nil]); first | done | rfl | (simp only [List.length_drop, List.length_take]; rfl)) ?_; (with_reducible refine (feed_Feed_Add.calls kj18 g241 t238 t239 t240 (a1.extract 0 (x2_18 : Int).toNat) t253 t256 t257 t258 t259 w _ ?side1 ?side2 A23.out).mono ?_); (case side1 => repeat (first | (with_reducible first | exact HI241.out | apply IsS43.alloc | apply IsS43.drewN | apply IsS43.drew | apply IsS43.set_0 | apply IsS43.set_1 | apply IsS43.set_2) | exact HI241.out | simp only [*])); (case side2 => repeat (first | (with_reducible first | exact HB.out | apply below_alloc | apply pw_below_drewN | apply below_drew1 | refine below_set ?_ (IsS43.ge HI237.out) | refine below_set ?_ (IsS43.ge HI241.out) | refine below_set ?_ (IsS43.ge HI245.out)) | exact HB.out)); rintro e w28 ⟨v254, rfl, ho0, hi, hb, hk⟩; refine ⟨_, rfl, ?_⟩; have n0_ := Aside0.mk (Kd.R_mono (Kd.R_told (Kd.R_oldK (IsS43.apart (show IsS43 w _ g241 t238 t239 t240 from by repeat (first | (with_reducible first | exact HI241.out | apply IsS43.alloc | apply IsS43.drewN | apply IsS43.drew | apply IsS43.set_0 | apply IsS43.set_1 | apply IsS43.set_2) | exact HI241.out | simp only [*])) (by (with_reducible repeat (first | apply Kd.R_alloc | apply Kd.R_drewN | apply Kd.R_drew)); exact HO_10.out) (by decide)) hk) (Kd.R_base ho0)) (fun _ h_ => h_.1)); have n1_ := Aside0.mk (IsS43.kept (show IsS43 w _ g237 t250 t251 t252 from by repeat (first | (with_reducible first | exact HI237.out | apply IsS43.alloc | apply IsS43.drewN | apply IsS43.drew | apply IsS43.set_0 | apply IsS43.set_1 | apply IsS43.set_2) | exact HI237.out | simp only [*])) (Kept.of_keep (S := fun k_ => k_ = g241) (Kept.refl _ _) hk (.inl rfl)) NB237_241.out); have n2_ := Aside0.mk (IsS43.kept (show IsS43 w _ g245 t242 t243 t244 from by repeat (first | (with_reducible first | exact HI245.out | apply IsS43.alloc | apply IsS43.drewN | apply IsS43.drew | apply IsS43.set_0 | apply IsS43.set_1 | apply IsS43.set_2) | exact HI245.out | simp only [*])) (Kept.of_keep (S := fun k_ => k_ = g241) (Kept.refl _ _) hk (.inl rfl)) NB245_241.out); have n3_ := Aside0.mk (Kd.R_lower (Kd.R_new' ho0 (Kd.R_lt (by (with_reducible repeat (first | apply Kd.R_alloc | apply Kd.R_drewN | apply Kd.R_drew)); exact HO_10.out))) (below_size (by repeat (first | (with_reducible first | exact HB.out | apply below_alloc | apply pw_below_drewN | apply below_drew1 | refine below_set ?_ (IsS43.ge HI237.out) | refine below_set ?_ (IsS43.ge HI241.out) | refine below_set ?_ (IsS43.ge HI245.out)) | exact HB.out)))); have n4_ := Aside0.mk (hb); have n5_ := Aside0.mk (hi); clear HO_10; clear HI237; clear HI245; clear HB; clear HI241; have HO_10 := n0_; have HI237 := n1_; have HI245 := n2_; have HO255 := n3_; have HB := n4_; have HI241 := n5_; clear n0_ n1_ n2_ n3_ n4_ n5_; (try clear hb); (try clear hb2); (try clear hk); (try clear hi); (try clear ho0)) | (have _t : True := tk33; clear tk33 _t; (with_reducible refine gate_callee (f := 9) rfl ?_); refine goesL_ (some 62) rfl rfl Try.func9 (by kernel_rfl) rfl #[.pointer (some ⟨g241, 0, none⟩), .string (a1.extract (x2_18 : Int).toNat a1.size)] rfl (by (try simp only [List.map_toArray, List.map_cons, List.map_nil]); first | done | rfl | (simp only [List.length_drop, List.length_take]; rfl)) ?_; (with_reducible refine (feed_Feed_Add.calls kj18 g241 t257 t258 t259 (a1.extract (x2_18 : Int).toNat a1.size) t260 t263 t264 t265 t266 w _ ?side1 ?side2 A26.out).mono ?_); (case side1 => repeat (first | (with_reducible first | exact HI241.out | apply IsS43.alloc | apply IsS43.drewN | apply IsS43.drew | apply IsS43.set_0 | apply IsS43.set_1 | apply IsS43.set_2) | exact HI241.out | simp only [*])); (case side2 => repeat (first | (with_reducible first | exact HB.out | apply below_alloc | apply pw_below_drewN | apply below_drew1 | refine below_set ?_ (IsS43.ge HI237.out) | refine below_set ?_ (IsS43.ge HI241.out) | refine below_set ?_ (IsS43.ge HI245.out)) | exact HB.out)); rintro e w29 ⟨v261, rfl, ho0, hi, hb, hk⟩; refine ⟨_, rfl, ?_⟩; have n0_ := Aside0.mk (Kd.R_mono (Kd.R_told (Kd.R_oldK (IsS43.apart (show IsS43 w _ g241 t257 t258 t259 from by repeat (first | (with_reducible first | exact HI241.out | apply IsS43.alloc | apply IsS43.drewN | apply IsS43.drew | apply IsS43.set_0 | apply IsS43.set_1 | apply IsS43.set_2) | exact HI241.out | simp only [*])) (by (with_reducible repeat (first | apply Kd.R_alloc | apply Kd.R_drewN | apply Kd.R_drew)); exact HO_10.out) (by decide)) hk) (Kd.R_base ho0)) (fun _ h_ => h_.1)); have n1_ := Aside0.mk (IsS43.kept (show IsS43 w _ g237 t250 t251 t252 from by repeat (first | (with_reducible first | exact HI237.out | apply IsS43.alloc | apply IsS43.drewN | apply IsS43.drew | apply IsS43.set_0 | apply IsS43.set_1 | apply IsS43.set_2) | exact HI237.out | simp only [*])) (Kept.of_keep (S := fun k_ => k_ = g241) (Kept.refl _ _) hk (.inl rfl)) NB237_241.out); have n2_ := Aside0.mk (IsS43.kept (show IsS43 w _ g245 t242 t243 t244 from by repeat (first | (with_reducible first | exact HI245.out | apply IsS43.alloc | apply IsS43.drewN | apply IsS43.drew | apply IsS43.set_0 | apply IsS43.set_1 | apply IsS43.set_2) | exact HI245.out | simp only [*])) (Kept.of_keep (S := fun k_ => k_ = g241) (Kept.refl _ _) hk (.inl rfl)) NB245_241.out); have n3_ := Aside0.mk (Kd.R_mono (Kd.R_told (Kd.R_oldK (IsS43.apart (show IsS43 w _ g241 t257 t258 t259 from by repeat (first | (with_reducible first | exact HI241.out | apply IsS43.alloc | apply IsS43.drewN | apply IsS43.drew | apply IsS43.set_0 | apply IsS43.set_1 | apply IsS43.set_2) | exact HI241.out | simp only [*])) (by (with_reducible repeat (first | apply Kd.R_alloc | apply Kd.R_drewN | apply Kd.R_drew)); exact HO255.out) (by decide)) hk) (Kd.R_base ho0)) (fun _ h_ => h_.1)); have n4_ := Aside0.mk (Kd.R_lower (Kd.R_new' (Kd.R_new' ho0 (Kd.R_lt (by (with_reducible repeat (first | apply Kd.R_alloc | apply Kd.R_drewN | apply Kd.R_drew)); exact HO_10.out))) (Kd.R_lt (by (with_reducible repeat (first | apply Kd.R_alloc | apply Kd.R_drewN | apply Kd.R_drew)); exact HO255.out))) (below_size (by repeat (first | (with_reducible first | exact HB.out | apply below_alloc | apply pw_below_drewN | apply below_drew1 | refine below_set ?_ (IsS43.ge HI237.out) | refine below_set ?_ (IsS43.ge HI241.out) | refine below_set ?_ (IsS43.ge HI245.out)) | exact HB.out)))); have n5_ := Aside0.mk (hb); have n6_ := Aside0.mk (hi); clear HO_10; clear HI237; clear HI245; clear HO255; clear HB; clear HI241; have HO_10 := n0_; have HI237 := n1_; have HI245 := n2_; have HO255 := n3_; have HO262 := n4_; have HB := n5_; have HI241 := n6_; clear n0_ n1_ n2_ n3_ n4_ n5_ n6_; (try clear hb); (try clear hb2); (try clear hk); (try clear hi); (try clear ho0); obtain ⟨Ao31, co31, eo31⟩ := Kd.R_slice HO262.out; subst eo31) | ((with_reducible refine gate_builtin (b := .append) (xs := #[.tmp 65, .tmp 66]) rfl ?_); (try (refine gate_guard (by rfl) ?_; dsimp only)); at_builtin; refine Kd.R_append_rows k40 (w0 := w) w.heap.size rfl (.tmp 65) (.tmp 66) 27 40 (.agg #[(.int .u8 0), (.int .u8 0), (.int .u32 0), (.string ⟨#[]⟩)]) 24 rfl Try.underlying27 info40 rfl (by decide) (by omega) v254 t253 t260 _ _ _ (fun k_ => some k_ ≠ (v247 : Value).ownBlock ∧ some k_ ≠ (.slice Ao31 t260.length co31 : Value).ownBlock) (fun _ => False) rfl rfl ?aO ?aR (fun _ _ h => h) (fun _ h => h.elim) ?aF ?aB ?aS ?aL ?_; (case aR => repeat (first | exact (Kd.R_reads' HO262.out).2.2 | (with_reducible refine Kd.C_alloc ?_ _) | (with_reducible refine Kd.C_drewN ?_ _) | (with_reducible refine Kd.C_drew ?_))); (case aB => exact (by repeat (first | (with_reducible first | exact HB.out | apply below_alloc | apply pw_below_drewN | apply below_drew1 | refine below_set ?_ (IsS43.ge HI237.out) | refine below_set ?_ (IsS43.ge HI241.out) | refine below_set ?_ (IsS43.ge HI245.out)) | exact HB.out))); (case aF => exact (fun k_ hk => ⟨Kd.fresh' (Kd.R_lt (by (with_reducible repeat (first | apply Kd.R_alloc | apply Kd.R_drewN | apply Kd.R_drew)); exact HO_10.out)) k_ hk, Kd.fresh' (Kd.R_lt (by (with_reducible repeat (first | apply Kd.R_alloc | apply Kd.R_drewN | apply Kd.R_drew)); exact HO262.out)) k_ hk⟩)); (case aO => exact (by (with_reducible repeat (first | apply Kd.R_alloc | apply Kd.R_drewN | apply Kd.R_drew)); exact Kd.R_mono HO255.out (fun _ hk => ⟨hk.1.2, hk.2⟩))); (case aS => exact (below_size (by repeat (first | (with_reducible first | exact HB.out | apply below_alloc | apply pw_below_drewN | apply below_drew1 | refine below_set ?_ (IsS43.ge HI237.out) | refine below_set ?_ (IsS43.ge HI241.out) | refine below_set ?_ (IsS43.ge HI245.out)) | exact HB.out)))); (case aL => have := LMc27.out; omega); intro v268 w30 ho hb hg hat; rw [← Ny267.out] at ho; have n0_ := Aside0.mk (Kd.R_after (ok := (fun k_ => some k_ ≠ (.slice Ao31 t260.length co31 : Value).ownBlock)) (by (with_reducible repeat (first | apply Kd.R_alloc | apply Kd.R_drewN | apply Kd.R_drew)); exact Kd.R_mono HO_10.out (fun _ hk => ⟨hk.2, hk.1.2⟩)) hg hat); have n1_ := Aside0.mk (IsS43.grown (w0 := w) (f0 := t250) (f1 := t251) (f2 := t252) (by repeat (first | (with_reducible first | exact HI237.out | apply IsS43.alloc | apply IsS43.drewN | apply IsS43.drew | apply IsS43.set_0 | apply IsS43.set_1 | apply IsS43.set_2) | exact HI237.out | simp only [*])) hg (IsS43.own_ne HI237.out HO255.out (by decide))); have n2_ := Aside0.mk (IsS43.grown (w0 := w) (f0 := t264) (f1 := t265) (f2 := t266) (by repeat (first | (with_reducible first | exact HI241.out | apply IsS43.alloc | apply IsS43.drewN | apply IsS43.drew | apply IsS43.set_0 | apply IsS43.set_1 | apply IsS43.set_2) | exact HI241.out | simp only [*])) hg (IsS43.own_ne HI241.out HO255.out (by decide))); have n3_ := Aside0.mk (IsS43.grown (w0 := w) (f0 := t242) (f1 := t243) (f2 := t244) (by repeat (first | (with_reducible first | exact HI245.out | apply IsS43.alloc | apply IsS43.drewN | apply IsS43.drew | apply IsS43.set_0 | apply IsS43.set_1 | apply IsS43.set_2) | exact HI245.out | simp only [*])) hg (IsS43.own_ne HI245.out HO255.out (by decide))); have n4_ := Aside0.mk (Kd.R_after (ok := (fun k_ => some k_ ≠ (v247 : Value).ownBlock)) (by (with_reducible repeat (first | apply Kd.R_alloc | apply Kd.R_drewN | apply Kd.R_drew)); exact Kd.R_mono HO262.out (fun _ hk => ⟨hk.1.2, hk.2⟩)) hg hat); have n5_ := Aside0.mk (hb); have n6_ := Aside0.mk (ho); clear HO_10; clear HI237; clear HI241; clear HI245; clear HO262; clear HB; clear HO255; have HO_10 := n0_; have HI237 := n1_; have HI241 := n2_; have HI245 := n3_; have HO262 := n4_; have HB := n5_; have HO269 := n6_; clear n0_ n1_ n2_ n3_ n4_ n5_ n6_; clear ho hb hg hat))
          go_loopg [16, 17, 18] kj18 (fun kq v16 v17 v18 w' => ∃ (x16_3 : List (S40)) (x17_3 : Int) (x18_3 : Int) (x246000_3 : ByteArray) (x246001_3 : Bool) (x246002_3 : Bool), v17 = .int .u32 x17_3 ∧ v18 = .int .i64 x18_3 ∧ Aside0 (nunciolaw15_FeedPieces.l0 kq a1 t246 t249 y267 t256 t263 x16_3 x17_3 x18_3 t250 t251 t252 t264 t265 t266 x246000_3 x246001_3 x246002_3 = some r) ∧ Aside0 (kq ≤ kj18) ∧ Aside0 (Kd.R k40 40 w' w.heap.size (fun k_ => some k_ ≠ (v268 : Value).ownBlock ∧ some k_ ≠ (v16 : Value).ownBlock) v247 t246) ∧ Aside0 (Kd.R k40 40 w' w.heap.size (fun k_ => some k_ ≠ (v247 : Value).ownBlock ∧ some k_ ≠ (v16 : Value).ownBlock) v268 y267) ∧ Aside0 (Kd.R k40 40 w' w.heap.size (fun k_ => some k_ ≠ (v247 : Value).ownBlock ∧ some k_ ≠ (v268 : Value).ownBlock) v16 x16_3) ∧ Aside0 (IsS43 w w' g237 t250 t251 t252) ∧ Aside0 (IsS43 w w' g241 t264 t265 t266) ∧ Aside0 (IsS43 w w' g245 x246000_3 x246001_3 x246002_3) ∧ Aside0 (Below w.heap.size w w'))
          case atStart => exact ⟨(([] : List (S40))), (0), (0), (t242), (t243), (t244), (by first | rfl | (simp; done) | (simp [*]; done)), (by first | rfl | (simp; done) | (simp [*]; done)), H', ⟨Nat.le_refl _⟩, ⟨by (with_reducible repeat (first | apply Kd.R_alloc | apply Kd.R_drewN | apply Kd.R_drew)); exact Kd.R_mono HO_10.out (fun _ hk => ⟨hk.2, (by simp [Value.ownBlock])⟩)⟩, ⟨by (with_reducible repeat (first | apply Kd.R_alloc | apply Kd.R_drewN | apply Kd.R_drew)); exact Kd.R_mono HO269.out (fun _ hk => ⟨hk.1, (by simp [Value.ownBlock])⟩)⟩, ⟨by first | exact Kd.R_nil _ _ _ _ _ | exact Kd.N_nil _ _ _ _ _ | exact Kd.V_nil _ _ _ _ _ | exact Kd.Q_nil _ _ _ _ _ | exact Kd.S_nil _ _ _ _ _⟩, ⟨by repeat (first | (with_reducible first | exact HI237.out | apply IsS43.alloc | apply IsS43.drewN | apply IsS43.drew | apply IsS43.set_0 | apply IsS43.set_1 | apply IsS43.set_2) | exact HI237.out | simp only [*])⟩, ⟨by repeat (first | (with_reducible first | exact HI241.out | apply IsS43.alloc | apply IsS43.drewN | apply IsS43.drew | apply IsS43.set_0 | apply IsS43.set_1 | apply IsS43.set_2) | exact HI241.out | simp only [*])⟩, ⟨by repeat (first | (with_reducible first | exact HI245.out | apply IsS43.alloc | apply IsS43.drewN | apply IsS43.drew | apply IsS43.set_0 | apply IsS43.set_1 | apply IsS43.set_2) | exact HI245.out | simp only [*])⟩, ⟨by repeat (first | (with_reducible first | exact HB.out | apply below_alloc | apply pw_below_drewN | apply below_drew1 | refine below_set ?_ (IsS43.ge HI237.out) | refine below_set ?_ (IsS43.ge HI241.out) | refine below_set ?_ (IsS43.ge HI245.out)) | exact HB.out)⟩⟩
          case round =>
           clear H'
           try clear c1
           try clear c2
           try clear p2
           try clear c4
           try clear c5
           try clear c6
           try clear c6b0
           try clear c6b1
           try clear p6
           try clear c8
           try clear c9
           try clear c18
           try clear c18b0
           try clear c18b1
           try clear c20
           try clear c21
           try clear c21b0
           try clear c21b1
           try clear c22
           try clear c22b0
           try clear c22b1
           try clear c24
           try clear c24b0
           try clear c25
           try clear c25b0
           try clear c27
           try clear p2
           try clear p6
           obtain ⟨x16_3, x17_3, x18_3, x246000_3, x246001_3, x246002_3, rfl, rfl, HA, HK3, HO_10, HO_12, HO_16, HI237, HI241, HI245, HB⟩ := hrel
           cases gk with
           | zero => exact absurd HA.out (by simp [nunciolaw15_FeedPieces.l0])
           | succ k3 =>
            have H := HA.out
            clear HA
            simp only [nunciolaw15_FeedPieces.l0] at H
            by_cases c34 : x18_3 < (a1.size : Int)
            ·
             rw [if_pos c34] at H
             have c34b0 : decide (x18_3 < (a1.size : Int)) = true := decide_eq_true c34
             clear c34
             by_cases c35 : 0 ≤ x18_3
             ·
              rw [if_pos c35] at H
              have c35b0 := eq_true c35
              have c35b1 : decide (0 ≤ x18_3) = true := decide_eq_true c35
              clear c35
              by_cases c36 : x18_3 ≤ (wrap64 (x18_3 + 1))
              ·
               rw [if_pos c36] at H
               have c36b0 := eq_true c36
               have c36b1 : decide (x18_3 ≤ (wrap64 (x18_3 + 1))) = true := decide_eq_true c36
               by_cases c37 : (wrap64 (x18_3 + 1)) ≤ (a1.size : Int)
               ·
                rw [if_pos c37] at H
                have c37b0 := eq_true c37
                have c37b1 : decide ((wrap64 (x18_3 + 1)) ≤ (a1.size : Int)) = true := decide_eq_true c37
                replace H := Option.bind_eq_some_iff.mp H
                obtain ⟨⟨t270, t273, t274, t275, t276⟩, A380, H⟩ := H
                replace H : (if x16_3.length + t270.length < 5864062014805 then (nunciolaw15_FeedPieces.l0 k3 a1 t246 t249 y267 t256 t263 (x16_3 ++ t270) (mx x17_3 t273) (wrap64 (x18_3 + 1)) t250 t251 t252 t264 t265 t266 t274 t275 t276) else (none)) = some r := H
                have A38 := Aside0.mk A380
                clear A380
                by_cases c39 : x16_3.length + t270.length < 5864062014805
                ·
                 rw [if_pos c39] at H
                 have LMc39 := Aside0.mk c39
                 clear c39
                 obtain ⟨y277, hy277⟩ : ∃ y_ : List (S40), y_ = (x16_3 ++ t270) := ⟨_, rfl⟩
                 replace H : (nunciolaw15_FeedPieces.l0 k3 a1 t246 t249 y267 t256 t263 y277 (mx x17_3 t273) (wrap64 (x18_3 + 1)) t250 t251 t252 t264 t265 t266 t274 t275 t276) = some r := by first | (rw [hy277]; with_reducible exact H) | (have H2_ := (Option.bind_some _ _).symm.trans H; rw [hy277]; with_reducible exact H2_) | (have H2_ := (Option.bind_some _ _).symm.trans H; with_reducible exact H2_) | with_reducible exact H | (rw [hy277]; exact H) | exact H
                 have Ny277 := Aside0.mk hy277
                 clear hy277
                 obtain ⟨ji40, hji40⟩ : ∃ j_ : Int, (mx x17_3 t273) = j_ := ⟨_, rfl⟩
                 replace H : (nunciolaw15_FeedPieces.l0 k3 a1 t246 t249 y267 t256 t263 y277 ji40 (wrap64 (x18_3 + 1)) t250 t251 t252 t264 t265 t266 t274 t275 t276) = some r := by first | (rw [hji40] at H; exact H) | (simp only [hji40] at H ⊢; exact H)
                 (try rw [hji40] at A38)
                 have hji40_ : (if x17_3 < t273 then t273 else x17_3) = ji40 := hji40
                 have H' := Aside0.mk H
                 clear H
                 go_wp2_with (first | ((with_reducible refine gate_callee (f := 9) rfl ?_); refine goesL_ (some 81) rfl rfl Try.func9 (by kernel_rfl) rfl #[.pointer (some ⟨g245, 0, none⟩), .string (a1.extract (x18_3 : Int).toNat ((wrap64 (x18_3 + 1)) : Int).toNat)] rfl (by (try simp only [List.map_toArray, List.map_cons, List.map_nil]); first | done | rfl | (simp only [List.length_drop, List.length_take]; rfl)) ?_; (with_reducible refine (feed_Feed_Add.calls k3 g245 x246000_3 x246001_3 x246002_3 (a1.extract (x18_3 : Int).toNat ((wrap64 (x18_3 + 1)) : Int).toNat) t270 t273 t274 t275 t276 w _ ?side1 ?side2 A38.out).mono ?_); (case side1 => repeat (first | (with_reducible first | exact HI245.out | apply IsS43.alloc | apply IsS43.drewN | apply IsS43.drew | apply IsS43.set_0 | apply IsS43.set_1 | apply IsS43.set_2) | exact HI245.out | simp only [*])); (case side2 => repeat (first | (with_reducible first | exact HB.out | apply below_alloc | apply pw_below_drewN | apply below_drew1 | refine below_set ?_ (IsS43.ge HI237.out) | refine below_set ?_ (IsS43.ge HI241.out) | refine below_set ?_ (IsS43.ge HI245.out)) | exact HB.out)); rintro e w41 ⟨v271, rfl, ho0, hi, hb, hk⟩; refine ⟨_, rfl, ?_⟩; have n0_ := Aside0.mk (Kd.R_mono (Kd.R_told (Kd.R_oldK (IsS43.apart (show IsS43 w _ g245 x246000_3 x246001_3 x246002_3 from by repeat (first | (with_reducible first | exact HI245.out | apply IsS43.alloc | apply IsS43.drewN | apply IsS43.drew | apply IsS43.set_0 | apply IsS43.set_1 | apply IsS43.set_2) | exact HI245.out | simp only [*])) (by (with_reducible repeat (first | apply Kd.R_alloc | apply Kd.R_drewN | apply Kd.R_drew)); exact HO_10.out) (by decide)) hk) (Kd.R_base ho0)) (fun _ h_ => h_.1)); have n1_ := Aside0.mk (Kd.R_mono (Kd.R_told (Kd.R_oldK (IsS43.apart (show IsS43 w _ g245 x246000_3 x246001_3 x246002_3 from by repeat (first | (with_reducible first | exact HI245.out | apply IsS43.alloc | apply IsS43.drewN | apply IsS43.drew | apply IsS43.set_0 | apply IsS43.set_1 | apply IsS43.set_2) | exact HI245.out | simp only [*])) (by (with_reducible repeat (first | apply Kd.R_alloc | apply Kd.R_drewN | apply Kd.R_drew)); exact HO_12.out) (by decide)) hk) (Kd.R_base ho0)) (fun _ h_ => h_.1)); have n2_ := Aside0.mk (Kd.R_mono (Kd.R_told (Kd.R_oldK (IsS43.apart (show IsS43 w _ g245 x246000_3 x246001_3 x246002_3 from by repeat (first | (with_reducible first | exact HI245.out | apply IsS43.alloc | apply IsS43.drewN | apply IsS43.drew | apply IsS43.set_0 | apply IsS43.set_1 | apply IsS43.set_2) | exact HI245.out | simp only [*])) (by (with_reducible repeat (first | apply Kd.R_alloc | apply Kd.R_drewN | apply Kd.R_drew)); exact HO_16.out) (by decide)) hk) (Kd.R_base ho0)) (fun _ h_ => h_.1)); have n3_ := Aside0.mk (IsS43.kept (show IsS43 w _ g237 t250 t251 t252 from by repeat (first | (with_reducible first | exact HI237.out | apply IsS43.alloc | apply IsS43.drewN | apply IsS43.drew | apply IsS43.set_0 | apply IsS43.set_1 | apply IsS43.set_2) | exact HI237.out | simp only [*])) (Kept.of_keep (S := fun k_ => k_ = g245) (Kept.refl _ _) hk (.inl rfl)) NB237_245.out); have n4_ := Aside0.mk (IsS43.kept (show IsS43 w _ g241 t264 t265 t266 from by repeat (first | (with_reducible first | exact HI241.out | apply IsS43.alloc | apply IsS43.drewN | apply IsS43.drew | apply IsS43.set_0 | apply IsS43.set_1 | apply IsS43.set_2) | exact HI241.out | simp only [*])) (Kept.of_keep (S := fun k_ => k_ = g245) (Kept.refl _ _) hk (.inl rfl)) NB241_245.out); have n5_ := Aside0.mk (Kd.R_lower (Kd.R_new' (Kd.R_new' (Kd.R_new' ho0 (Kd.R_lt (by (with_reducible repeat (first | apply Kd.R_alloc | apply Kd.R_drewN | apply Kd.R_drew)); exact HO_10.out))) (Kd.R_lt (by (with_reducible repeat (first | apply Kd.R_alloc | apply Kd.R_drewN | apply Kd.R_drew)); exact HO_12.out))) (Kd.R_lt (by (with_reducible repeat (first | apply Kd.R_alloc | apply Kd.R_drewN | apply Kd.R_drew)); exact HO_16.out))) (below_size (by repeat (first | (with_reducible first | exact HB.out | apply below_alloc | apply pw_below_drewN | apply below_drew1 | refine below_set ?_ (IsS43.ge HI237.out) | refine below_set ?_ (IsS43.ge HI241.out) | refine below_set ?_ (IsS43.ge HI245.out)) | exact HB.out)))); have n6_ := Aside0.mk (hb); have n7_ := Aside0.mk (hi); clear HO_10; clear HO_12; clear HO_16; clear HI237; clear HI241; clear HB; clear HI245; have HO_10 := n0_; have HO_12 := n1_; have HO_16 := n2_; have HI237 := n3_; have HI241 := n4_; have HO272 := n5_; have HB := n6_; have HI245 := n7_; clear n0_ n1_ n2_ n3_ n4_ n5_ n6_ n7_; (try clear hb); (try clear hb2); (try clear hk); (try clear hi); (try clear ho0); obtain ⟨Ao43, co43, eo43⟩ := Kd.R_slice HO272.out; subst eo43) | ((with_reducible refine gate_builtin (b := .append) (xs := #[.tmp 84, .tmp 85]) rfl ?_); (try (refine gate_guard (by rfl) ?_; dsimp only)); at_builtin; refine Kd.R_append_rows k40 (w0 := w) w.heap.size rfl (.tmp 84) (.tmp 85) 27 40 (.agg #[(.int .u8 0), (.int .u8 0), (.int .u32 0), (.string ⟨#[]⟩)]) 24 rfl Try.underlying27 info40 rfl (by decide) (by omega) u16 x16_3 t270 _ _ _ (fun k_ => some k_ ≠ (v247 : Value).ownBlock ∧ some k_ ≠ (v268 : Value).ownBlock ∧ some k_ ≠ (.slice Ao43 t270.length co43 : Value).ownBlock) (fun _ => False) rfl rfl ?aO ?aR (fun _ _ h => h) (fun _ h => h.elim) ?aF ?aB ?aS ?aL ?_; (case aR => repeat (first | exact (Kd.R_reads' HO272.out).2.2 | (with_reducible refine Kd.C_alloc ?_ _) | (with_reducible refine Kd.C_drewN ?_ _) | (with_reducible refine Kd.C_drew ?_))); (case aB => exact (by repeat (first | (with_reducible first | exact HB.out | apply below_alloc | apply pw_below_drewN | apply below_drew1 | refine below_set ?_ (IsS43.ge HI237.out) | refine below_set ?_ (IsS43.ge HI241.out) | refine below_set ?_ (IsS43.ge HI245.out)) | exact HB.out))); (case aF => exact (fun k_ hk => ⟨Kd.fresh' (Kd.R_lt (by (with_reducible repeat (first | apply Kd.R_alloc | apply Kd.R_drewN | apply Kd.R_drew)); exact HO_10.out)) k_ hk, Kd.fresh' (Kd.R_lt (by (with_reducible repeat (first | apply Kd.R_alloc | apply Kd.R_drewN | apply Kd.R_drew)); exact HO_12.out)) k_ hk, Kd.fresh' (Kd.R_lt (by (with_reducible repeat (first | apply Kd.R_alloc | apply Kd.R_drewN | apply Kd.R_drew)); exact HO272.out)) k_ hk⟩)); (case aO => exact (by (with_reducible repeat (first | apply Kd.R_alloc | apply Kd.R_drewN | apply Kd.R_drew)); exact Kd.R_mono HO_16.out (fun _ hk => ⟨hk.1.1, ⟨hk.1.2, hk.2⟩⟩))); (case aS => exact (below_size (by repeat (first | (with_reducible first | exact HB.out | apply below_alloc | apply pw_below_drewN | apply below_drew1 | refine below_set ?_ (IsS43.ge HI237.out) | refine below_set ?_ (IsS43.ge HI241.out) | refine below_set ?_ (IsS43.ge HI245.out)) | exact HB.out)))); (case aL => have := LMc39.out; omega); intro v278 w42 ho hb hg hat; rw [← Ny277.out] at ho; have n0_ := Aside0.mk (Kd.R_after (ok := (fun k_ => some k_ ≠ (v268 : Value).ownBlock ∧ some k_ ≠ (.slice Ao43 t270.length co43 : Value).ownBlock)) (by (with_reducible repeat (first | apply Kd.R_alloc | apply Kd.R_drewN | apply Kd.R_drew)); exact Kd.R_mono HO_10.out (fun _ hk => ⟨⟨hk.1.1, hk.2⟩, hk.1.2⟩)) hg hat); have n1_ := Aside0.mk (Kd.R_after (ok := (fun k_ => some k_ ≠ (v247 : Value).ownBlock ∧ some k_ ≠ (.slice Ao43 t270.length co43 : Value).ownBlock)) (by (with_reducible repeat (first | apply Kd.R_alloc | apply Kd.R_drewN | apply Kd.R_drew)); exact Kd.R_mono HO_12.out (fun _ hk => ⟨⟨hk.1.1, hk.2⟩, hk.1.2⟩)) hg hat); have n2_ := Aside0.mk (IsS43.grown (w0 := w) (f0 := t250) (f1 := t251) (f2 := t252) (by repeat (first | (with_reducible first | exact HI237.out | apply IsS43.alloc | apply IsS43.drewN | apply IsS43.drew | apply IsS43.set_0 | apply IsS43.set_1 | apply IsS43.set_2) | exact HI237.out | simp only [*])) hg (IsS43.own_ne HI237.out HO_16.out (by decide))); have n3_ := Aside0.mk (IsS43.grown (w0 := w) (f0 := t264) (f1 := t265) (f2 := t266) (by repeat (first | (with_reducible first | exact HI241.out | apply IsS43.alloc | apply IsS43.drewN | apply IsS43.drew | apply IsS43.set_0 | apply IsS43.set_1 | apply IsS43.set_2) | exact HI241.out | simp only [*])) hg (IsS43.own_ne HI241.out HO_16.out (by decide))); have n4_ := Aside0.mk (IsS43.grown (w0 := w) (f0 := t274) (f1 := t275) (f2 := t276) (by repeat (first | (with_reducible first | exact HI245.out | apply IsS43.alloc | apply IsS43.drewN | apply IsS43.drew | apply IsS43.set_0 | apply IsS43.set_1 | apply IsS43.set_2) | exact HI245.out | simp only [*])) hg (IsS43.own_ne HI245.out HO_16.out (by decide))); have n5_ := Aside0.mk (Kd.R_after (ok := (fun k_ => some k_ ≠ (v247 : Value).ownBlock ∧ some k_ ≠ (v268 : Value).ownBlock)) (by (with_reducible repeat (first | apply Kd.R_alloc | apply Kd.R_drewN | apply Kd.R_drew)); exact Kd.R_mono HO272.out (fun _ hk => ⟨⟨hk.1.1.2, hk.1.2⟩, hk.2⟩)) hg hat); have n6_ := Aside0.mk (hb); have n7_ := Aside0.mk (ho); clear HO_10; clear HO_12; clear HI237; clear HI241; clear HI245; clear HO272; clear HB; clear HO_16; have HO_10 := n0_; have HO_12 := n1_; have HI237 := n2_; have HI241 := n3_; have HI245 := n4_; have HO272 := n5_; have HB := n6_; have HO279 := n7_; clear n0_ n1_ n2_ n3_ n4_ n5_ n6_ n7_; clear ho hb hg hat))
                 go_roundg k3
                 case measure => have := HJ11.out; have := HJ18.out; have := HK3.out; omega
                 case rel => exact ⟨(y277), (ji40), (wrap64 (x18_3 + 1)), (t274), (t275), (t276), (by first | rfl | (simp; done) | (simp only [← hji40] <;> (first | rfl | simp)) | (simp [*]; done)), (by first | rfl | (simp; done) | (simp [*]; done)), H', ⟨by have := HJ11.out; have := HJ18.out; have := HK3.out; omega⟩, ⟨by (with_reducible repeat (first | apply Kd.R_alloc | apply Kd.R_drewN | apply Kd.R_drew)); exact Kd.R_mono HO_10.out (fun _ hk => ⟨hk.1.1, hk.2⟩)⟩, ⟨by (with_reducible repeat (first | apply Kd.R_alloc | apply Kd.R_drewN | apply Kd.R_drew)); exact Kd.R_mono HO_12.out (fun _ hk => ⟨hk.1.1, hk.2⟩)⟩, ⟨by (with_reducible repeat (first | apply Kd.R_alloc | apply Kd.R_drewN | apply Kd.R_drew)); exact Kd.R_mono HO279.out (fun _ hk => ⟨hk.1, hk.2.1⟩)⟩, ⟨by repeat (first | (with_reducible first | exact HI237.out | apply IsS43.alloc | apply IsS43.drewN | apply IsS43.drew | apply IsS43.set_0 | apply IsS43.set_1 | apply IsS43.set_2) | exact HI237.out | simp only [*])⟩, ⟨by repeat (first | (with_reducible first | exact HI241.out | apply IsS43.alloc | apply IsS43.drewN | apply IsS43.drew | apply IsS43.set_0 | apply IsS43.set_1 | apply IsS43.set_2) | exact HI241.out | simp only [*])⟩, ⟨by repeat (first | (with_reducible first | exact HI245.out | apply IsS43.alloc | apply IsS43.drewN | apply IsS43.drew | apply IsS43.set_0 | apply IsS43.set_1 | apply IsS43.set_2) | exact HI245.out | simp only [*])⟩, ⟨by repeat (first | (with_reducible first | exact HB.out | apply below_alloc | apply pw_below_drewN | apply below_drew1 | refine below_set ?_ (IsS43.ge HI237.out) | refine below_set ?_ (IsS43.ge HI241.out) | refine below_set ?_ (IsS43.ge HI245.out)) | exact HB.out)⟩⟩
                ·
                 rw [if_neg c39] at H
                 exact absurd H (by simp)
               ·
                rw [if_neg c37] at H
                exact absurd H (by simp)
              ·
               rw [if_neg c36] at H
               exact absurd H (by simp)
             ·
              rw [if_neg c35] at H
              exact absurd H (by simp)
            ·
             rw [if_neg c34] at H
             have c34b0 : decide (x18_3 < (a1.size : Int)) = false := decide_eq_false c34
             clear c34
             replace H := Option.bind_eq_some_iff.mp H
             obtain ⟨t280, A440, H⟩ := H
             replace H : (if t280 = true then ((nuncioref15_Same.f k3 t246 x16_3).bind fun t281 => (if t281 = true then (if (mx t256 t263) = t249 then (if x17_3 = t249 then ((feed_Feed_Held.f t250 t251 t252).bind fun bt282 => ((feed_Feed_Held.f t264 t265 t266).bind fun bt286 => (if bt282.1 = bt286.1 then ((feed_Feed_Held.f bt282.2.1 bt282.2.2.1 bt282.2.2.2).bind fun bt290 => ((feed_Feed_Held.f x246000_3 x246001_3 x246002_3).bind fun bt294 => (some (bt290.1 == bt294.1)))) else (some false)))) else (some false)) else (some false)) else (some false))) else (some false)) = some r := H
             have A44 := Aside0.mk A440
             clear A440
             by_cases c45 : t280 = true
             ·
              subst c45
              have H1 : ((nuncioref15_Same.f k3 t246 x16_3).bind fun t281 => (if t281 = true then (if (mx t256 t263) = t249 then (if x17_3 = t249 then ((feed_Feed_Held.f t250 t251 t252).bind fun bt282 => ((feed_Feed_Held.f t264 t265 t266).bind fun bt286 => (if bt282.1 = bt286.1 then ((feed_Feed_Held.f bt282.2.1 bt282.2.2.1 bt282.2.2.2).bind fun bt290 => ((feed_Feed_Held.f x246000_3 x246001_3 x246002_3).bind fun bt294 => (some (bt290.1 == bt294.1)))) else (some false)))) else (some false)) else (some false)) else (some false))) = some r := by rw [if_pos rfl] at H; exact H
              clear H
              have H := H1
              clear H1
              replace H := Option.bind_eq_some_iff.mp H
              obtain ⟨t281, A460, H⟩ := H
              replace H : (if t281 = true then (if (mx t256 t263) = t249 then (if x17_3 = t249 then ((feed_Feed_Held.f t250 t251 t252).bind fun bt282 => ((feed_Feed_Held.f t264 t265 t266).bind fun bt286 => (if bt282.1 = bt286.1 then ((feed_Feed_Held.f bt282.2.1 bt282.2.2.1 bt282.2.2.2).bind fun bt290 => ((feed_Feed_Held.f x246000_3 x246001_3 x246002_3).bind fun bt294 => (some (bt290.1 == bt294.1)))) else (some false)))) else (some false)) else (some false)) else (some false)) = some r := H
              have A46 := Aside0.mk A460
              clear A460
              by_cases c47 : t281 = true
              ·
               subst c47
               have H1 : (if (mx t256 t263) = t249 then (if x17_3 = t249 then ((feed_Feed_Held.f t250 t251 t252).bind fun bt282 => ((feed_Feed_Held.f t264 t265 t266).bind fun bt286 => (if bt282.1 = bt286.1 then ((feed_Feed_Held.f bt282.2.1 bt282.2.2.1 bt282.2.2.2).bind fun bt290 => ((feed_Feed_Held.f x246000_3 x246001_3 x246002_3).bind fun bt294 => (some (bt290.1 == bt294.1)))) else (some false)))) else (some false)) else (some false)) = some r := by rw [if_pos rfl] at H; exact H
               clear H
               have H := H1
               clear H1
               obtain ⟨ji48, hji48⟩ : ∃ j_ : Int, (mx t256 t263) = j_ := ⟨_, rfl⟩
               replace H : (if (ji48) = t249 then (if x17_3 = t249 then ((feed_Feed_Held.f t250 t251 t252).bind fun bt282 => ((feed_Feed_Held.f t264 t265 t266).bind fun bt286 => (if bt282.1 = bt286.1 then ((feed_Feed_Held.f bt282.2.1 bt282.2.2.1 bt282.2.2.2).bind fun bt290 => ((feed_Feed_Held.f x246000_3 x246001_3 x246002_3).bind fun bt294 => (some (bt290.1 == bt294.1)))) else (some false)))) else (some false)) else (some false)) = some r := by first | (rw [hji48] at H; exact H) | (simp only [hji48] at H ⊢; exact H)
               (try rw [hji48] at A44)
               (try rw [hji48] at A46)
               have hji48_ : (if t256 < t263 then t263 else t256) = ji48 := hji48
               by_cases c49 : (ji48) = t249
               ·
                rw [if_pos c49] at H
                have c49b0 : ((ji48) == t249) = true := beq_iff_eq.mpr c49
                have c49b1 : ((ji48) != t249) = false := bne_eq_false_iff_eq.mpr c49
                clear c49
                by_cases c50 : x17_3 = t249
                ·
                 rw [if_pos c50] at H
                 have c50b0 : (x17_3 == t249) = true := beq_iff_eq.mpr c50
                 have c50b1 : (x17_3 != t249) = false := bne_eq_false_iff_eq.mpr c50
                 clear c50
                 replace H := Option.bind_eq_some_iff.mp H
                 obtain ⟨⟨t282, t283, t284, t285⟩, A510, H⟩ := H
                 replace H : ((feed_Feed_Held.f t264 t265 t266).bind fun bt286 => (if t282 = bt286.1 then ((feed_Feed_Held.f t283 t284 t285).bind fun bt290 => ((feed_Feed_Held.f x246000_3 x246001_3 x246002_3).bind fun bt294 => (some (bt290.1 == bt294.1)))) else (some false))) = some r := H
                 have A51 := Aside0.mk A510
                 clear A510
                 replace H := Option.bind_eq_some_iff.mp H
                 obtain ⟨⟨t286, t287, t288, t289⟩, A520, H⟩ := H
                 replace H : (if t282 = t286 then ((feed_Feed_Held.f t283 t284 t285).bind fun bt290 => ((feed_Feed_Held.f x246000_3 x246001_3 x246002_3).bind fun bt294 => (some (bt290.1 == bt294.1)))) else (some false)) = some r := H
                 have A52 := Aside0.mk A520
                 clear A520
                 by_cases c53 : t282 = t286
                 ·
                  rw [if_pos c53] at H
                  have c53b0 : (t282 == t286) = true := beq_iff_eq.mpr c53
                  have c53b1 : (t282 != t286) = false := bne_eq_false_iff_eq.mpr c53
                  clear c53
                  replace H := Option.bind_eq_some_iff.mp H
                  obtain ⟨⟨t290, t291, t292, t293⟩, A540, H⟩ := H
                  replace H : ((feed_Feed_Held.f x246000_3 x246001_3 x246002_3).bind fun bt294 => (some (t290 == bt294.1))) = some r := H
                  have A54 := Aside0.mk A540
                  clear A540
                  replace H := Option.bind_eq_some_iff.mp H
                  obtain ⟨⟨t294, t295, t296, t297⟩, A550, H⟩ := H
                  replace H : (some (t290 == t294)) = some r := H
                  have A55 := Aside0.mk A550
                  clear A550
                  obtain rfl := Option.some.inj H
                  obtain ⟨Ao56, co56, eo56⟩ := Kd.R_slice HO_10.out
                  subst eo56
                  obtain ⟨Ao57, co57, eo57⟩ := Kd.R_slice HO_12.out
                  subst eo57
                  have tk63 : True := trivial
                  have tk64 : True := trivial
                  have tk65 : True := trivial
                  have tk66 : True := trivial
                  have tk67 : True := trivial
                  have tk68 : True := trivial
                  go_wp2_with (first | (have _t : True := tk63; clear tk63 _t; (with_reducible refine gate_callee (f := 13) rfl ?_); refine goesL_ (some 92) rfl rfl Try.func13 (by kernel_rfl) rfl #[.slice Ao56 t246.length co56, .slice Ao57 y267.length co57] rfl (by (try simp only [List.map_toArray, List.map_cons, List.map_nil]); first | done | rfl | (simp only [List.length_drop, List.length_take]; rfl)) ?_; (with_reducible refine (nuncioref15_Same.calls k3 _ _ t246 _ _ y267 true _ ?side1 ?side2 ?side3 ?side4 A44.out).mono ?_); (case side1 => repeat (first | exact (Kd.R_reads' HO_10.out).2.2 | (with_reducible refine Kd.C_alloc ?_ _) | (with_reducible refine Kd.C_drewN ?_ _) | (with_reducible refine Kd.C_drew ?_))); (case side2 => exact (Kd.R_reads' HO_10.out).2.1); (case side3 => repeat (first | exact (Kd.R_reads' HO_12.out).2.2 | (with_reducible refine Kd.C_alloc ?_ _) | (with_reducible refine Kd.C_drewN ?_ _) | (with_reducible refine Kd.C_drew ?_))); (case side4 => exact (Kd.R_reads' HO_12.out).2.1); rintro e w' ⟨rfl, ⟨nd, rfl⟩⟩; refine ⟨_, rfl, ?_⟩; obtain ⟨Ao58, co58, eo58⟩ := Kd.R_slice HO_16.out; subst eo58) | (have _t : True := tk64; clear tk64 _t; go_at_call 13; (with_reducible refine (nuncioref15_Same.calls k3 _ _ t246 _ _ x16_3 true _ ?side1 ?side2 ?side3 ?side4 A46.out).mono ?_); (case side1 => repeat (first | exact (Kd.R_reads' HO_10.out).2.2 | (with_reducible refine Kd.C_alloc ?_ _) | (with_reducible refine Kd.C_drewN ?_ _) | (with_reducible refine Kd.C_drew ?_))); (case side2 => exact (Kd.R_reads' HO_10.out).2.1); (case side3 => repeat (first | exact (Kd.R_reads' HO_16.out).2.2 | (with_reducible refine Kd.C_alloc ?_ _) | (with_reducible refine Kd.C_drewN ?_ _) | (with_reducible refine Kd.C_drew ?_))); (case side4 => exact (Kd.R_reads' HO_16.out).2.1); rintro e w' ⟨rfl, ⟨nd, rfl⟩⟩) | (have _t : True := tk65; clear tk65 _t; go_at_call 11; (with_reducible refine (feed_Feed_Held.calls g237 t250 t251 t252 t282 t283 t284 t285 w _ ?side1 ?side2 A51.out).mono ?_); (case side1 => repeat (first | (with_reducible first | exact HI237.out | apply IsS43.alloc | apply IsS43.drewN | apply IsS43.drew | apply IsS43.set_0 | apply IsS43.set_1 | apply IsS43.set_2) | exact HI237.out | simp only [*])); (case side2 => repeat (first | (with_reducible first | exact HB.out | apply below_alloc | apply pw_below_drewN | apply below_drew1 | refine below_set ?_ (IsS43.ge HI237.out) | refine below_set ?_ (IsS43.ge HI241.out) | refine below_set ?_ (IsS43.ge HI245.out)) | exact HB.out)); rintro e w59 ⟨rfl, hi, hb, hk⟩; have n0_ := Aside0.mk (Kd.R_mono (Kd.R_keep (IsS43.apart (show IsS43 w _ g237 t250 t251 t252 from by repeat (first | (with_reducible first | exact HI237.out | apply IsS43.alloc | apply IsS43.drewN | apply IsS43.drew | apply IsS43.set_0 | apply IsS43.set_1 | apply IsS43.set_2) | exact HI237.out | simp only [*])) (by (with_reducible repeat (first | apply Kd.R_alloc | apply Kd.R_drewN | apply Kd.R_drew)); exact HO_10.out) (by decide)) hk (fun _ h => h.2)) (fun _ h => h.1)); have n1_ := Aside0.mk (Kd.R_mono (Kd.R_keep (IsS43.apart (show IsS43 w _ g237 t250 t251 t252 from by repeat (first | (with_reducible first | exact HI237.out | apply IsS43.alloc | apply IsS43.drewN | apply IsS43.drew | apply IsS43.set_0 | apply IsS43.set_1 | apply IsS43.set_2) | exact HI237.out | simp only [*])) (by (with_reducible repeat (first | apply Kd.R_alloc | apply Kd.R_drewN | apply Kd.R_drew)); exact HO_12.out) (by decide)) hk (fun _ h => h.2)) (fun _ h => h.1)); have n2_ := Aside0.mk (Kd.R_mono (Kd.R_keep (IsS43.apart (show IsS43 w _ g237 t250 t251 t252 from by repeat (first | (with_reducible first | exact HI237.out | apply IsS43.alloc | apply IsS43.drewN | apply IsS43.drew | apply IsS43.set_0 | apply IsS43.set_1 | apply IsS43.set_2) | exact HI237.out | simp only [*])) (by (with_reducible repeat (first | apply Kd.R_alloc | apply Kd.R_drewN | apply Kd.R_drew)); exact HO_16.out) (by decide)) hk (fun _ h => h.2)) (fun _ h => h.1)); have n3_ := Aside0.mk (IsS43.kept (show IsS43 w _ g241 t264 t265 t266 from by repeat (first | (with_reducible first | exact HI241.out | apply IsS43.alloc | apply IsS43.drewN | apply IsS43.drew | apply IsS43.set_0 | apply IsS43.set_1 | apply IsS43.set_2) | exact HI241.out | simp only [*])) (Kept.of_keep (S := fun k_ => k_ = g237) (Kept.refl _ _) hk (.inl rfl)) NB241_237.out); have n4_ := Aside0.mk (IsS43.kept (show IsS43 w _ g245 x246000_3 x246001_3 x246002_3 from by repeat (first | (with_reducible first | exact HI245.out | apply IsS43.alloc | apply IsS43.drewN | apply IsS43.drew | apply IsS43.set_0 | apply IsS43.set_1 | apply IsS43.set_2) | exact HI245.out | simp only [*])) (Kept.of_keep (S := fun k_ => k_ = g237) (Kept.refl _ _) hk (.inl rfl)) NB245_237.out); have n5_ := Aside0.mk (hb); have n6_ := Aside0.mk (hi); clear HO_10; clear HO_12; clear HO_16; clear HI241; clear HI245; clear HB; clear HI237; have HO_10 := n0_; have HO_12 := n1_; have HO_16 := n2_; have HI241 := n3_; have HI245 := n4_; have HB := n5_; have HI237 := n6_; clear n0_ n1_ n2_ n3_ n4_ n5_ n6_; (try clear hb); (try clear hb2); (try clear hk); (try clear hi)) | (have _t : True := tk66; clear tk66 _t; go_at_call 11; (with_reducible refine (feed_Feed_Held.calls g241 t264 t265 t266 t286 t287 t288 t289 w _ ?side1 ?side2 A52.out).mono ?_); (case side1 => repeat (first | (with_reducible first | exact HI241.out | apply IsS43.alloc | apply IsS43.drewN | apply IsS43.drew | apply IsS43.set_0 | apply IsS43.set_1 | apply IsS43.set_2) | exact HI241.out | simp only [*])); (case side2 => repeat (first | (with_reducible first | exact HB.out | apply below_alloc | apply pw_below_drewN | apply below_drew1 | refine below_set ?_ (IsS43.ge HI237.out) | refine below_set ?_ (IsS43.ge HI241.out) | refine below_set ?_ (IsS43.ge HI245.out)) | exact HB.out)); rintro e w60 ⟨rfl, hi, hb, hk⟩; have n0_ := Aside0.mk (Kd.R_mono (Kd.R_keep (IsS43.apart (show IsS43 w _ g241 t264 t265 t266 from by repeat (first | (with_reducible first | exact HI241.out | apply IsS43.alloc | apply IsS43.drewN | apply IsS43.drew | apply IsS43.set_0 | apply IsS43.set_1 | apply IsS43.set_2) | exact HI241.out | simp only [*])) (by (with_reducible repeat (first | apply Kd.R_alloc | apply Kd.R_drewN | apply Kd.R_drew)); exact HO_10.out) (by decide)) hk (fun _ h => h.2)) (fun _ h => h.1)); have n1_ := Aside0.mk (Kd.R_mono (Kd.R_keep (IsS43.apart (show IsS43 w _ g241 t264 t265 t266 from by repeat (first | (with_reducible first | exact HI241.out | apply IsS43.alloc | apply IsS43.drewN | apply IsS43.drew | apply IsS43.set_0 | apply IsS43.set_1 | apply IsS43.set_2) | exact HI241.out | simp only [*])) (by (with_reducible repeat (first | apply Kd.R_alloc | apply Kd.R_drewN | apply Kd.R_drew)); exact HO_12.out) (by decide)) hk (fun _ h => h.2)) (fun _ h => h.1)); have n2_ := Aside0.mk (Kd.R_mono (Kd.R_keep (IsS43.apart (show IsS43 w _ g241 t264 t265 t266 from by repeat (first | (with_reducible first | exact HI241.out | apply IsS43.alloc | apply IsS43.drewN | apply IsS43.drew | apply IsS43.set_0 | apply IsS43.set_1 | apply IsS43.set_2) | exact HI241.out | simp only [*])) (by (with_reducible repeat (first | apply Kd.R_alloc | apply Kd.R_drewN | apply Kd.R_drew)); exact HO_16.out) (by decide)) hk (fun _ h => h.2)) (fun _ h => h.1)); have n3_ := Aside0.mk (IsS43.kept (show IsS43 w _ g237 t283 t284 t285 from by repeat (first | (with_reducible first | exact HI237.out | apply IsS43.alloc | apply IsS43.drewN | apply IsS43.drew | apply IsS43.set_0 | apply IsS43.set_1 | apply IsS43.set_2) | exact HI237.out | simp only [*])) (Kept.of_keep (S := fun k_ => k_ = g241) (Kept.refl _ _) hk (.inl rfl)) NB237_241.out); have n4_ := Aside0.mk (IsS43.kept (show IsS43 w _ g245 x246000_3 x246001_3 x246002_3 from by repeat (first | (with_reducible first | exact HI245.out | apply IsS43.alloc | apply IsS43.drewN | apply IsS43.drew | apply IsS43.set_0 | apply IsS43.set_1 | apply IsS43.set_2) | exact HI245.out | simp only [*])) (Kept.of_keep (S := fun k_ => k_ = g241) (Kept.refl _ _) hk (.inl rfl)) NB245_241.out); have n5_ := Aside0.mk (hb); have n6_ := Aside0.mk (hi); clear HO_10; clear HO_12; clear HO_16; clear HI237; clear HI245; clear HB; clear HI241; have HO_10 := n0_; have HO_12 := n1_; have HO_16 := n2_; have HI237 := n3_; have HI245 := n4_; have HB := n5_; have HI241 := n6_; clear n0_ n1_ n2_ n3_ n4_ n5_ n6_; (try clear hb); (try clear hb2); (try clear hk); (try clear hi)) | (have _t : True := tk67; clear tk67 _t; go_at_call 11; (with_reducible refine (feed_Feed_Held.calls g237 t283 t284 t285 t290 t291 t292 t293 w _ ?side1 ?side2 A54.out).mono ?_); (case side1 => repeat (first | (with_reducible first | exact HI237.out | apply IsS43.alloc | apply IsS43.drewN | apply IsS43.drew | apply IsS43.set_0 | apply IsS43.set_1 | apply IsS43.set_2) | exact HI237.out | simp only [*])); (case side2 => repeat (first | (with_reducible first | exact HB.out | apply below_alloc | apply pw_below_drewN | apply below_drew1 | refine below_set ?_ (IsS43.ge HI237.out) | refine below_set ?_ (IsS43.ge HI241.out) | refine below_set ?_ (IsS43.ge HI245.out)) | exact HB.out)); rintro e w61 ⟨rfl, hi, hb, hk⟩; have n0_ := Aside0.mk (Kd.R_mono (Kd.R_keep (IsS43.apart (show IsS43 w _ g237 t283 t284 t285 from by repeat (first | (with_reducible first | exact HI237.out | apply IsS43.alloc | apply IsS43.drewN | apply IsS43.drew | apply IsS43.set_0 | apply IsS43.set_1 | apply IsS43.set_2) | exact HI237.out | simp only [*])) (by (with_reducible repeat (first | apply Kd.R_alloc | apply Kd.R_drewN | apply Kd.R_drew)); exact HO_10.out) (by decide)) hk (fun _ h => h.2)) (fun _ h => h.1)); have n1_ := Aside0.mk (Kd.R_mono (Kd.R_keep (IsS43.apart (show IsS43 w _ g237 t283 t284 t285 from by repeat (first | (with_reducible first | exact HI237.out | apply IsS43.alloc | apply IsS43.drewN | apply IsS43.drew | apply IsS43.set_0 | apply IsS43.set_1 | apply IsS43.set_2) | exact HI237.out | simp only [*])) (by (with_reducible repeat (first | apply Kd.R_alloc | apply Kd.R_drewN | apply Kd.R_drew)); exact HO_12.out) (by decide)) hk (fun _ h => h.2)) (fun _ h => h.1)); have n2_ := Aside0.mk (Kd.R_mono (Kd.R_keep (IsS43.apart (show IsS43 w _ g237 t283 t284 t285 from by repeat (first | (with_reducible first | exact HI237.out | apply IsS43.alloc | apply IsS43.drewN | apply IsS43.drew | apply IsS43.set_0 | apply IsS43.set_1 | apply IsS43.set_2) | exact HI237.out | simp only [*])) (by (with_reducible repeat (first | apply Kd.R_alloc | apply Kd.R_drewN | apply Kd.R_drew)); exact HO_16.out) (by decide)) hk (fun _ h => h.2)) (fun _ h => h.1)); have n3_ := Aside0.mk (IsS43.kept (show IsS43 w _ g241 t287 t288 t289 from by repeat (first | (with_reducible first | exact HI241.out | apply IsS43.alloc | apply IsS43.drewN | apply IsS43.drew | apply IsS43.set_0 | apply IsS43.set_1 | apply IsS43.set_2) | exact HI241.out | simp only [*])) (Kept.of_keep (S := fun k_ => k_ = g237) (Kept.refl _ _) hk (.inl rfl)) NB241_237.out); have n4_ := Aside0.mk (IsS43.kept (show IsS43 w _ g245 x246000_3 x246001_3 x246002_3 from by repeat (first | (with_reducible first | exact HI245.out | apply IsS43.alloc | apply IsS43.drewN | apply IsS43.drew | apply IsS43.set_0 | apply IsS43.set_1 | apply IsS43.set_2) | exact HI245.out | simp only [*])) (Kept.of_keep (S := fun k_ => k_ = g237) (Kept.refl _ _) hk (.inl rfl)) NB245_237.out); have n5_ := Aside0.mk (hb); have n6_ := Aside0.mk (hi); clear HO_10; clear HO_12; clear HO_16; clear HI241; clear HI245; clear HB; clear HI237; have HO_10 := n0_; have HO_12 := n1_; have HO_16 := n2_; have HI241 := n3_; have HI245 := n4_; have HB := n5_; have HI237 := n6_; clear n0_ n1_ n2_ n3_ n4_ n5_ n6_; (try clear hb); (try clear hb2); (try clear hk); (try clear hi)) | (have _t : True := tk68; clear tk68 _t; go_at_call 11; (with_reducible refine (feed_Feed_Held.calls g245 x246000_3 x246001_3 x246002_3 t294 t295 t296 t297 w _ ?side1 ?side2 A55.out).mono ?_); (case side1 => repeat (first | (with_reducible first | exact HI245.out | apply IsS43.alloc | apply IsS43.drewN | apply IsS43.drew | apply IsS43.set_0 | apply IsS43.set_1 | apply IsS43.set_2) | exact HI245.out | simp only [*])); (case side2 => repeat (first | (with_reducible first | exact HB.out | apply below_alloc | apply pw_below_drewN | apply below_drew1 | refine below_set ?_ (IsS43.ge HI237.out) | refine below_set ?_ (IsS43.ge HI241.out) | refine below_set ?_ (IsS43.ge HI245.out)) | exact HB.out)); rintro e w62 ⟨rfl, hi, hb, hk⟩; have n0_ := Aside0.mk (Kd.R_mono (Kd.R_keep (IsS43.apart (show IsS43 w _ g245 x246000_3 x246001_3 x246002_3 from by repeat (first | (with_reducible first | exact HI245.out | apply IsS43.alloc | apply IsS43.drewN | apply IsS43.drew | apply IsS43.set_0 | apply IsS43.set_1 | apply IsS43.set_2) | exact HI245.out | simp only [*])) (by (with_reducible repeat (first | apply Kd.R_alloc | apply Kd.R_drewN | apply Kd.R_drew)); exact HO_10.out) (by decide)) hk (fun _ h => h.2)) (fun _ h => h.1)); have n1_ := Aside0.mk (Kd.R_mono (Kd.R_keep (IsS43.apart (show IsS43 w _ g245 x246000_3 x246001_3 x246002_3 from by repeat (first | (with_reducible first | exact HI245.out | apply IsS43.alloc | apply IsS43.drewN | apply IsS43.drew | apply IsS43.set_0 | apply IsS43.set_1 | apply IsS43.set_2) | exact HI245.out | simp only [*])) (by (with_reducible repeat (first | apply Kd.R_alloc | apply Kd.R_drewN | apply Kd.R_drew)); exact HO_12.out) (by decide)) hk (fun _ h => h.2)) (fun _ h => h.1)); have n2_ := Aside0.mk (Kd.R_mono (Kd.R_keep (IsS43.apart (show IsS43 w _ g245 x246000_3 x246001_3 x246002_3 from by repeat (first | (with_reducible first | exact HI245.out | apply IsS43.alloc | apply IsS43.drewN | apply IsS43.drew | apply IsS43.set_0 | apply IsS43.set_1 | apply IsS43.set_2) | exact HI245.out | simp only [*])) (by (with_reducible repeat (first | apply Kd.R_alloc | apply Kd.R_drewN | apply Kd.R_drew)); exact HO_16.out) (by decide)) hk (fun _ h => h.2)) (fun _ h => h.1)); have n3_ := Aside0.mk (IsS43.kept (show IsS43 w _ g237 t291 t292 t293 from by repeat (first | (with_reducible first | exact HI237.out | apply IsS43.alloc | apply IsS43.drewN | apply IsS43.drew | apply IsS43.set_0 | apply IsS43.set_1 | apply IsS43.set_2) | exact HI237.out | simp only [*])) (Kept.of_keep (S := fun k_ => k_ = g245) (Kept.refl _ _) hk (.inl rfl)) NB237_245.out); have n4_ := Aside0.mk (IsS43.kept (show IsS43 w _ g241 t287 t288 t289 from by repeat (first | (with_reducible first | exact HI241.out | apply IsS43.alloc | apply IsS43.drewN | apply IsS43.drew | apply IsS43.set_0 | apply IsS43.set_1 | apply IsS43.set_2) | exact HI241.out | simp only [*])) (Kept.of_keep (S := fun k_ => k_ = g245) (Kept.refl _ _) hk (.inl rfl)) NB241_245.out); have n5_ := Aside0.mk (hb); have n6_ := Aside0.mk (hi); clear HO_10; clear HO_12; clear HO_16; clear HI237; clear HI241; clear HB; clear HI245; have HO_10 := n0_; have HO_12 := n1_; have HO_16 := n2_; have HI237 := n3_; have HI241 := n4_; have HB := n5_; have HI245 := n6_; clear n0_ n1_ n2_ n3_ n4_ n5_ n6_; (try clear hb); (try clear hb2); (try clear hk); (try clear hi)))
                  go_ret
                  exact ⟨by first | rfl | (simp [errW_none, errW_some] <;> rfl) | (simp only [← hji48]; first | rfl | (simp [errW_none, errW_some] <;> rfl)) | (simp [*, errW_none, errW_some] <;> rfl), by repeat (first | (with_reducible first | exact HB.out | apply below_alloc | apply pw_below_drewN | apply below_drew1 | refine below_set ?_ (IsS43.ge HI237.out) | refine below_set ?_ (IsS43.ge HI241.out) | refine below_set ?_ (IsS43.ge HI245.out)) | exact HB.out)⟩
                 ·
                  rw [if_neg c53] at H
                  have c53b0 : (t282 == t286) = false := beq_eq_false_iff_ne.mpr c53
                  have c53b1 : (t282 != t286) = true := bne_iff_ne.mpr c53
                  exact absurd ((Option.some.inj H).trans HT.out) (by decide)
                ·
                 rw [if_neg c50] at H
                 have c50b0 : (x17_3 == t249) = false := beq_eq_false_iff_ne.mpr c50
                 have c50b1 : (x17_3 != t249) = true := bne_iff_ne.mpr c50
                 exact absurd ((Option.some.inj H).trans HT.out) (by decide)
               ·
                rw [if_neg c49] at H
                have c49b0 : ((ji48) == t249) = false := beq_eq_false_iff_ne.mpr c49
                have c49b1 : ((ji48) != t249) = true := bne_iff_ne.mpr c49
                exact absurd ((Option.some.inj H).trans HT.out) (by decide)
              ·
               replace c47 := Bool.eq_false_iff.mpr c47
               subst c47
               have H1 : (some false) = some r := by rw [if_neg (show ¬ (false = true) by decide)] at H; exact H
               clear H
               have H := H1
               clear H1
               exact absurd ((Option.some.inj H).trans HT.out) (by decide)
             ·
              replace c45 := Bool.eq_false_iff.mpr c45
              subst c45
              have H1 : (some false) = some r := by rw [if_neg (show ¬ (false = true) by decide)] at H; exact H
              clear H
              have H := H1
              clear H1
              exact absurd ((Option.some.inj H).trans HT.out) (by decide)
         ·
          rw [if_neg c27] at H
          exact absurd H (by simp)
        ·
         rw [if_neg c22] at H
         exact absurd H (by simp)
       ·
        rw [if_neg c21] at H
        exact absurd H (by simp)
 ·
  replace c5 := Bool.eq_false_iff.mpr c5
  subst c5
  have H1 : (some false) = some r := by rw [if_neg (show ¬ (false = true) by decide)] at H; exact H
  clear H
  have H := H1
  clear H1
  exact absurd ((Option.some.inj H).trans HT.out) (by decide)

/-- THE ONE PURE STATEMENT of nunciolaw15_FeedPieces: yours. -/
def nunciolaw15_FeedPieces.Pure : Prop := ∀ (a0 : Bool) (a1 : ByteArray) (a2 : Int), a1.size ≤ 140737488351232 → (Lit.int .i64 a2).wf = true → ∃ k, nunciolaw15_FeedPieces.f k a0 a1 a2 = some true
theorem nunciolaw15_FeedPieces.walk (P : nunciolaw15_FeedPieces.Pure) (a0 : Bool) (a1 : ByteArray) (a2 : Int) (w : World) (w1 : a1.size ≤ 140737488351232) (w2 : (Lit.int .i64 a2).wf = true) :
  Calls Try.prog 4 #[.bool a0, .string a1, .int .i64 a2] w fun e w' => e = .returned (.bool true) ∧ Below w.heap.size w w' := by
 obtain ⟨k, h⟩ := P a0 a1 a2 w1 w2
 refine (nunciolaw15_FeedPieces.calls k a0 a1 a2 true w h rfl).mono ?_
 rintro e w' ⟨rfl, hd⟩
 exact ⟨rfl, hd⟩

end Go.Proofs.Ytlglgfcdhflecaa.Mine
