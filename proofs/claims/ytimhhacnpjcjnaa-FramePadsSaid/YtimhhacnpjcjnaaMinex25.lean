-- Written by this repo's own printer (wip/print), which builds on the kit's.
import Derived.Test.YtimhhacnpjcjnaaMinex0
import Derived.Test.YtimhhacnpjcjnaaMinex10
import Derived.Test.YtimhhacnpjcjnaaMinex11
import Derived.Test.YtimhhacnpjcjnaaMinex13
import Derived.Test.YtimhhacnpjcjnaaMinex16
namespace Go.Proofs.Ytimhhacnpjcjnaa.Mine
open Go.RowKit Go.Proofs.YtimhhacnpjcjnaaW.PrintWords Go.Proofs.YtimhhacnpjcjnaaW.PrintLast Go.Proofs.YtimhhacnpjcjnaaW.PrintMore
attribute [local go_sem] max2_int min2_int max_two min_two max_three min_three max_four min_four   -- for this text's walks alone
set_option linter.unusedVariables false
set_option linter.unusedSimpArgs false

/-! ### nunciolaw14_FramePads: function 6 -/
def nunciolaw14_FramePads.j0 : Nat → Int → ByteArray → Int → Bool → Int → Bool → Option (Bool)
 | 0, _, _, _, _, _, _ => none
 | k + 1, x0, x1, x2, x3, x4, x32 => if x32 = true then (some true) else ((some (([x2] : List Int) : List Int)).bind fun y302 => (if x3 = true then ((nuncioref01_Put.f k (⟨#[]⟩ : ByteArray) (IntKind.u64.wrap (x4)) 4).bind fun t306 => (if (strOfNums y302).size + t306.size ≤ 9223372036854775807 then (if ((strOfNums y302).size + t306.size) + 1 ≤ 9223372036854775807 then (if (((strOfNums y302).size + t306.size) + 1) + x1.size ≤ 9223372036854775807 then (if 0 ≤ x2 then (if (x2 : Int).toNat ≤ 281474976710656 then ((some (List.replicate (x2 : Int).toNat 0 : List Int)).bind fun y307 => (if ((((strOfNums y302).size + t306.size) + 1) + x1.size) + (strOfNums y307).size ≤ 9223372036854775807 then ((frame_Wrong.f k 1 40 x0 (((((strOfNums y302) ++ t306) ++ (⟨#[7]⟩ : ByteArray)) ++ x1) ++ (strOfNums y307))).bind fun bt310 => (if bt310.1 = 0 then (if bt310.2 = 0 then ((frame_Content.f k 1 40 x0 (((((strOfNums y302) ++ t306) ++ (⟨#[7]⟩ : ByteArray)) ++ x1) ++ (strOfNums y307))).bind fun t312 => (if t312.toList = x1.toList then ((some (([x2] : List Int) : List Int)).bind fun y313 => (if (strOfNums y313).size + x1.size ≤ 9223372036854775807 then ((some (List.replicate (x2 : Int).toNat 0 : List Int)).bind fun y316 => (if ((strOfNums y313).size + x1.size) + (strOfNums y316).size ≤ 9223372036854775807 then ((frame_Content.f k 0 8 x0 (((strOfNums y313) ++ x1) ++ (strOfNums y316))).bind fun t319 => (some (t319.toList == x1.toList))) else (none))) else (none))) else (some false))) else (some false)) else (some false))) else (none))) else (none)) else (none)) else (none)) else (none)) else (none))) else (if (strOfNums y302).size + x1.size ≤ 9223372036854775807 then (if 0 ≤ x2 then (if (x2 : Int).toNat ≤ 281474976710656 then ((some (List.replicate (x2 : Int).toNat 0 : List Int)).bind fun y320 => (if ((strOfNums y302).size + x1.size) + (strOfNums y320).size ≤ 9223372036854775807 then ((frame_Wrong.f k 1 8 x0 (((strOfNums y302) ++ x1) ++ (strOfNums y320))).bind fun bt323 => (if bt323.1 = 0 then (if bt323.2 = 0 then ((frame_Content.f k 1 8 x0 (((strOfNums y302) ++ x1) ++ (strOfNums y320))).bind fun t325 => (if t325.toList = x1.toList then ((some (([x2] : List Int) : List Int)).bind fun y326 => (if (strOfNums y326).size + x1.size ≤ 9223372036854775807 then ((some (List.replicate (x2 : Int).toNat 0 : List Int)).bind fun y329 => (if ((strOfNums y326).size + x1.size) + (strOfNums y329).size ≤ 9223372036854775807 then ((frame_Content.f k 0 8 x0 (((strOfNums y326) ++ x1) ++ (strOfNums y329))).bind fun t332 => (some (t332.toList == x1.toList))) else (none))) else (none))) else (some false))) else (some false)) else (some false))) else (none))) else (none)) else (none)) else (none))))
def nunciolaw14_FramePads.f (k : Nat) (a0 : Int) (a1 : ByteArray) (a2 : Int) (a3 : Bool) (a4 : Int) : Option (Bool) := (nunciolaw14_awake.f k).bind fun t301 => (if t301 = true then (if (a1.size : Int) > 10000 then (nunciolaw14_FramePads.j0 k a0 a1 a2 a3 a4 true) else (if a0 = 0 then (nunciolaw14_FramePads.j0 k a0 a1 a2 a3 a4 true) else (if a0 > 2147483647 then (nunciolaw14_FramePads.j0 k a0 a1 a2 a3 a4 true) else (nunciolaw14_FramePads.j0 k a0 a1 a2 a3 a4 ((Int.tmod a4 2147483648) == a0))))) else (some false))
theorem nunciolaw14_FramePads.mono_l : ∀ k, (∀ y0 y1 y2 y3 y4 y5, LeO (nunciolaw14_FramePads.j0 k y0 y1 y2 y3 y4 y5) (nunciolaw14_FramePads.j0 (k + 1) y0 y1 y2 y3 y4 y5))
 | 0 => fun _ _ _ _ _ _ r h => by simp [nunciolaw14_FramePads.j0] at h
 | k + 1 => by
  have ih0 := nunciolaw14_FramePads.mono_l k
  ·
   intro y0 y1 y2 y3 y4 y5
   unfold nunciolaw14_FramePads.j0
   repeat' first
   | (with_reducible exact ih0 _ _ _ _ _ _)
   | (with_reducible exact frame_Content.mono _ _ _ _ _)
   | (with_reducible exact frame_Wrong.mono _ _ _ _ _)
   | (with_reducible exact nunciolaw14_awake.mono _)
   | (with_reducible exact nuncioref01_Put.mono _ _ _ _)
   | (with_reducible exact LeO.refl _)
   | (with_reducible exact LeO.none _)
   | (with_reducible refine LeO.ite ?_ ?_)
   | (with_reducible refine LeO.bind ?_ (fun _ => ?_))
   | exact ih0 _ _ _ _ _ _
   | exact frame_Content.mono _ _ _ _ _
   | exact frame_Wrong.mono _ _ _ _ _
   | exact nunciolaw14_awake.mono _
   | exact nuncioref01_Put.mono _ _ _ _
   | exact LeO.none _
   | refine LeO.ite ?_ ?_
   | refine LeO.bind ?_ (fun _ => ?_)
theorem nunciolaw14_FramePads.mono : ∀ a0 a1 a2 a3 a4 k, LeO (nunciolaw14_FramePads.f k a0 a1 a2 a3 a4) (nunciolaw14_FramePads.f (k + 1) a0 a1 a2 a3 a4) := by
 intro a0 a1 a2 a3 a4 k
 have ih0 := nunciolaw14_FramePads.mono_l k
 unfold nunciolaw14_FramePads.f
 repeat' first
   | (with_reducible exact ih0 _ _ _ _ _ _)
   | (with_reducible exact frame_Content.mono _ _ _ _ _)
   | (with_reducible exact frame_Wrong.mono _ _ _ _ _)
   | (with_reducible exact nunciolaw14_awake.mono _)
   | (with_reducible exact nuncioref01_Put.mono _ _ _ _)
   | (with_reducible exact LeO.refl _)
   | (with_reducible exact LeO.none _)
   | (with_reducible refine LeO.ite ?_ ?_)
   | (with_reducible refine LeO.bind ?_ (fun _ => ?_))
   | exact ih0 _ _ _ _ _ _
   | exact frame_Content.mono _ _ _ _ _
   | exact frame_Wrong.mono _ _ _ _ _
   | exact nunciolaw14_awake.mono _
   | exact nuncioref01_Put.mono _ _ _ _
   | exact LeO.none _
   | refine LeO.ite ?_ ?_
   | refine LeO.bind ?_ (fun _ => ?_)
def nunciolaw14_FramePads.T8 : Bool × List (List Nat × List Nat) := (true, [([], []), ([0], [0]), ([], []), ([2], [2]), ([3], [3]), ([1, 4], [1, 4]), ([5], [5]), ([0, 1, 2, 3, 4, 5, 6], []), ([7, 6, 4, 0, 1, 2, 3, 4, 5, 6], [6, 7])])
def nunciolaw14_FramePads.B8 : List Nat := [0, 1, 0, 4, 12, 31, 63, 127, 255]
theorem nunciolaw14_FramePads.tab8 : rtab .any (opsOf Try.f6 8) = nunciolaw14_FramePads.T8 := by kernel_rfl
theorem nunciolaw14_FramePads.bits8 : waitsOk nunciolaw14_FramePads.T8.2 nunciolaw14_FramePads.B8 = true := by kernel_rfl
def nunciolaw14_FramePads.T9 : Bool × List (List Nat × List Nat) := (true, [([], []), ([0], [0]), ([], []), ([1, 2], [1, 2]), ([], []), ([4, 4], [4]), ([5], [5]), ([3, 6], [3, 6]), ([0, 1, 2, 3, 4, 5, 6, 7], []), ([8, 7, 0, 1, 2, 3, 4, 5, 6, 7], [7, 8])])
def nunciolaw14_FramePads.B9 : List Nat := [0, 1, 0, 7, 0, 16, 48, 127, 255, 511]
theorem nunciolaw14_FramePads.tab9 : rtab .any (opsOf Try.f6 9) = nunciolaw14_FramePads.T9 := by kernel_rfl
theorem nunciolaw14_FramePads.bits9 : waitsOk nunciolaw14_FramePads.T9.2 nunciolaw14_FramePads.B9 = true := by kernel_rfl
def nunciolaw14_FramePads.T11 : Bool × List (List Nat × List Nat) := (true, [([], []), ([0], [0]), ([1], [1]), ([2], [2]), ([3, 2], [2, 3]), ([2, 4], [2, 4]), ([5, 2], [5]), ([6], [6]), ([7, 6, 6], [6, 7]), ([6], [6]), ([8, 9, 6], [6, 8, 9]), ([6, 10], [6, 10]), ([11, 8], [11]), ([12], [12]), ([12], [12]), ([14, 12], [12, 14]), ([15, 12], [12, 15]), ([12], [12]), ([16, 17, 12], [12, 16, 17]), ([12], [12]), ([19, 19, 12], [12, 19]), ([20, 12], [12, 20]), ([18, 21, 12], [12, 18, 21]), ([13, 22, 12], [12, 13, 22]), ([23, 12, 12], [12, 23]), ([12], [12]), ([24, 25, 12], [12, 24, 25]), ([12, 26], [12, 26]), ([27, 24, 0, 1, 2, 3, 4, 5, 6, 7, 8, 9, 10, 11, 12, 13, 14, 15, 16, 17, 18, 19, 20, 21, 22, 23, 24, 25, 26, 27], [27])])
def nunciolaw14_FramePads.B11 : List Nat := [0, 1, 3, 7, 15, 31, 63, 127, 255, 127, 1023, 2047, 4095, 8191, 8191, 24575, 57343, 8191, 253951, 8191, 532479, 1581055, 4186111, 8388607, 16777215, 8191, 67108863, 134217727, 268435455]
theorem nunciolaw14_FramePads.tab11 : rtab .any (opsOf Try.f6 11) = nunciolaw14_FramePads.T11 := by kernel_rfl
theorem nunciolaw14_FramePads.bits11 : waitsOk nunciolaw14_FramePads.T11.2 nunciolaw14_FramePads.B11 = true := by kernel_rfl
set_option maxHeartbeats 8000000 in
set_option maxRecDepth 100000 in
theorem nunciolaw14_FramePads.calls (k : Nat) (a0 : Int) (a1 : ByteArray) (a2 : Int) (a3 : Bool) (a4 : Int) (r : Bool) (w : World) (h : nunciolaw14_FramePads.f k a0 a1 a2 a3 a4 = some r) (hT : r = true) :
  Calls Try.prog 6 #[.int .u32 a0, .string a1, .int .u8 a2, .bool a3, .int .u32 a4] w fun e w' => e = .returned (.bool r) ∧ Below w.heap.size w w' := by
 have hu24 := Try.underlying24
 have HB := Aside0.mk (Below.refl w.heap.size w)
 have HT := Aside0.mk hT
 clear hT
 have H : ((nunciolaw14_awake.f k).bind fun t301 => (if t301 = true then (if (a1.size : Int) > 10000 then (nunciolaw14_FramePads.j0 k a0 a1 a2 a3 a4 true) else (if a0 = 0 then (nunciolaw14_FramePads.j0 k a0 a1 a2 a3 a4 true) else (if a0 > 2147483647 then (nunciolaw14_FramePads.j0 k a0 a1 a2 a3 a4 true) else (nunciolaw14_FramePads.j0 k a0 a1 a2 a3 a4 ((Int.tmod a4 2147483648) == a0))))) else (some false))) = some r := h
 clear h
 replace H := Option.bind_eq_some_iff.mp H
 obtain ⟨t301, A60, H⟩ := H
 replace H : (if t301 = true then (if (a1.size : Int) > 10000 then (nunciolaw14_FramePads.j0 k a0 a1 a2 a3 a4 true) else (if a0 = 0 then (nunciolaw14_FramePads.j0 k a0 a1 a2 a3 a4 true) else (if a0 > 2147483647 then (nunciolaw14_FramePads.j0 k a0 a1 a2 a3 a4 true) else (nunciolaw14_FramePads.j0 k a0 a1 a2 a3 a4 ((Int.tmod a4 2147483648) == a0))))) else (some false)) = some r := H
 have A6 := Aside0.mk A60
 clear A60
 by_cases c7 : t301 = true
 ·
  subst c7
  have H1 : (if (a1.size : Int) > 10000 then (nunciolaw14_FramePads.j0 k a0 a1 a2 a3 a4 true) else (if a0 = 0 then (nunciolaw14_FramePads.j0 k a0 a1 a2 a3 a4 true) else (if a0 > 2147483647 then (nunciolaw14_FramePads.j0 k a0 a1 a2 a3 a4 true) else (nunciolaw14_FramePads.j0 k a0 a1 a2 a3 a4 ((Int.tmod a4 2147483648) == a0))))) = some r := by rw [if_pos rfl] at H; exact H
  clear H
  have H := H1
  clear H1
  have HC8 := Aside0.mk H
  clear H
  go_enter Try.func6, Try.ntmps6
  go_upto_region 3 with (first | ((with_reducible refine gate_callee (f := 8) rfl ?_); refine goesL_ (some 14) rfl rfl Try.func8 (by kernel_rfl) rfl #[] rfl (by (try simp only [List.map_toArray, List.map_cons, List.map_nil]); first | done | rfl | (simp only [List.length_drop, List.length_take]; rfl)) ?_; (with_reducible refine (nunciolaw14_awake.calls k  true _ A6.out).mono ?_); rintro e w9 ⟨rfl, hb⟩; refine ⟨_, rfl, ?_⟩; have n0_ := Aside0.mk (below_step (by repeat (first | (with_reducible first | exact HB.out | apply below_alloc | apply pw_below_drewN | apply below_drew1) | exact HB.out)) hb); clear HB; have HB := n0_; clear n0_; (try clear hb); (try clear hb2); (try clear hk); (try clear hi)))
  (try simp only [Act.put, List.setIfInBounds_toArray, List.set_cons_zero, List.set_cons_succ])
  go_cut [32] (fun v32 wc => ∃ (kq : Nat) (x32_7 : Bool), v32 = .bool x32_7 ∧ Aside0 (nunciolaw14_FramePads.j0 kq a0 a1 a2 a3 a4 x32_7 = some r) ∧ Aside0 (kq ≤ k) ∧ Aside0 (Below w.heap.size w wc))
  case first =>
   have H := HC8.out
   clear HC8
   by_cases c10 : (a1.size : Int) > 10000
   ·
    rw [if_pos c10] at H
    have c10b0 : decide (10000 < (a1.size : Int)) = true := decide_eq_true c10
    have c10b1 : decide (10000 < a1.size) = true := decide_eq_true (by omega)
    clear c10
    (first | rw [c10b0] | (simp only [i64_w, i32_w]; rw [c10b0]) | skip)
    have H' := Aside0.mk H
    clear H
    go_wp2
    go_meet
    case rel => exact ⟨_, (true), (by first | rfl | (simp; done) | (simp [*]; done)), H', ⟨by first | omega | exact Nat.le_refl _⟩, ⟨by repeat (first | (with_reducible first | exact HB.out | apply below_alloc | apply pw_below_drewN | apply below_drew1) | exact HB.out)⟩⟩
   ·
    rw [if_neg c10] at H
    have c10b0 : decide (10000 < (a1.size : Int)) = false := decide_eq_false c10
    have c10b1 : decide (10000 < a1.size) = false := decide_eq_false (by omega)
    clear c10
    (first | rw [c10b0] | (simp only [i64_w, i32_w]; rw [c10b0]) | skip)
    by_cases c11 : a0 = 0
    ·
     rw [if_pos c11] at H
     have c11b0 : (a0 == 0) = true := beq_iff_eq.mpr c11
     have c11b1 : (a0 != 0) = false := bne_eq_false_iff_eq.mpr c11
     clear c11
     have H' := Aside0.mk H
     clear H
     go_wp2
     go_meet
     case rel => exact ⟨_, (true), (by first | rfl | (simp; done) | (simp [*]; done)), H', ⟨by first | omega | exact Nat.le_refl _⟩, ⟨by repeat (first | (with_reducible first | exact HB.out | apply below_alloc | apply pw_below_drewN | apply below_drew1) | exact HB.out)⟩⟩
    ·
     rw [if_neg c11] at H
     have c11b0 : (a0 == 0) = false := beq_eq_false_iff_ne.mpr c11
     have c11b1 : (a0 != 0) = true := bne_iff_ne.mpr c11
     by_cases c12 : a0 > 2147483647
     ·
      rw [if_pos c12] at H
      have c12b0 : decide (2147483647 < a0) = true := decide_eq_true c12
      clear c12
      have H' := Aside0.mk H
      clear H
      go_wp2
      go_meet
      case rel => exact ⟨_, (true), (by first | rfl | (simp; done) | (simp [*]; done)), H', ⟨by first | omega | exact Nat.le_refl _⟩, ⟨by repeat (first | (with_reducible first | exact HB.out | apply below_alloc | apply pw_below_drewN | apply below_drew1) | exact HB.out)⟩⟩
     ·
      rw [if_neg c12] at H
      have c12b0 : decide (2147483647 < a0) = false := decide_eq_false c12
      clear c12
      have H' := Aside0.mk H
      clear H
      go_wp2
      go_meet
      case rel => exact ⟨_, (((Int.tmod a4 2147483648) == a0)), (by first | rfl | (simp; done) | (simp [*]; done)), H', ⟨by first | omega | exact Nat.le_refl _⟩, ⟨by repeat (first | (with_reducible first | exact HB.out | apply below_alloc | apply pw_below_drewN | apply below_drew1) | exact HB.out)⟩⟩
  case rest =>
   clear HC8
   try clear c1
   try clear p2
   try clear c6
   try clear c7
   try clear c8
   try clear c10
   try clear c10b0
   try clear c10b1
   try clear c11
   try clear c11b0
   try clear c11b1
   try clear c12
   try clear c12b0
   obtain ⟨kq, x32_7, rfl, HA, HJ7, HB⟩ := hcut
   cases kq with
   | zero => exact absurd HA.out (by simp [nunciolaw14_FramePads.j0])
   | succ kj7 =>
    have H := HA.out
    clear HA
    simp only [nunciolaw14_FramePads.j0] at H
    by_cases c13 : x32_7 = true
    ·
     subst c13
     have H1 : (some true) = some r := by rw [if_pos rfl] at H; exact H
     clear H
     have H := H1
     clear H1
     obtain rfl := Option.some.inj H
     go_wp2
     go_ret
     exact ⟨by first | rfl | (simp [errW_none, errW_some] <;> rfl) | (simp [*, errW_none, errW_some] <;> rfl), by repeat (first | (with_reducible first | exact HB.out | apply below_alloc | apply pw_below_drewN | apply below_drew1) | exact HB.out)⟩
    ·
     replace c13 := Bool.eq_false_iff.mpr c13
     subst c13
     have H1 : ((some (([a2] : List Int) : List Int)).bind fun y302 => (if a3 = true then ((nuncioref01_Put.f kj7 (⟨#[]⟩ : ByteArray) (IntKind.u64.wrap (a4)) 4).bind fun t306 => (if (strOfNums y302).size + t306.size ≤ 9223372036854775807 then (if ((strOfNums y302).size + t306.size) + 1 ≤ 9223372036854775807 then (if (((strOfNums y302).size + t306.size) + 1) + a1.size ≤ 9223372036854775807 then (if 0 ≤ a2 then (if (a2 : Int).toNat ≤ 281474976710656 then ((some (List.replicate (a2 : Int).toNat 0 : List Int)).bind fun y307 => (if ((((strOfNums y302).size + t306.size) + 1) + a1.size) + (strOfNums y307).size ≤ 9223372036854775807 then ((frame_Wrong.f kj7 1 40 a0 (((((strOfNums y302) ++ t306) ++ (⟨#[7]⟩ : ByteArray)) ++ a1) ++ (strOfNums y307))).bind fun bt310 => (if bt310.1 = 0 then (if bt310.2 = 0 then ((frame_Content.f kj7 1 40 a0 (((((strOfNums y302) ++ t306) ++ (⟨#[7]⟩ : ByteArray)) ++ a1) ++ (strOfNums y307))).bind fun t312 => (if t312.toList = a1.toList then ((some (([a2] : List Int) : List Int)).bind fun y313 => (if (strOfNums y313).size + a1.size ≤ 9223372036854775807 then ((some (List.replicate (a2 : Int).toNat 0 : List Int)).bind fun y316 => (if ((strOfNums y313).size + a1.size) + (strOfNums y316).size ≤ 9223372036854775807 then ((frame_Content.f kj7 0 8 a0 (((strOfNums y313) ++ a1) ++ (strOfNums y316))).bind fun t319 => (some (t319.toList == a1.toList))) else (none))) else (none))) else (some false))) else (some false)) else (some false))) else (none))) else (none)) else (none)) else (none)) else (none)) else (none))) else (if (strOfNums y302).size + a1.size ≤ 9223372036854775807 then (if 0 ≤ a2 then (if (a2 : Int).toNat ≤ 281474976710656 then ((some (List.replicate (a2 : Int).toNat 0 : List Int)).bind fun y320 => (if ((strOfNums y302).size + a1.size) + (strOfNums y320).size ≤ 9223372036854775807 then ((frame_Wrong.f kj7 1 8 a0 (((strOfNums y302) ++ a1) ++ (strOfNums y320))).bind fun bt323 => (if bt323.1 = 0 then (if bt323.2 = 0 then ((frame_Content.f kj7 1 8 a0 (((strOfNums y302) ++ a1) ++ (strOfNums y320))).bind fun t325 => (if t325.toList = a1.toList then ((some (([a2] : List Int) : List Int)).bind fun y326 => (if (strOfNums y326).size + a1.size ≤ 9223372036854775807 then ((some (List.replicate (a2 : Int).toNat 0 : List Int)).bind fun y329 => (if ((strOfNums y326).size + a1.size) + (strOfNums y329).size ≤ 9223372036854775807 then ((frame_Content.f kj7 0 8 a0 (((strOfNums y326) ++ a1) ++ (strOfNums y329))).bind fun t332 => (some (t332.toList == a1.toList))) else (none))) else (none))) else (some false))) else (some false)) else (some false))) else (none))) else (none)) else (none)) else (none)))) = some r := by rw [if_neg (show ¬ (false = true) by decide)] at H; exact H
     clear H
     have H := H1
     clear H1
     obtain ⟨y302, hy302⟩ : ∃ y_ : List Int, y_ = (([a2] : List Int)) := ⟨_, rfl⟩
     replace H : (if a3 = true then ((nuncioref01_Put.f kj7 (⟨#[]⟩ : ByteArray) (IntKind.u64.wrap (a4)) 4).bind fun t306 => (if (strOfNums y302).size + t306.size ≤ 9223372036854775807 then (if ((strOfNums y302).size + t306.size) + 1 ≤ 9223372036854775807 then (if (((strOfNums y302).size + t306.size) + 1) + a1.size ≤ 9223372036854775807 then (if 0 ≤ a2 then (if (a2 : Int).toNat ≤ 281474976710656 then ((some (List.replicate (a2 : Int).toNat 0 : List Int)).bind fun y307 => (if ((((strOfNums y302).size + t306.size) + 1) + a1.size) + (strOfNums y307).size ≤ 9223372036854775807 then ((frame_Wrong.f kj7 1 40 a0 (((((strOfNums y302) ++ t306) ++ (⟨#[7]⟩ : ByteArray)) ++ a1) ++ (strOfNums y307))).bind fun bt310 => (if bt310.1 = 0 then (if bt310.2 = 0 then ((frame_Content.f kj7 1 40 a0 (((((strOfNums y302) ++ t306) ++ (⟨#[7]⟩ : ByteArray)) ++ a1) ++ (strOfNums y307))).bind fun t312 => (if t312.toList = a1.toList then ((some (([a2] : List Int) : List Int)).bind fun y313 => (if (strOfNums y313).size + a1.size ≤ 9223372036854775807 then ((some (List.replicate (a2 : Int).toNat 0 : List Int)).bind fun y316 => (if ((strOfNums y313).size + a1.size) + (strOfNums y316).size ≤ 9223372036854775807 then ((frame_Content.f kj7 0 8 a0 (((strOfNums y313) ++ a1) ++ (strOfNums y316))).bind fun t319 => (some (t319.toList == a1.toList))) else (none))) else (none))) else (some false))) else (some false)) else (some false))) else (none))) else (none)) else (none)) else (none)) else (none)) else (none))) else (if (strOfNums y302).size + a1.size ≤ 9223372036854775807 then (if 0 ≤ a2 then (if (a2 : Int).toNat ≤ 281474976710656 then ((some (List.replicate (a2 : Int).toNat 0 : List Int)).bind fun y320 => (if ((strOfNums y302).size + a1.size) + (strOfNums y320).size ≤ 9223372036854775807 then ((frame_Wrong.f kj7 1 8 a0 (((strOfNums y302) ++ a1) ++ (strOfNums y320))).bind fun bt323 => (if bt323.1 = 0 then (if bt323.2 = 0 then ((frame_Content.f kj7 1 8 a0 (((strOfNums y302) ++ a1) ++ (strOfNums y320))).bind fun t325 => (if t325.toList = a1.toList then ((some (([a2] : List Int) : List Int)).bind fun y326 => (if (strOfNums y326).size + a1.size ≤ 9223372036854775807 then ((some (List.replicate (a2 : Int).toNat 0 : List Int)).bind fun y329 => (if ((strOfNums y326).size + a1.size) + (strOfNums y329).size ≤ 9223372036854775807 then ((frame_Content.f kj7 0 8 a0 (((strOfNums y326) ++ a1) ++ (strOfNums y329))).bind fun t332 => (some (t332.toList == a1.toList))) else (none))) else (none))) else (some false))) else (some false)) else (some false))) else (none))) else (none)) else (none)) else (none))) = some r := by first | (rw [hy302]; with_reducible exact H) | (have H2_ := (Option.bind_some _ _).symm.trans H; rw [hy302]; with_reducible exact H2_) | (have H2_ := (Option.bind_some _ _).symm.trans H; with_reducible exact H2_) | with_reducible exact H | (rw [hy302]; exact H) | exact H
     have Ny302 := Aside0.mk hy302
     clear hy302
     by_cases c14 : a3 = true
     ·
      subst c14
      have H1 : ((nuncioref01_Put.f kj7 (⟨#[]⟩ : ByteArray) (IntKind.u64.wrap (a4)) 4).bind fun t306 => (if (strOfNums y302).size + t306.size ≤ 9223372036854775807 then (if ((strOfNums y302).size + t306.size) + 1 ≤ 9223372036854775807 then (if (((strOfNums y302).size + t306.size) + 1) + a1.size ≤ 9223372036854775807 then (if 0 ≤ a2 then (if (a2 : Int).toNat ≤ 281474976710656 then ((some (List.replicate (a2 : Int).toNat 0 : List Int)).bind fun y307 => (if ((((strOfNums y302).size + t306.size) + 1) + a1.size) + (strOfNums y307).size ≤ 9223372036854775807 then ((frame_Wrong.f kj7 1 40 a0 (((((strOfNums y302) ++ t306) ++ (⟨#[7]⟩ : ByteArray)) ++ a1) ++ (strOfNums y307))).bind fun bt310 => (if bt310.1 = 0 then (if bt310.2 = 0 then ((frame_Content.f kj7 1 40 a0 (((((strOfNums y302) ++ t306) ++ (⟨#[7]⟩ : ByteArray)) ++ a1) ++ (strOfNums y307))).bind fun t312 => (if t312.toList = a1.toList then ((some (([a2] : List Int) : List Int)).bind fun y313 => (if (strOfNums y313).size + a1.size ≤ 9223372036854775807 then ((some (List.replicate (a2 : Int).toNat 0 : List Int)).bind fun y316 => (if ((strOfNums y313).size + a1.size) + (strOfNums y316).size ≤ 9223372036854775807 then ((frame_Content.f kj7 0 8 a0 (((strOfNums y313) ++ a1) ++ (strOfNums y316))).bind fun t319 => (some (t319.toList == a1.toList))) else (none))) else (none))) else (some false))) else (some false)) else (some false))) else (none))) else (none)) else (none)) else (none)) else (none)) else (none))) = some r := by rw [if_pos rfl] at H; exact H
      clear H
      have H := H1
      clear H1
      replace H := Option.bind_eq_some_iff.mp H
      obtain ⟨t306, A150, H⟩ := H
      replace H : (if (strOfNums y302).size + t306.size ≤ 9223372036854775807 then (if ((strOfNums y302).size + t306.size) + 1 ≤ 9223372036854775807 then (if (((strOfNums y302).size + t306.size) + 1) + a1.size ≤ 9223372036854775807 then (if 0 ≤ a2 then (if (a2 : Int).toNat ≤ 281474976710656 then ((some (List.replicate (a2 : Int).toNat 0 : List Int)).bind fun y307 => (if ((((strOfNums y302).size + t306.size) + 1) + a1.size) + (strOfNums y307).size ≤ 9223372036854775807 then ((frame_Wrong.f kj7 1 40 a0 (((((strOfNums y302) ++ t306) ++ (⟨#[7]⟩ : ByteArray)) ++ a1) ++ (strOfNums y307))).bind fun bt310 => (if bt310.1 = 0 then (if bt310.2 = 0 then ((frame_Content.f kj7 1 40 a0 (((((strOfNums y302) ++ t306) ++ (⟨#[7]⟩ : ByteArray)) ++ a1) ++ (strOfNums y307))).bind fun t312 => (if t312.toList = a1.toList then ((some (([a2] : List Int) : List Int)).bind fun y313 => (if (strOfNums y313).size + a1.size ≤ 9223372036854775807 then ((some (List.replicate (a2 : Int).toNat 0 : List Int)).bind fun y316 => (if ((strOfNums y313).size + a1.size) + (strOfNums y316).size ≤ 9223372036854775807 then ((frame_Content.f kj7 0 8 a0 (((strOfNums y313) ++ a1) ++ (strOfNums y316))).bind fun t319 => (some (t319.toList == a1.toList))) else (none))) else (none))) else (some false))) else (some false)) else (some false))) else (none))) else (none)) else (none)) else (none)) else (none)) else (none)) = some r := H
      have A15 := Aside0.mk A150
      clear A150
      by_cases c16 : (strOfNums y302).size + t306.size ≤ 9223372036854775807
      ·
       rw [if_pos c16] at H
       have c16b0 := eq_true c16
       have c16b1 : decide ((strOfNums y302).size + t306.size ≤ 9223372036854775807) = true := decide_eq_true c16
       try have c16b2 : (9223372036854775807 < (strOfNums y302).size + t306.size) = False := eq_false (Nat.not_lt.2 c16)
       by_cases c17 : ((strOfNums y302).size + t306.size) + 1 ≤ 9223372036854775807
       ·
        rw [if_pos c17] at H
        have c17b0 := eq_true c17
        have c17b1 : decide (((strOfNums y302).size + t306.size) + 1 ≤ 9223372036854775807) = true := decide_eq_true c17
        try have c17b2 : (9223372036854775807 < ((strOfNums y302).size + t306.size) + 1) = False := eq_false (Nat.not_lt.2 c17)
        by_cases c18 : (((strOfNums y302).size + t306.size) + 1) + a1.size ≤ 9223372036854775807
        ·
         rw [if_pos c18] at H
         have c18b0 := eq_true c18
         have c18b1 : decide ((((strOfNums y302).size + t306.size) + 1) + a1.size ≤ 9223372036854775807) = true := decide_eq_true c18
         try have c18b2 : (9223372036854775807 < (((strOfNums y302).size + t306.size) + 1) + a1.size) = False := eq_false (Nat.not_lt.2 c18)
         by_cases c19 : 0 ≤ a2
         ·
          rw [if_pos c19] at H
          have c19b0 := eq_true c19
          have c19b1 : decide (0 ≤ a2) = true := decide_eq_true c19
          clear c19
          by_cases c20 : (a2 : Int).toNat ≤ 281474976710656
          ·
           rw [if_pos c20] at H
           have c20b0 := eq_true c20
           have c20b1 : decide ((a2 : Int).toNat ≤ 281474976710656) = true := decide_eq_true c20
           clear c20
           obtain ⟨y307, hy307⟩ : ∃ y_ : List Int, y_ = (List.replicate (a2 : Int).toNat 0) := ⟨_, rfl⟩
           replace H : (if ((((strOfNums y302).size + t306.size) + 1) + a1.size) + (strOfNums y307).size ≤ 9223372036854775807 then ((frame_Wrong.f kj7 1 40 a0 (((((strOfNums y302) ++ t306) ++ (⟨#[7]⟩ : ByteArray)) ++ a1) ++ (strOfNums y307))).bind fun bt310 => (if bt310.1 = 0 then (if bt310.2 = 0 then ((frame_Content.f kj7 1 40 a0 (((((strOfNums y302) ++ t306) ++ (⟨#[7]⟩ : ByteArray)) ++ a1) ++ (strOfNums y307))).bind fun t312 => (if t312.toList = a1.toList then ((some (([a2] : List Int) : List Int)).bind fun y313 => (if (strOfNums y313).size + a1.size ≤ 9223372036854775807 then ((some (List.replicate (a2 : Int).toNat 0 : List Int)).bind fun y316 => (if ((strOfNums y313).size + a1.size) + (strOfNums y316).size ≤ 9223372036854775807 then ((frame_Content.f kj7 0 8 a0 (((strOfNums y313) ++ a1) ++ (strOfNums y316))).bind fun t319 => (some (t319.toList == a1.toList))) else (none))) else (none))) else (some false))) else (some false)) else (some false))) else (none)) = some r := by first | (rw [hy307]; with_reducible exact H) | (have H2_ := (Option.bind_some _ _).symm.trans H; rw [hy307]; with_reducible exact H2_) | (have H2_ := (Option.bind_some _ _).symm.trans H; with_reducible exact H2_) | with_reducible exact H | (rw [hy307]; exact H) | exact H
           have Ny307 := Aside0.mk hy307
           clear hy307
           by_cases c21 : ((((strOfNums y302).size + t306.size) + 1) + a1.size) + (strOfNums y307).size ≤ 9223372036854775807
           ·
            rw [if_pos c21] at H
            have c21b0 := eq_true c21
            have c21b1 : decide (((((strOfNums y302).size + t306.size) + 1) + a1.size) + (strOfNums y307).size ≤ 9223372036854775807) = true := decide_eq_true c21
            try have c21b2 : (9223372036854775807 < ((((strOfNums y302).size + t306.size) + 1) + a1.size) + (strOfNums y307).size) = False := eq_false (Nat.not_lt.2 c21)
            replace H := Option.bind_eq_some_iff.mp H
            obtain ⟨⟨t310, t311⟩, A220, H⟩ := H
            replace H : (if t310 = 0 then (if t311 = 0 then ((frame_Content.f kj7 1 40 a0 (((((strOfNums y302) ++ t306) ++ (⟨#[7]⟩ : ByteArray)) ++ a1) ++ (strOfNums y307))).bind fun t312 => (if t312.toList = a1.toList then ((some (([a2] : List Int) : List Int)).bind fun y313 => (if (strOfNums y313).size + a1.size ≤ 9223372036854775807 then ((some (List.replicate (a2 : Int).toNat 0 : List Int)).bind fun y316 => (if ((strOfNums y313).size + a1.size) + (strOfNums y316).size ≤ 9223372036854775807 then ((frame_Content.f kj7 0 8 a0 (((strOfNums y313) ++ a1) ++ (strOfNums y316))).bind fun t319 => (some (t319.toList == a1.toList))) else (none))) else (none))) else (some false))) else (some false)) else (some false)) = some r := H
            have A22 := Aside0.mk A220
            clear A220
            by_cases c23 : t310 = 0
            ·
             rw [if_pos c23] at H
             have c23b0 : (t310 == 0) = true := beq_iff_eq.mpr c23
             have c23b1 : (t310 != 0) = false := bne_eq_false_iff_eq.mpr c23
             clear c23
             by_cases c24 : t311 = 0
             ·
              rw [if_pos c24] at H
              have c24b0 : (t311 == 0) = true := beq_iff_eq.mpr c24
              have c24b1 : (t311 != 0) = false := bne_eq_false_iff_eq.mpr c24
              clear c24
              replace H := Option.bind_eq_some_iff.mp H
              obtain ⟨t312, A250, H⟩ := H
              replace H : (if t312.toList = a1.toList then ((some (([a2] : List Int) : List Int)).bind fun y313 => (if (strOfNums y313).size + a1.size ≤ 9223372036854775807 then ((some (List.replicate (a2 : Int).toNat 0 : List Int)).bind fun y316 => (if ((strOfNums y313).size + a1.size) + (strOfNums y316).size ≤ 9223372036854775807 then ((frame_Content.f kj7 0 8 a0 (((strOfNums y313) ++ a1) ++ (strOfNums y316))).bind fun t319 => (some (t319.toList == a1.toList))) else (none))) else (none))) else (some false)) = some r := H
              have A25 := Aside0.mk A250
              clear A250
              by_cases c26 : t312.toList = a1.toList
              ·
               rw [if_pos c26] at H
               have c26b0 : (t312.toList == a1.toList) = true := beq_iff_eq.mpr c26
               have c26b1 : (t312.toList != a1.toList) = false := bne_eq_false_iff_eq.mpr c26
               clear c26
               obtain ⟨y313, hy313⟩ : ∃ y_ : List Int, y_ = (([a2] : List Int)) := ⟨_, rfl⟩
               replace H : (if (strOfNums y313).size + a1.size ≤ 9223372036854775807 then ((some (List.replicate (a2 : Int).toNat 0 : List Int)).bind fun y316 => (if ((strOfNums y313).size + a1.size) + (strOfNums y316).size ≤ 9223372036854775807 then ((frame_Content.f kj7 0 8 a0 (((strOfNums y313) ++ a1) ++ (strOfNums y316))).bind fun t319 => (some (t319.toList == a1.toList))) else (none))) else (none)) = some r := by first | (rw [hy313]; with_reducible exact H) | (have H2_ := (Option.bind_some _ _).symm.trans H; rw [hy313]; with_reducible exact H2_) | (have H2_ := (Option.bind_some _ _).symm.trans H; with_reducible exact H2_) | with_reducible exact H | (rw [hy313]; exact H) | exact H
               have Ny313 := Aside0.mk hy313
               clear hy313
               by_cases c27 : (strOfNums y313).size + a1.size ≤ 9223372036854775807
               ·
                rw [if_pos c27] at H
                have c27b0 := eq_true c27
                have c27b1 : decide ((strOfNums y313).size + a1.size ≤ 9223372036854775807) = true := decide_eq_true c27
                try have c27b2 : (9223372036854775807 < (strOfNums y313).size + a1.size) = False := eq_false (Nat.not_lt.2 c27)
                obtain ⟨y316, hy316⟩ : ∃ y_ : List Int, y_ = (List.replicate (a2 : Int).toNat 0) := ⟨_, rfl⟩
                replace H : (if ((strOfNums y313).size + a1.size) + (strOfNums y316).size ≤ 9223372036854775807 then ((frame_Content.f kj7 0 8 a0 (((strOfNums y313) ++ a1) ++ (strOfNums y316))).bind fun t319 => (some (t319.toList == a1.toList))) else (none)) = some r := by first | (rw [hy316]; with_reducible exact H) | (have H2_ := (Option.bind_some _ _).symm.trans H; rw [hy316]; with_reducible exact H2_) | (have H2_ := (Option.bind_some _ _).symm.trans H; with_reducible exact H2_) | with_reducible exact H | (rw [hy316]; exact H) | exact H
                have Ny316 := Aside0.mk hy316
                clear hy316
                by_cases c28 : ((strOfNums y313).size + a1.size) + (strOfNums y316).size ≤ 9223372036854775807
                ·
                 rw [if_pos c28] at H
                 have c28b0 := eq_true c28
                 have c28b1 : decide (((strOfNums y313).size + a1.size) + (strOfNums y316).size ≤ 9223372036854775807) = true := decide_eq_true c28
                 try have c28b2 : (9223372036854775807 < ((strOfNums y313).size + a1.size) + (strOfNums y316).size) = False := eq_false (Nat.not_lt.2 c28)
                 replace H := Option.bind_eq_some_iff.mp H
                 obtain ⟨t319, A290, H⟩ := H
                 replace H : (some (t319.toList == a1.toList)) = some r := H
                 have A29 := Aside0.mk A290
                 clear A290
                 obtain rfl := Option.some.inj H
                 try go_wp2_with (first | ((with_reducible refine gate_dst (N := 35) rfl ?_); (try (refine gate_guard (by rfl) ?_; dsimp only)); refine Kd.R_lit (Kd.int .u8) _ 5 ?hg (N := 35) ?hd (xs := ([a2] : List Int)) (inner := [.int .u8 a2]) (ok := fun _ => True) (okp := fun _ => True) ?hr ?hp (fun _ hk => hk) trivial (Below.refl _ _) (Nat.le_refl _) (by simp) ?_; (case hd => rfl); (case hg => rfl); (case hr => first | (go_simp; done) | (go_simp; rfl)); (case hp => exact (Reps.one (show Kd.M (Kd.int .u8) _ _ _ a2 [.int .u8 a2] from rfl) (Reps.none _ _))); intro v303 w30 ho31 hb hg_ hnew_; clear hg_ hnew_; (first | rw [← Ny302.out] at ho31 | (simp only [Int.reduceToNat] at ho31; rw [← Ny302.out] at ho31)); have n0_ := Aside0.mk (Kd.R_lower ho31 (below_size (by repeat (first | (with_reducible first | exact HB.out | apply below_alloc | apply pw_below_drewN | apply below_drew1) | exact HB.out)))); have n1_ := Aside0.mk (below_step (by repeat (first | (with_reducible first | exact HB.out | apply below_alloc | apply pw_below_drewN | apply below_drew1) | exact HB.out)) hb); clear HB; have HO304 := n0_; have HB := n1_; clear n0_ n1_; clear hb ho31; have hcv32 := own_string (P := Try.prog) Try.underlying43 Try.underlying5 Try.underlying9 (Kd.own_of_R HO304.out)) | ((with_reducible refine gate_dst (N := 11) rfl ?_); (try (refine gate_guard (by rfl) ?_; dsimp only)); refine box_event ?hg (N := 11) ?hd (cs := #[.int .u8 0, .int .u8 0, .int .u32 0, .string (⟨#[]⟩ : ByteArray)]) (t := 24) ?hr ?_; (case hd => rfl); (case hg => rfl); (case hr => first | (go_simp; done) | (go_simp; rfl)); intro gb305 hg w33 hbox hb; have n0_ := Aside0.mk (Kd.R_below (by (with_reducible repeat (first | apply Kd.R_alloc | apply Kd.R_drewN | apply Kd.R_drew)); exact HO304.out) hb); have n1_ := Aside0.mk (below_step (by repeat (first | (with_reducible first | exact HB.out | apply below_alloc | apply pw_below_drewN | apply below_drew1) | exact HB.out)) hb); have n2_ := Aside0.mk (hbox); have n3_ := Aside0.mk ((by rw [hg]; exact (below_size (by repeat (first | (with_reducible first | exact HB.out | apply below_alloc | apply pw_below_drewN | apply below_drew1) | exact HB.out))) : w.heap.size ≤ gb305)); have n4_ := Aside0.mk ((by rw [hg]; exact (below_size (by repeat (first | (with_reducible first | exact HB.out | apply below_alloc | apply pw_below_drewN | apply below_drew1) | exact HB.out))) : w.heap.size ≤ gb305)); clear HO304; clear HB; have HO304 := n0_; have HB := n1_; have BK305 := n2_; have GW305 := n3_; have GE305 := n4_; clear n0_ n1_ n2_ n3_ n4_; clear hb hbox hg; have hcz34_0 : w33.cell? ⟨gb305, 0, none⟩ = some (.int .u8 0) := (blk_cell BK305.out 0).trans rfl; have hcz34_1 : w33.cell? ⟨gb305, 1, none⟩ = some (.int .u8 0) := (blk_cell BK305.out 1).trans rfl; have hcz34_2 : w33.cell? ⟨gb305, 2, none⟩ = some (.int .u32 0) := (blk_cell BK305.out 2).trans rfl; have hcz34_3 : w33.cell? ⟨gb305, 3, none⟩ = some (.string (⟨#[]⟩ : ByteArray)) := (blk_cell BK305.out 3).trans rfl; have hfz34_0 := blk_frozen BK305.out 0; have hfz34_1 := blk_frozen BK305.out 1; have hfz34_2 := blk_frozen BK305.out 2; have hfz34_3 := blk_frozen BK305.out 3))
                 have n0_ : Aside0 (Kd.R (Kd.int .u8) 5 (((((w33.setCell ⟨gb305, 0, none⟩ (.int .u8 1)).setCell ⟨gb305, 1, none⟩ (.int .u8 8)).setCell ⟨gb305, 2, none⟩ (.int .u32 a0)).setCell ⟨gb305, 3, none⟩ (.string (strOfNums y302))).setCell ⟨gb305, 1, none⟩ (.int .u8 40)) w.heap.size (fun _ => True) v303 y302) := ⟨by (with_reducible repeat (first | apply Kd.R_alloc | apply Kd.R_drewN | apply Kd.R_drew)); exact Kd.R_mono (Kd.R_far (p := ⟨gb305, 1, none⟩) (Kd.R_far (p := ⟨gb305, 3, none⟩) (Kd.R_far (p := ⟨gb305, 2, none⟩) (Kd.R_far (p := ⟨gb305, 1, none⟩) (Kd.R_far (p := ⟨gb305, 0, none⟩) (Kd.R_types HO304.out BK305.out (by decide)) (fun _ hk => hk.2) (.int .u8 1)) (fun _ hk => hk.2) (.int .u8 8)) (fun _ hk => hk.2) (.int .u32 a0)) (fun _ hk => hk.2) (.string (strOfNums y302))) (fun _ hk => hk.2) (.int .u8 40)) (fun _ hk => trivial)⟩
                 have n1_ : Aside0 ((((((w33.setCell ⟨gb305, 0, none⟩ (.int .u8 1)).setCell ⟨gb305, 1, none⟩ (.int .u8 8)).setCell ⟨gb305, 2, none⟩ (.int .u32 a0)).setCell ⟨gb305, 3, none⟩ (.string (strOfNums y302))).setCell ⟨gb305, 1, none⟩ (.int .u8 40)).heap[gb305]? = some (.cells #[.int .u8 1, .int .u8 40, .int .u32 a0, .string (strOfNums y302)] 24 (0, 0))) := ⟨by (with_reducible repeat (first | refine blk_drewN ?_ _ | refine blk_drew ?_ | refine blk_alloc ?_ _)); refine blk_put (cs := #[.int .u8 1, .int .u8 8, .int .u32 a0, .string (strOfNums y302)]) ?_ 1 _ rfl; (with_reducible repeat (first | refine blk_drewN ?_ _ | refine blk_drew ?_ | refine blk_alloc ?_ _)); refine blk_put (cs := #[.int .u8 1, .int .u8 8, .int .u32 a0, .string (⟨#[]⟩ : ByteArray)]) ?_ 3 _ rfl; (with_reducible repeat (first | refine blk_drewN ?_ _ | refine blk_drew ?_ | refine blk_alloc ?_ _)); refine blk_put (cs := #[.int .u8 1, .int .u8 8, .int .u32 0, .string (⟨#[]⟩ : ByteArray)]) ?_ 2 _ rfl; (with_reducible repeat (first | refine blk_drewN ?_ _ | refine blk_drew ?_ | refine blk_alloc ?_ _)); refine blk_put (cs := #[.int .u8 1, .int .u8 0, .int .u32 0, .string (⟨#[]⟩ : ByteArray)]) ?_ 1 _ rfl; (with_reducible repeat (first | refine blk_drewN ?_ _ | refine blk_drew ?_ | refine blk_alloc ?_ _)); refine blk_put (cs := #[.int .u8 0, .int .u8 0, .int .u32 0, .string (⟨#[]⟩ : ByteArray)]) ?_ 0 _ rfl; (with_reducible repeat (first | refine blk_drewN ?_ _ | refine blk_drew ?_ | refine blk_alloc ?_ _)); exact BK305.out⟩
                 have n2_ : Aside0 (Below w.heap.size w (((((w33.setCell ⟨gb305, 0, none⟩ (.int .u8 1)).setCell ⟨gb305, 1, none⟩ (.int .u8 8)).setCell ⟨gb305, 2, none⟩ (.int .u32 a0)).setCell ⟨gb305, 3, none⟩ (.string (strOfNums y302))).setCell ⟨gb305, 1, none⟩ (.int .u8 40))) := ⟨by repeat (first | (with_reducible first | exact HB.out | apply below_alloc | apply pw_below_drewN | apply below_drew1 | refine below_set ?_ GE305.out) | exact HB.out)⟩
                 (try clear HO304)
                 (try clear BK305)
                 (try clear HB)
                 generalize (((((w33.setCell ⟨gb305, 0, none⟩ (.int .u8 1)).setCell ⟨gb305, 1, none⟩ (.int .u8 8)).setCell ⟨gb305, 2, none⟩ (.int .u32 a0)).setCell ⟨gb305, 3, none⟩ (.string (strOfNums y302))).setCell ⟨gb305, 1, none⟩ (.int .u8 40)) = w35 at n0_ n1_ n2_ ⊢
                 have HO304 := n0_
                 have BK305 := n1_
                 have HB := n2_
                 clear n0_ n1_ n2_
                 have n0_ := Aside0.mk (Kd.R_drew HO304.out)
                 have n1_ := Aside0.mk (blk_drew BK305.out)
                 have n2_ := Aside0.mk (below_drew1 HB.out)
                 clear HO304
                 clear BK305
                 clear HB
                 have HO304 := n0_
                 have BK305 := n1_
                 have HB := n2_
                 clear n0_ n1_ n2_
                 refine start_ (n := 9) (S := fun w' => w'.cell? ⟨gb305, 0, none⟩ = some (.int .u8 1) ∧ w'.cell? ⟨gb305, 1, none⟩ = some (.int .u8 40) ∧ w'.cell? ⟨gb305, 2, none⟩ = some (.int .u32 a0) ∧ w'.cell? ⟨gb305, 3, none⟩ = some (.string (strOfNums y302))) (ds := [8]) #[false, false, false, false, false, false, false, false, false] (by kernel_rfl) rfl rfl ⟨(blk_cell BK305.out 0).trans rfl, (blk_cell BK305.out 1).trans rfl, (blk_cell BK305.out 2).trans rfl, (blk_cell BK305.out 3).trans rfl⟩ (fun hHeld => ?_); refine with_tabW nunciolaw14_FramePads.tab8 nunciolaw14_FramePads.bits8 (fun HT_ HW_ => ?_)
                 generalize w35.drew = w36 at HO304 BK305 HB hHeld ⊢
                 refine pure_ (i := 0) (N := some 40) (v := ?_) (a' := ?_) #[true, false, false, false, false, false, false, false, false] rfl rfl (any_of HT_.out (by kernel_rfl)) (fun _ _ _ h => h) (Or.inl ⟨by rfl, ?_⟩) ?_ ?_
                 rotate_left
                 ·
                  intro w'
                  go_simp
                  with_reducible rfl
                 rotate_left
                 ·
                  simp only [Act.put, List.setIfInBounds_toArray, List.set_cons_zero, List.set_cons_succ, i64_w, i32_w]
                  rfl
                 refine pure_ (i := 2) (N := some 42) (v := ?_) (a' := ?_) #[true, false, true, false, false, false, false, false, false] rfl rfl (any_of HT_.out (by kernel_rfl)) (fun _ _ _ h => h) (Or.inl ⟨by rfl, ?_⟩) ?_ ?_
                 rotate_left
                 ·
                  intro w'
                  go_simp
                  with_reducible rfl
                 rotate_left
                 ·
                  simp only [Act.put, List.setIfInBounds_toArray, List.set_cons_zero, List.set_cons_succ, i64_w, i32_w]
                  rfl
                 refine pure_ (i := 3) (N := some 43) (v := ?_) (a' := ?_) #[true, false, true, true, false, false, false, false, false] rfl rfl (any_of HT_.out (by kernel_rfl)) (fun _ _ _ h => h) (Or.inl ⟨by rfl, ?_⟩) ?_ ?_
                 rotate_left
                 ·
                  intro w'
                  go_simp
                  with_reducible rfl
                 rotate_left
                 ·
                  simp only [Act.put, List.setIfInBounds_toArray, List.set_cons_zero, List.set_cons_succ, i64_w, i32_w]
                  rfl
                 refine take_ (i := 1) (N := some 41) (v := ?_) (a' := ?_) #[true, true, true, true, false, false, false, false, false] rfl rfl (take_ofW HT_.out HW_.out (by kernel_rfl)) (fun _ _ _ h => h) (Or.inl ⟨by rfl, ?_⟩) hHeld ?_ ?_
                 rotate_left
                 ·
                  rintro w' ⟨s0, s1, s2, s3⟩
                  go_simp
                  with_reducible rfl
                 rotate_left
                 ·
                  simp only [Act.put, List.setIfInBounds_toArray, List.set_cons_zero, List.set_cons_succ, i64_w, i32_w]
                  rfl
                 refine one_ (i := 4) (N := some 44) #[true, true, true, true, true, false, false, false, false] rfl rfl (one_of HT_.out (by kernel_rfl)) (by decide) (fun K hK => ?_)
                 refine goes_ Try.func17 (by kernel_rfl) rfl #[.string (⟨#[]⟩ : ByteArray), .int .u64 (IntKind.u64.wrap (a4)), .int .i64 4] (by rfl) rfl rfl (by (try simp only [List.map_toArray, List.map_cons, List.map_nil]); first | done | rfl | (simp only [List.length_drop, List.length_take]; rfl)) ?_
                 with_reducible refine (nuncioref01_Put.calls kj7 (⟨#[]⟩ : ByteArray) (IntKind.u64.wrap (a4)) 4 t306 _ A15.out).mono ?_
                 rintro e w37 ⟨rfl, hb⟩
                 refine ⟨_, rfl, ?_⟩
                 have n0_ := Aside0.mk (Kd.R_below (by (with_reducible repeat (first | apply Kd.R_alloc | apply Kd.R_drewN | apply Kd.R_drew)); exact HO304.out) hb)
                 have n1_ := Aside0.mk (blk_below (g := gb305) (o := .cells #[.int .u8 1, .int .u8 40, .int .u32 a0, .string (strOfNums y302)] 24 (0, 0)) (by (with_reducible repeat (first | refine blk_drewN ?_ _ | refine blk_drew ?_ | refine blk_alloc ?_ _)); exact BK305.out) hb)
                 have n2_ := Aside0.mk (below_step (by repeat (first | (with_reducible first | exact HB.out | apply below_alloc | apply pw_below_drewN | apply below_drew1 | refine below_set ?_ GE305.out) | exact HB.out)) hb)
                 clear HO304
                 clear BK305
                 clear HB
                 have HO304 := n0_
                 have BK305 := n1_
                 have HB := n2_
                 clear n0_ n1_ n2_
                 (try clear hb)
                 (try clear hb2)
                 (try clear hk)
                 (try clear hi)
                 refine hK.out _ _ ⟨(blk_cell BK305.out 0).trans rfl, (blk_cell BK305.out 1).trans rfl, (blk_cell BK305.out 2).trans rfl, (blk_cell BK305.out 3).trans rfl⟩ (fun hHeld => ?_)
                 clear hK K
                 refine norm_ (a' := ?_) ?_ ?_
                 rotate_left
                 ·
                  show Act.put _ (some 44) _ = _
                  simp only [Act.put, List.setIfInBounds_toArray, List.set_cons_zero, List.set_cons_succ, i64_w, i32_w]
                  rfl
                 refine pure_ (i := 5) (N := some 45) (v := ?_) (a' := ?_) #[true, true, true, true, true, true, false, false, false] rfl rfl (any_of HT_.out (by kernel_rfl)) (fun _ _ _ h => h) (Or.inl ⟨by rfl, ?_⟩) ?_ ?_
                 rotate_left
                 ·
                  intro w'
                  go_simp
                  with_reducible rfl
                 rotate_left
                 ·
                  simp only [Act.put, List.setIfInBounds_toArray, List.set_cons_zero, List.set_cons_succ, i64_w, i32_w]
                  rfl
                 refine pure_ (i := 6) (N := some 46) (v := ?_) (a' := ?_) #[true, true, true, true, true, true, true, false, false] rfl rfl (any_of HT_.out (by kernel_rfl)) (fun _ _ _ h => h) (Or.inl ⟨by rfl, ?_⟩) ?_ ?_
                 rotate_left
                 ·
                  intro w'
                  go_simp
                  with_reducible rfl
                 rotate_left
                 ·
                  simp only [Act.put, List.setIfInBounds_toArray, List.set_cons_zero, List.set_cons_succ, i64_w, i32_w]
                  rfl
                 refine pure_ (i := 7) (N := some 47) (v := ?_) (a' := ?_) #[true, true, true, true, true, true, true, true, false] rfl rfl (any_of HT_.out (by kernel_rfl)) (fun _ _ _ h => h) (Or.inl ⟨by rfl, ?_⟩) ?_ ?_
                 rotate_left
                 ·
                  intro w'
                  go_simp
                  with_reducible rfl
                 rotate_left
                 ·
                  simp only [Act.put, List.setIfInBounds_toArray, List.set_cons_zero, List.set_cons_succ, i64_w, i32_w]
                  rfl
                 refine last_ (i := 8) (N := none) #[true, true, true, true, true, true, true, true, true] rfl rfl (one_of HT_.out (by kernel_rfl)) (by decide) (fun K hK => ?_)
                 have hs38 : w37.cell? ⟨gb305, 3, none⟩ = some (.string (strOfNums y302)) := (blk_cell BK305.out 3).trans rfl
                 have hfs38 := blk_frozen BK305.out 3
                 refine skip_ (w1 := ?_) (by rfl) rfl ?_ ?_
                 rotate_left
                 ·
                  go_simp
                  rfl
                 refine hK.out _ _ ?_
                 clear hK K
                 refine done_ (done_of HT_.out (by kernel_rfl)) ?_
                 try go_wp2
                 have n0_ : Aside0 (Kd.R (Kd.int .u8) 5 (w37.setCell ⟨gb305, 3, none⟩ (.string (((strOfNums y302) ++ t306) ++ (⟨#[7]⟩ : ByteArray)))) w.heap.size (fun _ => True) v303 y302) := ⟨by (with_reducible repeat (first | apply Kd.R_alloc | apply Kd.R_drewN | apply Kd.R_drew)); exact Kd.R_mono (Kd.R_far (p := ⟨gb305, 3, none⟩) (Kd.R_types HO304.out BK305.out (by decide)) (fun _ hk => hk.2) (.string (((strOfNums y302) ++ t306) ++ (⟨#[7]⟩ : ByteArray)))) (fun _ hk => trivial)⟩
                 have n1_ : Aside0 ((w37.setCell ⟨gb305, 3, none⟩ (.string (((strOfNums y302) ++ t306) ++ (⟨#[7]⟩ : ByteArray)))).heap[gb305]? = some (.cells #[.int .u8 1, .int .u8 40, .int .u32 a0, .string (((strOfNums y302) ++ t306) ++ (⟨#[7]⟩ : ByteArray))] 24 (0, 0))) := ⟨by (with_reducible repeat (first | refine blk_drewN ?_ _ | refine blk_drew ?_ | refine blk_alloc ?_ _)); refine blk_put (cs := #[.int .u8 1, .int .u8 40, .int .u32 a0, .string (strOfNums y302)]) ?_ 3 _ rfl; (with_reducible repeat (first | refine blk_drewN ?_ _ | refine blk_drew ?_ | refine blk_alloc ?_ _)); exact BK305.out⟩
                 have n2_ : Aside0 (Below w.heap.size w (w37.setCell ⟨gb305, 3, none⟩ (.string (((strOfNums y302) ++ t306) ++ (⟨#[7]⟩ : ByteArray))))) := ⟨by repeat (first | (with_reducible first | exact HB.out | apply below_alloc | apply pw_below_drewN | apply below_drew1 | refine below_set ?_ GE305.out) | exact HB.out)⟩
                 (try clear HO304)
                 (try clear BK305)
                 (try clear HB)
                 generalize (w37.setCell ⟨gb305, 3, none⟩ (.string (((strOfNums y302) ++ t306) ++ (⟨#[7]⟩ : ByteArray)))) = w39 at n0_ n1_ n2_ ⊢
                 have HO304 := n0_
                 have BK305 := n1_
                 have HB := n2_
                 clear n0_ n1_ n2_
                 have n0_ := Aside0.mk (Kd.R_drew HO304.out)
                 have n1_ := Aside0.mk (blk_drew BK305.out)
                 have n2_ := Aside0.mk (below_drew1 HB.out)
                 clear HO304
                 clear BK305
                 clear HB
                 have HO304 := n0_
                 have BK305 := n1_
                 have HB := n2_
                 clear n0_ n1_ n2_
                 refine start_ (n := 10) (S := fun w' => w'.cell? ⟨gb305, 0, none⟩ = some (.int .u8 1) ∧ w'.cell? ⟨gb305, 1, none⟩ = some (.int .u8 40) ∧ w'.cell? ⟨gb305, 2, none⟩ = some (.int .u32 a0) ∧ w'.cell? ⟨gb305, 3, none⟩ = some (.string (((strOfNums y302) ++ t306) ++ (⟨#[7]⟩ : ByteArray)))) (ds := [9]) #[false, false, false, false, false, false, false, false, false, false] (by kernel_rfl) rfl rfl ⟨(blk_cell BK305.out 0).trans rfl, (blk_cell BK305.out 1).trans rfl, (blk_cell BK305.out 2).trans rfl, (blk_cell BK305.out 3).trans rfl⟩ (fun hHeld => ?_); refine with_tabW nunciolaw14_FramePads.tab9 nunciolaw14_FramePads.bits9 (fun HT_ HW_ => ?_)
                 generalize w39.drew = w40 at HO304 BK305 HB hHeld ⊢
                 refine pure_ (i := 0) (N := some 48) (v := ?_) (a' := ?_) #[true, false, false, false, false, false, false, false, false, false] rfl rfl (any_of HT_.out (by kernel_rfl)) (fun _ _ _ h => h) (Or.inl ⟨by rfl, ?_⟩) ?_ ?_
                 rotate_left
                 ·
                  intro w'
                  go_simp
                  with_reducible rfl
                 rotate_left
                 ·
                  simp only [Act.put, List.setIfInBounds_toArray, List.set_cons_zero, List.set_cons_succ, i64_w, i32_w]
                  rfl
                 refine pure_ (i := 2) (N := some 50) (v := ?_) (a' := ?_) #[true, false, true, false, false, false, false, false, false, false] rfl rfl (any_of HT_.out (by kernel_rfl)) (fun _ _ _ h => h) (Or.inl ⟨by rfl, ?_⟩) ?_ ?_
                 rotate_left
                 ·
                  intro w'
                  go_simp
                  with_reducible rfl
                 rotate_left
                 ·
                  simp only [Act.put, List.setIfInBounds_toArray, List.set_cons_zero, List.set_cons_succ, i64_w, i32_w]
                  rfl
                 refine pure_ (i := 4) (N := some 52) (v := ?_) (a' := ?_) #[true, false, true, false, true, false, false, false, false, false] rfl rfl (any_of HT_.out (by kernel_rfl)) (fun _ _ _ h => h) (Or.inl ⟨by rfl, ?_⟩) ?_ ?_
                 rotate_left
                 ·
                  intro w'
                  go_simp
                  with_reducible rfl
                 rotate_left
                 ·
                  simp only [Act.put, List.setIfInBounds_toArray, List.set_cons_zero, List.set_cons_succ, i64_w, i32_w]
                  rfl
                 refine take_ (i := 1) (N := some 49) (v := ?_) (a' := ?_) #[true, true, true, false, true, false, false, false, false, false] rfl rfl (take_ofW HT_.out HW_.out (by kernel_rfl)) (fun _ _ _ h => h) (Or.inl ⟨by rfl, ?_⟩) hHeld ?_ ?_
                 rotate_left
                 ·
                  rintro w' ⟨s0, s1, s2, s3⟩
                  go_simp
                  with_reducible rfl
                 rotate_left
                 ·
                  simp only [Act.put, List.setIfInBounds_toArray, List.set_cons_zero, List.set_cons_succ, i64_w, i32_w]
                  rfl
                 refine pure_ (i := 3) (N := some 51) (v := ?_) (a' := ?_) #[true, true, true, true, true, false, false, false, false, false] rfl rfl (any_of HT_.out (by kernel_rfl)) (fun _ _ _ h => h) (Or.inl ⟨by rfl, ?_⟩) ?_ ?_
                 rotate_left
                 ·
                  intro w'
                  go_simp
                  with_reducible rfl
                 rotate_left
                 ·
                  simp only [Act.put, List.setIfInBounds_toArray, List.set_cons_zero, List.set_cons_succ, i64_w, i32_w]
                  rfl
                 refine one_ (i := 5) (N := some 53) #[true, true, true, true, true, true, false, false, false, false] rfl rfl (one_of HT_.out (by kernel_rfl)) (by decide) (fun K hK => ?_)
                 refine Kd.R_makek_step (Kd.int .u8) _ 5 (by rfl) (N := 53) rfl 43 _ _ rfl a2 rfl rfl Try.underlying43 (.int .u8 0) 1 info5 rfl (by decide) (by omega) 0 (ok := fun _ => True) (okp := fun _ => True) rfl (fun _ hk => hk) trivial (of_decide_eq_true (by first | (with_reducible assumption) | assumption)) (Nat.le_trans (Nat.mul_le_mul_right _ (of_decide_eq_true (by first | (with_reducible assumption) | assumption) : a2.toNat ≤ 281474976710656)) (by omega)) (Below.refl _ _) (Nat.le_refl _) ?_
                 intro v308 w41 ho42 hb hg_ hnew_
                 clear hg_ hnew_
                 (first | rw [← Ny307.out] at ho42 | (simp only [Int.reduceToNat] at ho42; rw [← Ny307.out] at ho42))
                 have n0_ := Aside0.mk (Kd.R_elder' (by (with_reducible repeat (first | apply Kd.R_alloc | apply Kd.R_drewN | apply Kd.R_drew)); exact HO304.out) (Kd.R_base ho42) hb)
                 have n1_ := Aside0.mk (Kd.R_lower (Kd.R_new' ho42 (Kd.R_lt (by (with_reducible repeat (first | apply Kd.R_alloc | apply Kd.R_drewN | apply Kd.R_drew)); exact HO304.out))) (below_size (by repeat (first | (with_reducible first | exact HB.out | apply below_alloc | apply pw_below_drewN | apply below_drew1 | refine below_set ?_ GE305.out) | exact HB.out))))
                 have n2_ := Aside0.mk (blk_below (g := gb305) (o := .cells #[.int .u8 1, .int .u8 40, .int .u32 a0, .string (((strOfNums y302) ++ t306) ++ (⟨#[7]⟩ : ByteArray))] 24 (0, 0)) (by (with_reducible repeat (first | refine blk_drewN ?_ _ | refine blk_drew ?_ | refine blk_alloc ?_ _)); exact BK305.out) hb)
                 have n3_ := Aside0.mk (below_step (by repeat (first | (with_reducible first | exact HB.out | apply below_alloc | apply pw_below_drewN | apply below_drew1 | refine below_set ?_ GE305.out) | exact HB.out)) hb)
                 clear HO304
                 clear BK305
                 clear HB
                 have HO304 := n0_
                 have HO309 := n1_
                 have BK305 := n2_
                 have HB := n3_
                 clear n0_ n1_ n2_ n3_
                 clear hb ho42
                 refine hK.out _ _ ⟨(blk_cell BK305.out 0).trans rfl, (blk_cell BK305.out 1).trans rfl, (blk_cell BK305.out 2).trans rfl, (blk_cell BK305.out 3).trans rfl⟩ (fun hHeld => ?_)
                 clear hK K
                 refine norm_ (a' := ?_) ?_ ?_
                 rotate_left
                 ·
                  show Act.put _ (some 53) _ = _
                  simp only [Act.put, List.setIfInBounds_toArray, List.set_cons_zero, List.set_cons_succ, i64_w, i32_w]
                  rfl
                 refine one_ (i := 6) (N := some 54) #[true, true, true, true, true, true, true, false, false, false] rfl rfl (one_of HT_.out (by kernel_rfl)) (by decide) (fun K hK => ?_)
                 have hcv43 := own_string (P := Try.prog) Try.underlying43 Try.underlying5 Try.underlying9 (Kd.own_of_R HO309.out)
                 refine value_ (w1 := ?_) (v := ?_) (by rfl) rfl ?_ ?_
                 rotate_left 2
                 ·
                  go_simp
                  constructor
                  · rfl
                  · rfl
                 clear hcv43
                 refine hK.out _ _ ⟨(blk_cell BK305.out 0).trans rfl, (blk_cell BK305.out 1).trans rfl, (blk_cell BK305.out 2).trans rfl, (blk_cell BK305.out 3).trans rfl⟩ (fun hHeld => ?_)
                 clear hK K
                 refine norm_ (a' := ?_) ?_ ?_
                 rotate_left
                 ·
                  show Act.put _ (some 54) _ = _
                  simp only [Act.put, List.setIfInBounds_toArray, List.set_cons_zero, List.set_cons_succ, i64_w, i32_w]
                  rfl
                 refine pure_ (i := 7) (N := some 55) (v := ?_) (a' := ?_) #[true, true, true, true, true, true, true, true, false, false] rfl rfl (any_of HT_.out (by kernel_rfl)) (fun _ _ _ h => h) (Or.inl ⟨by rfl, ?_⟩) ?_ ?_
                 rotate_left
                 ·
                  intro w'
                  go_simp
                  with_reducible rfl
                 rotate_left
                 ·
                  simp only [Act.put, List.setIfInBounds_toArray, List.set_cons_zero, List.set_cons_succ, i64_w, i32_w]
                  rfl
                 refine pure_ (i := 8) (N := some 56) (v := ?_) (a' := ?_) #[true, true, true, true, true, true, true, true, true, false] rfl rfl (any_of HT_.out (by kernel_rfl)) (fun _ _ _ h => h) (Or.inl ⟨by rfl, ?_⟩) ?_ ?_
                 rotate_left
                 ·
                  intro w'
                  go_simp
                  with_reducible rfl
                 rotate_left
                 ·
                  simp only [Act.put, List.setIfInBounds_toArray, List.set_cons_zero, List.set_cons_succ, i64_w, i32_w]
                  rfl
                 refine last_ (i := 9) (N := none) #[true, true, true, true, true, true, true, true, true, true] rfl rfl (one_of HT_.out (by kernel_rfl)) (by decide) (fun K hK => ?_)
                 have hs44 : w41.cell? ⟨gb305, 3, none⟩ = some (.string (((strOfNums y302) ++ t306) ++ (⟨#[7]⟩ : ByteArray))) := (blk_cell BK305.out 3).trans rfl
                 have hfs44 := blk_frozen BK305.out 3
                 refine skip_ (w1 := ?_) (by rfl) rfl ?_ ?_
                 rotate_left
                 ·
                  go_simp
                  rfl
                 refine hK.out _ _ ?_
                 clear hK K
                 refine done_ (done_of HT_.out (by kernel_rfl)) ?_
                 have hcz45_0 : w41.cell? ⟨gb305, 0, none⟩ = some (.int .u8 1) := (blk_cell BK305.out 0).trans rfl
                 have hcz45_1 : w41.cell? ⟨gb305, 1, none⟩ = some (.int .u8 40) := (blk_cell BK305.out 1).trans rfl
                 have hcz45_2 : w41.cell? ⟨gb305, 2, none⟩ = some (.int .u32 a0) := (blk_cell BK305.out 2).trans rfl
                 have hcz45_3 : w41.cell? ⟨gb305, 3, none⟩ = some (.string (((strOfNums y302) ++ t306) ++ (⟨#[7]⟩ : ByteArray))) := (blk_cell BK305.out 3).trans rfl
                 have hfz45_0 := blk_frozen BK305.out 0
                 have hfz45_1 := blk_frozen BK305.out 1
                 have hfz45_2 := blk_frozen BK305.out 2
                 have hfz45_3 := blk_frozen BK305.out 3
                 try go_wp2_with (first | ((with_reducible refine gate_callee (f := 13) rfl ?_); refine goesL_ (some 59) rfl rfl Try.func13 (by kernel_rfl) rfl #[.agg #[.int .u8 1, .int .u8 40, .int .u32 a0, .string (((((strOfNums y302) ++ t306) ++ (⟨#[7]⟩ : ByteArray)) ++ a1) ++ (strOfNums y307))]] rfl (by (try simp only [List.map_toArray, List.map_cons, List.map_nil]); first | done | rfl | (simp only [List.length_drop, List.length_take]; rfl)) ?_; (with_reducible refine (frame_Wrong.calls kj7 1 40 a0 (((((strOfNums y302) ++ t306) ++ (⟨#[7]⟩ : ByteArray)) ++ a1) ++ (strOfNums y307)) t310 t311 _ A22.out).mono ?_); rintro e w46 ⟨rfl, hb⟩; refine ⟨_, rfl, ?_⟩; have n0_ := Aside0.mk (Kd.R_below (by (with_reducible repeat (first | apply Kd.R_alloc | apply Kd.R_drewN | apply Kd.R_drew)); exact (Kd.R_mono (Kd.R_far (p := ⟨gb305, 3, none⟩) (Kd.R_types HO304.out BK305.out (by decide)) (fun _ hk => hk.2) (.string (((((strOfNums y302) ++ t306) ++ (⟨#[7]⟩ : ByteArray)) ++ a1) ++ (strOfNums y307)))) (fun _ h_ => h_.1))) hb); have n1_ := Aside0.mk (Kd.R_below (by (with_reducible repeat (first | apply Kd.R_alloc | apply Kd.R_drewN | apply Kd.R_drew)); exact (Kd.R_mono (Kd.R_far (p := ⟨gb305, 3, none⟩) (Kd.R_types HO309.out BK305.out (by decide)) (fun _ hk => hk.2) (.string (((((strOfNums y302) ++ t306) ++ (⟨#[7]⟩ : ByteArray)) ++ a1) ++ (strOfNums y307)))) (fun _ h_ => h_.1))) hb); have n2_ := Aside0.mk (blk_below (g := gb305) (o := .cells #[.int .u8 1, .int .u8 40, .int .u32 a0, .string (((((strOfNums y302) ++ t306) ++ (⟨#[7]⟩ : ByteArray)) ++ a1) ++ (strOfNums y307))] 24 (0, 0)) (by (with_reducible repeat (first | refine blk_drewN ?_ _ | refine blk_drew ?_ | refine blk_alloc ?_ _)); refine blk_put (cs := #[.int .u8 1, .int .u8 40, .int .u32 a0, .string (((strOfNums y302) ++ t306) ++ (⟨#[7]⟩ : ByteArray))]) ?_ 3 _ rfl; (with_reducible repeat (first | refine blk_drewN ?_ _ | refine blk_drew ?_ | refine blk_alloc ?_ _)); exact BK305.out) hb); have n3_ := Aside0.mk (below_step (by repeat (first | (with_reducible first | exact HB.out | apply below_alloc | apply pw_below_drewN | apply below_drew1 | refine below_set ?_ GE305.out) | exact HB.out)) hb); clear HO304; clear HO309; clear BK305; clear HB; have HO304 := n0_; have HO309 := n1_; have BK305 := n2_; have HB := n3_; clear n0_ n1_ n2_ n3_; (try clear hb); (try clear hb2); (try clear hk); (try clear hi)))
                 have n0_ := Aside0.mk (Kd.R_drew HO304.out)
                 have n1_ := Aside0.mk (Kd.R_drew HO309.out)
                 have n2_ := Aside0.mk (blk_drew BK305.out)
                 have n3_ := Aside0.mk (below_drew1 HB.out)
                 clear HO304
                 clear HO309
                 clear BK305
                 clear HB
                 have HO304 := n0_
                 have HO309 := n1_
                 have BK305 := n2_
                 have HB := n3_
                 clear n0_ n1_ n2_ n3_
                 refine start_ (n := 29) (S := fun w' => w'.cell? ⟨gb305, 0, none⟩ = some (.int .u8 1) ∧ w'.cell? ⟨gb305, 1, none⟩ = some (.int .u8 40) ∧ w'.cell? ⟨gb305, 2, none⟩ = some (.int .u32 a0) ∧ w'.cell? ⟨gb305, 3, none⟩ = some (.string (((((strOfNums y302) ++ t306) ++ (⟨#[7]⟩ : ByteArray)) ++ a1) ++ (strOfNums y307)))) (ds := []) #[false, false, false, false, false, false, false, false, false, false, false, false, false, false, false, false, false, false, false, false, false, false, false, false, false, false, false, false, false] (by kernel_rfl) rfl rfl ⟨(blk_cell BK305.out 0).trans rfl, (blk_cell BK305.out 1).trans rfl, (blk_cell BK305.out 2).trans rfl, (blk_cell BK305.out 3).trans rfl⟩ (fun hHeld => ?_); refine with_tabW nunciolaw14_FramePads.tab11 nunciolaw14_FramePads.bits11 (fun HT_ HW_ => ?_)
                 generalize w46.drew = w47 at HO304 HO309 BK305 HB hHeld ⊢
                 refine pure_ (i := 0) (N := some 62) (v := ?_) (a' := ?_) #[true, false, false, false, false, false, false, false, false, false, false, false, false, false, false, false, false, false, false, false, false, false, false, false, false, false, false, false, false] rfl rfl (any_of HT_.out (by kernel_rfl)) (fun _ _ _ h => h) (Or.inl ⟨by rfl, ?_⟩) ?_ ?_
                 rotate_left
                 ·
                  intro w'
                  go_simp
                  with_reducible rfl
                 rotate_left
                 ·
                  simp only [Act.put, List.setIfInBounds_toArray, List.set_cons_zero, List.set_cons_succ, i64_w, i32_w]
                  rfl
                 refine pure_ (i := 1) (N := some 63) (v := ?_) (a' := ?_) #[true, true, false, false, false, false, false, false, false, false, false, false, false, false, false, false, false, false, false, false, false, false, false, false, false, false, false, false, false] rfl rfl (any_of HT_.out (by kernel_rfl)) (fun _ _ _ h => h) (Or.inl ⟨by rfl, ?_⟩) ?_ ?_
                 rotate_left
                 ·
                  intro w'
                  go_simp
                  with_reducible rfl
                 rotate_left
                 ·
                  simp only [Act.put, List.setIfInBounds_toArray, List.set_cons_zero, List.set_cons_succ, i64_w, i32_w]
                  rfl
                 refine pure_ (i := 2) (N := some 64) (v := ?_) (a' := ?_) #[true, true, true, false, false, false, false, false, false, false, false, false, false, false, false, false, false, false, false, false, false, false, false, false, false, false, false, false, false] rfl rfl (any_of HT_.out (by kernel_rfl)) (fun _ _ _ h => h) (Or.inl ⟨by rfl, ?_⟩) ?_ ?_
                 rotate_left
                 ·
                  intro w'
                  go_simp
                  with_reducible rfl
                 rotate_left
                 ·
                  simp only [Act.put, List.setIfInBounds_toArray, List.set_cons_zero, List.set_cons_succ, i64_w, i32_w]
                  rfl
                 refine pure_ (i := 3) (N := some 65) (v := ?_) (a' := ?_) #[true, true, true, true, false, false, false, false, false, false, false, false, false, false, false, false, false, false, false, false, false, false, false, false, false, false, false, false, false] rfl rfl (any_of HT_.out (by kernel_rfl)) (fun _ _ _ h => h) (Or.inl ⟨by rfl, ?_⟩) ?_ ?_
                 rotate_left
                 ·
                  intro w'
                  go_simp
                  with_reducible rfl
                 rotate_left
                 ·
                  simp only [Act.put, List.setIfInBounds_toArray, List.set_cons_zero, List.set_cons_succ, i64_w, i32_w]
                  rfl
                 refine pure_ (i := 4) (N := some 66) (v := ?_) (a' := ?_) #[true, true, true, true, true, false, false, false, false, false, false, false, false, false, false, false, false, false, false, false, false, false, false, false, false, false, false, false, false] rfl rfl (any_of HT_.out (by kernel_rfl)) (fun _ _ _ h => h) (Or.inl ⟨by rfl, ?_⟩) ?_ ?_
                 rotate_left
                 ·
                  intro w'
                  go_simp
                  with_reducible rfl
                 rotate_left
                 ·
                  simp only [Act.put, List.setIfInBounds_toArray, List.set_cons_zero, List.set_cons_succ, i64_w, i32_w]
                  rfl
                 refine pure_ (i := 5) (N := some 67) (v := ?_) (a' := ?_) #[true, true, true, true, true, true, false, false, false, false, false, false, false, false, false, false, false, false, false, false, false, false, false, false, false, false, false, false, false] rfl rfl (any_of HT_.out (by kernel_rfl)) (fun _ _ _ h => h) (Or.inl ⟨by rfl, ?_⟩) ?_ ?_
                 rotate_left
                 ·
                  intro w'
                  go_simp
                  with_reducible rfl
                 rotate_left
                 ·
                  simp only [Act.put, List.setIfInBounds_toArray, List.set_cons_zero, List.set_cons_succ, i64_w, i32_w]
                  rfl
                 refine pure_ (i := 6) (N := some 68) (v := ?_) (a' := ?_) #[true, true, true, true, true, true, true, false, false, false, false, false, false, false, false, false, false, false, false, false, false, false, false, false, false, false, false, false, false] rfl rfl (any_of HT_.out (by kernel_rfl)) (fun _ _ _ h => h) (Or.inl ⟨by rfl, ?_⟩) ?_ ?_
                 rotate_left
                 ·
                  intro w'
                  go_simp
                  with_reducible rfl
                 rotate_left
                 ·
                  simp only [Act.put, List.setIfInBounds_toArray, List.set_cons_zero, List.set_cons_succ, i64_w, i32_w]
                  rfl
                 refine pure_ (i := 9) (N := some 71) (v := ?_) (a' := ?_) #[true, true, true, true, true, true, true, false, false, true, false, false, false, false, false, false, false, false, false, false, false, false, false, false, false, false, false, false, false] rfl rfl (any_of HT_.out (by kernel_rfl)) (fun _ _ _ h => h) (Or.inl ⟨by rfl, ?_⟩) ?_ ?_
                 rotate_left
                 ·
                  intro w'
                  go_simp
                  with_reducible rfl
                 rotate_left
                 ·
                  simp only [Act.put, List.setIfInBounds_toArray, List.set_cons_zero, List.set_cons_succ, i64_w, i32_w]
                  rfl
                 refine take_ (i := 7) (N := some 69) (v := ?_) (a' := ?_) #[true, true, true, true, true, true, true, true, false, true, false, false, false, false, false, false, false, false, false, false, false, false, false, false, false, false, false, false, false] rfl rfl (take_ofW HT_.out HW_.out (by kernel_rfl)) (fun _ _ _ h => h) (Or.inl ⟨by rfl, ?_⟩) hHeld ?_ ?_
                 rotate_left
                 ·
                  rintro w' ⟨s0, s1, s2, s3⟩
                  go_simp
                  with_reducible rfl
                 rotate_left
                 ·
                  simp only [Act.put, List.setIfInBounds_toArray, List.set_cons_zero, List.set_cons_succ, i64_w, i32_w]
                  rfl
                 refine one_ (i := 8) (N := some 70) #[true, true, true, true, true, true, true, true, true, true, false, false, false, false, false, false, false, false, false, false, false, false, false, false, false, false, false, false, false] rfl rfl (one_of HT_.out (by kernel_rfl)) (by decide) (fun K hK => ?_)
                 refine goes_ Try.func15 (by kernel_rfl) rfl #[.agg #[.int .u8 1, .int .u8 40, .int .u32 a0, .string (((((strOfNums y302) ++ t306) ++ (⟨#[7]⟩ : ByteArray)) ++ a1) ++ (strOfNums y307))]] (by rfl) rfl rfl (by (try simp only [List.map_toArray, List.map_cons, List.map_nil]); first | done | rfl | (simp only [List.length_drop, List.length_take]; rfl)) ?_
                 with_reducible refine (frame_Content.calls kj7 1 40 a0 (((((strOfNums y302) ++ t306) ++ (⟨#[7]⟩ : ByteArray)) ++ a1) ++ (strOfNums y307)) t312 _ A25.out).mono ?_
                 rintro e w48 ⟨rfl, hb⟩
                 refine ⟨_, rfl, ?_⟩
                 have n0_ := Aside0.mk (Kd.R_below (by (with_reducible repeat (first | apply Kd.R_alloc | apply Kd.R_drewN | apply Kd.R_drew)); exact HO304.out) hb)
                 have n1_ := Aside0.mk (Kd.R_below (by (with_reducible repeat (first | apply Kd.R_alloc | apply Kd.R_drewN | apply Kd.R_drew)); exact HO309.out) hb)
                 have n2_ := Aside0.mk (blk_below (g := gb305) (o := .cells #[.int .u8 1, .int .u8 40, .int .u32 a0, .string (((((strOfNums y302) ++ t306) ++ (⟨#[7]⟩ : ByteArray)) ++ a1) ++ (strOfNums y307))] 24 (0, 0)) (by (with_reducible repeat (first | refine blk_drewN ?_ _ | refine blk_drew ?_ | refine blk_alloc ?_ _)); exact BK305.out) hb)
                 have n3_ := Aside0.mk (below_step (by repeat (first | (with_reducible first | exact HB.out | apply below_alloc | apply pw_below_drewN | apply below_drew1 | refine below_set ?_ GE305.out) | exact HB.out)) hb)
                 clear HO304
                 clear HO309
                 clear BK305
                 clear HB
                 have HO304 := n0_
                 have HO309 := n1_
                 have BK305 := n2_
                 have HB := n3_
                 clear n0_ n1_ n2_ n3_
                 (try clear hb)
                 (try clear hb2)
                 (try clear hk)
                 (try clear hi)
                 refine hK.out _ _ ⟨(blk_cell BK305.out 0).trans rfl, (blk_cell BK305.out 1).trans rfl, (blk_cell BK305.out 2).trans rfl, (blk_cell BK305.out 3).trans rfl⟩ (fun hHeld => ?_)
                 clear hK K
                 refine norm_ (a' := ?_) ?_ ?_
                 rotate_left
                 ·
                  show Act.put _ (some 70) _ = _
                  simp only [Act.put, List.setIfInBounds_toArray, List.set_cons_zero, List.set_cons_succ, i64_w, i32_w]
                  rfl
                 refine pure_ (i := 10) (N := some 72) (v := ?_) (a' := ?_) #[true, true, true, true, true, true, true, true, true, true, true, false, false, false, false, false, false, false, false, false, false, false, false, false, false, false, false, false, false] rfl rfl (any_of HT_.out (by kernel_rfl)) (fun _ _ _ h => h) (Or.inl ⟨by rfl, ?_⟩) ?_ ?_
                 rotate_left
                 ·
                  intro w'
                  go_simp
                  with_reducible rfl
                 rotate_left
                 ·
                  simp only [Act.put, List.setIfInBounds_toArray, List.set_cons_zero, List.set_cons_succ, i64_w, i32_w]
                  rfl
                 refine pure_ (i := 11) (N := some 73) (v := ?_) (a' := ?_) #[true, true, true, true, true, true, true, true, true, true, true, true, false, false, false, false, false, false, false, false, false, false, false, false, false, false, false, false, false] rfl rfl (any_of HT_.out (by kernel_rfl)) (fun _ _ _ h => h) (Or.inl ⟨by rfl, ?_⟩) ?_ ?_
                 rotate_left
                 ·
                  intro w'
                  go_simp
                  with_reducible rfl
                 rotate_left
                 ·
                  simp only [Act.put, List.setIfInBounds_toArray, List.set_cons_zero, List.set_cons_succ, i64_w, i32_w]
                  rfl
                 refine pure_ (i := 12) (N := some 74) (v := ?_) (a' := ?_) #[true, true, true, true, true, true, true, true, true, true, true, true, true, false, false, false, false, false, false, false, false, false, false, false, false, false, false, false, false] rfl rfl (any_of HT_.out (by kernel_rfl)) (fun _ _ _ h => h) (Or.inl ⟨by rfl, ?_⟩) ?_ ?_
                 rotate_left
                 ·
                  intro w'
                  go_simp
                  with_reducible rfl
                 rotate_left
                 ·
                  simp only [Act.put, List.setIfInBounds_toArray, List.set_cons_zero, List.set_cons_succ, i64_w, i32_w]
                  rfl
                 refine pure_ (i := 13) (N := some 75) (v := ?_) (a' := ?_) #[true, true, true, true, true, true, true, true, true, true, true, true, true, true, false, false, false, false, false, false, false, false, false, false, false, false, false, false, false] rfl rfl (any_of HT_.out (by kernel_rfl)) (fun _ _ _ h => h) (Or.inl ⟨by rfl, ?_⟩) ?_ ?_
                 rotate_left
                 ·
                  intro w'
                  go_simp
                  with_reducible rfl
                 rotate_left
                 ·
                  simp only [Act.put, List.setIfInBounds_toArray, List.set_cons_zero, List.set_cons_succ, i64_w, i32_w]
                  rfl
                 refine pure_ (i := 14) (N := some 76) (v := ?_) (a' := ?_) #[true, true, true, true, true, true, true, true, true, true, true, true, true, true, true, false, false, false, false, false, false, false, false, false, false, false, false, false, false] rfl rfl (any_of HT_.out (by kernel_rfl)) (fun _ _ _ h => h) (Or.inl ⟨by rfl, ?_⟩) ?_ ?_
                 rotate_left
                 ·
                  intro w'
                  go_simp
                  with_reducible rfl
                 rotate_left
                 ·
                  simp only [Act.put, List.setIfInBounds_toArray, List.set_cons_zero, List.set_cons_succ, i64_w, i32_w]
                  rfl
                 refine pure_ (i := 17) (N := some 79) (v := ?_) (a' := ?_) #[true, true, true, true, true, true, true, true, true, true, true, true, true, true, true, false, false, true, false, false, false, false, false, false, false, false, false, false, false] rfl rfl (any_of HT_.out (by kernel_rfl)) (fun _ _ _ h => h) (Or.inl ⟨by rfl, ?_⟩) ?_ ?_
                 rotate_left
                 ·
                  intro w'
                  go_simp
                  with_reducible rfl
                 rotate_left
                 ·
                  simp only [Act.put, List.setIfInBounds_toArray, List.set_cons_zero, List.set_cons_succ, i64_w, i32_w]
                  rfl
                 refine pure_ (i := 19) (N := some 81) (v := ?_) (a' := ?_) #[true, true, true, true, true, true, true, true, true, true, true, true, true, true, true, false, false, true, false, true, false, false, false, false, false, false, false, false, false] rfl rfl (any_of HT_.out (by kernel_rfl)) (fun _ _ _ h => h) (Or.inl ⟨by rfl, ?_⟩) ?_ ?_
                 rotate_left
                 ·
                  intro w'
                  go_simp
                  with_reducible rfl
                 rotate_left
                 ·
                  simp only [Act.put, List.setIfInBounds_toArray, List.set_cons_zero, List.set_cons_succ, i64_w, i32_w]
                  rfl
                 refine pure_ (i := 25) (N := some 87) (v := ?_) (a' := ?_) #[true, true, true, true, true, true, true, true, true, true, true, true, true, true, true, false, false, true, false, true, false, false, false, false, false, true, false, false, false] rfl rfl (any_of HT_.out (by kernel_rfl)) (fun _ _ _ h => h) (Or.inl ⟨by rfl, ?_⟩) ?_ ?_
                 rotate_left
                 ·
                  intro w'
                  go_simp
                  with_reducible rfl
                 rotate_left
                 ·
                  simp only [Act.put, List.setIfInBounds_toArray, List.set_cons_zero, List.set_cons_succ, i64_w, i32_w]
                  rfl
                 refine join_ (σ := Value × Value) 6 #[true, true, true, true, true, true, true, true, true, true, true, true, true, true, true, true, true, true, true, true, true, true, false, false, false, true, false, false, false] (fun s_ => [(77, s_.1), (78, .string (strOfNums y313)), (82, s_.2), (83, .string (strOfNums y316)), (80, .string ((strOfNums y313) ++ a1))]) (fun s_ w' => (w'.cell? ⟨gb305, 0, none⟩ = some (.int .u8 1) ∧ w'.cell? ⟨gb305, 1, none⟩ = some (.int .u8 40) ∧ w'.cell? ⟨gb305, 2, none⟩ = some (.int .u32 a0) ∧ w'.cell? ⟨gb305, 3, none⟩ = some (.string (((((strOfNums y302) ++ t306) ++ (⟨#[7]⟩ : ByteArray)) ++ a1) ++ (strOfNums y307)))) ∧ (Kd.R (Kd.int .u8) 5 w' w.heap.size (fun k_ => some k_ ≠ (v308 : Value).ownBlock ∧ some k_ ≠ (s_.1 : Value).ownBlock ∧ some k_ ≠ (s_.2 : Value).ownBlock) v303 y302) ∧ (Kd.R (Kd.int .u8) 5 w' w.heap.size (fun k_ => some k_ ≠ (v303 : Value).ownBlock ∧ some k_ ≠ (s_.1 : Value).ownBlock ∧ some k_ ≠ (s_.2 : Value).ownBlock) v308 y307) ∧ (Kd.R (Kd.int .u8) 5 w' w.heap.size (fun k_ => some k_ ≠ (v303 : Value).ownBlock ∧ some k_ ≠ (v308 : Value).ownBlock ∧ some k_ ≠ (s_.2 : Value).ownBlock) s_.1 y313) ∧ (Kd.R (Kd.int .u8) 5 w' w.heap.size (fun k_ => some k_ ≠ (v303 : Value).ownBlock ∧ some k_ ≠ (v308 : Value).ownBlock ∧ some k_ ≠ (s_.1 : Value).ownBlock) s_.2 y316) ∧ (w'.heap[gb305]? = some (.cells #[.int .u8 1, .int .u8 40, .int .u32 a0, .string (((((strOfNums y302) ++ t306) ++ (⟨#[7]⟩ : ByteArray)) ++ a1) ++ (strOfNums y307))] 24 (0, 0))) ∧ (Below w.heap.size w w')) ?_ ?_
                 rotate_left
                 ·
                  intro hJ15_16_20_21
                  refine join_ (σ := Value × Value) 7 #[true, true, true, true, true, true, true, true, true, true, true, true, true, true, true, true, true, true, true, true, true, false, false, false, false, true, false, false, false] (fun s_ => [(77, s_.1), (78, .string (strOfNums y313)), (82, s_.2), (80, .string ((strOfNums y313) ++ a1))]) (fun s_ w' => (w'.cell? ⟨gb305, 0, none⟩ = some (.int .u8 1) ∧ w'.cell? ⟨gb305, 1, none⟩ = some (.int .u8 40) ∧ w'.cell? ⟨gb305, 2, none⟩ = some (.int .u32 a0) ∧ w'.cell? ⟨gb305, 3, none⟩ = some (.string (((((strOfNums y302) ++ t306) ++ (⟨#[7]⟩ : ByteArray)) ++ a1) ++ (strOfNums y307)))) ∧ (Kd.R (Kd.int .u8) 5 w' w.heap.size (fun k_ => some k_ ≠ (v308 : Value).ownBlock ∧ some k_ ≠ (s_.1 : Value).ownBlock ∧ some k_ ≠ (s_.2 : Value).ownBlock) v303 y302) ∧ (Kd.R (Kd.int .u8) 5 w' w.heap.size (fun k_ => some k_ ≠ (v303 : Value).ownBlock ∧ some k_ ≠ (s_.1 : Value).ownBlock ∧ some k_ ≠ (s_.2 : Value).ownBlock) v308 y307) ∧ (Kd.R (Kd.int .u8) 5 w' w.heap.size (fun k_ => some k_ ≠ (v303 : Value).ownBlock ∧ some k_ ≠ (v308 : Value).ownBlock ∧ some k_ ≠ (s_.2 : Value).ownBlock) s_.1 y313) ∧ (Kd.R (Kd.int .u8) 5 w' w.heap.size (fun k_ => some k_ ≠ (v303 : Value).ownBlock ∧ some k_ ≠ (v308 : Value).ownBlock ∧ some k_ ≠ (s_.1 : Value).ownBlock) s_.2 y316) ∧ (w'.heap[gb305]? = some (.cells #[.int .u8 1, .int .u8 40, .int .u32 a0, .string (((((strOfNums y302) ++ t306) ++ (⟨#[7]⟩ : ByteArray)) ++ a1) ++ (strOfNums y307))] 24 (0, 0))) ∧ (Below w.heap.size w w')) ?_ ?_
                  rotate_left
                  ·
                   intro hJ15_16_20
                   refine join_ (σ := Value × Value) 8 #[true, true, true, true, true, true, true, true, true, true, true, true, true, true, true, true, false, true, false, true, true, true, false, false, false, true, false, false, false] (fun s_ => [(77, s_.1), (82, s_.2), (83, .string (strOfNums y316))]) (fun s_ w' => (w'.cell? ⟨gb305, 0, none⟩ = some (.int .u8 1) ∧ w'.cell? ⟨gb305, 1, none⟩ = some (.int .u8 40) ∧ w'.cell? ⟨gb305, 2, none⟩ = some (.int .u32 a0) ∧ w'.cell? ⟨gb305, 3, none⟩ = some (.string (((((strOfNums y302) ++ t306) ++ (⟨#[7]⟩ : ByteArray)) ++ a1) ++ (strOfNums y307)))) ∧ (Kd.R (Kd.int .u8) 5 w' w.heap.size (fun k_ => some k_ ≠ (v308 : Value).ownBlock ∧ some k_ ≠ (s_.1 : Value).ownBlock ∧ some k_ ≠ (s_.2 : Value).ownBlock) v303 y302) ∧ (Kd.R (Kd.int .u8) 5 w' w.heap.size (fun k_ => some k_ ≠ (v303 : Value).ownBlock ∧ some k_ ≠ (s_.1 : Value).ownBlock ∧ some k_ ≠ (s_.2 : Value).ownBlock) v308 y307) ∧ (Kd.R (Kd.int .u8) 5 w' w.heap.size (fun k_ => some k_ ≠ (v303 : Value).ownBlock ∧ some k_ ≠ (v308 : Value).ownBlock ∧ some k_ ≠ (s_.2 : Value).ownBlock) s_.1 y313) ∧ (Kd.R (Kd.int .u8) 5 w' w.heap.size (fun k_ => some k_ ≠ (v303 : Value).ownBlock ∧ some k_ ≠ (v308 : Value).ownBlock ∧ some k_ ≠ (s_.1 : Value).ownBlock) s_.2 y316) ∧ (w'.heap[gb305]? = some (.cells #[.int .u8 1, .int .u8 40, .int .u32 a0, .string (((((strOfNums y302) ++ t306) ++ (⟨#[7]⟩ : ByteArray)) ++ a1) ++ (strOfNums y307))] 24 (0, 0))) ∧ (Below w.heap.size w w')) ?_ ?_
                   rotate_left
                   ·
                    intro hJ15_20_21
                    refine join_ (σ := Value) 8 #[true, true, true, true, true, true, true, true, true, true, true, true, true, true, true, true, true, true, true, true, false, false, false, false, false, true, false, false, false] (fun s_ => [(77, s_), (78, .string (strOfNums y313)), (80, .string ((strOfNums y313) ++ a1))]) (fun s_ w' => (w'.cell? ⟨gb305, 0, none⟩ = some (.int .u8 1) ∧ w'.cell? ⟨gb305, 1, none⟩ = some (.int .u8 40) ∧ w'.cell? ⟨gb305, 2, none⟩ = some (.int .u32 a0) ∧ w'.cell? ⟨gb305, 3, none⟩ = some (.string (((((strOfNums y302) ++ t306) ++ (⟨#[7]⟩ : ByteArray)) ++ a1) ++ (strOfNums y307)))) ∧ (Kd.R (Kd.int .u8) 5 w' w.heap.size (fun k_ => some k_ ≠ (v308 : Value).ownBlock ∧ some k_ ≠ (s_ : Value).ownBlock) v303 y302) ∧ (Kd.R (Kd.int .u8) 5 w' w.heap.size (fun k_ => some k_ ≠ (v303 : Value).ownBlock ∧ some k_ ≠ (s_ : Value).ownBlock) v308 y307) ∧ (Kd.R (Kd.int .u8) 5 w' w.heap.size (fun k_ => some k_ ≠ (v303 : Value).ownBlock ∧ some k_ ≠ (v308 : Value).ownBlock) s_ y313) ∧ (w'.heap[gb305]? = some (.cells #[.int .u8 1, .int .u8 40, .int .u32 a0, .string (((((strOfNums y302) ++ t306) ++ (⟨#[7]⟩ : ByteArray)) ++ a1) ++ (strOfNums y307))] 24 (0, 0))) ∧ (Below w.heap.size w w')) ?_ ?_
                    rotate_left
                    ·
                     intro hJ15_16
                     refine join_ (σ := Value × Value) 9 #[true, true, true, true, true, true, true, true, true, true, true, true, true, true, true, true, false, true, false, true, true, false, false, false, false, true, false, false, false] (fun s_ => [(77, s_.1), (82, s_.2)]) (fun s_ w' => (w'.cell? ⟨gb305, 0, none⟩ = some (.int .u8 1) ∧ w'.cell? ⟨gb305, 1, none⟩ = some (.int .u8 40) ∧ w'.cell? ⟨gb305, 2, none⟩ = some (.int .u32 a0) ∧ w'.cell? ⟨gb305, 3, none⟩ = some (.string (((((strOfNums y302) ++ t306) ++ (⟨#[7]⟩ : ByteArray)) ++ a1) ++ (strOfNums y307)))) ∧ (Kd.R (Kd.int .u8) 5 w' w.heap.size (fun k_ => some k_ ≠ (v308 : Value).ownBlock ∧ some k_ ≠ (s_.1 : Value).ownBlock ∧ some k_ ≠ (s_.2 : Value).ownBlock) v303 y302) ∧ (Kd.R (Kd.int .u8) 5 w' w.heap.size (fun k_ => some k_ ≠ (v303 : Value).ownBlock ∧ some k_ ≠ (s_.1 : Value).ownBlock ∧ some k_ ≠ (s_.2 : Value).ownBlock) v308 y307) ∧ (Kd.R (Kd.int .u8) 5 w' w.heap.size (fun k_ => some k_ ≠ (v303 : Value).ownBlock ∧ some k_ ≠ (v308 : Value).ownBlock ∧ some k_ ≠ (s_.2 : Value).ownBlock) s_.1 y313) ∧ (Kd.R (Kd.int .u8) 5 w' w.heap.size (fun k_ => some k_ ≠ (v303 : Value).ownBlock ∧ some k_ ≠ (v308 : Value).ownBlock ∧ some k_ ≠ (s_.1 : Value).ownBlock) s_.2 y316) ∧ (w'.heap[gb305]? = some (.cells #[.int .u8 1, .int .u8 40, .int .u32 a0, .string (((((strOfNums y302) ++ t306) ++ (⟨#[7]⟩ : ByteArray)) ++ a1) ++ (strOfNums y307))] 24 (0, 0))) ∧ (Below w.heap.size w w')) ?_ ?_
                     rotate_left
                     ·
                      intro hJ15_20
                      refine join_ (σ := Value) 9 #[true, true, true, true, true, true, true, true, true, true, true, true, true, true, true, false, false, true, false, true, true, true, false, false, false, true, false, false, false] (fun s_ => [(82, s_), (83, .string (strOfNums y316))]) (fun s_ w' => (w'.cell? ⟨gb305, 0, none⟩ = some (.int .u8 1) ∧ w'.cell? ⟨gb305, 1, none⟩ = some (.int .u8 40) ∧ w'.cell? ⟨gb305, 2, none⟩ = some (.int .u32 a0) ∧ w'.cell? ⟨gb305, 3, none⟩ = some (.string (((((strOfNums y302) ++ t306) ++ (⟨#[7]⟩ : ByteArray)) ++ a1) ++ (strOfNums y307)))) ∧ (Kd.R (Kd.int .u8) 5 w' w.heap.size (fun k_ => some k_ ≠ (v308 : Value).ownBlock ∧ some k_ ≠ (s_ : Value).ownBlock) v303 y302) ∧ (Kd.R (Kd.int .u8) 5 w' w.heap.size (fun k_ => some k_ ≠ (v303 : Value).ownBlock ∧ some k_ ≠ (s_ : Value).ownBlock) v308 y307) ∧ (Kd.R (Kd.int .u8) 5 w' w.heap.size (fun k_ => some k_ ≠ (v303 : Value).ownBlock ∧ some k_ ≠ (v308 : Value).ownBlock) s_ y316) ∧ (w'.heap[gb305]? = some (.cells #[.int .u8 1, .int .u8 40, .int .u32 a0, .string (((((strOfNums y302) ++ t306) ++ (⟨#[7]⟩ : ByteArray)) ++ a1) ++ (strOfNums y307))] 24 (0, 0))) ∧ (Below w.heap.size w w')) ?_ ?_
                      rotate_left
                      ·
                       intro hJ20_21
                       refine join_ (σ := Value) 10 #[true, true, true, true, true, true, true, true, true, true, true, true, true, true, true, true, false, true, false, true, false, false, false, false, false, true, false, false, false] (fun s_ => [(77, s_)]) (fun s_ w' => (w'.cell? ⟨gb305, 0, none⟩ = some (.int .u8 1) ∧ w'.cell? ⟨gb305, 1, none⟩ = some (.int .u8 40) ∧ w'.cell? ⟨gb305, 2, none⟩ = some (.int .u32 a0) ∧ w'.cell? ⟨gb305, 3, none⟩ = some (.string (((((strOfNums y302) ++ t306) ++ (⟨#[7]⟩ : ByteArray)) ++ a1) ++ (strOfNums y307)))) ∧ (Kd.R (Kd.int .u8) 5 w' w.heap.size (fun k_ => some k_ ≠ (v308 : Value).ownBlock ∧ some k_ ≠ (s_ : Value).ownBlock) v303 y302) ∧ (Kd.R (Kd.int .u8) 5 w' w.heap.size (fun k_ => some k_ ≠ (v303 : Value).ownBlock ∧ some k_ ≠ (s_ : Value).ownBlock) v308 y307) ∧ (Kd.R (Kd.int .u8) 5 w' w.heap.size (fun k_ => some k_ ≠ (v303 : Value).ownBlock ∧ some k_ ≠ (v308 : Value).ownBlock) s_ y313) ∧ (w'.heap[gb305]? = some (.cells #[.int .u8 1, .int .u8 40, .int .u32 a0, .string (((((strOfNums y302) ++ t306) ++ (⟨#[7]⟩ : ByteArray)) ++ a1) ++ (strOfNums y307))] 24 (0, 0))) ∧ (Below w.heap.size w w')) ?_ ?_
                       rotate_left
                       ·
                        intro hJ15
                        refine join_ (σ := Value) 10 #[true, true, true, true, true, true, true, true, true, true, true, true, true, true, true, false, false, true, false, true, true, false, false, false, false, true, false, false, false] (fun s_ => [(82, s_)]) (fun s_ w' => (w'.cell? ⟨gb305, 0, none⟩ = some (.int .u8 1) ∧ w'.cell? ⟨gb305, 1, none⟩ = some (.int .u8 40) ∧ w'.cell? ⟨gb305, 2, none⟩ = some (.int .u32 a0) ∧ w'.cell? ⟨gb305, 3, none⟩ = some (.string (((((strOfNums y302) ++ t306) ++ (⟨#[7]⟩ : ByteArray)) ++ a1) ++ (strOfNums y307)))) ∧ (Kd.R (Kd.int .u8) 5 w' w.heap.size (fun k_ => some k_ ≠ (v308 : Value).ownBlock ∧ some k_ ≠ (s_ : Value).ownBlock) v303 y302) ∧ (Kd.R (Kd.int .u8) 5 w' w.heap.size (fun k_ => some k_ ≠ (v303 : Value).ownBlock ∧ some k_ ≠ (s_ : Value).ownBlock) v308 y307) ∧ (Kd.R (Kd.int .u8) 5 w' w.heap.size (fun k_ => some k_ ≠ (v303 : Value).ownBlock ∧ some k_ ≠ (v308 : Value).ownBlock) s_ y316) ∧ (w'.heap[gb305]? = some (.cells #[.int .u8 1, .int .u8 40, .int .u32 a0, .string (((((strOfNums y302) ++ t306) ++ (⟨#[7]⟩ : ByteArray)) ++ a1) ++ (strOfNums y307))] 24 (0, 0))) ∧ (Below w.heap.size w w')) ?_ ?_
                        rotate_left
                        ·
                         intro hJ20
                         refine two_ (i := 15) (j := 20) (Ni := some 77) (Nj := some 82) #[true, true, true, true, true, true, true, true, true, true, true, true, true, true, true, true, false, true, false, true, false, false, false, false, false, true, false, false, false] #[true, true, true, true, true, true, true, true, true, true, true, true, true, true, true, false, false, true, false, true, true, false, false, false, false, true, false, false, false] rfl rfl rfl rfl (two_of HT_.out (by kernel_rfl)) (by decide) (by decide) (fun K hK => ?_) (fun K hK => ?_)
                         ·
                          skip
                          refine Kd.R_lit_step (Kd.int .u8) _ 5 ?hg (N := 77) ?hd (xs := ([a2] : List Int)) (inner := [.int .u8 a2]) (ok := fun _ => True) (okp := fun _ => True) ?hr ?hp (fun _ hk => hk) trivial (Below.refl _ _) (Nat.le_refl _) (by simp) ?_; (case hd => rfl); (case hg => rfl); (case hr => first | (go_simp; done) | (go_simp; rfl)); (case hp => exact (Reps.one (show Kd.M (Kd.int .u8) _ _ _ a2 [.int .u8 a2] from rfl) (Reps.none _ _)))
                          intro v314 w49 ho50 hb hg_ hnew_
                          clear hg_ hnew_
                          (first | rw [← Ny313.out] at ho50 | (simp only [Int.reduceToNat] at ho50; rw [← Ny313.out] at ho50))
                          have n0_ := Aside0.mk (Kd.R_elder' (by (with_reducible repeat (first | apply Kd.R_alloc | apply Kd.R_drewN | apply Kd.R_drew)); exact HO304.out) (Kd.R_base ho50) hb)
                          have n1_ := Aside0.mk (Kd.R_elder' (by (with_reducible repeat (first | apply Kd.R_alloc | apply Kd.R_drewN | apply Kd.R_drew)); exact HO309.out) (Kd.R_base ho50) hb)
                          have n2_ := Aside0.mk (Kd.R_lower (Kd.R_new' (Kd.R_new' ho50 (Kd.R_lt (by (with_reducible repeat (first | apply Kd.R_alloc | apply Kd.R_drewN | apply Kd.R_drew)); exact HO304.out))) (Kd.R_lt (by (with_reducible repeat (first | apply Kd.R_alloc | apply Kd.R_drewN | apply Kd.R_drew)); exact HO309.out))) (below_size (by repeat (first | (with_reducible first | exact HB.out | apply below_alloc | apply pw_below_drewN | apply below_drew1 | refine below_set ?_ GE305.out) | exact HB.out))))
                          have n3_ := Aside0.mk (blk_below (g := gb305) (o := .cells #[.int .u8 1, .int .u8 40, .int .u32 a0, .string (((((strOfNums y302) ++ t306) ++ (⟨#[7]⟩ : ByteArray)) ++ a1) ++ (strOfNums y307))] 24 (0, 0)) (by (with_reducible repeat (first | refine blk_drewN ?_ _ | refine blk_drew ?_ | refine blk_alloc ?_ _)); exact BK305.out) hb)
                          have n4_ := Aside0.mk (below_step (by repeat (first | (with_reducible first | exact HB.out | apply below_alloc | apply pw_below_drewN | apply below_drew1 | refine below_set ?_ GE305.out) | exact HB.out)) hb)
                          clear HO304
                          clear HO309
                          clear BK305
                          clear HB
                          have HO304 := n0_
                          have HO309 := n1_
                          have HO315 := n2_
                          have BK305 := n3_
                          have HB := n4_
                          clear n0_ n1_ n2_ n3_ n4_
                          clear hb ho50
                          refine hK.out _ _ ⟨(blk_cell BK305.out 0).trans rfl, (blk_cell BK305.out 1).trans rfl, (blk_cell BK305.out 2).trans rfl, (blk_cell BK305.out 3).trans rfl⟩ (fun hHeld => ?_)
                          clear hK K
                          refine norm_ (a' := ?_) ?_ ?_
                          rotate_left
                          ·
                           show Act.put _ (some 77) _ = _
                           simp only [Act.put, List.setIfInBounds_toArray, List.set_cons_zero, List.set_cons_succ, i64_w, i32_w]
                           rfl
                          exact norm_ (by first | (simp only [putAll, Act.put, List.setIfInBounds_toArray, List.set_cons_zero, List.set_cons_succ]; done) | (simp only [putAll, Act.put, List.setIfInBounds_toArray, List.set_cons_zero, List.set_cons_succ]; rfl)) (hJ15 (v314) _ ⟨hHeld, (by (with_reducible repeat (first | apply Kd.R_alloc | apply Kd.R_drewN | apply Kd.R_drew)); exact Kd.R_mono HO304.out (fun _ hk => ⟨hk.1.2, hk.2⟩)), (by (with_reducible repeat (first | apply Kd.R_alloc | apply Kd.R_drewN | apply Kd.R_drew)); exact Kd.R_mono HO309.out (fun _ hk => ⟨hk.1.2, hk.2⟩)), (by (with_reducible repeat (first | apply Kd.R_alloc | apply Kd.R_drewN | apply Kd.R_drew)); exact Kd.R_mono HO315.out (fun _ hk => ⟨hk.1.2, hk.2⟩)), (by (with_reducible repeat (first | refine blk_drewN ?_ _ | refine blk_drew ?_ | refine blk_alloc ?_ _)); exact BK305.out), (by repeat (first | (with_reducible first | exact HB.out | apply below_alloc | apply pw_below_drewN | apply below_drew1 | refine below_set ?_ GE305.out) | exact HB.out))⟩)
                         ·
                          skip
                          refine Kd.R_makek_step (Kd.int .u8) _ 5 (by rfl) (N := 82) rfl 43 _ _ rfl a2 rfl rfl Try.underlying43 (.int .u8 0) 1 info5 rfl (by decide) (by omega) 0 (ok := fun _ => True) (okp := fun _ => True) rfl (fun _ hk => hk) trivial (of_decide_eq_true (by first | (with_reducible assumption) | assumption)) (Nat.le_trans (Nat.mul_le_mul_right _ (of_decide_eq_true (by first | (with_reducible assumption) | assumption) : a2.toNat ≤ 281474976710656)) (by omega)) (Below.refl _ _) (Nat.le_refl _) ?_
                          intro v317 w49 ho50 hb hg_ hnew_
                          clear hg_ hnew_
                          (first | rw [← Ny316.out] at ho50 | (simp only [Int.reduceToNat] at ho50; rw [← Ny316.out] at ho50))
                          have n0_ := Aside0.mk (Kd.R_elder' (by (with_reducible repeat (first | apply Kd.R_alloc | apply Kd.R_drewN | apply Kd.R_drew)); exact HO304.out) (Kd.R_base ho50) hb)
                          have n1_ := Aside0.mk (Kd.R_elder' (by (with_reducible repeat (first | apply Kd.R_alloc | apply Kd.R_drewN | apply Kd.R_drew)); exact HO309.out) (Kd.R_base ho50) hb)
                          have n2_ := Aside0.mk (Kd.R_lower (Kd.R_new' (Kd.R_new' ho50 (Kd.R_lt (by (with_reducible repeat (first | apply Kd.R_alloc | apply Kd.R_drewN | apply Kd.R_drew)); exact HO304.out))) (Kd.R_lt (by (with_reducible repeat (first | apply Kd.R_alloc | apply Kd.R_drewN | apply Kd.R_drew)); exact HO309.out))) (below_size (by repeat (first | (with_reducible first | exact HB.out | apply below_alloc | apply pw_below_drewN | apply below_drew1 | refine below_set ?_ GE305.out) | exact HB.out))))
                          have n3_ := Aside0.mk (blk_below (g := gb305) (o := .cells #[.int .u8 1, .int .u8 40, .int .u32 a0, .string (((((strOfNums y302) ++ t306) ++ (⟨#[7]⟩ : ByteArray)) ++ a1) ++ (strOfNums y307))] 24 (0, 0)) (by (with_reducible repeat (first | refine blk_drewN ?_ _ | refine blk_drew ?_ | refine blk_alloc ?_ _)); exact BK305.out) hb)
                          have n4_ := Aside0.mk (below_step (by repeat (first | (with_reducible first | exact HB.out | apply below_alloc | apply pw_below_drewN | apply below_drew1 | refine below_set ?_ GE305.out) | exact HB.out)) hb)
                          clear HO304
                          clear HO309
                          clear BK305
                          clear HB
                          have HO304 := n0_
                          have HO309 := n1_
                          have HO318 := n2_
                          have BK305 := n3_
                          have HB := n4_
                          clear n0_ n1_ n2_ n3_ n4_
                          clear hb ho50
                          refine hK.out _ _ ⟨(blk_cell BK305.out 0).trans rfl, (blk_cell BK305.out 1).trans rfl, (blk_cell BK305.out 2).trans rfl, (blk_cell BK305.out 3).trans rfl⟩ (fun hHeld => ?_)
                          clear hK K
                          refine norm_ (a' := ?_) ?_ ?_
                          rotate_left
                          ·
                           show Act.put _ (some 82) _ = _
                           simp only [Act.put, List.setIfInBounds_toArray, List.set_cons_zero, List.set_cons_succ, i64_w, i32_w]
                           rfl
                          exact norm_ (by first | (simp only [putAll, Act.put, List.setIfInBounds_toArray, List.set_cons_zero, List.set_cons_succ]; done) | (simp only [putAll, Act.put, List.setIfInBounds_toArray, List.set_cons_zero, List.set_cons_succ]; rfl)) (hJ20 (v317) _ ⟨hHeld, (by (with_reducible repeat (first | apply Kd.R_alloc | apply Kd.R_drewN | apply Kd.R_drew)); exact Kd.R_mono HO304.out (fun _ hk => ⟨hk.1.2, hk.2⟩)), (by (with_reducible repeat (first | apply Kd.R_alloc | apply Kd.R_drewN | apply Kd.R_drew)); exact Kd.R_mono HO309.out (fun _ hk => ⟨hk.1.2, hk.2⟩)), (by (with_reducible repeat (first | apply Kd.R_alloc | apply Kd.R_drewN | apply Kd.R_drew)); exact Kd.R_mono HO318.out (fun _ hk => ⟨hk.1.2, hk.2⟩)), (by (with_reducible repeat (first | refine blk_drewN ?_ _ | refine blk_drew ?_ | refine blk_alloc ?_ _)); exact BK305.out), (by repeat (first | (with_reducible first | exact HB.out | apply below_alloc | apply pw_below_drewN | apply below_drew1 | refine below_set ?_ GE305.out) | exact HB.out))⟩)
                        ·
                         skip
                         rintro v317 w51 ⟨hS_, h0_, h1_, h2_, h3_, h4_⟩
                         have n0_ : Aside0 (Kd.R (Kd.int .u8) 5 w51 w.heap.size (fun k_ => some k_ ≠ (v308 : Value).ownBlock ∧ some k_ ≠ (v317 : Value).ownBlock) v303 y302) := ⟨h0_⟩
                         have n1_ : Aside0 (Kd.R (Kd.int .u8) 5 w51 w.heap.size (fun k_ => some k_ ≠ (v303 : Value).ownBlock ∧ some k_ ≠ (v317 : Value).ownBlock) v308 y307) := ⟨h1_⟩
                         have n2_ : Aside0 (Kd.R (Kd.int .u8) 5 w51 w.heap.size (fun k_ => some k_ ≠ (v303 : Value).ownBlock ∧ some k_ ≠ (v308 : Value).ownBlock) v317 y316) := ⟨h2_⟩
                         have n3_ : Aside0 (w51.heap[gb305]? = some (.cells #[.int .u8 1, .int .u8 40, .int .u32 a0, .string (((((strOfNums y302) ++ t306) ++ (⟨#[7]⟩ : ByteArray)) ++ a1) ++ (strOfNums y307))] 24 (0, 0))) := ⟨h3_⟩
                         have n4_ : Aside0 (Below w.heap.size w w51) := ⟨h4_⟩
                         clear HO304
                         clear HO309
                         clear BK305
                         clear HB
                         clear h0_ h1_ h2_ h3_ h4_
                         have HO304 := n0_
                         have HO309 := n1_
                         have HO318 := n2_
                         have BK305 := n3_
                         have HB := n4_
                         clear n0_ n1_ n2_ n3_ n4_
                         have hHeld : w51.cell? ⟨gb305, 0, none⟩ = some (.int .u8 1) ∧ w51.cell? ⟨gb305, 1, none⟩ = some (.int .u8 40) ∧ w51.cell? ⟨gb305, 2, none⟩ = some (.int .u32 a0) ∧ w51.cell? ⟨gb305, 3, none⟩ = some (.string (((((strOfNums y302) ++ t306) ++ (⟨#[7]⟩ : ByteArray)) ++ a1) ++ (strOfNums y307))) := hS_
                         refine norm_ (a' := ?_) ?_ ?_
                         rotate_left
                         ·
                          simp only [putAll, Act.put, List.setIfInBounds_toArray, List.set_cons_zero, List.set_cons_succ]
                          rfl
                         refine two_ (i := 15) (j := 21) (Ni := some 77) (Nj := some 83) #[true, true, true, true, true, true, true, true, true, true, true, true, true, true, true, true, false, true, false, true, true, false, false, false, false, true, false, false, false] #[true, true, true, true, true, true, true, true, true, true, true, true, true, true, true, false, false, true, false, true, true, true, false, false, false, true, false, false, false] rfl rfl rfl rfl (two_of HT_.out (by kernel_rfl)) (by decide) (by decide) (fun K hK => ?_) (fun K hK => ?_)
                         ·
                          skip
                          refine Kd.R_lit_step (Kd.int .u8) _ 5 ?hg (N := 77) ?hd (xs := ([a2] : List Int)) (inner := [.int .u8 a2]) (ok := fun _ => True) (okp := fun _ => True) ?hr ?hp (fun _ hk => hk) trivial (Below.refl _ _) (Nat.le_refl _) (by simp) ?_; (case hd => rfl); (case hg => rfl); (case hr => first | (go_simp; done) | (go_simp; rfl)); (case hp => exact (Reps.one (show Kd.M (Kd.int .u8) _ _ _ a2 [.int .u8 a2] from rfl) (Reps.none _ _)))
                          intro v314 w52 ho53 hb hg_ hnew_
                          clear hg_ hnew_
                          (first | rw [← Ny313.out] at ho53 | (simp only [Int.reduceToNat] at ho53; rw [← Ny313.out] at ho53))
                          have n0_ := Aside0.mk (Kd.R_elder' (by (with_reducible repeat (first | apply Kd.R_alloc | apply Kd.R_drewN | apply Kd.R_drew)); exact HO304.out) (Kd.R_base ho53) hb)
                          have n1_ := Aside0.mk (Kd.R_elder' (by (with_reducible repeat (first | apply Kd.R_alloc | apply Kd.R_drewN | apply Kd.R_drew)); exact HO309.out) (Kd.R_base ho53) hb)
                          have n2_ := Aside0.mk (Kd.R_elder' (by (with_reducible repeat (first | apply Kd.R_alloc | apply Kd.R_drewN | apply Kd.R_drew)); exact HO318.out) (Kd.R_base ho53) hb)
                          have n3_ := Aside0.mk (Kd.R_lower (Kd.R_new' (Kd.R_new' (Kd.R_new' ho53 (Kd.R_lt (by (with_reducible repeat (first | apply Kd.R_alloc | apply Kd.R_drewN | apply Kd.R_drew)); exact HO304.out))) (Kd.R_lt (by (with_reducible repeat (first | apply Kd.R_alloc | apply Kd.R_drewN | apply Kd.R_drew)); exact HO309.out))) (Kd.R_lt (by (with_reducible repeat (first | apply Kd.R_alloc | apply Kd.R_drewN | apply Kd.R_drew)); exact HO318.out))) (below_size (by repeat (first | (with_reducible first | exact HB.out | apply below_alloc | apply pw_below_drewN | apply below_drew1 | refine below_set ?_ GE305.out) | exact HB.out))))
                          have n4_ := Aside0.mk (blk_below (g := gb305) (o := .cells #[.int .u8 1, .int .u8 40, .int .u32 a0, .string (((((strOfNums y302) ++ t306) ++ (⟨#[7]⟩ : ByteArray)) ++ a1) ++ (strOfNums y307))] 24 (0, 0)) (by (with_reducible repeat (first | refine blk_drewN ?_ _ | refine blk_drew ?_ | refine blk_alloc ?_ _)); exact BK305.out) hb)
                          have n5_ := Aside0.mk (below_step (by repeat (first | (with_reducible first | exact HB.out | apply below_alloc | apply pw_below_drewN | apply below_drew1 | refine below_set ?_ GE305.out) | exact HB.out)) hb)
                          clear HO304
                          clear HO309
                          clear HO318
                          clear BK305
                          clear HB
                          have HO304 := n0_
                          have HO309 := n1_
                          have HO318 := n2_
                          have HO315 := n3_
                          have BK305 := n4_
                          have HB := n5_
                          clear n0_ n1_ n2_ n3_ n4_ n5_
                          clear hb ho53
                          refine hK.out _ _ ⟨(blk_cell BK305.out 0).trans rfl, (blk_cell BK305.out 1).trans rfl, (blk_cell BK305.out 2).trans rfl, (blk_cell BK305.out 3).trans rfl⟩ (fun hHeld => ?_)
                          clear hK K
                          refine norm_ (a' := ?_) ?_ ?_
                          rotate_left
                          ·
                           show Act.put _ (some 77) _ = _
                           simp only [Act.put, List.setIfInBounds_toArray, List.set_cons_zero, List.set_cons_succ, i64_w, i32_w]
                           rfl
                          exact norm_ (by first | (simp only [putAll, Act.put, List.setIfInBounds_toArray, List.set_cons_zero, List.set_cons_succ]; done) | (simp only [putAll, Act.put, List.setIfInBounds_toArray, List.set_cons_zero, List.set_cons_succ]; rfl)) (hJ15_20 (v314, v317) _ ⟨hHeld, (by (with_reducible repeat (first | apply Kd.R_alloc | apply Kd.R_drewN | apply Kd.R_drew)); exact Kd.R_mono HO304.out (fun _ hk => ⟨hk.1.1, ⟨hk.2, hk.1.2⟩⟩)), (by (with_reducible repeat (first | apply Kd.R_alloc | apply Kd.R_drewN | apply Kd.R_drew)); exact Kd.R_mono HO309.out (fun _ hk => ⟨hk.1.1, ⟨hk.2, hk.1.2⟩⟩)), (by (with_reducible repeat (first | apply Kd.R_alloc | apply Kd.R_drewN | apply Kd.R_drew)); exact Kd.R_mono HO315.out (fun _ hk => ⟨hk.1.1.2, ⟨hk.1.2, hk.2⟩⟩)), (by (with_reducible repeat (first | apply Kd.R_alloc | apply Kd.R_drewN | apply Kd.R_drew)); exact Kd.R_mono HO318.out (fun _ hk => ⟨hk.1.1, ⟨hk.1.2, hk.2⟩⟩)), (by (with_reducible repeat (first | refine blk_drewN ?_ _ | refine blk_drew ?_ | refine blk_alloc ?_ _)); exact BK305.out), (by repeat (first | (with_reducible first | exact HB.out | apply below_alloc | apply pw_below_drewN | apply below_drew1 | refine below_set ?_ GE305.out) | exact HB.out))⟩)
                         ·
                          skip
                          have hcv52 := own_string (P := Try.prog) Try.underlying43 Try.underlying5 Try.underlying9 (Kd.own_of_R HO318.out)
                          refine value_ (w1 := ?_) (v := ?_) (by rfl) rfl ?_ ?_
                          rotate_left 2
                          ·
                           go_simp
                           constructor
                           · rfl
                           · rfl
                          clear hcv52
                          refine hK.out _ _ ⟨(blk_cell BK305.out 0).trans rfl, (blk_cell BK305.out 1).trans rfl, (blk_cell BK305.out 2).trans rfl, (blk_cell BK305.out 3).trans rfl⟩ (fun hHeld => ?_)
                          clear hK K
                          refine norm_ (a' := ?_) ?_ ?_
                          rotate_left
                          ·
                           show Act.put _ (some 83) _ = _
                           simp only [Act.put, List.setIfInBounds_toArray, List.set_cons_zero, List.set_cons_succ, i64_w, i32_w]
                           rfl
                          exact norm_ (by first | (simp only [putAll, Act.put, List.setIfInBounds_toArray, List.set_cons_zero, List.set_cons_succ]; done) | (simp only [putAll, Act.put, List.setIfInBounds_toArray, List.set_cons_zero, List.set_cons_succ]; rfl)) (hJ20_21 (v317) _ ⟨hHeld, (by (with_reducible repeat (first | apply Kd.R_alloc | apply Kd.R_drewN | apply Kd.R_drew)); exact HO304.out), (by (with_reducible repeat (first | apply Kd.R_alloc | apply Kd.R_drewN | apply Kd.R_drew)); exact HO309.out), (by (with_reducible repeat (first | apply Kd.R_alloc | apply Kd.R_drewN | apply Kd.R_drew)); exact HO318.out), (by (with_reducible repeat (first | refine blk_drewN ?_ _ | refine blk_drew ?_ | refine blk_alloc ?_ _)); exact BK305.out), (by repeat (first | (with_reducible first | exact HB.out | apply below_alloc | apply pw_below_drewN | apply below_drew1 | refine below_set ?_ GE305.out) | exact HB.out))⟩)
                       ·
                        skip
                        rintro v314 w51 ⟨hS_, h0_, h1_, h2_, h3_, h4_⟩
                        have n0_ : Aside0 (Kd.R (Kd.int .u8) 5 w51 w.heap.size (fun k_ => some k_ ≠ (v308 : Value).ownBlock ∧ some k_ ≠ (v314 : Value).ownBlock) v303 y302) := ⟨h0_⟩
                        have n1_ : Aside0 (Kd.R (Kd.int .u8) 5 w51 w.heap.size (fun k_ => some k_ ≠ (v303 : Value).ownBlock ∧ some k_ ≠ (v314 : Value).ownBlock) v308 y307) := ⟨h1_⟩
                        have n2_ : Aside0 (Kd.R (Kd.int .u8) 5 w51 w.heap.size (fun k_ => some k_ ≠ (v303 : Value).ownBlock ∧ some k_ ≠ (v308 : Value).ownBlock) v314 y313) := ⟨h2_⟩
                        have n3_ : Aside0 (w51.heap[gb305]? = some (.cells #[.int .u8 1, .int .u8 40, .int .u32 a0, .string (((((strOfNums y302) ++ t306) ++ (⟨#[7]⟩ : ByteArray)) ++ a1) ++ (strOfNums y307))] 24 (0, 0))) := ⟨h3_⟩
                        have n4_ : Aside0 (Below w.heap.size w w51) := ⟨h4_⟩
                        clear HO304
                        clear HO309
                        clear BK305
                        clear HB
                        clear h0_ h1_ h2_ h3_ h4_
                        have HO304 := n0_
                        have HO309 := n1_
                        have HO315 := n2_
                        have BK305 := n3_
                        have HB := n4_
                        clear n0_ n1_ n2_ n3_ n4_
                        have hHeld : w51.cell? ⟨gb305, 0, none⟩ = some (.int .u8 1) ∧ w51.cell? ⟨gb305, 1, none⟩ = some (.int .u8 40) ∧ w51.cell? ⟨gb305, 2, none⟩ = some (.int .u32 a0) ∧ w51.cell? ⟨gb305, 3, none⟩ = some (.string (((((strOfNums y302) ++ t306) ++ (⟨#[7]⟩ : ByteArray)) ++ a1) ++ (strOfNums y307))) := hS_
                        refine norm_ (a' := ?_) ?_ ?_
                        rotate_left
                        ·
                         simp only [putAll, Act.put, List.setIfInBounds_toArray, List.set_cons_zero, List.set_cons_succ]
                         rfl
                        refine two_ (i := 16) (j := 20) (Ni := some 78) (Nj := some 82) #[true, true, true, true, true, true, true, true, true, true, true, true, true, true, true, true, true, true, false, true, false, false, false, false, false, true, false, false, false] #[true, true, true, true, true, true, true, true, true, true, true, true, true, true, true, true, false, true, false, true, true, false, false, false, false, true, false, false, false] rfl rfl rfl rfl (two_of HT_.out (by kernel_rfl)) (by decide) (by decide) (fun K hK => ?_) (fun K hK => ?_)
                        ·
                         skip
                         have hcv52 := own_string (P := Try.prog) Try.underlying43 Try.underlying5 Try.underlying9 (Kd.own_of_R HO315.out)
                         refine value_ (w1 := ?_) (v := ?_) (by rfl) rfl ?_ ?_
                         rotate_left 2
                         ·
                          go_simp
                          constructor
                          · rfl
                          · rfl
                         clear hcv52
                         refine hK.out _ _ ⟨(blk_cell BK305.out 0).trans rfl, (blk_cell BK305.out 1).trans rfl, (blk_cell BK305.out 2).trans rfl, (blk_cell BK305.out 3).trans rfl⟩ (fun hHeld => ?_)
                         clear hK K
                         refine norm_ (a' := ?_) ?_ ?_
                         rotate_left
                         ·
                          show Act.put _ (some 78) _ = _
                          simp only [Act.put, List.setIfInBounds_toArray, List.set_cons_zero, List.set_cons_succ, i64_w, i32_w]
                          rfl
                         refine pure_ (i := 18) (N := some 80) (v := ?_) (a' := ?_) #[true, true, true, true, true, true, true, true, true, true, true, true, true, true, true, true, true, true, true, true, false, false, false, false, false, true, false, false, false] rfl rfl (any_of HT_.out (by kernel_rfl)) (fun _ _ _ h => h) (Or.inl ⟨by rfl, ?_⟩) ?_ ?_
                         rotate_left
                         ·
                          intro w'
                          go_simp
                          with_reducible rfl
                         rotate_left
                         ·
                          simp only [Act.put, List.setIfInBounds_toArray, List.set_cons_zero, List.set_cons_succ, i64_w, i32_w]
                          rfl
                         exact norm_ (by first | (simp only [putAll, Act.put, List.setIfInBounds_toArray, List.set_cons_zero, List.set_cons_succ]; done) | (simp only [putAll, Act.put, List.setIfInBounds_toArray, List.set_cons_zero, List.set_cons_succ]; rfl)) (hJ15_16 (v314) _ ⟨hHeld, (by (with_reducible repeat (first | apply Kd.R_alloc | apply Kd.R_drewN | apply Kd.R_drew)); exact HO304.out), (by (with_reducible repeat (first | apply Kd.R_alloc | apply Kd.R_drewN | apply Kd.R_drew)); exact HO309.out), (by (with_reducible repeat (first | apply Kd.R_alloc | apply Kd.R_drewN | apply Kd.R_drew)); exact HO315.out), (by (with_reducible repeat (first | refine blk_drewN ?_ _ | refine blk_drew ?_ | refine blk_alloc ?_ _)); exact BK305.out), (by repeat (first | (with_reducible first | exact HB.out | apply below_alloc | apply pw_below_drewN | apply below_drew1 | refine below_set ?_ GE305.out) | exact HB.out))⟩)
                        ·
                         skip
                         refine Kd.R_makek_step (Kd.int .u8) _ 5 (by rfl) (N := 82) rfl 43 _ _ rfl a2 rfl rfl Try.underlying43 (.int .u8 0) 1 info5 rfl (by decide) (by omega) 0 (ok := fun _ => True) (okp := fun _ => True) rfl (fun _ hk => hk) trivial (of_decide_eq_true (by first | (with_reducible assumption) | assumption)) (Nat.le_trans (Nat.mul_le_mul_right _ (of_decide_eq_true (by first | (with_reducible assumption) | assumption) : a2.toNat ≤ 281474976710656)) (by omega)) (Below.refl _ _) (Nat.le_refl _) ?_
                         intro v317 w52 ho53 hb hg_ hnew_
                         clear hg_ hnew_
                         (first | rw [← Ny316.out] at ho53 | (simp only [Int.reduceToNat] at ho53; rw [← Ny316.out] at ho53))
                         have n0_ := Aside0.mk (Kd.R_elder' (by (with_reducible repeat (first | apply Kd.R_alloc | apply Kd.R_drewN | apply Kd.R_drew)); exact HO304.out) (Kd.R_base ho53) hb)
                         have n1_ := Aside0.mk (Kd.R_elder' (by (with_reducible repeat (first | apply Kd.R_alloc | apply Kd.R_drewN | apply Kd.R_drew)); exact HO309.out) (Kd.R_base ho53) hb)
                         have n2_ := Aside0.mk (Kd.R_elder' (by (with_reducible repeat (first | apply Kd.R_alloc | apply Kd.R_drewN | apply Kd.R_drew)); exact HO315.out) (Kd.R_base ho53) hb)
                         have n3_ := Aside0.mk (Kd.R_lower (Kd.R_new' (Kd.R_new' (Kd.R_new' ho53 (Kd.R_lt (by (with_reducible repeat (first | apply Kd.R_alloc | apply Kd.R_drewN | apply Kd.R_drew)); exact HO304.out))) (Kd.R_lt (by (with_reducible repeat (first | apply Kd.R_alloc | apply Kd.R_drewN | apply Kd.R_drew)); exact HO309.out))) (Kd.R_lt (by (with_reducible repeat (first | apply Kd.R_alloc | apply Kd.R_drewN | apply Kd.R_drew)); exact HO315.out))) (below_size (by repeat (first | (with_reducible first | exact HB.out | apply below_alloc | apply pw_below_drewN | apply below_drew1 | refine below_set ?_ GE305.out) | exact HB.out))))
                         have n4_ := Aside0.mk (blk_below (g := gb305) (o := .cells #[.int .u8 1, .int .u8 40, .int .u32 a0, .string (((((strOfNums y302) ++ t306) ++ (⟨#[7]⟩ : ByteArray)) ++ a1) ++ (strOfNums y307))] 24 (0, 0)) (by (with_reducible repeat (first | refine blk_drewN ?_ _ | refine blk_drew ?_ | refine blk_alloc ?_ _)); exact BK305.out) hb)
                         have n5_ := Aside0.mk (below_step (by repeat (first | (with_reducible first | exact HB.out | apply below_alloc | apply pw_below_drewN | apply below_drew1 | refine below_set ?_ GE305.out) | exact HB.out)) hb)
                         clear HO304
                         clear HO309
                         clear HO315
                         clear BK305
                         clear HB
                         have HO304 := n0_
                         have HO309 := n1_
                         have HO315 := n2_
                         have HO318 := n3_
                         have BK305 := n4_
                         have HB := n5_
                         clear n0_ n1_ n2_ n3_ n4_ n5_
                         clear hb ho53
                         refine hK.out _ _ ⟨(blk_cell BK305.out 0).trans rfl, (blk_cell BK305.out 1).trans rfl, (blk_cell BK305.out 2).trans rfl, (blk_cell BK305.out 3).trans rfl⟩ (fun hHeld => ?_)
                         clear hK K
                         refine norm_ (a' := ?_) ?_ ?_
                         rotate_left
                         ·
                          show Act.put _ (some 82) _ = _
                          simp only [Act.put, List.setIfInBounds_toArray, List.set_cons_zero, List.set_cons_succ, i64_w, i32_w]
                          rfl
                         exact norm_ (by first | (simp only [putAll, Act.put, List.setIfInBounds_toArray, List.set_cons_zero, List.set_cons_succ]; done) | (simp only [putAll, Act.put, List.setIfInBounds_toArray, List.set_cons_zero, List.set_cons_succ]; rfl)) (hJ15_20 (v314, v317) _ ⟨hHeld, (by (with_reducible repeat (first | apply Kd.R_alloc | apply Kd.R_drewN | apply Kd.R_drew)); exact Kd.R_mono HO304.out (fun _ hk => ⟨hk.1.1, ⟨hk.1.2, hk.2⟩⟩)), (by (with_reducible repeat (first | apply Kd.R_alloc | apply Kd.R_drewN | apply Kd.R_drew)); exact Kd.R_mono HO309.out (fun _ hk => ⟨hk.1.1, ⟨hk.1.2, hk.2⟩⟩)), (by (with_reducible repeat (first | apply Kd.R_alloc | apply Kd.R_drewN | apply Kd.R_drew)); exact Kd.R_mono HO315.out (fun _ hk => ⟨hk.1.1, ⟨hk.1.2, hk.2⟩⟩)), (by (with_reducible repeat (first | apply Kd.R_alloc | apply Kd.R_drewN | apply Kd.R_drew)); exact Kd.R_mono HO318.out (fun _ hk => ⟨hk.1.1.2, ⟨hk.1.2, hk.2⟩⟩)), (by (with_reducible repeat (first | refine blk_drewN ?_ _ | refine blk_drew ?_ | refine blk_alloc ?_ _)); exact BK305.out), (by repeat (first | (with_reducible first | exact HB.out | apply below_alloc | apply pw_below_drewN | apply below_drew1 | refine below_set ?_ GE305.out) | exact HB.out))⟩)
                      ·
                       skip
                       rintro v317 w52 ⟨hS_, h0_, h1_, h2_, h3_, h4_⟩
                       have n0_ : Aside0 (Kd.R (Kd.int .u8) 5 w52 w.heap.size (fun k_ => some k_ ≠ (v308 : Value).ownBlock ∧ some k_ ≠ (v317 : Value).ownBlock) v303 y302) := ⟨h0_⟩
                       have n1_ : Aside0 (Kd.R (Kd.int .u8) 5 w52 w.heap.size (fun k_ => some k_ ≠ (v303 : Value).ownBlock ∧ some k_ ≠ (v317 : Value).ownBlock) v308 y307) := ⟨h1_⟩
                       have n2_ : Aside0 (Kd.R (Kd.int .u8) 5 w52 w.heap.size (fun k_ => some k_ ≠ (v303 : Value).ownBlock ∧ some k_ ≠ (v308 : Value).ownBlock) v317 y316) := ⟨h2_⟩
                       have n3_ : Aside0 (w52.heap[gb305]? = some (.cells #[.int .u8 1, .int .u8 40, .int .u32 a0, .string (((((strOfNums y302) ++ t306) ++ (⟨#[7]⟩ : ByteArray)) ++ a1) ++ (strOfNums y307))] 24 (0, 0))) := ⟨h3_⟩
                       have n4_ : Aside0 (Below w.heap.size w w52) := ⟨h4_⟩
                       clear HO304
                       clear HO309
                       clear BK305
                       clear HB
                       clear h0_ h1_ h2_ h3_ h4_
                       have HO304 := n0_
                       have HO309 := n1_
                       have HO318 := n2_
                       have BK305 := n3_
                       have HB := n4_
                       clear n0_ n1_ n2_ n3_ n4_
                       have hHeld : w52.cell? ⟨gb305, 0, none⟩ = some (.int .u8 1) ∧ w52.cell? ⟨gb305, 1, none⟩ = some (.int .u8 40) ∧ w52.cell? ⟨gb305, 2, none⟩ = some (.int .u32 a0) ∧ w52.cell? ⟨gb305, 3, none⟩ = some (.string (((((strOfNums y302) ++ t306) ++ (⟨#[7]⟩ : ByteArray)) ++ a1) ++ (strOfNums y307))) := hS_
                       refine norm_ (a' := ?_) ?_ ?_
                       rotate_left
                       ·
                        simp only [putAll, Act.put, List.setIfInBounds_toArray, List.set_cons_zero, List.set_cons_succ]
                        rfl
                       refine one_ (i := 15) (N := some 77) #[true, true, true, true, true, true, true, true, true, true, true, true, true, true, true, true, false, true, false, true, true, true, false, false, false, true, false, false, false] rfl rfl (one_of HT_.out (by kernel_rfl)) (by decide) (fun K hK => ?_)
                       refine Kd.R_lit_step (Kd.int .u8) _ 5 ?hg (N := 77) ?hd (xs := ([a2] : List Int)) (inner := [.int .u8 a2]) (ok := fun _ => True) (okp := fun _ => True) ?hr ?hp (fun _ hk => hk) trivial (Below.refl _ _) (Nat.le_refl _) (by simp) ?_; (case hd => rfl); (case hg => rfl); (case hr => first | (go_simp; done) | (go_simp; rfl)); (case hp => exact (Reps.one (show Kd.M (Kd.int .u8) _ _ _ a2 [.int .u8 a2] from rfl) (Reps.none _ _)))
                       intro v314 w53 ho54 hb hg_ hnew_
                       clear hg_ hnew_
                       (first | rw [← Ny313.out] at ho54 | (simp only [Int.reduceToNat] at ho54; rw [← Ny313.out] at ho54))
                       have n0_ := Aside0.mk (Kd.R_elder' (by (with_reducible repeat (first | apply Kd.R_alloc | apply Kd.R_drewN | apply Kd.R_drew)); exact HO304.out) (Kd.R_base ho54) hb)
                       have n1_ := Aside0.mk (Kd.R_elder' (by (with_reducible repeat (first | apply Kd.R_alloc | apply Kd.R_drewN | apply Kd.R_drew)); exact HO309.out) (Kd.R_base ho54) hb)
                       have n2_ := Aside0.mk (Kd.R_elder' (by (with_reducible repeat (first | apply Kd.R_alloc | apply Kd.R_drewN | apply Kd.R_drew)); exact HO318.out) (Kd.R_base ho54) hb)
                       have n3_ := Aside0.mk (Kd.R_lower (Kd.R_new' (Kd.R_new' (Kd.R_new' ho54 (Kd.R_lt (by (with_reducible repeat (first | apply Kd.R_alloc | apply Kd.R_drewN | apply Kd.R_drew)); exact HO304.out))) (Kd.R_lt (by (with_reducible repeat (first | apply Kd.R_alloc | apply Kd.R_drewN | apply Kd.R_drew)); exact HO309.out))) (Kd.R_lt (by (with_reducible repeat (first | apply Kd.R_alloc | apply Kd.R_drewN | apply Kd.R_drew)); exact HO318.out))) (below_size (by repeat (first | (with_reducible first | exact HB.out | apply below_alloc | apply pw_below_drewN | apply below_drew1 | refine below_set ?_ GE305.out) | exact HB.out))))
                       have n4_ := Aside0.mk (blk_below (g := gb305) (o := .cells #[.int .u8 1, .int .u8 40, .int .u32 a0, .string (((((strOfNums y302) ++ t306) ++ (⟨#[7]⟩ : ByteArray)) ++ a1) ++ (strOfNums y307))] 24 (0, 0)) (by (with_reducible repeat (first | refine blk_drewN ?_ _ | refine blk_drew ?_ | refine blk_alloc ?_ _)); exact BK305.out) hb)
                       have n5_ := Aside0.mk (below_step (by repeat (first | (with_reducible first | exact HB.out | apply below_alloc | apply pw_below_drewN | apply below_drew1 | refine below_set ?_ GE305.out) | exact HB.out)) hb)
                       clear HO304
                       clear HO309
                       clear HO318
                       clear BK305
                       clear HB
                       have HO304 := n0_
                       have HO309 := n1_
                       have HO318 := n2_
                       have HO315 := n3_
                       have BK305 := n4_
                       have HB := n5_
                       clear n0_ n1_ n2_ n3_ n4_ n5_
                       clear hb ho54
                       refine hK.out _ _ ⟨(blk_cell BK305.out 0).trans rfl, (blk_cell BK305.out 1).trans rfl, (blk_cell BK305.out 2).trans rfl, (blk_cell BK305.out 3).trans rfl⟩ (fun hHeld => ?_)
                       clear hK K
                       refine norm_ (a' := ?_) ?_ ?_
                       rotate_left
                       ·
                        show Act.put _ (some 77) _ = _
                        simp only [Act.put, List.setIfInBounds_toArray, List.set_cons_zero, List.set_cons_succ, i64_w, i32_w]
                        rfl
                       exact norm_ (by first | (simp only [putAll, Act.put, List.setIfInBounds_toArray, List.set_cons_zero, List.set_cons_succ]; done) | (simp only [putAll, Act.put, List.setIfInBounds_toArray, List.set_cons_zero, List.set_cons_succ]; rfl)) (hJ15_20_21 (v314, v317) _ ⟨hHeld, (by (with_reducible repeat (first | apply Kd.R_alloc | apply Kd.R_drewN | apply Kd.R_drew)); exact Kd.R_mono HO304.out (fun _ hk => ⟨hk.1.1, ⟨hk.2, hk.1.2⟩⟩)), (by (with_reducible repeat (first | apply Kd.R_alloc | apply Kd.R_drewN | apply Kd.R_drew)); exact Kd.R_mono HO309.out (fun _ hk => ⟨hk.1.1, ⟨hk.2, hk.1.2⟩⟩)), (by (with_reducible repeat (first | apply Kd.R_alloc | apply Kd.R_drewN | apply Kd.R_drew)); exact Kd.R_mono HO315.out (fun _ hk => ⟨hk.1.1.2, ⟨hk.1.2, hk.2⟩⟩)), (by (with_reducible repeat (first | apply Kd.R_alloc | apply Kd.R_drewN | apply Kd.R_drew)); exact Kd.R_mono HO318.out (fun _ hk => ⟨hk.1.1, ⟨hk.1.2, hk.2⟩⟩)), (by (with_reducible repeat (first | refine blk_drewN ?_ _ | refine blk_drew ?_ | refine blk_alloc ?_ _)); exact BK305.out), (by repeat (first | (with_reducible first | exact HB.out | apply below_alloc | apply pw_below_drewN | apply below_drew1 | refine below_set ?_ GE305.out) | exact HB.out))⟩)
                     ·
                      skip
                      rintro ⟨v314, v317⟩ w53 ⟨hS_, h0_, h1_, h2_, h3_, h4_, h5_⟩
                      have n0_ : Aside0 (Kd.R (Kd.int .u8) 5 w53 w.heap.size (fun k_ => some k_ ≠ (v308 : Value).ownBlock ∧ some k_ ≠ (v314 : Value).ownBlock ∧ some k_ ≠ (v317 : Value).ownBlock) v303 y302) := ⟨h0_⟩
                      have n1_ : Aside0 (Kd.R (Kd.int .u8) 5 w53 w.heap.size (fun k_ => some k_ ≠ (v303 : Value).ownBlock ∧ some k_ ≠ (v314 : Value).ownBlock ∧ some k_ ≠ (v317 : Value).ownBlock) v308 y307) := ⟨h1_⟩
                      have n2_ : Aside0 (Kd.R (Kd.int .u8) 5 w53 w.heap.size (fun k_ => some k_ ≠ (v303 : Value).ownBlock ∧ some k_ ≠ (v308 : Value).ownBlock ∧ some k_ ≠ (v317 : Value).ownBlock) v314 y313) := ⟨h2_⟩
                      have n3_ : Aside0 (Kd.R (Kd.int .u8) 5 w53 w.heap.size (fun k_ => some k_ ≠ (v303 : Value).ownBlock ∧ some k_ ≠ (v308 : Value).ownBlock ∧ some k_ ≠ (v314 : Value).ownBlock) v317 y316) := ⟨h3_⟩
                      have n4_ : Aside0 (w53.heap[gb305]? = some (.cells #[.int .u8 1, .int .u8 40, .int .u32 a0, .string (((((strOfNums y302) ++ t306) ++ (⟨#[7]⟩ : ByteArray)) ++ a1) ++ (strOfNums y307))] 24 (0, 0))) := ⟨h4_⟩
                      have n5_ : Aside0 (Below w.heap.size w w53) := ⟨h5_⟩
                      clear HO304
                      clear HO309
                      clear BK305
                      clear HB
                      clear h0_ h1_ h2_ h3_ h4_ h5_
                      have HO304 := n0_
                      have HO309 := n1_
                      have HO315 := n2_
                      have HO318 := n3_
                      have BK305 := n4_
                      have HB := n5_
                      clear n0_ n1_ n2_ n3_ n4_ n5_
                      have hHeld : w53.cell? ⟨gb305, 0, none⟩ = some (.int .u8 1) ∧ w53.cell? ⟨gb305, 1, none⟩ = some (.int .u8 40) ∧ w53.cell? ⟨gb305, 2, none⟩ = some (.int .u32 a0) ∧ w53.cell? ⟨gb305, 3, none⟩ = some (.string (((((strOfNums y302) ++ t306) ++ (⟨#[7]⟩ : ByteArray)) ++ a1) ++ (strOfNums y307))) := hS_
                      refine norm_ (a' := ?_) ?_ ?_
                      rotate_left
                      ·
                       simp only [putAll, Act.put, List.setIfInBounds_toArray, List.set_cons_zero, List.set_cons_succ]
                       rfl
                      refine two_ (i := 16) (j := 21) (Ni := some 78) (Nj := some 83) #[true, true, true, true, true, true, true, true, true, true, true, true, true, true, true, true, true, true, false, true, true, false, false, false, false, true, false, false, false] #[true, true, true, true, true, true, true, true, true, true, true, true, true, true, true, true, false, true, false, true, true, true, false, false, false, true, false, false, false] rfl rfl rfl rfl (two_of HT_.out (by kernel_rfl)) (by decide) (by decide) (fun K hK => ?_) (fun K hK => ?_)
                      ·
                       skip
                       have hcv54 := own_string (P := Try.prog) Try.underlying43 Try.underlying5 Try.underlying9 (Kd.own_of_R HO315.out)
                       refine value_ (w1 := ?_) (v := ?_) (by rfl) rfl ?_ ?_
                       rotate_left 2
                       ·
                        go_simp
                        constructor
                        · rfl
                        · rfl
                       clear hcv54
                       refine hK.out _ _ ⟨(blk_cell BK305.out 0).trans rfl, (blk_cell BK305.out 1).trans rfl, (blk_cell BK305.out 2).trans rfl, (blk_cell BK305.out 3).trans rfl⟩ (fun hHeld => ?_)
                       clear hK K
                       refine norm_ (a' := ?_) ?_ ?_
                       rotate_left
                       ·
                        show Act.put _ (some 78) _ = _
                        simp only [Act.put, List.setIfInBounds_toArray, List.set_cons_zero, List.set_cons_succ, i64_w, i32_w]
                        rfl
                       refine pure_ (i := 18) (N := some 80) (v := ?_) (a' := ?_) #[true, true, true, true, true, true, true, true, true, true, true, true, true, true, true, true, true, true, true, true, true, false, false, false, false, true, false, false, false] rfl rfl (any_of HT_.out (by kernel_rfl)) (fun _ _ _ h => h) (Or.inl ⟨by rfl, ?_⟩) ?_ ?_
                       rotate_left
                       ·
                        intro w'
                        go_simp
                        with_reducible rfl
                       rotate_left
                       ·
                        simp only [Act.put, List.setIfInBounds_toArray, List.set_cons_zero, List.set_cons_succ, i64_w, i32_w]
                        rfl
                       exact norm_ (by first | (simp only [putAll, Act.put, List.setIfInBounds_toArray, List.set_cons_zero, List.set_cons_succ]; done) | (simp only [putAll, Act.put, List.setIfInBounds_toArray, List.set_cons_zero, List.set_cons_succ]; rfl)) (hJ15_16_20 (v314, v317) _ ⟨hHeld, (by (with_reducible repeat (first | apply Kd.R_alloc | apply Kd.R_drewN | apply Kd.R_drew)); exact HO304.out), (by (with_reducible repeat (first | apply Kd.R_alloc | apply Kd.R_drewN | apply Kd.R_drew)); exact HO309.out), (by (with_reducible repeat (first | apply Kd.R_alloc | apply Kd.R_drewN | apply Kd.R_drew)); exact HO315.out), (by (with_reducible repeat (first | apply Kd.R_alloc | apply Kd.R_drewN | apply Kd.R_drew)); exact HO318.out), (by (with_reducible repeat (first | refine blk_drewN ?_ _ | refine blk_drew ?_ | refine blk_alloc ?_ _)); exact BK305.out), (by repeat (first | (with_reducible first | exact HB.out | apply below_alloc | apply pw_below_drewN | apply below_drew1 | refine below_set ?_ GE305.out) | exact HB.out))⟩)
                      ·
                       skip
                       have hcv54 := own_string (P := Try.prog) Try.underlying43 Try.underlying5 Try.underlying9 (Kd.own_of_R HO318.out)
                       refine value_ (w1 := ?_) (v := ?_) (by rfl) rfl ?_ ?_
                       rotate_left 2
                       ·
                        go_simp
                        constructor
                        · rfl
                        · rfl
                       clear hcv54
                       refine hK.out _ _ ⟨(blk_cell BK305.out 0).trans rfl, (blk_cell BK305.out 1).trans rfl, (blk_cell BK305.out 2).trans rfl, (blk_cell BK305.out 3).trans rfl⟩ (fun hHeld => ?_)
                       clear hK K
                       refine norm_ (a' := ?_) ?_ ?_
                       rotate_left
                       ·
                        show Act.put _ (some 83) _ = _
                        simp only [Act.put, List.setIfInBounds_toArray, List.set_cons_zero, List.set_cons_succ, i64_w, i32_w]
                        rfl
                       exact norm_ (by first | (simp only [putAll, Act.put, List.setIfInBounds_toArray, List.set_cons_zero, List.set_cons_succ]; done) | (simp only [putAll, Act.put, List.setIfInBounds_toArray, List.set_cons_zero, List.set_cons_succ]; rfl)) (hJ15_20_21 (v314, v317) _ ⟨hHeld, (by (with_reducible repeat (first | apply Kd.R_alloc | apply Kd.R_drewN | apply Kd.R_drew)); exact HO304.out), (by (with_reducible repeat (first | apply Kd.R_alloc | apply Kd.R_drewN | apply Kd.R_drew)); exact HO309.out), (by (with_reducible repeat (first | apply Kd.R_alloc | apply Kd.R_drewN | apply Kd.R_drew)); exact HO315.out), (by (with_reducible repeat (first | apply Kd.R_alloc | apply Kd.R_drewN | apply Kd.R_drew)); exact HO318.out), (by (with_reducible repeat (first | refine blk_drewN ?_ _ | refine blk_drew ?_ | refine blk_alloc ?_ _)); exact BK305.out), (by repeat (first | (with_reducible first | exact HB.out | apply below_alloc | apply pw_below_drewN | apply below_drew1 | refine below_set ?_ GE305.out) | exact HB.out))⟩)
                    ·
                     skip
                     rintro v314 w52 ⟨hS_, h0_, h1_, h2_, h3_, h4_⟩
                     have n0_ : Aside0 (Kd.R (Kd.int .u8) 5 w52 w.heap.size (fun k_ => some k_ ≠ (v308 : Value).ownBlock ∧ some k_ ≠ (v314 : Value).ownBlock) v303 y302) := ⟨h0_⟩
                     have n1_ : Aside0 (Kd.R (Kd.int .u8) 5 w52 w.heap.size (fun k_ => some k_ ≠ (v303 : Value).ownBlock ∧ some k_ ≠ (v314 : Value).ownBlock) v308 y307) := ⟨h1_⟩
                     have n2_ : Aside0 (Kd.R (Kd.int .u8) 5 w52 w.heap.size (fun k_ => some k_ ≠ (v303 : Value).ownBlock ∧ some k_ ≠ (v308 : Value).ownBlock) v314 y313) := ⟨h2_⟩
                     have n3_ : Aside0 (w52.heap[gb305]? = some (.cells #[.int .u8 1, .int .u8 40, .int .u32 a0, .string (((((strOfNums y302) ++ t306) ++ (⟨#[7]⟩ : ByteArray)) ++ a1) ++ (strOfNums y307))] 24 (0, 0))) := ⟨h3_⟩
                     have n4_ : Aside0 (Below w.heap.size w w52) := ⟨h4_⟩
                     clear HO304
                     clear HO309
                     clear BK305
                     clear HB
                     clear h0_ h1_ h2_ h3_ h4_
                     have HO304 := n0_
                     have HO309 := n1_
                     have HO315 := n2_
                     have BK305 := n3_
                     have HB := n4_
                     clear n0_ n1_ n2_ n3_ n4_
                     have hHeld : w52.cell? ⟨gb305, 0, none⟩ = some (.int .u8 1) ∧ w52.cell? ⟨gb305, 1, none⟩ = some (.int .u8 40) ∧ w52.cell? ⟨gb305, 2, none⟩ = some (.int .u32 a0) ∧ w52.cell? ⟨gb305, 3, none⟩ = some (.string (((((strOfNums y302) ++ t306) ++ (⟨#[7]⟩ : ByteArray)) ++ a1) ++ (strOfNums y307))) := hS_
                     refine norm_ (a' := ?_) ?_ ?_
                     rotate_left
                     ·
                      simp only [putAll, Act.put, List.setIfInBounds_toArray, List.set_cons_zero, List.set_cons_succ]
                      rfl
                     refine one_ (i := 20) (N := some 82) #[true, true, true, true, true, true, true, true, true, true, true, true, true, true, true, true, true, true, true, true, true, false, false, false, false, true, false, false, false] rfl rfl (one_of HT_.out (by kernel_rfl)) (by decide) (fun K hK => ?_)
                     refine Kd.R_makek_step (Kd.int .u8) _ 5 (by rfl) (N := 82) rfl 43 _ _ rfl a2 rfl rfl Try.underlying43 (.int .u8 0) 1 info5 rfl (by decide) (by omega) 0 (ok := fun _ => True) (okp := fun _ => True) rfl (fun _ hk => hk) trivial (of_decide_eq_true (by first | (with_reducible assumption) | assumption)) (Nat.le_trans (Nat.mul_le_mul_right _ (of_decide_eq_true (by first | (with_reducible assumption) | assumption) : a2.toNat ≤ 281474976710656)) (by omega)) (Below.refl _ _) (Nat.le_refl _) ?_
                     intro v317 w53 ho54 hb hg_ hnew_
                     clear hg_ hnew_
                     (first | rw [← Ny316.out] at ho54 | (simp only [Int.reduceToNat] at ho54; rw [← Ny316.out] at ho54))
                     have n0_ := Aside0.mk (Kd.R_elder' (by (with_reducible repeat (first | apply Kd.R_alloc | apply Kd.R_drewN | apply Kd.R_drew)); exact HO304.out) (Kd.R_base ho54) hb)
                     have n1_ := Aside0.mk (Kd.R_elder' (by (with_reducible repeat (first | apply Kd.R_alloc | apply Kd.R_drewN | apply Kd.R_drew)); exact HO309.out) (Kd.R_base ho54) hb)
                     have n2_ := Aside0.mk (Kd.R_elder' (by (with_reducible repeat (first | apply Kd.R_alloc | apply Kd.R_drewN | apply Kd.R_drew)); exact HO315.out) (Kd.R_base ho54) hb)
                     have n3_ := Aside0.mk (Kd.R_lower (Kd.R_new' (Kd.R_new' (Kd.R_new' ho54 (Kd.R_lt (by (with_reducible repeat (first | apply Kd.R_alloc | apply Kd.R_drewN | apply Kd.R_drew)); exact HO304.out))) (Kd.R_lt (by (with_reducible repeat (first | apply Kd.R_alloc | apply Kd.R_drewN | apply Kd.R_drew)); exact HO309.out))) (Kd.R_lt (by (with_reducible repeat (first | apply Kd.R_alloc | apply Kd.R_drewN | apply Kd.R_drew)); exact HO315.out))) (below_size (by repeat (first | (with_reducible first | exact HB.out | apply below_alloc | apply pw_below_drewN | apply below_drew1 | refine below_set ?_ GE305.out) | exact HB.out))))
                     have n4_ := Aside0.mk (blk_below (g := gb305) (o := .cells #[.int .u8 1, .int .u8 40, .int .u32 a0, .string (((((strOfNums y302) ++ t306) ++ (⟨#[7]⟩ : ByteArray)) ++ a1) ++ (strOfNums y307))] 24 (0, 0)) (by (with_reducible repeat (first | refine blk_drewN ?_ _ | refine blk_drew ?_ | refine blk_alloc ?_ _)); exact BK305.out) hb)
                     have n5_ := Aside0.mk (below_step (by repeat (first | (with_reducible first | exact HB.out | apply below_alloc | apply pw_below_drewN | apply below_drew1 | refine below_set ?_ GE305.out) | exact HB.out)) hb)
                     clear HO304
                     clear HO309
                     clear HO315
                     clear BK305
                     clear HB
                     have HO304 := n0_
                     have HO309 := n1_
                     have HO315 := n2_
                     have HO318 := n3_
                     have BK305 := n4_
                     have HB := n5_
                     clear n0_ n1_ n2_ n3_ n4_ n5_
                     clear hb ho54
                     refine hK.out _ _ ⟨(blk_cell BK305.out 0).trans rfl, (blk_cell BK305.out 1).trans rfl, (blk_cell BK305.out 2).trans rfl, (blk_cell BK305.out 3).trans rfl⟩ (fun hHeld => ?_)
                     clear hK K
                     refine norm_ (a' := ?_) ?_ ?_
                     rotate_left
                     ·
                      show Act.put _ (some 82) _ = _
                      simp only [Act.put, List.setIfInBounds_toArray, List.set_cons_zero, List.set_cons_succ, i64_w, i32_w]
                      rfl
                     exact norm_ (by first | (simp only [putAll, Act.put, List.setIfInBounds_toArray, List.set_cons_zero, List.set_cons_succ]; done) | (simp only [putAll, Act.put, List.setIfInBounds_toArray, List.set_cons_zero, List.set_cons_succ]; rfl)) (hJ15_16_20 (v314, v317) _ ⟨hHeld, (by (with_reducible repeat (first | apply Kd.R_alloc | apply Kd.R_drewN | apply Kd.R_drew)); exact Kd.R_mono HO304.out (fun _ hk => ⟨hk.1.1, ⟨hk.1.2, hk.2⟩⟩)), (by (with_reducible repeat (first | apply Kd.R_alloc | apply Kd.R_drewN | apply Kd.R_drew)); exact Kd.R_mono HO309.out (fun _ hk => ⟨hk.1.1, ⟨hk.1.2, hk.2⟩⟩)), (by (with_reducible repeat (first | apply Kd.R_alloc | apply Kd.R_drewN | apply Kd.R_drew)); exact Kd.R_mono HO315.out (fun _ hk => ⟨hk.1.1, ⟨hk.1.2, hk.2⟩⟩)), (by (with_reducible repeat (first | apply Kd.R_alloc | apply Kd.R_drewN | apply Kd.R_drew)); exact Kd.R_mono HO318.out (fun _ hk => ⟨hk.1.1.2, ⟨hk.1.2, hk.2⟩⟩)), (by (with_reducible repeat (first | refine blk_drewN ?_ _ | refine blk_drew ?_ | refine blk_alloc ?_ _)); exact BK305.out), (by repeat (first | (with_reducible first | exact HB.out | apply below_alloc | apply pw_below_drewN | apply below_drew1 | refine below_set ?_ GE305.out) | exact HB.out))⟩)
                   ·
                    skip
                    rintro ⟨v314, v317⟩ w54 ⟨hS_, h0_, h1_, h2_, h3_, h4_, h5_⟩
                    have n0_ : Aside0 (Kd.R (Kd.int .u8) 5 w54 w.heap.size (fun k_ => some k_ ≠ (v308 : Value).ownBlock ∧ some k_ ≠ (v314 : Value).ownBlock ∧ some k_ ≠ (v317 : Value).ownBlock) v303 y302) := ⟨h0_⟩
                    have n1_ : Aside0 (Kd.R (Kd.int .u8) 5 w54 w.heap.size (fun k_ => some k_ ≠ (v303 : Value).ownBlock ∧ some k_ ≠ (v314 : Value).ownBlock ∧ some k_ ≠ (v317 : Value).ownBlock) v308 y307) := ⟨h1_⟩
                    have n2_ : Aside0 (Kd.R (Kd.int .u8) 5 w54 w.heap.size (fun k_ => some k_ ≠ (v303 : Value).ownBlock ∧ some k_ ≠ (v308 : Value).ownBlock ∧ some k_ ≠ (v317 : Value).ownBlock) v314 y313) := ⟨h2_⟩
                    have n3_ : Aside0 (Kd.R (Kd.int .u8) 5 w54 w.heap.size (fun k_ => some k_ ≠ (v303 : Value).ownBlock ∧ some k_ ≠ (v308 : Value).ownBlock ∧ some k_ ≠ (v314 : Value).ownBlock) v317 y316) := ⟨h3_⟩
                    have n4_ : Aside0 (w54.heap[gb305]? = some (.cells #[.int .u8 1, .int .u8 40, .int .u32 a0, .string (((((strOfNums y302) ++ t306) ++ (⟨#[7]⟩ : ByteArray)) ++ a1) ++ (strOfNums y307))] 24 (0, 0))) := ⟨h4_⟩
                    have n5_ : Aside0 (Below w.heap.size w w54) := ⟨h5_⟩
                    clear HO304
                    clear HO309
                    clear BK305
                    clear HB
                    clear h0_ h1_ h2_ h3_ h4_ h5_
                    have HO304 := n0_
                    have HO309 := n1_
                    have HO315 := n2_
                    have HO318 := n3_
                    have BK305 := n4_
                    have HB := n5_
                    clear n0_ n1_ n2_ n3_ n4_ n5_
                    have hHeld : w54.cell? ⟨gb305, 0, none⟩ = some (.int .u8 1) ∧ w54.cell? ⟨gb305, 1, none⟩ = some (.int .u8 40) ∧ w54.cell? ⟨gb305, 2, none⟩ = some (.int .u32 a0) ∧ w54.cell? ⟨gb305, 3, none⟩ = some (.string (((((strOfNums y302) ++ t306) ++ (⟨#[7]⟩ : ByteArray)) ++ a1) ++ (strOfNums y307))) := hS_
                    refine norm_ (a' := ?_) ?_ ?_
                    rotate_left
                    ·
                     simp only [putAll, Act.put, List.setIfInBounds_toArray, List.set_cons_zero, List.set_cons_succ]
                     rfl
                    refine one_ (i := 16) (N := some 78) #[true, true, true, true, true, true, true, true, true, true, true, true, true, true, true, true, true, true, false, true, true, true, false, false, false, true, false, false, false] rfl rfl (one_of HT_.out (by kernel_rfl)) (by decide) (fun K hK => ?_)
                    have hcv55 := own_string (P := Try.prog) Try.underlying43 Try.underlying5 Try.underlying9 (Kd.own_of_R HO315.out)
                    refine value_ (w1 := ?_) (v := ?_) (by rfl) rfl ?_ ?_
                    rotate_left 2
                    ·
                     go_simp
                     constructor
                     · rfl
                     · rfl
                    clear hcv55
                    refine hK.out _ _ ⟨(blk_cell BK305.out 0).trans rfl, (blk_cell BK305.out 1).trans rfl, (blk_cell BK305.out 2).trans rfl, (blk_cell BK305.out 3).trans rfl⟩ (fun hHeld => ?_)
                    clear hK K
                    refine norm_ (a' := ?_) ?_ ?_
                    rotate_left
                    ·
                     show Act.put _ (some 78) _ = _
                     simp only [Act.put, List.setIfInBounds_toArray, List.set_cons_zero, List.set_cons_succ, i64_w, i32_w]
                     rfl
                    refine pure_ (i := 18) (N := some 80) (v := ?_) (a' := ?_) #[true, true, true, true, true, true, true, true, true, true, true, true, true, true, true, true, true, true, true, true, true, true, false, false, false, true, false, false, false] rfl rfl (any_of HT_.out (by kernel_rfl)) (fun _ _ _ h => h) (Or.inl ⟨by rfl, ?_⟩) ?_ ?_
                    rotate_left
                    ·
                     intro w'
                     go_simp
                     with_reducible rfl
                    rotate_left
                    ·
                     simp only [Act.put, List.setIfInBounds_toArray, List.set_cons_zero, List.set_cons_succ, i64_w, i32_w]
                     rfl
                    exact norm_ (by first | (simp only [putAll, Act.put, List.setIfInBounds_toArray, List.set_cons_zero, List.set_cons_succ]; done) | (simp only [putAll, Act.put, List.setIfInBounds_toArray, List.set_cons_zero, List.set_cons_succ]; rfl)) (hJ15_16_20_21 (v314, v317) _ ⟨hHeld, (by (with_reducible repeat (first | apply Kd.R_alloc | apply Kd.R_drewN | apply Kd.R_drew)); exact HO304.out), (by (with_reducible repeat (first | apply Kd.R_alloc | apply Kd.R_drewN | apply Kd.R_drew)); exact HO309.out), (by (with_reducible repeat (first | apply Kd.R_alloc | apply Kd.R_drewN | apply Kd.R_drew)); exact HO315.out), (by (with_reducible repeat (first | apply Kd.R_alloc | apply Kd.R_drewN | apply Kd.R_drew)); exact HO318.out), (by (with_reducible repeat (first | refine blk_drewN ?_ _ | refine blk_drew ?_ | refine blk_alloc ?_ _)); exact BK305.out), (by repeat (first | (with_reducible first | exact HB.out | apply below_alloc | apply pw_below_drewN | apply below_drew1 | refine below_set ?_ GE305.out) | exact HB.out))⟩)
                  ·
                   skip
                   rintro ⟨v314, v317⟩ w54 ⟨hS_, h0_, h1_, h2_, h3_, h4_, h5_⟩
                   have n0_ : Aside0 (Kd.R (Kd.int .u8) 5 w54 w.heap.size (fun k_ => some k_ ≠ (v308 : Value).ownBlock ∧ some k_ ≠ (v314 : Value).ownBlock ∧ some k_ ≠ (v317 : Value).ownBlock) v303 y302) := ⟨h0_⟩
                   have n1_ : Aside0 (Kd.R (Kd.int .u8) 5 w54 w.heap.size (fun k_ => some k_ ≠ (v303 : Value).ownBlock ∧ some k_ ≠ (v314 : Value).ownBlock ∧ some k_ ≠ (v317 : Value).ownBlock) v308 y307) := ⟨h1_⟩
                   have n2_ : Aside0 (Kd.R (Kd.int .u8) 5 w54 w.heap.size (fun k_ => some k_ ≠ (v303 : Value).ownBlock ∧ some k_ ≠ (v308 : Value).ownBlock ∧ some k_ ≠ (v317 : Value).ownBlock) v314 y313) := ⟨h2_⟩
                   have n3_ : Aside0 (Kd.R (Kd.int .u8) 5 w54 w.heap.size (fun k_ => some k_ ≠ (v303 : Value).ownBlock ∧ some k_ ≠ (v308 : Value).ownBlock ∧ some k_ ≠ (v314 : Value).ownBlock) v317 y316) := ⟨h3_⟩
                   have n4_ : Aside0 (w54.heap[gb305]? = some (.cells #[.int .u8 1, .int .u8 40, .int .u32 a0, .string (((((strOfNums y302) ++ t306) ++ (⟨#[7]⟩ : ByteArray)) ++ a1) ++ (strOfNums y307))] 24 (0, 0))) := ⟨h4_⟩
                   have n5_ : Aside0 (Below w.heap.size w w54) := ⟨h5_⟩
                   clear HO304
                   clear HO309
                   clear BK305
                   clear HB
                   clear h0_ h1_ h2_ h3_ h4_ h5_
                   have HO304 := n0_
                   have HO309 := n1_
                   have HO315 := n2_
                   have HO318 := n3_
                   have BK305 := n4_
                   have HB := n5_
                   clear n0_ n1_ n2_ n3_ n4_ n5_
                   have hHeld : w54.cell? ⟨gb305, 0, none⟩ = some (.int .u8 1) ∧ w54.cell? ⟨gb305, 1, none⟩ = some (.int .u8 40) ∧ w54.cell? ⟨gb305, 2, none⟩ = some (.int .u32 a0) ∧ w54.cell? ⟨gb305, 3, none⟩ = some (.string (((((strOfNums y302) ++ t306) ++ (⟨#[7]⟩ : ByteArray)) ++ a1) ++ (strOfNums y307))) := hS_
                   refine norm_ (a' := ?_) ?_ ?_
                   rotate_left
                   ·
                    simp only [putAll, Act.put, List.setIfInBounds_toArray, List.set_cons_zero, List.set_cons_succ]
                    rfl
                   refine one_ (i := 21) (N := some 83) #[true, true, true, true, true, true, true, true, true, true, true, true, true, true, true, true, true, true, true, true, true, true, false, false, false, true, false, false, false] rfl rfl (one_of HT_.out (by kernel_rfl)) (by decide) (fun K hK => ?_)
                   have hcv55 := own_string (P := Try.prog) Try.underlying43 Try.underlying5 Try.underlying9 (Kd.own_of_R HO318.out)
                   refine value_ (w1 := ?_) (v := ?_) (by rfl) rfl ?_ ?_
                   rotate_left 2
                   ·
                    go_simp
                    constructor
                    · rfl
                    · rfl
                   clear hcv55
                   refine hK.out _ _ ⟨(blk_cell BK305.out 0).trans rfl, (blk_cell BK305.out 1).trans rfl, (blk_cell BK305.out 2).trans rfl, (blk_cell BK305.out 3).trans rfl⟩ (fun hHeld => ?_)
                   clear hK K
                   refine norm_ (a' := ?_) ?_ ?_
                   rotate_left
                   ·
                    show Act.put _ (some 83) _ = _
                    simp only [Act.put, List.setIfInBounds_toArray, List.set_cons_zero, List.set_cons_succ, i64_w, i32_w]
                    rfl
                   exact norm_ (by first | (simp only [putAll, Act.put, List.setIfInBounds_toArray, List.set_cons_zero, List.set_cons_succ]; done) | (simp only [putAll, Act.put, List.setIfInBounds_toArray, List.set_cons_zero, List.set_cons_succ]; rfl)) (hJ15_16_20_21 (v314, v317) _ ⟨hHeld, (by (with_reducible repeat (first | apply Kd.R_alloc | apply Kd.R_drewN | apply Kd.R_drew)); exact HO304.out), (by (with_reducible repeat (first | apply Kd.R_alloc | apply Kd.R_drewN | apply Kd.R_drew)); exact HO309.out), (by (with_reducible repeat (first | apply Kd.R_alloc | apply Kd.R_drewN | apply Kd.R_drew)); exact HO315.out), (by (with_reducible repeat (first | apply Kd.R_alloc | apply Kd.R_drewN | apply Kd.R_drew)); exact HO318.out), (by (with_reducible repeat (first | refine blk_drewN ?_ _ | refine blk_drew ?_ | refine blk_alloc ?_ _)); exact BK305.out), (by repeat (first | (with_reducible first | exact HB.out | apply below_alloc | apply pw_below_drewN | apply below_drew1 | refine below_set ?_ GE305.out) | exact HB.out))⟩)
                 rintro ⟨v314, v317⟩ w55 ⟨hS_, h0_, h1_, h2_, h3_, h4_, h5_⟩
                 have n0_ : Aside0 (Kd.R (Kd.int .u8) 5 w55 w.heap.size (fun k_ => some k_ ≠ (v308 : Value).ownBlock ∧ some k_ ≠ (v314 : Value).ownBlock ∧ some k_ ≠ (v317 : Value).ownBlock) v303 y302) := ⟨h0_⟩
                 have n1_ : Aside0 (Kd.R (Kd.int .u8) 5 w55 w.heap.size (fun k_ => some k_ ≠ (v303 : Value).ownBlock ∧ some k_ ≠ (v314 : Value).ownBlock ∧ some k_ ≠ (v317 : Value).ownBlock) v308 y307) := ⟨h1_⟩
                 have n2_ : Aside0 (Kd.R (Kd.int .u8) 5 w55 w.heap.size (fun k_ => some k_ ≠ (v303 : Value).ownBlock ∧ some k_ ≠ (v308 : Value).ownBlock ∧ some k_ ≠ (v317 : Value).ownBlock) v314 y313) := ⟨h2_⟩
                 have n3_ : Aside0 (Kd.R (Kd.int .u8) 5 w55 w.heap.size (fun k_ => some k_ ≠ (v303 : Value).ownBlock ∧ some k_ ≠ (v308 : Value).ownBlock ∧ some k_ ≠ (v314 : Value).ownBlock) v317 y316) := ⟨h3_⟩
                 have n4_ : Aside0 (w55.heap[gb305]? = some (.cells #[.int .u8 1, .int .u8 40, .int .u32 a0, .string (((((strOfNums y302) ++ t306) ++ (⟨#[7]⟩ : ByteArray)) ++ a1) ++ (strOfNums y307))] 24 (0, 0))) := ⟨h4_⟩
                 have n5_ : Aside0 (Below w.heap.size w w55) := ⟨h5_⟩
                 clear HO304
                 clear HO309
                 clear BK305
                 clear HB
                 clear h0_ h1_ h2_ h3_ h4_ h5_
                 have HO304 := n0_
                 have HO309 := n1_
                 have HO315 := n2_
                 have HO318 := n3_
                 have BK305 := n4_
                 have HB := n5_
                 clear n0_ n1_ n2_ n3_ n4_ n5_
                 have hHeld : w55.cell? ⟨gb305, 0, none⟩ = some (.int .u8 1) ∧ w55.cell? ⟨gb305, 1, none⟩ = some (.int .u8 40) ∧ w55.cell? ⟨gb305, 2, none⟩ = some (.int .u32 a0) ∧ w55.cell? ⟨gb305, 3, none⟩ = some (.string (((((strOfNums y302) ++ t306) ++ (⟨#[7]⟩ : ByteArray)) ++ a1) ++ (strOfNums y307))) := hS_
                 refine norm_ (a' := ?_) ?_ ?_
                 rotate_left
                 ·
                  simp only [putAll, Act.put, List.setIfInBounds_toArray, List.set_cons_zero, List.set_cons_succ]
                  rfl
                 refine pure_ (i := 22) (N := some 84) (v := ?_) (a' := ?_) #[true, true, true, true, true, true, true, true, true, true, true, true, true, true, true, true, true, true, true, true, true, true, true, false, false, true, false, false, false] rfl rfl (any_of HT_.out (by kernel_rfl)) (fun _ _ _ h => h) (Or.inl ⟨by rfl, ?_⟩) ?_ ?_
                 rotate_left
                 ·
                  intro w'
                  go_simp
                  with_reducible rfl
                 rotate_left
                 ·
                  simp only [Act.put, List.setIfInBounds_toArray, List.set_cons_zero, List.set_cons_succ, i64_w, i32_w]
                  rfl
                 refine pure_ (i := 23) (N := some 85) (v := ?_) (a' := ?_) #[true, true, true, true, true, true, true, true, true, true, true, true, true, true, true, true, true, true, true, true, true, true, true, true, false, true, false, false, false] rfl rfl (any_of HT_.out (by kernel_rfl)) (fun _ _ _ h => h) (Or.inl ⟨by rfl, ?_⟩) ?_ ?_
                 rotate_left
                 ·
                  intro w'
                  go_simp
                  with_reducible rfl
                 rotate_left
                 ·
                  simp only [Act.put, List.setIfInBounds_toArray, List.set_cons_zero, List.set_cons_succ, i64_w, i32_w]
                  rfl
                 refine one_ (i := 24) (N := some 86) #[true, true, true, true, true, true, true, true, true, true, true, true, true, true, true, true, true, true, true, true, true, true, true, true, true, true, false, false, false] rfl rfl (one_of HT_.out (by kernel_rfl)) (by decide) (fun K hK => ?_)
                 refine goes_ Try.func15 (by kernel_rfl) rfl #[.agg #[.int .u8 0, .int .u8 8, .int .u32 a0, .string (((strOfNums y313) ++ a1) ++ (strOfNums y316))]] (by rfl) rfl rfl (by (try simp only [List.map_toArray, List.map_cons, List.map_nil]); first | done | rfl | (simp only [List.length_drop, List.length_take]; rfl)) ?_
                 with_reducible refine (frame_Content.calls kj7 0 8 a0 (((strOfNums y313) ++ a1) ++ (strOfNums y316)) t319 _ A29.out).mono ?_
                 rintro e w56 ⟨rfl, hb⟩
                 refine ⟨_, rfl, ?_⟩
                 have n0_ := Aside0.mk (Kd.R_below (by (with_reducible repeat (first | apply Kd.R_alloc | apply Kd.R_drewN | apply Kd.R_drew)); exact HO304.out) hb)
                 have n1_ := Aside0.mk (Kd.R_below (by (with_reducible repeat (first | apply Kd.R_alloc | apply Kd.R_drewN | apply Kd.R_drew)); exact HO309.out) hb)
                 have n2_ := Aside0.mk (Kd.R_below (by (with_reducible repeat (first | apply Kd.R_alloc | apply Kd.R_drewN | apply Kd.R_drew)); exact HO315.out) hb)
                 have n3_ := Aside0.mk (Kd.R_below (by (with_reducible repeat (first | apply Kd.R_alloc | apply Kd.R_drewN | apply Kd.R_drew)); exact HO318.out) hb)
                 have n4_ := Aside0.mk (blk_below (g := gb305) (o := .cells #[.int .u8 1, .int .u8 40, .int .u32 a0, .string (((((strOfNums y302) ++ t306) ++ (⟨#[7]⟩ : ByteArray)) ++ a1) ++ (strOfNums y307))] 24 (0, 0)) (by (with_reducible repeat (first | refine blk_drewN ?_ _ | refine blk_drew ?_ | refine blk_alloc ?_ _)); exact BK305.out) hb)
                 have n5_ := Aside0.mk (below_step (by repeat (first | (with_reducible first | exact HB.out | apply below_alloc | apply pw_below_drewN | apply below_drew1 | refine below_set ?_ GE305.out) | exact HB.out)) hb)
                 clear HO304
                 clear HO309
                 clear HO315
                 clear HO318
                 clear BK305
                 clear HB
                 have HO304 := n0_
                 have HO309 := n1_
                 have HO315 := n2_
                 have HO318 := n3_
                 have BK305 := n4_
                 have HB := n5_
                 clear n0_ n1_ n2_ n3_ n4_ n5_
                 (try clear hb)
                 (try clear hb2)
                 (try clear hk)
                 (try clear hi)
                 refine hK.out _ _ ⟨(blk_cell BK305.out 0).trans rfl, (blk_cell BK305.out 1).trans rfl, (blk_cell BK305.out 2).trans rfl, (blk_cell BK305.out 3).trans rfl⟩ (fun hHeld => ?_)
                 clear hK K
                 refine norm_ (a' := ?_) ?_ ?_
                 rotate_left
                 ·
                  show Act.put _ (some 86) _ = _
                  simp only [Act.put, List.setIfInBounds_toArray, List.set_cons_zero, List.set_cons_succ, i64_w, i32_w]
                  rfl
                 refine pure_ (i := 26) (N := some 88) (v := ?_) (a' := ?_) #[true, true, true, true, true, true, true, true, true, true, true, true, true, true, true, true, true, true, true, true, true, true, true, true, true, true, true, false, false] rfl rfl (any_of HT_.out (by kernel_rfl)) (fun _ _ _ h => h) (Or.inl ⟨by rfl, ?_⟩) ?_ ?_
                 rotate_left
                 ·
                  intro w'
                  go_simp
                  with_reducible rfl
                 rotate_left
                 ·
                  simp only [Act.put, List.setIfInBounds_toArray, List.set_cons_zero, List.set_cons_succ, i64_w, i32_w]
                  rfl
                 refine pure_ (i := 27) (N := some 89) (v := ?_) (a' := ?_) #[true, true, true, true, true, true, true, true, true, true, true, true, true, true, true, true, true, true, true, true, true, true, true, true, true, true, true, true, false] rfl rfl (any_of HT_.out (by kernel_rfl)) (fun _ _ _ h => h) (Or.inl ⟨by rfl, ?_⟩) ?_ ?_
                 rotate_left
                 ·
                  intro w'
                  go_simp
                  with_reducible rfl
                 rotate_left
                 ·
                  simp only [Act.put, List.setIfInBounds_toArray, List.set_cons_zero, List.set_cons_succ, i64_w, i32_w]
                  rfl
                 refine pure_ (i := 28) (N := some 10) (v := ?_) (a' := ?_) #[true, true, true, true, true, true, true, true, true, true, true, true, true, true, true, true, true, true, true, true, true, true, true, true, true, true, true, true, true] rfl rfl (any_of HT_.out (by kernel_rfl)) (fun _ _ _ h => h) (Or.inl ⟨by rfl, ?_⟩) ?_ ?_
                 rotate_left
                 ·
                  intro w'
                  go_simp
                  with_reducible rfl
                 rotate_left
                 ·
                  simp only [Act.put, List.setIfInBounds_toArray, List.set_cons_zero, List.set_cons_succ, i64_w, i32_w]
                  rfl
                 refine done_ (done_of HT_.out (by kernel_rfl)) ?_
                 try go_wp2
                 go_ret
                 exact ⟨by first | rfl | (simp [errW_none, errW_some] <;> rfl) | (simp [*, errW_none, errW_some] <;> rfl), by repeat (first | (with_reducible first | exact HB.out | apply below_alloc | apply pw_below_drewN | apply below_drew1 | refine below_set ?_ GE305.out) | exact HB.out)⟩
                ·
                 rw [if_neg c28] at H
                 exact absurd H (by simp)
               ·
                rw [if_neg c27] at H
                exact absurd H (by simp)
              ·
               rw [if_neg c26] at H
               have c26b0 : (t312.toList == a1.toList) = false := beq_eq_false_iff_ne.mpr c26
               have c26b1 : (t312.toList != a1.toList) = true := bne_iff_ne.mpr c26
               exact absurd ((Option.some.inj H).trans HT.out) (by decide)
             ·
              rw [if_neg c24] at H
              have c24b0 : (t311 == 0) = false := beq_eq_false_iff_ne.mpr c24
              have c24b1 : (t311 != 0) = true := bne_iff_ne.mpr c24
              exact absurd ((Option.some.inj H).trans HT.out) (by decide)
            ·
             rw [if_neg c23] at H
             have c23b0 : (t310 == 0) = false := beq_eq_false_iff_ne.mpr c23
             have c23b1 : (t310 != 0) = true := bne_iff_ne.mpr c23
             exact absurd ((Option.some.inj H).trans HT.out) (by decide)
           ·
            rw [if_neg c21] at H
            exact absurd H (by simp)
          ·
           rw [if_neg c20] at H
           exact absurd H (by simp)
         ·
          rw [if_neg c19] at H
          exact absurd H (by simp)
        ·
         rw [if_neg c18] at H
         exact absurd H (by simp)
       ·
        rw [if_neg c17] at H
        exact absurd H (by simp)
      ·
       rw [if_neg c16] at H
       exact absurd H (by simp)
     ·
      replace c14 := Bool.eq_false_iff.mpr c14
      subst c14
      have H1 : (if (strOfNums y302).size + a1.size ≤ 9223372036854775807 then (if 0 ≤ a2 then (if (a2 : Int).toNat ≤ 281474976710656 then ((some (List.replicate (a2 : Int).toNat 0 : List Int)).bind fun y320 => (if ((strOfNums y302).size + a1.size) + (strOfNums y320).size ≤ 9223372036854775807 then ((frame_Wrong.f kj7 1 8 a0 (((strOfNums y302) ++ a1) ++ (strOfNums y320))).bind fun bt323 => (if bt323.1 = 0 then (if bt323.2 = 0 then ((frame_Content.f kj7 1 8 a0 (((strOfNums y302) ++ a1) ++ (strOfNums y320))).bind fun t325 => (if t325.toList = a1.toList then ((some (([a2] : List Int) : List Int)).bind fun y326 => (if (strOfNums y326).size + a1.size ≤ 9223372036854775807 then ((some (List.replicate (a2 : Int).toNat 0 : List Int)).bind fun y329 => (if ((strOfNums y326).size + a1.size) + (strOfNums y329).size ≤ 9223372036854775807 then ((frame_Content.f kj7 0 8 a0 (((strOfNums y326) ++ a1) ++ (strOfNums y329))).bind fun t332 => (some (t332.toList == a1.toList))) else (none))) else (none))) else (some false))) else (some false)) else (some false))) else (none))) else (none)) else (none)) else (none)) = some r := by rw [if_neg (show ¬ (false = true) by decide)] at H; exact H
      clear H
      have H := H1
      clear H1
      by_cases c57 : (strOfNums y302).size + a1.size ≤ 9223372036854775807
      ·
       rw [if_pos c57] at H
       have c57b0 := eq_true c57
       have c57b1 : decide ((strOfNums y302).size + a1.size ≤ 9223372036854775807) = true := decide_eq_true c57
       try have c57b2 : (9223372036854775807 < (strOfNums y302).size + a1.size) = False := eq_false (Nat.not_lt.2 c57)
       by_cases c58 : 0 ≤ a2
       ·
        rw [if_pos c58] at H
        have c58b0 := eq_true c58
        have c58b1 : decide (0 ≤ a2) = true := decide_eq_true c58
        clear c58
        by_cases c59 : (a2 : Int).toNat ≤ 281474976710656
        ·
         rw [if_pos c59] at H
         have c59b0 := eq_true c59
         have c59b1 : decide ((a2 : Int).toNat ≤ 281474976710656) = true := decide_eq_true c59
         clear c59
         obtain ⟨y320, hy320⟩ : ∃ y_ : List Int, y_ = (List.replicate (a2 : Int).toNat 0) := ⟨_, rfl⟩
         replace H : (if ((strOfNums y302).size + a1.size) + (strOfNums y320).size ≤ 9223372036854775807 then ((frame_Wrong.f kj7 1 8 a0 (((strOfNums y302) ++ a1) ++ (strOfNums y320))).bind fun bt323 => (if bt323.1 = 0 then (if bt323.2 = 0 then ((frame_Content.f kj7 1 8 a0 (((strOfNums y302) ++ a1) ++ (strOfNums y320))).bind fun t325 => (if t325.toList = a1.toList then ((some (([a2] : List Int) : List Int)).bind fun y326 => (if (strOfNums y326).size + a1.size ≤ 9223372036854775807 then ((some (List.replicate (a2 : Int).toNat 0 : List Int)).bind fun y329 => (if ((strOfNums y326).size + a1.size) + (strOfNums y329).size ≤ 9223372036854775807 then ((frame_Content.f kj7 0 8 a0 (((strOfNums y326) ++ a1) ++ (strOfNums y329))).bind fun t332 => (some (t332.toList == a1.toList))) else (none))) else (none))) else (some false))) else (some false)) else (some false))) else (none)) = some r := by first | (rw [hy320]; with_reducible exact H) | (have H2_ := (Option.bind_some _ _).symm.trans H; rw [hy320]; with_reducible exact H2_) | (have H2_ := (Option.bind_some _ _).symm.trans H; with_reducible exact H2_) | with_reducible exact H | (rw [hy320]; exact H) | exact H
         have Ny320 := Aside0.mk hy320
         clear hy320
         by_cases c60 : ((strOfNums y302).size + a1.size) + (strOfNums y320).size ≤ 9223372036854775807
         ·
          rw [if_pos c60] at H
          have c60b0 := eq_true c60
          have c60b1 : decide (((strOfNums y302).size + a1.size) + (strOfNums y320).size ≤ 9223372036854775807) = true := decide_eq_true c60
          try have c60b2 : (9223372036854775807 < ((strOfNums y302).size + a1.size) + (strOfNums y320).size) = False := eq_false (Nat.not_lt.2 c60)
          replace H := Option.bind_eq_some_iff.mp H
          obtain ⟨⟨t323, t324⟩, A610, H⟩ := H
          replace H : (if t323 = 0 then (if t324 = 0 then ((frame_Content.f kj7 1 8 a0 (((strOfNums y302) ++ a1) ++ (strOfNums y320))).bind fun t325 => (if t325.toList = a1.toList then ((some (([a2] : List Int) : List Int)).bind fun y326 => (if (strOfNums y326).size + a1.size ≤ 9223372036854775807 then ((some (List.replicate (a2 : Int).toNat 0 : List Int)).bind fun y329 => (if ((strOfNums y326).size + a1.size) + (strOfNums y329).size ≤ 9223372036854775807 then ((frame_Content.f kj7 0 8 a0 (((strOfNums y326) ++ a1) ++ (strOfNums y329))).bind fun t332 => (some (t332.toList == a1.toList))) else (none))) else (none))) else (some false))) else (some false)) else (some false)) = some r := H
          have A61 := Aside0.mk A610
          clear A610
          by_cases c62 : t323 = 0
          ·
           rw [if_pos c62] at H
           have c62b0 : (t323 == 0) = true := beq_iff_eq.mpr c62
           have c62b1 : (t323 != 0) = false := bne_eq_false_iff_eq.mpr c62
           clear c62
           by_cases c63 : t324 = 0
           ·
            rw [if_pos c63] at H
            have c63b0 : (t324 == 0) = true := beq_iff_eq.mpr c63
            have c63b1 : (t324 != 0) = false := bne_eq_false_iff_eq.mpr c63
            clear c63
            replace H := Option.bind_eq_some_iff.mp H
            obtain ⟨t325, A640, H⟩ := H
            replace H : (if t325.toList = a1.toList then ((some (([a2] : List Int) : List Int)).bind fun y326 => (if (strOfNums y326).size + a1.size ≤ 9223372036854775807 then ((some (List.replicate (a2 : Int).toNat 0 : List Int)).bind fun y329 => (if ((strOfNums y326).size + a1.size) + (strOfNums y329).size ≤ 9223372036854775807 then ((frame_Content.f kj7 0 8 a0 (((strOfNums y326) ++ a1) ++ (strOfNums y329))).bind fun t332 => (some (t332.toList == a1.toList))) else (none))) else (none))) else (some false)) = some r := H
            have A64 := Aside0.mk A640
            clear A640
            by_cases c65 : t325.toList = a1.toList
            ·
             rw [if_pos c65] at H
             have c65b0 : (t325.toList == a1.toList) = true := beq_iff_eq.mpr c65
             have c65b1 : (t325.toList != a1.toList) = false := bne_eq_false_iff_eq.mpr c65
             clear c65
             obtain ⟨y326, hy326⟩ : ∃ y_ : List Int, y_ = (([a2] : List Int)) := ⟨_, rfl⟩
             replace H : (if (strOfNums y326).size + a1.size ≤ 9223372036854775807 then ((some (List.replicate (a2 : Int).toNat 0 : List Int)).bind fun y329 => (if ((strOfNums y326).size + a1.size) + (strOfNums y329).size ≤ 9223372036854775807 then ((frame_Content.f kj7 0 8 a0 (((strOfNums y326) ++ a1) ++ (strOfNums y329))).bind fun t332 => (some (t332.toList == a1.toList))) else (none))) else (none)) = some r := by first | (rw [hy326]; with_reducible exact H) | (have H2_ := (Option.bind_some _ _).symm.trans H; rw [hy326]; with_reducible exact H2_) | (have H2_ := (Option.bind_some _ _).symm.trans H; with_reducible exact H2_) | with_reducible exact H | (rw [hy326]; exact H) | exact H
             have Ny326 := Aside0.mk hy326
             clear hy326
             by_cases c66 : (strOfNums y326).size + a1.size ≤ 9223372036854775807
             ·
              rw [if_pos c66] at H
              have c66b0 := eq_true c66
              have c66b1 : decide ((strOfNums y326).size + a1.size ≤ 9223372036854775807) = true := decide_eq_true c66
              try have c66b2 : (9223372036854775807 < (strOfNums y326).size + a1.size) = False := eq_false (Nat.not_lt.2 c66)
              obtain ⟨y329, hy329⟩ : ∃ y_ : List Int, y_ = (List.replicate (a2 : Int).toNat 0) := ⟨_, rfl⟩
              replace H : (if ((strOfNums y326).size + a1.size) + (strOfNums y329).size ≤ 9223372036854775807 then ((frame_Content.f kj7 0 8 a0 (((strOfNums y326) ++ a1) ++ (strOfNums y329))).bind fun t332 => (some (t332.toList == a1.toList))) else (none)) = some r := by first | (rw [hy329]; with_reducible exact H) | (have H2_ := (Option.bind_some _ _).symm.trans H; rw [hy329]; with_reducible exact H2_) | (have H2_ := (Option.bind_some _ _).symm.trans H; with_reducible exact H2_) | with_reducible exact H | (rw [hy329]; exact H) | exact H
              have Ny329 := Aside0.mk hy329
              clear hy329
              by_cases c67 : ((strOfNums y326).size + a1.size) + (strOfNums y329).size ≤ 9223372036854775807
              ·
               rw [if_pos c67] at H
               have c67b0 := eq_true c67
               have c67b1 : decide (((strOfNums y326).size + a1.size) + (strOfNums y329).size ≤ 9223372036854775807) = true := decide_eq_true c67
               try have c67b2 : (9223372036854775807 < ((strOfNums y326).size + a1.size) + (strOfNums y329).size) = False := eq_false (Nat.not_lt.2 c67)
               replace H := Option.bind_eq_some_iff.mp H
               obtain ⟨t332, A680, H⟩ := H
               replace H : (some (t332.toList == a1.toList)) = some r := H
               have A68 := Aside0.mk A680
               clear A680
               obtain rfl := Option.some.inj H
               try go_wp2_with (first | ((with_reducible refine gate_dst (N := 35) rfl ?_); (try (refine gate_guard (by rfl) ?_; dsimp only)); refine Kd.R_lit (Kd.int .u8) _ 5 ?hg (N := 35) ?hd (xs := ([a2] : List Int)) (inner := [.int .u8 a2]) (ok := fun _ => True) (okp := fun _ => True) ?hr ?hp (fun _ hk => hk) trivial (Below.refl _ _) (Nat.le_refl _) (by simp) ?_; (case hd => rfl); (case hg => rfl); (case hr => first | (go_simp; done) | (go_simp; rfl)); (case hp => exact (Reps.one (show Kd.M (Kd.int .u8) _ _ _ a2 [.int .u8 a2] from rfl) (Reps.none _ _))); intro v303 w69 ho70 hb hg_ hnew_; clear hg_ hnew_; (first | rw [← Ny302.out] at ho70 | (simp only [Int.reduceToNat] at ho70; rw [← Ny302.out] at ho70)); have n0_ := Aside0.mk (Kd.R_lower ho70 (below_size (by repeat (first | (with_reducible first | exact HB.out | apply below_alloc | apply pw_below_drewN | apply below_drew1) | exact HB.out)))); have n1_ := Aside0.mk (below_step (by repeat (first | (with_reducible first | exact HB.out | apply below_alloc | apply pw_below_drewN | apply below_drew1) | exact HB.out)) hb); clear HB; have HO304 := n0_; have HB := n1_; clear n0_ n1_; clear hb ho70; have hcv71 := own_string (P := Try.prog) Try.underlying43 Try.underlying5 Try.underlying9 (Kd.own_of_R HO304.out)) | ((with_reducible refine gate_dst (N := 11) rfl ?_); (try (refine gate_guard (by rfl) ?_; dsimp only)); refine box_event ?hg (N := 11) ?hd (cs := #[.int .u8 0, .int .u8 0, .int .u32 0, .string (⟨#[]⟩ : ByteArray)]) (t := 24) ?hr ?_; (case hd => rfl); (case hg => rfl); (case hr => first | (go_simp; done) | (go_simp; rfl)); intro gb305 hg w72 hbox hb; have n0_ := Aside0.mk (Kd.R_below (by (with_reducible repeat (first | apply Kd.R_alloc | apply Kd.R_drewN | apply Kd.R_drew)); exact HO304.out) hb); have n1_ := Aside0.mk (below_step (by repeat (first | (with_reducible first | exact HB.out | apply below_alloc | apply pw_below_drewN | apply below_drew1) | exact HB.out)) hb); have n2_ := Aside0.mk (hbox); have n3_ := Aside0.mk ((by rw [hg]; exact (below_size (by repeat (first | (with_reducible first | exact HB.out | apply below_alloc | apply pw_below_drewN | apply below_drew1) | exact HB.out))) : w.heap.size ≤ gb305)); have n4_ := Aside0.mk ((by rw [hg]; exact (below_size (by repeat (first | (with_reducible first | exact HB.out | apply below_alloc | apply pw_below_drewN | apply below_drew1) | exact HB.out))) : w.heap.size ≤ gb305)); clear HO304; clear HB; have HO304 := n0_; have HB := n1_; have BK305 := n2_; have GW305 := n3_; have GE305 := n4_; clear n0_ n1_ n2_ n3_ n4_; clear hb hbox hg; have hcz73_0 : w72.cell? ⟨gb305, 0, none⟩ = some (.int .u8 0) := (blk_cell BK305.out 0).trans rfl; have hcz73_1 : w72.cell? ⟨gb305, 1, none⟩ = some (.int .u8 0) := (blk_cell BK305.out 1).trans rfl; have hcz73_2 : w72.cell? ⟨gb305, 2, none⟩ = some (.int .u32 0) := (blk_cell BK305.out 2).trans rfl; have hcz73_3 : w72.cell? ⟨gb305, 3, none⟩ = some (.string (⟨#[]⟩ : ByteArray)) := (blk_cell BK305.out 3).trans rfl; have hfz73_0 := blk_frozen BK305.out 0; have hfz73_1 := blk_frozen BK305.out 1; have hfz73_2 := blk_frozen BK305.out 2; have hfz73_3 := blk_frozen BK305.out 3))
               have n0_ : Aside0 (Kd.R (Kd.int .u8) 5 ((((w72.setCell ⟨gb305, 0, none⟩ (.int .u8 1)).setCell ⟨gb305, 1, none⟩ (.int .u8 8)).setCell ⟨gb305, 2, none⟩ (.int .u32 a0)).setCell ⟨gb305, 3, none⟩ (.string (strOfNums y302))) w.heap.size (fun _ => True) v303 y302) := ⟨by (with_reducible repeat (first | apply Kd.R_alloc | apply Kd.R_drewN | apply Kd.R_drew)); exact Kd.R_mono (Kd.R_far (p := ⟨gb305, 3, none⟩) (Kd.R_far (p := ⟨gb305, 2, none⟩) (Kd.R_far (p := ⟨gb305, 1, none⟩) (Kd.R_far (p := ⟨gb305, 0, none⟩) (Kd.R_types HO304.out BK305.out (by decide)) (fun _ hk => hk.2) (.int .u8 1)) (fun _ hk => hk.2) (.int .u8 8)) (fun _ hk => hk.2) (.int .u32 a0)) (fun _ hk => hk.2) (.string (strOfNums y302))) (fun _ hk => trivial)⟩
               have n1_ : Aside0 (((((w72.setCell ⟨gb305, 0, none⟩ (.int .u8 1)).setCell ⟨gb305, 1, none⟩ (.int .u8 8)).setCell ⟨gb305, 2, none⟩ (.int .u32 a0)).setCell ⟨gb305, 3, none⟩ (.string (strOfNums y302))).heap[gb305]? = some (.cells #[.int .u8 1, .int .u8 8, .int .u32 a0, .string (strOfNums y302)] 24 (0, 0))) := ⟨by (with_reducible repeat (first | refine blk_drewN ?_ _ | refine blk_drew ?_ | refine blk_alloc ?_ _)); refine blk_put (cs := #[.int .u8 1, .int .u8 8, .int .u32 a0, .string (⟨#[]⟩ : ByteArray)]) ?_ 3 _ rfl; (with_reducible repeat (first | refine blk_drewN ?_ _ | refine blk_drew ?_ | refine blk_alloc ?_ _)); refine blk_put (cs := #[.int .u8 1, .int .u8 8, .int .u32 0, .string (⟨#[]⟩ : ByteArray)]) ?_ 2 _ rfl; (with_reducible repeat (first | refine blk_drewN ?_ _ | refine blk_drew ?_ | refine blk_alloc ?_ _)); refine blk_put (cs := #[.int .u8 1, .int .u8 0, .int .u32 0, .string (⟨#[]⟩ : ByteArray)]) ?_ 1 _ rfl; (with_reducible repeat (first | refine blk_drewN ?_ _ | refine blk_drew ?_ | refine blk_alloc ?_ _)); refine blk_put (cs := #[.int .u8 0, .int .u8 0, .int .u32 0, .string (⟨#[]⟩ : ByteArray)]) ?_ 0 _ rfl; (with_reducible repeat (first | refine blk_drewN ?_ _ | refine blk_drew ?_ | refine blk_alloc ?_ _)); exact BK305.out⟩
               have n2_ : Aside0 (Below w.heap.size w ((((w72.setCell ⟨gb305, 0, none⟩ (.int .u8 1)).setCell ⟨gb305, 1, none⟩ (.int .u8 8)).setCell ⟨gb305, 2, none⟩ (.int .u32 a0)).setCell ⟨gb305, 3, none⟩ (.string (strOfNums y302)))) := ⟨by repeat (first | (with_reducible first | exact HB.out | apply below_alloc | apply pw_below_drewN | apply below_drew1 | refine below_set ?_ GE305.out) | exact HB.out)⟩
               (try clear HO304)
               (try clear BK305)
               (try clear HB)
               generalize ((((w72.setCell ⟨gb305, 0, none⟩ (.int .u8 1)).setCell ⟨gb305, 1, none⟩ (.int .u8 8)).setCell ⟨gb305, 2, none⟩ (.int .u32 a0)).setCell ⟨gb305, 3, none⟩ (.string (strOfNums y302))) = w74 at n0_ n1_ n2_ ⊢
               have HO304 := n0_
               have BK305 := n1_
               have HB := n2_
               clear n0_ n1_ n2_
               have n0_ := Aside0.mk (Kd.R_drew HO304.out)
               have n1_ := Aside0.mk (blk_drew BK305.out)
               have n2_ := Aside0.mk (below_drew1 HB.out)
               clear HO304
               clear BK305
               clear HB
               have HO304 := n0_
               have BK305 := n1_
               have HB := n2_
               clear n0_ n1_ n2_
               refine start_ (n := 10) (S := fun w' => w'.cell? ⟨gb305, 0, none⟩ = some (.int .u8 1) ∧ w'.cell? ⟨gb305, 1, none⟩ = some (.int .u8 8) ∧ w'.cell? ⟨gb305, 2, none⟩ = some (.int .u32 a0) ∧ w'.cell? ⟨gb305, 3, none⟩ = some (.string (strOfNums y302))) (ds := [9]) #[false, false, false, false, false, false, false, false, false, false] (by kernel_rfl) rfl rfl ⟨(blk_cell BK305.out 0).trans rfl, (blk_cell BK305.out 1).trans rfl, (blk_cell BK305.out 2).trans rfl, (blk_cell BK305.out 3).trans rfl⟩ (fun hHeld => ?_); refine with_tabW nunciolaw14_FramePads.tab9 nunciolaw14_FramePads.bits9 (fun HT_ HW_ => ?_)
               generalize w74.drew = w75 at HO304 BK305 HB hHeld ⊢
               refine pure_ (i := 0) (N := some 48) (v := ?_) (a' := ?_) #[true, false, false, false, false, false, false, false, false, false] rfl rfl (any_of HT_.out (by kernel_rfl)) (fun _ _ _ h => h) (Or.inl ⟨by rfl, ?_⟩) ?_ ?_
               rotate_left
               ·
                intro w'
                go_simp
                with_reducible rfl
               rotate_left
               ·
                simp only [Act.put, List.setIfInBounds_toArray, List.set_cons_zero, List.set_cons_succ, i64_w, i32_w]
                rfl
               refine pure_ (i := 2) (N := some 50) (v := ?_) (a' := ?_) #[true, false, true, false, false, false, false, false, false, false] rfl rfl (any_of HT_.out (by kernel_rfl)) (fun _ _ _ h => h) (Or.inl ⟨by rfl, ?_⟩) ?_ ?_
               rotate_left
               ·
                intro w'
                go_simp
                with_reducible rfl
               rotate_left
               ·
                simp only [Act.put, List.setIfInBounds_toArray, List.set_cons_zero, List.set_cons_succ, i64_w, i32_w]
                rfl
               refine pure_ (i := 4) (N := some 52) (v := ?_) (a' := ?_) #[true, false, true, false, true, false, false, false, false, false] rfl rfl (any_of HT_.out (by kernel_rfl)) (fun _ _ _ h => h) (Or.inl ⟨by rfl, ?_⟩) ?_ ?_
               rotate_left
               ·
                intro w'
                go_simp
                with_reducible rfl
               rotate_left
               ·
                simp only [Act.put, List.setIfInBounds_toArray, List.set_cons_zero, List.set_cons_succ, i64_w, i32_w]
                rfl
               refine take_ (i := 1) (N := some 49) (v := ?_) (a' := ?_) #[true, true, true, false, true, false, false, false, false, false] rfl rfl (take_ofW HT_.out HW_.out (by kernel_rfl)) (fun _ _ _ h => h) (Or.inl ⟨by rfl, ?_⟩) hHeld ?_ ?_
               rotate_left
               ·
                rintro w' ⟨s0, s1, s2, s3⟩
                go_simp
                with_reducible rfl
               rotate_left
               ·
                simp only [Act.put, List.setIfInBounds_toArray, List.set_cons_zero, List.set_cons_succ, i64_w, i32_w]
                rfl
               refine pure_ (i := 3) (N := some 51) (v := ?_) (a' := ?_) #[true, true, true, true, true, false, false, false, false, false] rfl rfl (any_of HT_.out (by kernel_rfl)) (fun _ _ _ h => h) (Or.inl ⟨by rfl, ?_⟩) ?_ ?_
               rotate_left
               ·
                intro w'
                go_simp
                with_reducible rfl
               rotate_left
               ·
                simp only [Act.put, List.setIfInBounds_toArray, List.set_cons_zero, List.set_cons_succ, i64_w, i32_w]
                rfl
               refine one_ (i := 5) (N := some 53) #[true, true, true, true, true, true, false, false, false, false] rfl rfl (one_of HT_.out (by kernel_rfl)) (by decide) (fun K hK => ?_)
               refine Kd.R_makek_step (Kd.int .u8) _ 5 (by rfl) (N := 53) rfl 43 _ _ rfl a2 rfl rfl Try.underlying43 (.int .u8 0) 1 info5 rfl (by decide) (by omega) 0 (ok := fun _ => True) (okp := fun _ => True) rfl (fun _ hk => hk) trivial (of_decide_eq_true (by first | (with_reducible assumption) | assumption)) (Nat.le_trans (Nat.mul_le_mul_right _ (of_decide_eq_true (by first | (with_reducible assumption) | assumption) : a2.toNat ≤ 281474976710656)) (by omega)) (Below.refl _ _) (Nat.le_refl _) ?_
               intro v321 w76 ho77 hb hg_ hnew_
               clear hg_ hnew_
               (first | rw [← Ny320.out] at ho77 | (simp only [Int.reduceToNat] at ho77; rw [← Ny320.out] at ho77))
               have n0_ := Aside0.mk (Kd.R_elder' (by (with_reducible repeat (first | apply Kd.R_alloc | apply Kd.R_drewN | apply Kd.R_drew)); exact HO304.out) (Kd.R_base ho77) hb)
               have n1_ := Aside0.mk (Kd.R_lower (Kd.R_new' ho77 (Kd.R_lt (by (with_reducible repeat (first | apply Kd.R_alloc | apply Kd.R_drewN | apply Kd.R_drew)); exact HO304.out))) (below_size (by repeat (first | (with_reducible first | exact HB.out | apply below_alloc | apply pw_below_drewN | apply below_drew1 | refine below_set ?_ GE305.out) | exact HB.out))))
               have n2_ := Aside0.mk (blk_below (g := gb305) (o := .cells #[.int .u8 1, .int .u8 8, .int .u32 a0, .string (strOfNums y302)] 24 (0, 0)) (by (with_reducible repeat (first | refine blk_drewN ?_ _ | refine blk_drew ?_ | refine blk_alloc ?_ _)); exact BK305.out) hb)
               have n3_ := Aside0.mk (below_step (by repeat (first | (with_reducible first | exact HB.out | apply below_alloc | apply pw_below_drewN | apply below_drew1 | refine below_set ?_ GE305.out) | exact HB.out)) hb)
               clear HO304
               clear BK305
               clear HB
               have HO304 := n0_
               have HO322 := n1_
               have BK305 := n2_
               have HB := n3_
               clear n0_ n1_ n2_ n3_
               clear hb ho77
               refine hK.out _ _ ⟨(blk_cell BK305.out 0).trans rfl, (blk_cell BK305.out 1).trans rfl, (blk_cell BK305.out 2).trans rfl, (blk_cell BK305.out 3).trans rfl⟩ (fun hHeld => ?_)
               clear hK K
               refine norm_ (a' := ?_) ?_ ?_
               rotate_left
               ·
                show Act.put _ (some 53) _ = _
                simp only [Act.put, List.setIfInBounds_toArray, List.set_cons_zero, List.set_cons_succ, i64_w, i32_w]
                rfl
               refine one_ (i := 6) (N := some 54) #[true, true, true, true, true, true, true, false, false, false] rfl rfl (one_of HT_.out (by kernel_rfl)) (by decide) (fun K hK => ?_)
               have hcv78 := own_string (P := Try.prog) Try.underlying43 Try.underlying5 Try.underlying9 (Kd.own_of_R HO322.out)
               refine value_ (w1 := ?_) (v := ?_) (by rfl) rfl ?_ ?_
               rotate_left 2
               ·
                go_simp
                constructor
                · rfl
                · rfl
               clear hcv78
               refine hK.out _ _ ⟨(blk_cell BK305.out 0).trans rfl, (blk_cell BK305.out 1).trans rfl, (blk_cell BK305.out 2).trans rfl, (blk_cell BK305.out 3).trans rfl⟩ (fun hHeld => ?_)
               clear hK K
               refine norm_ (a' := ?_) ?_ ?_
               rotate_left
               ·
                show Act.put _ (some 54) _ = _
                simp only [Act.put, List.setIfInBounds_toArray, List.set_cons_zero, List.set_cons_succ, i64_w, i32_w]
                rfl
               refine pure_ (i := 7) (N := some 55) (v := ?_) (a' := ?_) #[true, true, true, true, true, true, true, true, false, false] rfl rfl (any_of HT_.out (by kernel_rfl)) (fun _ _ _ h => h) (Or.inl ⟨by rfl, ?_⟩) ?_ ?_
               rotate_left
               ·
                intro w'
                go_simp
                with_reducible rfl
               rotate_left
               ·
                simp only [Act.put, List.setIfInBounds_toArray, List.set_cons_zero, List.set_cons_succ, i64_w, i32_w]
                rfl
               refine pure_ (i := 8) (N := some 56) (v := ?_) (a' := ?_) #[true, true, true, true, true, true, true, true, true, false] rfl rfl (any_of HT_.out (by kernel_rfl)) (fun _ _ _ h => h) (Or.inl ⟨by rfl, ?_⟩) ?_ ?_
               rotate_left
               ·
                intro w'
                go_simp
                with_reducible rfl
               rotate_left
               ·
                simp only [Act.put, List.setIfInBounds_toArray, List.set_cons_zero, List.set_cons_succ, i64_w, i32_w]
                rfl
               refine last_ (i := 9) (N := none) #[true, true, true, true, true, true, true, true, true, true] rfl rfl (one_of HT_.out (by kernel_rfl)) (by decide) (fun K hK => ?_)
               have hs79 : w76.cell? ⟨gb305, 3, none⟩ = some (.string (strOfNums y302)) := (blk_cell BK305.out 3).trans rfl
               have hfs79 := blk_frozen BK305.out 3
               refine skip_ (w1 := ?_) (by rfl) rfl ?_ ?_
               rotate_left
               ·
                go_simp
                rfl
               refine hK.out _ _ ?_
               clear hK K
               refine done_ (done_of HT_.out (by kernel_rfl)) ?_
               have hcz80_0 : w76.cell? ⟨gb305, 0, none⟩ = some (.int .u8 1) := (blk_cell BK305.out 0).trans rfl
               have hcz80_1 : w76.cell? ⟨gb305, 1, none⟩ = some (.int .u8 8) := (blk_cell BK305.out 1).trans rfl
               have hcz80_2 : w76.cell? ⟨gb305, 2, none⟩ = some (.int .u32 a0) := (blk_cell BK305.out 2).trans rfl
               have hcz80_3 : w76.cell? ⟨gb305, 3, none⟩ = some (.string (strOfNums y302)) := (blk_cell BK305.out 3).trans rfl
               have hfz80_0 := blk_frozen BK305.out 0
               have hfz80_1 := blk_frozen BK305.out 1
               have hfz80_2 := blk_frozen BK305.out 2
               have hfz80_3 := blk_frozen BK305.out 3
               try go_wp2_with (first | ((with_reducible refine gate_callee (f := 13) rfl ?_); refine goesL_ (some 59) rfl rfl Try.func13 (by kernel_rfl) rfl #[.agg #[.int .u8 1, .int .u8 8, .int .u32 a0, .string (((strOfNums y302) ++ a1) ++ (strOfNums y320))]] rfl (by (try simp only [List.map_toArray, List.map_cons, List.map_nil]); first | done | rfl | (simp only [List.length_drop, List.length_take]; rfl)) ?_; (with_reducible refine (frame_Wrong.calls kj7 1 8 a0 (((strOfNums y302) ++ a1) ++ (strOfNums y320)) t323 t324 _ A61.out).mono ?_); rintro e w81 ⟨rfl, hb⟩; refine ⟨_, rfl, ?_⟩; have n0_ := Aside0.mk (Kd.R_below (by (with_reducible repeat (first | apply Kd.R_alloc | apply Kd.R_drewN | apply Kd.R_drew)); exact (Kd.R_mono (Kd.R_far (p := ⟨gb305, 3, none⟩) (Kd.R_types HO304.out BK305.out (by decide)) (fun _ hk => hk.2) (.string (((strOfNums y302) ++ a1) ++ (strOfNums y320)))) (fun _ h_ => h_.1))) hb); have n1_ := Aside0.mk (Kd.R_below (by (with_reducible repeat (first | apply Kd.R_alloc | apply Kd.R_drewN | apply Kd.R_drew)); exact (Kd.R_mono (Kd.R_far (p := ⟨gb305, 3, none⟩) (Kd.R_types HO322.out BK305.out (by decide)) (fun _ hk => hk.2) (.string (((strOfNums y302) ++ a1) ++ (strOfNums y320)))) (fun _ h_ => h_.1))) hb); have n2_ := Aside0.mk (blk_below (g := gb305) (o := .cells #[.int .u8 1, .int .u8 8, .int .u32 a0, .string (((strOfNums y302) ++ a1) ++ (strOfNums y320))] 24 (0, 0)) (by (with_reducible repeat (first | refine blk_drewN ?_ _ | refine blk_drew ?_ | refine blk_alloc ?_ _)); refine blk_put (cs := #[.int .u8 1, .int .u8 8, .int .u32 a0, .string (strOfNums y302)]) ?_ 3 _ rfl; (with_reducible repeat (first | refine blk_drewN ?_ _ | refine blk_drew ?_ | refine blk_alloc ?_ _)); exact BK305.out) hb); have n3_ := Aside0.mk (below_step (by repeat (first | (with_reducible first | exact HB.out | apply below_alloc | apply pw_below_drewN | apply below_drew1 | refine below_set ?_ GE305.out) | exact HB.out)) hb); clear HO304; clear HO322; clear BK305; clear HB; have HO304 := n0_; have HO322 := n1_; have BK305 := n2_; have HB := n3_; clear n0_ n1_ n2_ n3_; (try clear hb); (try clear hb2); (try clear hk); (try clear hi)))
               have n0_ := Aside0.mk (Kd.R_drew HO304.out)
               have n1_ := Aside0.mk (Kd.R_drew HO322.out)
               have n2_ := Aside0.mk (blk_drew BK305.out)
               have n3_ := Aside0.mk (below_drew1 HB.out)
               clear HO304
               clear HO322
               clear BK305
               clear HB
               have HO304 := n0_
               have HO322 := n1_
               have BK305 := n2_
               have HB := n3_
               clear n0_ n1_ n2_ n3_
               refine start_ (n := 29) (S := fun w' => w'.cell? ⟨gb305, 0, none⟩ = some (.int .u8 1) ∧ w'.cell? ⟨gb305, 1, none⟩ = some (.int .u8 8) ∧ w'.cell? ⟨gb305, 2, none⟩ = some (.int .u32 a0) ∧ w'.cell? ⟨gb305, 3, none⟩ = some (.string (((strOfNums y302) ++ a1) ++ (strOfNums y320)))) (ds := []) #[false, false, false, false, false, false, false, false, false, false, false, false, false, false, false, false, false, false, false, false, false, false, false, false, false, false, false, false, false] (by kernel_rfl) rfl rfl ⟨(blk_cell BK305.out 0).trans rfl, (blk_cell BK305.out 1).trans rfl, (blk_cell BK305.out 2).trans rfl, (blk_cell BK305.out 3).trans rfl⟩ (fun hHeld => ?_); refine with_tabW nunciolaw14_FramePads.tab11 nunciolaw14_FramePads.bits11 (fun HT_ HW_ => ?_)
               generalize w81.drew = w82 at HO304 HO322 BK305 HB hHeld ⊢
               refine pure_ (i := 0) (N := some 62) (v := ?_) (a' := ?_) #[true, false, false, false, false, false, false, false, false, false, false, false, false, false, false, false, false, false, false, false, false, false, false, false, false, false, false, false, false] rfl rfl (any_of HT_.out (by kernel_rfl)) (fun _ _ _ h => h) (Or.inl ⟨by rfl, ?_⟩) ?_ ?_
               rotate_left
               ·
                intro w'
                go_simp
                with_reducible rfl
               rotate_left
               ·
                simp only [Act.put, List.setIfInBounds_toArray, List.set_cons_zero, List.set_cons_succ, i64_w, i32_w]
                rfl
               refine pure_ (i := 1) (N := some 63) (v := ?_) (a' := ?_) #[true, true, false, false, false, false, false, false, false, false, false, false, false, false, false, false, false, false, false, false, false, false, false, false, false, false, false, false, false] rfl rfl (any_of HT_.out (by kernel_rfl)) (fun _ _ _ h => h) (Or.inl ⟨by rfl, ?_⟩) ?_ ?_
               rotate_left
               ·
                intro w'
                go_simp
                with_reducible rfl
               rotate_left
               ·
                simp only [Act.put, List.setIfInBounds_toArray, List.set_cons_zero, List.set_cons_succ, i64_w, i32_w]
                rfl
               refine pure_ (i := 2) (N := some 64) (v := ?_) (a' := ?_) #[true, true, true, false, false, false, false, false, false, false, false, false, false, false, false, false, false, false, false, false, false, false, false, false, false, false, false, false, false] rfl rfl (any_of HT_.out (by kernel_rfl)) (fun _ _ _ h => h) (Or.inl ⟨by rfl, ?_⟩) ?_ ?_
               rotate_left
               ·
                intro w'
                go_simp
                with_reducible rfl
               rotate_left
               ·
                simp only [Act.put, List.setIfInBounds_toArray, List.set_cons_zero, List.set_cons_succ, i64_w, i32_w]
                rfl
               refine pure_ (i := 3) (N := some 65) (v := ?_) (a' := ?_) #[true, true, true, true, false, false, false, false, false, false, false, false, false, false, false, false, false, false, false, false, false, false, false, false, false, false, false, false, false] rfl rfl (any_of HT_.out (by kernel_rfl)) (fun _ _ _ h => h) (Or.inl ⟨by rfl, ?_⟩) ?_ ?_
               rotate_left
               ·
                intro w'
                go_simp
                with_reducible rfl
               rotate_left
               ·
                simp only [Act.put, List.setIfInBounds_toArray, List.set_cons_zero, List.set_cons_succ, i64_w, i32_w]
                rfl
               refine pure_ (i := 4) (N := some 66) (v := ?_) (a' := ?_) #[true, true, true, true, true, false, false, false, false, false, false, false, false, false, false, false, false, false, false, false, false, false, false, false, false, false, false, false, false] rfl rfl (any_of HT_.out (by kernel_rfl)) (fun _ _ _ h => h) (Or.inl ⟨by rfl, ?_⟩) ?_ ?_
               rotate_left
               ·
                intro w'
                go_simp
                with_reducible rfl
               rotate_left
               ·
                simp only [Act.put, List.setIfInBounds_toArray, List.set_cons_zero, List.set_cons_succ, i64_w, i32_w]
                rfl
               refine pure_ (i := 5) (N := some 67) (v := ?_) (a' := ?_) #[true, true, true, true, true, true, false, false, false, false, false, false, false, false, false, false, false, false, false, false, false, false, false, false, false, false, false, false, false] rfl rfl (any_of HT_.out (by kernel_rfl)) (fun _ _ _ h => h) (Or.inl ⟨by rfl, ?_⟩) ?_ ?_
               rotate_left
               ·
                intro w'
                go_simp
                with_reducible rfl
               rotate_left
               ·
                simp only [Act.put, List.setIfInBounds_toArray, List.set_cons_zero, List.set_cons_succ, i64_w, i32_w]
                rfl
               refine pure_ (i := 6) (N := some 68) (v := ?_) (a' := ?_) #[true, true, true, true, true, true, true, false, false, false, false, false, false, false, false, false, false, false, false, false, false, false, false, false, false, false, false, false, false] rfl rfl (any_of HT_.out (by kernel_rfl)) (fun _ _ _ h => h) (Or.inl ⟨by rfl, ?_⟩) ?_ ?_
               rotate_left
               ·
                intro w'
                go_simp
                with_reducible rfl
               rotate_left
               ·
                simp only [Act.put, List.setIfInBounds_toArray, List.set_cons_zero, List.set_cons_succ, i64_w, i32_w]
                rfl
               refine pure_ (i := 9) (N := some 71) (v := ?_) (a' := ?_) #[true, true, true, true, true, true, true, false, false, true, false, false, false, false, false, false, false, false, false, false, false, false, false, false, false, false, false, false, false] rfl rfl (any_of HT_.out (by kernel_rfl)) (fun _ _ _ h => h) (Or.inl ⟨by rfl, ?_⟩) ?_ ?_
               rotate_left
               ·
                intro w'
                go_simp
                with_reducible rfl
               rotate_left
               ·
                simp only [Act.put, List.setIfInBounds_toArray, List.set_cons_zero, List.set_cons_succ, i64_w, i32_w]
                rfl
               refine take_ (i := 7) (N := some 69) (v := ?_) (a' := ?_) #[true, true, true, true, true, true, true, true, false, true, false, false, false, false, false, false, false, false, false, false, false, false, false, false, false, false, false, false, false] rfl rfl (take_ofW HT_.out HW_.out (by kernel_rfl)) (fun _ _ _ h => h) (Or.inl ⟨by rfl, ?_⟩) hHeld ?_ ?_
               rotate_left
               ·
                rintro w' ⟨s0, s1, s2, s3⟩
                go_simp
                with_reducible rfl
               rotate_left
               ·
                simp only [Act.put, List.setIfInBounds_toArray, List.set_cons_zero, List.set_cons_succ, i64_w, i32_w]
                rfl
               refine one_ (i := 8) (N := some 70) #[true, true, true, true, true, true, true, true, true, true, false, false, false, false, false, false, false, false, false, false, false, false, false, false, false, false, false, false, false] rfl rfl (one_of HT_.out (by kernel_rfl)) (by decide) (fun K hK => ?_)
               refine goes_ Try.func15 (by kernel_rfl) rfl #[.agg #[.int .u8 1, .int .u8 8, .int .u32 a0, .string (((strOfNums y302) ++ a1) ++ (strOfNums y320))]] (by rfl) rfl rfl (by (try simp only [List.map_toArray, List.map_cons, List.map_nil]); first | done | rfl | (simp only [List.length_drop, List.length_take]; rfl)) ?_
               with_reducible refine (frame_Content.calls kj7 1 8 a0 (((strOfNums y302) ++ a1) ++ (strOfNums y320)) t325 _ A64.out).mono ?_
               rintro e w83 ⟨rfl, hb⟩
               refine ⟨_, rfl, ?_⟩
               have n0_ := Aside0.mk (Kd.R_below (by (with_reducible repeat (first | apply Kd.R_alloc | apply Kd.R_drewN | apply Kd.R_drew)); exact HO304.out) hb)
               have n1_ := Aside0.mk (Kd.R_below (by (with_reducible repeat (first | apply Kd.R_alloc | apply Kd.R_drewN | apply Kd.R_drew)); exact HO322.out) hb)
               have n2_ := Aside0.mk (blk_below (g := gb305) (o := .cells #[.int .u8 1, .int .u8 8, .int .u32 a0, .string (((strOfNums y302) ++ a1) ++ (strOfNums y320))] 24 (0, 0)) (by (with_reducible repeat (first | refine blk_drewN ?_ _ | refine blk_drew ?_ | refine blk_alloc ?_ _)); exact BK305.out) hb)
               have n3_ := Aside0.mk (below_step (by repeat (first | (with_reducible first | exact HB.out | apply below_alloc | apply pw_below_drewN | apply below_drew1 | refine below_set ?_ GE305.out) | exact HB.out)) hb)
               clear HO304
               clear HO322
               clear BK305
               clear HB
               have HO304 := n0_
               have HO322 := n1_
               have BK305 := n2_
               have HB := n3_
               clear n0_ n1_ n2_ n3_
               (try clear hb)
               (try clear hb2)
               (try clear hk)
               (try clear hi)
               refine hK.out _ _ ⟨(blk_cell BK305.out 0).trans rfl, (blk_cell BK305.out 1).trans rfl, (blk_cell BK305.out 2).trans rfl, (blk_cell BK305.out 3).trans rfl⟩ (fun hHeld => ?_)
               clear hK K
               refine norm_ (a' := ?_) ?_ ?_
               rotate_left
               ·
                show Act.put _ (some 70) _ = _
                simp only [Act.put, List.setIfInBounds_toArray, List.set_cons_zero, List.set_cons_succ, i64_w, i32_w]
                rfl
               refine pure_ (i := 10) (N := some 72) (v := ?_) (a' := ?_) #[true, true, true, true, true, true, true, true, true, true, true, false, false, false, false, false, false, false, false, false, false, false, false, false, false, false, false, false, false] rfl rfl (any_of HT_.out (by kernel_rfl)) (fun _ _ _ h => h) (Or.inl ⟨by rfl, ?_⟩) ?_ ?_
               rotate_left
               ·
                intro w'
                go_simp
                with_reducible rfl
               rotate_left
               ·
                simp only [Act.put, List.setIfInBounds_toArray, List.set_cons_zero, List.set_cons_succ, i64_w, i32_w]
                rfl
               refine pure_ (i := 11) (N := some 73) (v := ?_) (a' := ?_) #[true, true, true, true, true, true, true, true, true, true, true, true, false, false, false, false, false, false, false, false, false, false, false, false, false, false, false, false, false] rfl rfl (any_of HT_.out (by kernel_rfl)) (fun _ _ _ h => h) (Or.inl ⟨by rfl, ?_⟩) ?_ ?_
               rotate_left
               ·
                intro w'
                go_simp
                with_reducible rfl
               rotate_left
               ·
                simp only [Act.put, List.setIfInBounds_toArray, List.set_cons_zero, List.set_cons_succ, i64_w, i32_w]
                rfl
               refine pure_ (i := 12) (N := some 74) (v := ?_) (a' := ?_) #[true, true, true, true, true, true, true, true, true, true, true, true, true, false, false, false, false, false, false, false, false, false, false, false, false, false, false, false, false] rfl rfl (any_of HT_.out (by kernel_rfl)) (fun _ _ _ h => h) (Or.inl ⟨by rfl, ?_⟩) ?_ ?_
               rotate_left
               ·
                intro w'
                go_simp
                with_reducible rfl
               rotate_left
               ·
                simp only [Act.put, List.setIfInBounds_toArray, List.set_cons_zero, List.set_cons_succ, i64_w, i32_w]
                rfl
               refine pure_ (i := 13) (N := some 75) (v := ?_) (a' := ?_) #[true, true, true, true, true, true, true, true, true, true, true, true, true, true, false, false, false, false, false, false, false, false, false, false, false, false, false, false, false] rfl rfl (any_of HT_.out (by kernel_rfl)) (fun _ _ _ h => h) (Or.inl ⟨by rfl, ?_⟩) ?_ ?_
               rotate_left
               ·
                intro w'
                go_simp
                with_reducible rfl
               rotate_left
               ·
                simp only [Act.put, List.setIfInBounds_toArray, List.set_cons_zero, List.set_cons_succ, i64_w, i32_w]
                rfl
               refine pure_ (i := 14) (N := some 76) (v := ?_) (a' := ?_) #[true, true, true, true, true, true, true, true, true, true, true, true, true, true, true, false, false, false, false, false, false, false, false, false, false, false, false, false, false] rfl rfl (any_of HT_.out (by kernel_rfl)) (fun _ _ _ h => h) (Or.inl ⟨by rfl, ?_⟩) ?_ ?_
               rotate_left
               ·
                intro w'
                go_simp
                with_reducible rfl
               rotate_left
               ·
                simp only [Act.put, List.setIfInBounds_toArray, List.set_cons_zero, List.set_cons_succ, i64_w, i32_w]
                rfl
               refine pure_ (i := 17) (N := some 79) (v := ?_) (a' := ?_) #[true, true, true, true, true, true, true, true, true, true, true, true, true, true, true, false, false, true, false, false, false, false, false, false, false, false, false, false, false] rfl rfl (any_of HT_.out (by kernel_rfl)) (fun _ _ _ h => h) (Or.inl ⟨by rfl, ?_⟩) ?_ ?_
               rotate_left
               ·
                intro w'
                go_simp
                with_reducible rfl
               rotate_left
               ·
                simp only [Act.put, List.setIfInBounds_toArray, List.set_cons_zero, List.set_cons_succ, i64_w, i32_w]
                rfl
               refine pure_ (i := 19) (N := some 81) (v := ?_) (a' := ?_) #[true, true, true, true, true, true, true, true, true, true, true, true, true, true, true, false, false, true, false, true, false, false, false, false, false, false, false, false, false] rfl rfl (any_of HT_.out (by kernel_rfl)) (fun _ _ _ h => h) (Or.inl ⟨by rfl, ?_⟩) ?_ ?_
               rotate_left
               ·
                intro w'
                go_simp
                with_reducible rfl
               rotate_left
               ·
                simp only [Act.put, List.setIfInBounds_toArray, List.set_cons_zero, List.set_cons_succ, i64_w, i32_w]
                rfl
               refine pure_ (i := 25) (N := some 87) (v := ?_) (a' := ?_) #[true, true, true, true, true, true, true, true, true, true, true, true, true, true, true, false, false, true, false, true, false, false, false, false, false, true, false, false, false] rfl rfl (any_of HT_.out (by kernel_rfl)) (fun _ _ _ h => h) (Or.inl ⟨by rfl, ?_⟩) ?_ ?_
               rotate_left
               ·
                intro w'
                go_simp
                with_reducible rfl
               rotate_left
               ·
                simp only [Act.put, List.setIfInBounds_toArray, List.set_cons_zero, List.set_cons_succ, i64_w, i32_w]
                rfl
               refine join_ (σ := Value × Value) 6 #[true, true, true, true, true, true, true, true, true, true, true, true, true, true, true, true, true, true, true, true, true, true, false, false, false, true, false, false, false] (fun s_ => [(77, s_.1), (78, .string (strOfNums y326)), (82, s_.2), (83, .string (strOfNums y329)), (80, .string ((strOfNums y326) ++ a1))]) (fun s_ w' => (w'.cell? ⟨gb305, 0, none⟩ = some (.int .u8 1) ∧ w'.cell? ⟨gb305, 1, none⟩ = some (.int .u8 8) ∧ w'.cell? ⟨gb305, 2, none⟩ = some (.int .u32 a0) ∧ w'.cell? ⟨gb305, 3, none⟩ = some (.string (((strOfNums y302) ++ a1) ++ (strOfNums y320)))) ∧ (Kd.R (Kd.int .u8) 5 w' w.heap.size (fun k_ => some k_ ≠ (v321 : Value).ownBlock ∧ some k_ ≠ (s_.1 : Value).ownBlock ∧ some k_ ≠ (s_.2 : Value).ownBlock) v303 y302) ∧ (Kd.R (Kd.int .u8) 5 w' w.heap.size (fun k_ => some k_ ≠ (v303 : Value).ownBlock ∧ some k_ ≠ (s_.1 : Value).ownBlock ∧ some k_ ≠ (s_.2 : Value).ownBlock) v321 y320) ∧ (Kd.R (Kd.int .u8) 5 w' w.heap.size (fun k_ => some k_ ≠ (v303 : Value).ownBlock ∧ some k_ ≠ (v321 : Value).ownBlock ∧ some k_ ≠ (s_.2 : Value).ownBlock) s_.1 y326) ∧ (Kd.R (Kd.int .u8) 5 w' w.heap.size (fun k_ => some k_ ≠ (v303 : Value).ownBlock ∧ some k_ ≠ (v321 : Value).ownBlock ∧ some k_ ≠ (s_.1 : Value).ownBlock) s_.2 y329) ∧ (w'.heap[gb305]? = some (.cells #[.int .u8 1, .int .u8 8, .int .u32 a0, .string (((strOfNums y302) ++ a1) ++ (strOfNums y320))] 24 (0, 0))) ∧ (Below w.heap.size w w')) ?_ ?_
               rotate_left
               ·
                intro hJ15_16_20_21
                refine join_ (σ := Value × Value) 7 #[true, true, true, true, true, true, true, true, true, true, true, true, true, true, true, true, true, true, true, true, true, false, false, false, false, true, false, false, false] (fun s_ => [(77, s_.1), (78, .string (strOfNums y326)), (82, s_.2), (80, .string ((strOfNums y326) ++ a1))]) (fun s_ w' => (w'.cell? ⟨gb305, 0, none⟩ = some (.int .u8 1) ∧ w'.cell? ⟨gb305, 1, none⟩ = some (.int .u8 8) ∧ w'.cell? ⟨gb305, 2, none⟩ = some (.int .u32 a0) ∧ w'.cell? ⟨gb305, 3, none⟩ = some (.string (((strOfNums y302) ++ a1) ++ (strOfNums y320)))) ∧ (Kd.R (Kd.int .u8) 5 w' w.heap.size (fun k_ => some k_ ≠ (v321 : Value).ownBlock ∧ some k_ ≠ (s_.1 : Value).ownBlock ∧ some k_ ≠ (s_.2 : Value).ownBlock) v303 y302) ∧ (Kd.R (Kd.int .u8) 5 w' w.heap.size (fun k_ => some k_ ≠ (v303 : Value).ownBlock ∧ some k_ ≠ (s_.1 : Value).ownBlock ∧ some k_ ≠ (s_.2 : Value).ownBlock) v321 y320) ∧ (Kd.R (Kd.int .u8) 5 w' w.heap.size (fun k_ => some k_ ≠ (v303 : Value).ownBlock ∧ some k_ ≠ (v321 : Value).ownBlock ∧ some k_ ≠ (s_.2 : Value).ownBlock) s_.1 y326) ∧ (Kd.R (Kd.int .u8) 5 w' w.heap.size (fun k_ => some k_ ≠ (v303 : Value).ownBlock ∧ some k_ ≠ (v321 : Value).ownBlock ∧ some k_ ≠ (s_.1 : Value).ownBlock) s_.2 y329) ∧ (w'.heap[gb305]? = some (.cells #[.int .u8 1, .int .u8 8, .int .u32 a0, .string (((strOfNums y302) ++ a1) ++ (strOfNums y320))] 24 (0, 0))) ∧ (Below w.heap.size w w')) ?_ ?_
                rotate_left
                ·
                 intro hJ15_16_20
                 refine join_ (σ := Value × Value) 8 #[true, true, true, true, true, true, true, true, true, true, true, true, true, true, true, true, false, true, false, true, true, true, false, false, false, true, false, false, false] (fun s_ => [(77, s_.1), (82, s_.2), (83, .string (strOfNums y329))]) (fun s_ w' => (w'.cell? ⟨gb305, 0, none⟩ = some (.int .u8 1) ∧ w'.cell? ⟨gb305, 1, none⟩ = some (.int .u8 8) ∧ w'.cell? ⟨gb305, 2, none⟩ = some (.int .u32 a0) ∧ w'.cell? ⟨gb305, 3, none⟩ = some (.string (((strOfNums y302) ++ a1) ++ (strOfNums y320)))) ∧ (Kd.R (Kd.int .u8) 5 w' w.heap.size (fun k_ => some k_ ≠ (v321 : Value).ownBlock ∧ some k_ ≠ (s_.1 : Value).ownBlock ∧ some k_ ≠ (s_.2 : Value).ownBlock) v303 y302) ∧ (Kd.R (Kd.int .u8) 5 w' w.heap.size (fun k_ => some k_ ≠ (v303 : Value).ownBlock ∧ some k_ ≠ (s_.1 : Value).ownBlock ∧ some k_ ≠ (s_.2 : Value).ownBlock) v321 y320) ∧ (Kd.R (Kd.int .u8) 5 w' w.heap.size (fun k_ => some k_ ≠ (v303 : Value).ownBlock ∧ some k_ ≠ (v321 : Value).ownBlock ∧ some k_ ≠ (s_.2 : Value).ownBlock) s_.1 y326) ∧ (Kd.R (Kd.int .u8) 5 w' w.heap.size (fun k_ => some k_ ≠ (v303 : Value).ownBlock ∧ some k_ ≠ (v321 : Value).ownBlock ∧ some k_ ≠ (s_.1 : Value).ownBlock) s_.2 y329) ∧ (w'.heap[gb305]? = some (.cells #[.int .u8 1, .int .u8 8, .int .u32 a0, .string (((strOfNums y302) ++ a1) ++ (strOfNums y320))] 24 (0, 0))) ∧ (Below w.heap.size w w')) ?_ ?_
                 rotate_left
                 ·
                  intro hJ15_20_21
                  refine join_ (σ := Value) 8 #[true, true, true, true, true, true, true, true, true, true, true, true, true, true, true, true, true, true, true, true, false, false, false, false, false, true, false, false, false] (fun s_ => [(77, s_), (78, .string (strOfNums y326)), (80, .string ((strOfNums y326) ++ a1))]) (fun s_ w' => (w'.cell? ⟨gb305, 0, none⟩ = some (.int .u8 1) ∧ w'.cell? ⟨gb305, 1, none⟩ = some (.int .u8 8) ∧ w'.cell? ⟨gb305, 2, none⟩ = some (.int .u32 a0) ∧ w'.cell? ⟨gb305, 3, none⟩ = some (.string (((strOfNums y302) ++ a1) ++ (strOfNums y320)))) ∧ (Kd.R (Kd.int .u8) 5 w' w.heap.size (fun k_ => some k_ ≠ (v321 : Value).ownBlock ∧ some k_ ≠ (s_ : Value).ownBlock) v303 y302) ∧ (Kd.R (Kd.int .u8) 5 w' w.heap.size (fun k_ => some k_ ≠ (v303 : Value).ownBlock ∧ some k_ ≠ (s_ : Value).ownBlock) v321 y320) ∧ (Kd.R (Kd.int .u8) 5 w' w.heap.size (fun k_ => some k_ ≠ (v303 : Value).ownBlock ∧ some k_ ≠ (v321 : Value).ownBlock) s_ y326) ∧ (w'.heap[gb305]? = some (.cells #[.int .u8 1, .int .u8 8, .int .u32 a0, .string (((strOfNums y302) ++ a1) ++ (strOfNums y320))] 24 (0, 0))) ∧ (Below w.heap.size w w')) ?_ ?_
                  rotate_left
                  ·
                   intro hJ15_16
                   refine join_ (σ := Value × Value) 9 #[true, true, true, true, true, true, true, true, true, true, true, true, true, true, true, true, false, true, false, true, true, false, false, false, false, true, false, false, false] (fun s_ => [(77, s_.1), (82, s_.2)]) (fun s_ w' => (w'.cell? ⟨gb305, 0, none⟩ = some (.int .u8 1) ∧ w'.cell? ⟨gb305, 1, none⟩ = some (.int .u8 8) ∧ w'.cell? ⟨gb305, 2, none⟩ = some (.int .u32 a0) ∧ w'.cell? ⟨gb305, 3, none⟩ = some (.string (((strOfNums y302) ++ a1) ++ (strOfNums y320)))) ∧ (Kd.R (Kd.int .u8) 5 w' w.heap.size (fun k_ => some k_ ≠ (v321 : Value).ownBlock ∧ some k_ ≠ (s_.1 : Value).ownBlock ∧ some k_ ≠ (s_.2 : Value).ownBlock) v303 y302) ∧ (Kd.R (Kd.int .u8) 5 w' w.heap.size (fun k_ => some k_ ≠ (v303 : Value).ownBlock ∧ some k_ ≠ (s_.1 : Value).ownBlock ∧ some k_ ≠ (s_.2 : Value).ownBlock) v321 y320) ∧ (Kd.R (Kd.int .u8) 5 w' w.heap.size (fun k_ => some k_ ≠ (v303 : Value).ownBlock ∧ some k_ ≠ (v321 : Value).ownBlock ∧ some k_ ≠ (s_.2 : Value).ownBlock) s_.1 y326) ∧ (Kd.R (Kd.int .u8) 5 w' w.heap.size (fun k_ => some k_ ≠ (v303 : Value).ownBlock ∧ some k_ ≠ (v321 : Value).ownBlock ∧ some k_ ≠ (s_.1 : Value).ownBlock) s_.2 y329) ∧ (w'.heap[gb305]? = some (.cells #[.int .u8 1, .int .u8 8, .int .u32 a0, .string (((strOfNums y302) ++ a1) ++ (strOfNums y320))] 24 (0, 0))) ∧ (Below w.heap.size w w')) ?_ ?_
                   rotate_left
                   ·
                    intro hJ15_20
                    refine join_ (σ := Value) 9 #[true, true, true, true, true, true, true, true, true, true, true, true, true, true, true, false, false, true, false, true, true, true, false, false, false, true, false, false, false] (fun s_ => [(82, s_), (83, .string (strOfNums y329))]) (fun s_ w' => (w'.cell? ⟨gb305, 0, none⟩ = some (.int .u8 1) ∧ w'.cell? ⟨gb305, 1, none⟩ = some (.int .u8 8) ∧ w'.cell? ⟨gb305, 2, none⟩ = some (.int .u32 a0) ∧ w'.cell? ⟨gb305, 3, none⟩ = some (.string (((strOfNums y302) ++ a1) ++ (strOfNums y320)))) ∧ (Kd.R (Kd.int .u8) 5 w' w.heap.size (fun k_ => some k_ ≠ (v321 : Value).ownBlock ∧ some k_ ≠ (s_ : Value).ownBlock) v303 y302) ∧ (Kd.R (Kd.int .u8) 5 w' w.heap.size (fun k_ => some k_ ≠ (v303 : Value).ownBlock ∧ some k_ ≠ (s_ : Value).ownBlock) v321 y320) ∧ (Kd.R (Kd.int .u8) 5 w' w.heap.size (fun k_ => some k_ ≠ (v303 : Value).ownBlock ∧ some k_ ≠ (v321 : Value).ownBlock) s_ y329) ∧ (w'.heap[gb305]? = some (.cells #[.int .u8 1, .int .u8 8, .int .u32 a0, .string (((strOfNums y302) ++ a1) ++ (strOfNums y320))] 24 (0, 0))) ∧ (Below w.heap.size w w')) ?_ ?_
                    rotate_left
                    ·
                     intro hJ20_21
                     refine join_ (σ := Value) 10 #[true, true, true, true, true, true, true, true, true, true, true, true, true, true, true, true, false, true, false, true, false, false, false, false, false, true, false, false, false] (fun s_ => [(77, s_)]) (fun s_ w' => (w'.cell? ⟨gb305, 0, none⟩ = some (.int .u8 1) ∧ w'.cell? ⟨gb305, 1, none⟩ = some (.int .u8 8) ∧ w'.cell? ⟨gb305, 2, none⟩ = some (.int .u32 a0) ∧ w'.cell? ⟨gb305, 3, none⟩ = some (.string (((strOfNums y302) ++ a1) ++ (strOfNums y320)))) ∧ (Kd.R (Kd.int .u8) 5 w' w.heap.size (fun k_ => some k_ ≠ (v321 : Value).ownBlock ∧ some k_ ≠ (s_ : Value).ownBlock) v303 y302) ∧ (Kd.R (Kd.int .u8) 5 w' w.heap.size (fun k_ => some k_ ≠ (v303 : Value).ownBlock ∧ some k_ ≠ (s_ : Value).ownBlock) v321 y320) ∧ (Kd.R (Kd.int .u8) 5 w' w.heap.size (fun k_ => some k_ ≠ (v303 : Value).ownBlock ∧ some k_ ≠ (v321 : Value).ownBlock) s_ y326) ∧ (w'.heap[gb305]? = some (.cells #[.int .u8 1, .int .u8 8, .int .u32 a0, .string (((strOfNums y302) ++ a1) ++ (strOfNums y320))] 24 (0, 0))) ∧ (Below w.heap.size w w')) ?_ ?_
                     rotate_left
                     ·
                      intro hJ15
                      refine join_ (σ := Value) 10 #[true, true, true, true, true, true, true, true, true, true, true, true, true, true, true, false, false, true, false, true, true, false, false, false, false, true, false, false, false] (fun s_ => [(82, s_)]) (fun s_ w' => (w'.cell? ⟨gb305, 0, none⟩ = some (.int .u8 1) ∧ w'.cell? ⟨gb305, 1, none⟩ = some (.int .u8 8) ∧ w'.cell? ⟨gb305, 2, none⟩ = some (.int .u32 a0) ∧ w'.cell? ⟨gb305, 3, none⟩ = some (.string (((strOfNums y302) ++ a1) ++ (strOfNums y320)))) ∧ (Kd.R (Kd.int .u8) 5 w' w.heap.size (fun k_ => some k_ ≠ (v321 : Value).ownBlock ∧ some k_ ≠ (s_ : Value).ownBlock) v303 y302) ∧ (Kd.R (Kd.int .u8) 5 w' w.heap.size (fun k_ => some k_ ≠ (v303 : Value).ownBlock ∧ some k_ ≠ (s_ : Value).ownBlock) v321 y320) ∧ (Kd.R (Kd.int .u8) 5 w' w.heap.size (fun k_ => some k_ ≠ (v303 : Value).ownBlock ∧ some k_ ≠ (v321 : Value).ownBlock) s_ y329) ∧ (w'.heap[gb305]? = some (.cells #[.int .u8 1, .int .u8 8, .int .u32 a0, .string (((strOfNums y302) ++ a1) ++ (strOfNums y320))] 24 (0, 0))) ∧ (Below w.heap.size w w')) ?_ ?_
                      rotate_left
                      ·
                       intro hJ20
                       refine two_ (i := 15) (j := 20) (Ni := some 77) (Nj := some 82) #[true, true, true, true, true, true, true, true, true, true, true, true, true, true, true, true, false, true, false, true, false, false, false, false, false, true, false, false, false] #[true, true, true, true, true, true, true, true, true, true, true, true, true, true, true, false, false, true, false, true, true, false, false, false, false, true, false, false, false] rfl rfl rfl rfl (two_of HT_.out (by kernel_rfl)) (by decide) (by decide) (fun K hK => ?_) (fun K hK => ?_)
                       ·
                        skip
                        refine Kd.R_lit_step (Kd.int .u8) _ 5 ?hg (N := 77) ?hd (xs := ([a2] : List Int)) (inner := [.int .u8 a2]) (ok := fun _ => True) (okp := fun _ => True) ?hr ?hp (fun _ hk => hk) trivial (Below.refl _ _) (Nat.le_refl _) (by simp) ?_; (case hd => rfl); (case hg => rfl); (case hr => first | (go_simp; done) | (go_simp; rfl)); (case hp => exact (Reps.one (show Kd.M (Kd.int .u8) _ _ _ a2 [.int .u8 a2] from rfl) (Reps.none _ _)))
                        intro v327 w84 ho85 hb hg_ hnew_
                        clear hg_ hnew_
                        (first | rw [← Ny326.out] at ho85 | (simp only [Int.reduceToNat] at ho85; rw [← Ny326.out] at ho85))
                        have n0_ := Aside0.mk (Kd.R_elder' (by (with_reducible repeat (first | apply Kd.R_alloc | apply Kd.R_drewN | apply Kd.R_drew)); exact HO304.out) (Kd.R_base ho85) hb)
                        have n1_ := Aside0.mk (Kd.R_elder' (by (with_reducible repeat (first | apply Kd.R_alloc | apply Kd.R_drewN | apply Kd.R_drew)); exact HO322.out) (Kd.R_base ho85) hb)
                        have n2_ := Aside0.mk (Kd.R_lower (Kd.R_new' (Kd.R_new' ho85 (Kd.R_lt (by (with_reducible repeat (first | apply Kd.R_alloc | apply Kd.R_drewN | apply Kd.R_drew)); exact HO304.out))) (Kd.R_lt (by (with_reducible repeat (first | apply Kd.R_alloc | apply Kd.R_drewN | apply Kd.R_drew)); exact HO322.out))) (below_size (by repeat (first | (with_reducible first | exact HB.out | apply below_alloc | apply pw_below_drewN | apply below_drew1 | refine below_set ?_ GE305.out) | exact HB.out))))
                        have n3_ := Aside0.mk (blk_below (g := gb305) (o := .cells #[.int .u8 1, .int .u8 8, .int .u32 a0, .string (((strOfNums y302) ++ a1) ++ (strOfNums y320))] 24 (0, 0)) (by (with_reducible repeat (first | refine blk_drewN ?_ _ | refine blk_drew ?_ | refine blk_alloc ?_ _)); exact BK305.out) hb)
                        have n4_ := Aside0.mk (below_step (by repeat (first | (with_reducible first | exact HB.out | apply below_alloc | apply pw_below_drewN | apply below_drew1 | refine below_set ?_ GE305.out) | exact HB.out)) hb)
                        clear HO304
                        clear HO322
                        clear BK305
                        clear HB
                        have HO304 := n0_
                        have HO322 := n1_
                        have HO328 := n2_
                        have BK305 := n3_
                        have HB := n4_
                        clear n0_ n1_ n2_ n3_ n4_
                        clear hb ho85
                        refine hK.out _ _ ⟨(blk_cell BK305.out 0).trans rfl, (blk_cell BK305.out 1).trans rfl, (blk_cell BK305.out 2).trans rfl, (blk_cell BK305.out 3).trans rfl⟩ (fun hHeld => ?_)
                        clear hK K
                        refine norm_ (a' := ?_) ?_ ?_
                        rotate_left
                        ·
                         show Act.put _ (some 77) _ = _
                         simp only [Act.put, List.setIfInBounds_toArray, List.set_cons_zero, List.set_cons_succ, i64_w, i32_w]
                         rfl
                        exact norm_ (by first | (simp only [putAll, Act.put, List.setIfInBounds_toArray, List.set_cons_zero, List.set_cons_succ]; done) | (simp only [putAll, Act.put, List.setIfInBounds_toArray, List.set_cons_zero, List.set_cons_succ]; rfl)) (hJ15 (v327) _ ⟨hHeld, (by (with_reducible repeat (first | apply Kd.R_alloc | apply Kd.R_drewN | apply Kd.R_drew)); exact Kd.R_mono HO304.out (fun _ hk => ⟨hk.1.2, hk.2⟩)), (by (with_reducible repeat (first | apply Kd.R_alloc | apply Kd.R_drewN | apply Kd.R_drew)); exact Kd.R_mono HO322.out (fun _ hk => ⟨hk.1.2, hk.2⟩)), (by (with_reducible repeat (first | apply Kd.R_alloc | apply Kd.R_drewN | apply Kd.R_drew)); exact Kd.R_mono HO328.out (fun _ hk => ⟨hk.1.2, hk.2⟩)), (by (with_reducible repeat (first | refine blk_drewN ?_ _ | refine blk_drew ?_ | refine blk_alloc ?_ _)); exact BK305.out), (by repeat (first | (with_reducible first | exact HB.out | apply below_alloc | apply pw_below_drewN | apply below_drew1 | refine below_set ?_ GE305.out) | exact HB.out))⟩)
                       ·
                        skip
                        refine Kd.R_makek_step (Kd.int .u8) _ 5 (by rfl) (N := 82) rfl 43 _ _ rfl a2 rfl rfl Try.underlying43 (.int .u8 0) 1 info5 rfl (by decide) (by omega) 0 (ok := fun _ => True) (okp := fun _ => True) rfl (fun _ hk => hk) trivial (of_decide_eq_true (by first | (with_reducible assumption) | assumption)) (Nat.le_trans (Nat.mul_le_mul_right _ (of_decide_eq_true (by first | (with_reducible assumption) | assumption) : a2.toNat ≤ 281474976710656)) (by omega)) (Below.refl _ _) (Nat.le_refl _) ?_
                        intro v330 w84 ho85 hb hg_ hnew_
                        clear hg_ hnew_
                        (first | rw [← Ny329.out] at ho85 | (simp only [Int.reduceToNat] at ho85; rw [← Ny329.out] at ho85))
                        have n0_ := Aside0.mk (Kd.R_elder' (by (with_reducible repeat (first | apply Kd.R_alloc | apply Kd.R_drewN | apply Kd.R_drew)); exact HO304.out) (Kd.R_base ho85) hb)
                        have n1_ := Aside0.mk (Kd.R_elder' (by (with_reducible repeat (first | apply Kd.R_alloc | apply Kd.R_drewN | apply Kd.R_drew)); exact HO322.out) (Kd.R_base ho85) hb)
                        have n2_ := Aside0.mk (Kd.R_lower (Kd.R_new' (Kd.R_new' ho85 (Kd.R_lt (by (with_reducible repeat (first | apply Kd.R_alloc | apply Kd.R_drewN | apply Kd.R_drew)); exact HO304.out))) (Kd.R_lt (by (with_reducible repeat (first | apply Kd.R_alloc | apply Kd.R_drewN | apply Kd.R_drew)); exact HO322.out))) (below_size (by repeat (first | (with_reducible first | exact HB.out | apply below_alloc | apply pw_below_drewN | apply below_drew1 | refine below_set ?_ GE305.out) | exact HB.out))))
                        have n3_ := Aside0.mk (blk_below (g := gb305) (o := .cells #[.int .u8 1, .int .u8 8, .int .u32 a0, .string (((strOfNums y302) ++ a1) ++ (strOfNums y320))] 24 (0, 0)) (by (with_reducible repeat (first | refine blk_drewN ?_ _ | refine blk_drew ?_ | refine blk_alloc ?_ _)); exact BK305.out) hb)
                        have n4_ := Aside0.mk (below_step (by repeat (first | (with_reducible first | exact HB.out | apply below_alloc | apply pw_below_drewN | apply below_drew1 | refine below_set ?_ GE305.out) | exact HB.out)) hb)
                        clear HO304
                        clear HO322
                        clear BK305
                        clear HB
                        have HO304 := n0_
                        have HO322 := n1_
                        have HO331 := n2_
                        have BK305 := n3_
                        have HB := n4_
                        clear n0_ n1_ n2_ n3_ n4_
                        clear hb ho85
                        refine hK.out _ _ ⟨(blk_cell BK305.out 0).trans rfl, (blk_cell BK305.out 1).trans rfl, (blk_cell BK305.out 2).trans rfl, (blk_cell BK305.out 3).trans rfl⟩ (fun hHeld => ?_)
                        clear hK K
                        refine norm_ (a' := ?_) ?_ ?_
                        rotate_left
                        ·
                         show Act.put _ (some 82) _ = _
                         simp only [Act.put, List.setIfInBounds_toArray, List.set_cons_zero, List.set_cons_succ, i64_w, i32_w]
                         rfl
                        exact norm_ (by first | (simp only [putAll, Act.put, List.setIfInBounds_toArray, List.set_cons_zero, List.set_cons_succ]; done) | (simp only [putAll, Act.put, List.setIfInBounds_toArray, List.set_cons_zero, List.set_cons_succ]; rfl)) (hJ20 (v330) _ ⟨hHeld, (by (with_reducible repeat (first | apply Kd.R_alloc | apply Kd.R_drewN | apply Kd.R_drew)); exact Kd.R_mono HO304.out (fun _ hk => ⟨hk.1.2, hk.2⟩)), (by (with_reducible repeat (first | apply Kd.R_alloc | apply Kd.R_drewN | apply Kd.R_drew)); exact Kd.R_mono HO322.out (fun _ hk => ⟨hk.1.2, hk.2⟩)), (by (with_reducible repeat (first | apply Kd.R_alloc | apply Kd.R_drewN | apply Kd.R_drew)); exact Kd.R_mono HO331.out (fun _ hk => ⟨hk.1.2, hk.2⟩)), (by (with_reducible repeat (first | refine blk_drewN ?_ _ | refine blk_drew ?_ | refine blk_alloc ?_ _)); exact BK305.out), (by repeat (first | (with_reducible first | exact HB.out | apply below_alloc | apply pw_below_drewN | apply below_drew1 | refine below_set ?_ GE305.out) | exact HB.out))⟩)
                      ·
                       skip
                       rintro v330 w86 ⟨hS_, h0_, h1_, h2_, h3_, h4_⟩
                       have n0_ : Aside0 (Kd.R (Kd.int .u8) 5 w86 w.heap.size (fun k_ => some k_ ≠ (v321 : Value).ownBlock ∧ some k_ ≠ (v330 : Value).ownBlock) v303 y302) := ⟨h0_⟩
                       have n1_ : Aside0 (Kd.R (Kd.int .u8) 5 w86 w.heap.size (fun k_ => some k_ ≠ (v303 : Value).ownBlock ∧ some k_ ≠ (v330 : Value).ownBlock) v321 y320) := ⟨h1_⟩
                       have n2_ : Aside0 (Kd.R (Kd.int .u8) 5 w86 w.heap.size (fun k_ => some k_ ≠ (v303 : Value).ownBlock ∧ some k_ ≠ (v321 : Value).ownBlock) v330 y329) := ⟨h2_⟩
                       have n3_ : Aside0 (w86.heap[gb305]? = some (.cells #[.int .u8 1, .int .u8 8, .int .u32 a0, .string (((strOfNums y302) ++ a1) ++ (strOfNums y320))] 24 (0, 0))) := ⟨h3_⟩
                       have n4_ : Aside0 (Below w.heap.size w w86) := ⟨h4_⟩
                       clear HO304
                       clear HO322
                       clear BK305
                       clear HB
                       clear h0_ h1_ h2_ h3_ h4_
                       have HO304 := n0_
                       have HO322 := n1_
                       have HO331 := n2_
                       have BK305 := n3_
                       have HB := n4_
                       clear n0_ n1_ n2_ n3_ n4_
                       have hHeld : w86.cell? ⟨gb305, 0, none⟩ = some (.int .u8 1) ∧ w86.cell? ⟨gb305, 1, none⟩ = some (.int .u8 8) ∧ w86.cell? ⟨gb305, 2, none⟩ = some (.int .u32 a0) ∧ w86.cell? ⟨gb305, 3, none⟩ = some (.string (((strOfNums y302) ++ a1) ++ (strOfNums y320))) := hS_
                       refine norm_ (a' := ?_) ?_ ?_
                       rotate_left
                       ·
                        simp only [putAll, Act.put, List.setIfInBounds_toArray, List.set_cons_zero, List.set_cons_succ]
                        rfl
                       refine two_ (i := 15) (j := 21) (Ni := some 77) (Nj := some 83) #[true, true, true, true, true, true, true, true, true, true, true, true, true, true, true, true, false, true, false, true, true, false, false, false, false, true, false, false, false] #[true, true, true, true, true, true, true, true, true, true, true, true, true, true, true, false, false, true, false, true, true, true, false, false, false, true, false, false, false] rfl rfl rfl rfl (two_of HT_.out (by kernel_rfl)) (by decide) (by decide) (fun K hK => ?_) (fun K hK => ?_)
                       ·
                        skip
                        refine Kd.R_lit_step (Kd.int .u8) _ 5 ?hg (N := 77) ?hd (xs := ([a2] : List Int)) (inner := [.int .u8 a2]) (ok := fun _ => True) (okp := fun _ => True) ?hr ?hp (fun _ hk => hk) trivial (Below.refl _ _) (Nat.le_refl _) (by simp) ?_; (case hd => rfl); (case hg => rfl); (case hr => first | (go_simp; done) | (go_simp; rfl)); (case hp => exact (Reps.one (show Kd.M (Kd.int .u8) _ _ _ a2 [.int .u8 a2] from rfl) (Reps.none _ _)))
                        intro v327 w87 ho88 hb hg_ hnew_
                        clear hg_ hnew_
                        (first | rw [← Ny326.out] at ho88 | (simp only [Int.reduceToNat] at ho88; rw [← Ny326.out] at ho88))
                        have n0_ := Aside0.mk (Kd.R_elder' (by (with_reducible repeat (first | apply Kd.R_alloc | apply Kd.R_drewN | apply Kd.R_drew)); exact HO304.out) (Kd.R_base ho88) hb)
                        have n1_ := Aside0.mk (Kd.R_elder' (by (with_reducible repeat (first | apply Kd.R_alloc | apply Kd.R_drewN | apply Kd.R_drew)); exact HO322.out) (Kd.R_base ho88) hb)
                        have n2_ := Aside0.mk (Kd.R_elder' (by (with_reducible repeat (first | apply Kd.R_alloc | apply Kd.R_drewN | apply Kd.R_drew)); exact HO331.out) (Kd.R_base ho88) hb)
                        have n3_ := Aside0.mk (Kd.R_lower (Kd.R_new' (Kd.R_new' (Kd.R_new' ho88 (Kd.R_lt (by (with_reducible repeat (first | apply Kd.R_alloc | apply Kd.R_drewN | apply Kd.R_drew)); exact HO304.out))) (Kd.R_lt (by (with_reducible repeat (first | apply Kd.R_alloc | apply Kd.R_drewN | apply Kd.R_drew)); exact HO322.out))) (Kd.R_lt (by (with_reducible repeat (first | apply Kd.R_alloc | apply Kd.R_drewN | apply Kd.R_drew)); exact HO331.out))) (below_size (by repeat (first | (with_reducible first | exact HB.out | apply below_alloc | apply pw_below_drewN | apply below_drew1 | refine below_set ?_ GE305.out) | exact HB.out))))
                        have n4_ := Aside0.mk (blk_below (g := gb305) (o := .cells #[.int .u8 1, .int .u8 8, .int .u32 a0, .string (((strOfNums y302) ++ a1) ++ (strOfNums y320))] 24 (0, 0)) (by (with_reducible repeat (first | refine blk_drewN ?_ _ | refine blk_drew ?_ | refine blk_alloc ?_ _)); exact BK305.out) hb)
                        have n5_ := Aside0.mk (below_step (by repeat (first | (with_reducible first | exact HB.out | apply below_alloc | apply pw_below_drewN | apply below_drew1 | refine below_set ?_ GE305.out) | exact HB.out)) hb)
                        clear HO304
                        clear HO322
                        clear HO331
                        clear BK305
                        clear HB
                        have HO304 := n0_
                        have HO322 := n1_
                        have HO331 := n2_
                        have HO328 := n3_
                        have BK305 := n4_
                        have HB := n5_
                        clear n0_ n1_ n2_ n3_ n4_ n5_
                        clear hb ho88
                        refine hK.out _ _ ⟨(blk_cell BK305.out 0).trans rfl, (blk_cell BK305.out 1).trans rfl, (blk_cell BK305.out 2).trans rfl, (blk_cell BK305.out 3).trans rfl⟩ (fun hHeld => ?_)
                        clear hK K
                        refine norm_ (a' := ?_) ?_ ?_
                        rotate_left
                        ·
                         show Act.put _ (some 77) _ = _
                         simp only [Act.put, List.setIfInBounds_toArray, List.set_cons_zero, List.set_cons_succ, i64_w, i32_w]
                         rfl
                        exact norm_ (by first | (simp only [putAll, Act.put, List.setIfInBounds_toArray, List.set_cons_zero, List.set_cons_succ]; done) | (simp only [putAll, Act.put, List.setIfInBounds_toArray, List.set_cons_zero, List.set_cons_succ]; rfl)) (hJ15_20 (v327, v330) _ ⟨hHeld, (by (with_reducible repeat (first | apply Kd.R_alloc | apply Kd.R_drewN | apply Kd.R_drew)); exact Kd.R_mono HO304.out (fun _ hk => ⟨hk.1.1, ⟨hk.2, hk.1.2⟩⟩)), (by (with_reducible repeat (first | apply Kd.R_alloc | apply Kd.R_drewN | apply Kd.R_drew)); exact Kd.R_mono HO322.out (fun _ hk => ⟨hk.1.1, ⟨hk.2, hk.1.2⟩⟩)), (by (with_reducible repeat (first | apply Kd.R_alloc | apply Kd.R_drewN | apply Kd.R_drew)); exact Kd.R_mono HO328.out (fun _ hk => ⟨hk.1.1.2, ⟨hk.1.2, hk.2⟩⟩)), (by (with_reducible repeat (first | apply Kd.R_alloc | apply Kd.R_drewN | apply Kd.R_drew)); exact Kd.R_mono HO331.out (fun _ hk => ⟨hk.1.1, ⟨hk.1.2, hk.2⟩⟩)), (by (with_reducible repeat (first | refine blk_drewN ?_ _ | refine blk_drew ?_ | refine blk_alloc ?_ _)); exact BK305.out), (by repeat (first | (with_reducible first | exact HB.out | apply below_alloc | apply pw_below_drewN | apply below_drew1 | refine below_set ?_ GE305.out) | exact HB.out))⟩)
                       ·
                        skip
                        have hcv87 := own_string (P := Try.prog) Try.underlying43 Try.underlying5 Try.underlying9 (Kd.own_of_R HO331.out)
                        refine value_ (w1 := ?_) (v := ?_) (by rfl) rfl ?_ ?_
                        rotate_left 2
                        ·
                         go_simp
                         constructor
                         · rfl
                         · rfl
                        clear hcv87
                        refine hK.out _ _ ⟨(blk_cell BK305.out 0).trans rfl, (blk_cell BK305.out 1).trans rfl, (blk_cell BK305.out 2).trans rfl, (blk_cell BK305.out 3).trans rfl⟩ (fun hHeld => ?_)
                        clear hK K
                        refine norm_ (a' := ?_) ?_ ?_
                        rotate_left
                        ·
                         show Act.put _ (some 83) _ = _
                         simp only [Act.put, List.setIfInBounds_toArray, List.set_cons_zero, List.set_cons_succ, i64_w, i32_w]
                         rfl
                        exact norm_ (by first | (simp only [putAll, Act.put, List.setIfInBounds_toArray, List.set_cons_zero, List.set_cons_succ]; done) | (simp only [putAll, Act.put, List.setIfInBounds_toArray, List.set_cons_zero, List.set_cons_succ]; rfl)) (hJ20_21 (v330) _ ⟨hHeld, (by (with_reducible repeat (first | apply Kd.R_alloc | apply Kd.R_drewN | apply Kd.R_drew)); exact HO304.out), (by (with_reducible repeat (first | apply Kd.R_alloc | apply Kd.R_drewN | apply Kd.R_drew)); exact HO322.out), (by (with_reducible repeat (first | apply Kd.R_alloc | apply Kd.R_drewN | apply Kd.R_drew)); exact HO331.out), (by (with_reducible repeat (first | refine blk_drewN ?_ _ | refine blk_drew ?_ | refine blk_alloc ?_ _)); exact BK305.out), (by repeat (first | (with_reducible first | exact HB.out | apply below_alloc | apply pw_below_drewN | apply below_drew1 | refine below_set ?_ GE305.out) | exact HB.out))⟩)
                     ·
                      skip
                      rintro v327 w86 ⟨hS_, h0_, h1_, h2_, h3_, h4_⟩
                      have n0_ : Aside0 (Kd.R (Kd.int .u8) 5 w86 w.heap.size (fun k_ => some k_ ≠ (v321 : Value).ownBlock ∧ some k_ ≠ (v327 : Value).ownBlock) v303 y302) := ⟨h0_⟩
                      have n1_ : Aside0 (Kd.R (Kd.int .u8) 5 w86 w.heap.size (fun k_ => some k_ ≠ (v303 : Value).ownBlock ∧ some k_ ≠ (v327 : Value).ownBlock) v321 y320) := ⟨h1_⟩
                      have n2_ : Aside0 (Kd.R (Kd.int .u8) 5 w86 w.heap.size (fun k_ => some k_ ≠ (v303 : Value).ownBlock ∧ some k_ ≠ (v321 : Value).ownBlock) v327 y326) := ⟨h2_⟩
                      have n3_ : Aside0 (w86.heap[gb305]? = some (.cells #[.int .u8 1, .int .u8 8, .int .u32 a0, .string (((strOfNums y302) ++ a1) ++ (strOfNums y320))] 24 (0, 0))) := ⟨h3_⟩
                      have n4_ : Aside0 (Below w.heap.size w w86) := ⟨h4_⟩
                      clear HO304
                      clear HO322
                      clear BK305
                      clear HB
                      clear h0_ h1_ h2_ h3_ h4_
                      have HO304 := n0_
                      have HO322 := n1_
                      have HO328 := n2_
                      have BK305 := n3_
                      have HB := n4_
                      clear n0_ n1_ n2_ n3_ n4_
                      have hHeld : w86.cell? ⟨gb305, 0, none⟩ = some (.int .u8 1) ∧ w86.cell? ⟨gb305, 1, none⟩ = some (.int .u8 8) ∧ w86.cell? ⟨gb305, 2, none⟩ = some (.int .u32 a0) ∧ w86.cell? ⟨gb305, 3, none⟩ = some (.string (((strOfNums y302) ++ a1) ++ (strOfNums y320))) := hS_
                      refine norm_ (a' := ?_) ?_ ?_
                      rotate_left
                      ·
                       simp only [putAll, Act.put, List.setIfInBounds_toArray, List.set_cons_zero, List.set_cons_succ]
                       rfl
                      refine two_ (i := 16) (j := 20) (Ni := some 78) (Nj := some 82) #[true, true, true, true, true, true, true, true, true, true, true, true, true, true, true, true, true, true, false, true, false, false, false, false, false, true, false, false, false] #[true, true, true, true, true, true, true, true, true, true, true, true, true, true, true, true, false, true, false, true, true, false, false, false, false, true, false, false, false] rfl rfl rfl rfl (two_of HT_.out (by kernel_rfl)) (by decide) (by decide) (fun K hK => ?_) (fun K hK => ?_)
                      ·
                       skip
                       have hcv87 := own_string (P := Try.prog) Try.underlying43 Try.underlying5 Try.underlying9 (Kd.own_of_R HO328.out)
                       refine value_ (w1 := ?_) (v := ?_) (by rfl) rfl ?_ ?_
                       rotate_left 2
                       ·
                        go_simp
                        constructor
                        · rfl
                        · rfl
                       clear hcv87
                       refine hK.out _ _ ⟨(blk_cell BK305.out 0).trans rfl, (blk_cell BK305.out 1).trans rfl, (blk_cell BK305.out 2).trans rfl, (blk_cell BK305.out 3).trans rfl⟩ (fun hHeld => ?_)
                       clear hK K
                       refine norm_ (a' := ?_) ?_ ?_
                       rotate_left
                       ·
                        show Act.put _ (some 78) _ = _
                        simp only [Act.put, List.setIfInBounds_toArray, List.set_cons_zero, List.set_cons_succ, i64_w, i32_w]
                        rfl
                       refine pure_ (i := 18) (N := some 80) (v := ?_) (a' := ?_) #[true, true, true, true, true, true, true, true, true, true, true, true, true, true, true, true, true, true, true, true, false, false, false, false, false, true, false, false, false] rfl rfl (any_of HT_.out (by kernel_rfl)) (fun _ _ _ h => h) (Or.inl ⟨by rfl, ?_⟩) ?_ ?_
                       rotate_left
                       ·
                        intro w'
                        go_simp
                        with_reducible rfl
                       rotate_left
                       ·
                        simp only [Act.put, List.setIfInBounds_toArray, List.set_cons_zero, List.set_cons_succ, i64_w, i32_w]
                        rfl
                       exact norm_ (by first | (simp only [putAll, Act.put, List.setIfInBounds_toArray, List.set_cons_zero, List.set_cons_succ]; done) | (simp only [putAll, Act.put, List.setIfInBounds_toArray, List.set_cons_zero, List.set_cons_succ]; rfl)) (hJ15_16 (v327) _ ⟨hHeld, (by (with_reducible repeat (first | apply Kd.R_alloc | apply Kd.R_drewN | apply Kd.R_drew)); exact HO304.out), (by (with_reducible repeat (first | apply Kd.R_alloc | apply Kd.R_drewN | apply Kd.R_drew)); exact HO322.out), (by (with_reducible repeat (first | apply Kd.R_alloc | apply Kd.R_drewN | apply Kd.R_drew)); exact HO328.out), (by (with_reducible repeat (first | refine blk_drewN ?_ _ | refine blk_drew ?_ | refine blk_alloc ?_ _)); exact BK305.out), (by repeat (first | (with_reducible first | exact HB.out | apply below_alloc | apply pw_below_drewN | apply below_drew1 | refine below_set ?_ GE305.out) | exact HB.out))⟩)
                      ·
                       skip
                       refine Kd.R_makek_step (Kd.int .u8) _ 5 (by rfl) (N := 82) rfl 43 _ _ rfl a2 rfl rfl Try.underlying43 (.int .u8 0) 1 info5 rfl (by decide) (by omega) 0 (ok := fun _ => True) (okp := fun _ => True) rfl (fun _ hk => hk) trivial (of_decide_eq_true (by first | (with_reducible assumption) | assumption)) (Nat.le_trans (Nat.mul_le_mul_right _ (of_decide_eq_true (by first | (with_reducible assumption) | assumption) : a2.toNat ≤ 281474976710656)) (by omega)) (Below.refl _ _) (Nat.le_refl _) ?_
                       intro v330 w87 ho88 hb hg_ hnew_
                       clear hg_ hnew_
                       (first | rw [← Ny329.out] at ho88 | (simp only [Int.reduceToNat] at ho88; rw [← Ny329.out] at ho88))
                       have n0_ := Aside0.mk (Kd.R_elder' (by (with_reducible repeat (first | apply Kd.R_alloc | apply Kd.R_drewN | apply Kd.R_drew)); exact HO304.out) (Kd.R_base ho88) hb)
                       have n1_ := Aside0.mk (Kd.R_elder' (by (with_reducible repeat (first | apply Kd.R_alloc | apply Kd.R_drewN | apply Kd.R_drew)); exact HO322.out) (Kd.R_base ho88) hb)
                       have n2_ := Aside0.mk (Kd.R_elder' (by (with_reducible repeat (first | apply Kd.R_alloc | apply Kd.R_drewN | apply Kd.R_drew)); exact HO328.out) (Kd.R_base ho88) hb)
                       have n3_ := Aside0.mk (Kd.R_lower (Kd.R_new' (Kd.R_new' (Kd.R_new' ho88 (Kd.R_lt (by (with_reducible repeat (first | apply Kd.R_alloc | apply Kd.R_drewN | apply Kd.R_drew)); exact HO304.out))) (Kd.R_lt (by (with_reducible repeat (first | apply Kd.R_alloc | apply Kd.R_drewN | apply Kd.R_drew)); exact HO322.out))) (Kd.R_lt (by (with_reducible repeat (first | apply Kd.R_alloc | apply Kd.R_drewN | apply Kd.R_drew)); exact HO328.out))) (below_size (by repeat (first | (with_reducible first | exact HB.out | apply below_alloc | apply pw_below_drewN | apply below_drew1 | refine below_set ?_ GE305.out) | exact HB.out))))
                       have n4_ := Aside0.mk (blk_below (g := gb305) (o := .cells #[.int .u8 1, .int .u8 8, .int .u32 a0, .string (((strOfNums y302) ++ a1) ++ (strOfNums y320))] 24 (0, 0)) (by (with_reducible repeat (first | refine blk_drewN ?_ _ | refine blk_drew ?_ | refine blk_alloc ?_ _)); exact BK305.out) hb)
                       have n5_ := Aside0.mk (below_step (by repeat (first | (with_reducible first | exact HB.out | apply below_alloc | apply pw_below_drewN | apply below_drew1 | refine below_set ?_ GE305.out) | exact HB.out)) hb)
                       clear HO304
                       clear HO322
                       clear HO328
                       clear BK305
                       clear HB
                       have HO304 := n0_
                       have HO322 := n1_
                       have HO328 := n2_
                       have HO331 := n3_
                       have BK305 := n4_
                       have HB := n5_
                       clear n0_ n1_ n2_ n3_ n4_ n5_
                       clear hb ho88
                       refine hK.out _ _ ⟨(blk_cell BK305.out 0).trans rfl, (blk_cell BK305.out 1).trans rfl, (blk_cell BK305.out 2).trans rfl, (blk_cell BK305.out 3).trans rfl⟩ (fun hHeld => ?_)
                       clear hK K
                       refine norm_ (a' := ?_) ?_ ?_
                       rotate_left
                       ·
                        show Act.put _ (some 82) _ = _
                        simp only [Act.put, List.setIfInBounds_toArray, List.set_cons_zero, List.set_cons_succ, i64_w, i32_w]
                        rfl
                       exact norm_ (by first | (simp only [putAll, Act.put, List.setIfInBounds_toArray, List.set_cons_zero, List.set_cons_succ]; done) | (simp only [putAll, Act.put, List.setIfInBounds_toArray, List.set_cons_zero, List.set_cons_succ]; rfl)) (hJ15_20 (v327, v330) _ ⟨hHeld, (by (with_reducible repeat (first | apply Kd.R_alloc | apply Kd.R_drewN | apply Kd.R_drew)); exact Kd.R_mono HO304.out (fun _ hk => ⟨hk.1.1, ⟨hk.1.2, hk.2⟩⟩)), (by (with_reducible repeat (first | apply Kd.R_alloc | apply Kd.R_drewN | apply Kd.R_drew)); exact Kd.R_mono HO322.out (fun _ hk => ⟨hk.1.1, ⟨hk.1.2, hk.2⟩⟩)), (by (with_reducible repeat (first | apply Kd.R_alloc | apply Kd.R_drewN | apply Kd.R_drew)); exact Kd.R_mono HO328.out (fun _ hk => ⟨hk.1.1, ⟨hk.1.2, hk.2⟩⟩)), (by (with_reducible repeat (first | apply Kd.R_alloc | apply Kd.R_drewN | apply Kd.R_drew)); exact Kd.R_mono HO331.out (fun _ hk => ⟨hk.1.1.2, ⟨hk.1.2, hk.2⟩⟩)), (by (with_reducible repeat (first | refine blk_drewN ?_ _ | refine blk_drew ?_ | refine blk_alloc ?_ _)); exact BK305.out), (by repeat (first | (with_reducible first | exact HB.out | apply below_alloc | apply pw_below_drewN | apply below_drew1 | refine below_set ?_ GE305.out) | exact HB.out))⟩)
                    ·
                     skip
                     rintro v330 w87 ⟨hS_, h0_, h1_, h2_, h3_, h4_⟩
                     have n0_ : Aside0 (Kd.R (Kd.int .u8) 5 w87 w.heap.size (fun k_ => some k_ ≠ (v321 : Value).ownBlock ∧ some k_ ≠ (v330 : Value).ownBlock) v303 y302) := ⟨h0_⟩
                     have n1_ : Aside0 (Kd.R (Kd.int .u8) 5 w87 w.heap.size (fun k_ => some k_ ≠ (v303 : Value).ownBlock ∧ some k_ ≠ (v330 : Value).ownBlock) v321 y320) := ⟨h1_⟩
                     have n2_ : Aside0 (Kd.R (Kd.int .u8) 5 w87 w.heap.size (fun k_ => some k_ ≠ (v303 : Value).ownBlock ∧ some k_ ≠ (v321 : Value).ownBlock) v330 y329) := ⟨h2_⟩
                     have n3_ : Aside0 (w87.heap[gb305]? = some (.cells #[.int .u8 1, .int .u8 8, .int .u32 a0, .string (((strOfNums y302) ++ a1) ++ (strOfNums y320))] 24 (0, 0))) := ⟨h3_⟩
                     have n4_ : Aside0 (Below w.heap.size w w87) := ⟨h4_⟩
                     clear HO304
                     clear HO322
                     clear BK305
                     clear HB
                     clear h0_ h1_ h2_ h3_ h4_
                     have HO304 := n0_
                     have HO322 := n1_
                     have HO331 := n2_
                     have BK305 := n3_
                     have HB := n4_
                     clear n0_ n1_ n2_ n3_ n4_
                     have hHeld : w87.cell? ⟨gb305, 0, none⟩ = some (.int .u8 1) ∧ w87.cell? ⟨gb305, 1, none⟩ = some (.int .u8 8) ∧ w87.cell? ⟨gb305, 2, none⟩ = some (.int .u32 a0) ∧ w87.cell? ⟨gb305, 3, none⟩ = some (.string (((strOfNums y302) ++ a1) ++ (strOfNums y320))) := hS_
                     refine norm_ (a' := ?_) ?_ ?_
                     rotate_left
                     ·
                      simp only [putAll, Act.put, List.setIfInBounds_toArray, List.set_cons_zero, List.set_cons_succ]
                      rfl
                     refine one_ (i := 15) (N := some 77) #[true, true, true, true, true, true, true, true, true, true, true, true, true, true, true, true, false, true, false, true, true, true, false, false, false, true, false, false, false] rfl rfl (one_of HT_.out (by kernel_rfl)) (by decide) (fun K hK => ?_)
                     refine Kd.R_lit_step (Kd.int .u8) _ 5 ?hg (N := 77) ?hd (xs := ([a2] : List Int)) (inner := [.int .u8 a2]) (ok := fun _ => True) (okp := fun _ => True) ?hr ?hp (fun _ hk => hk) trivial (Below.refl _ _) (Nat.le_refl _) (by simp) ?_; (case hd => rfl); (case hg => rfl); (case hr => first | (go_simp; done) | (go_simp; rfl)); (case hp => exact (Reps.one (show Kd.M (Kd.int .u8) _ _ _ a2 [.int .u8 a2] from rfl) (Reps.none _ _)))
                     intro v327 w88 ho89 hb hg_ hnew_
                     clear hg_ hnew_
                     (first | rw [← Ny326.out] at ho89 | (simp only [Int.reduceToNat] at ho89; rw [← Ny326.out] at ho89))
                     have n0_ := Aside0.mk (Kd.R_elder' (by (with_reducible repeat (first | apply Kd.R_alloc | apply Kd.R_drewN | apply Kd.R_drew)); exact HO304.out) (Kd.R_base ho89) hb)
                     have n1_ := Aside0.mk (Kd.R_elder' (by (with_reducible repeat (first | apply Kd.R_alloc | apply Kd.R_drewN | apply Kd.R_drew)); exact HO322.out) (Kd.R_base ho89) hb)
                     have n2_ := Aside0.mk (Kd.R_elder' (by (with_reducible repeat (first | apply Kd.R_alloc | apply Kd.R_drewN | apply Kd.R_drew)); exact HO331.out) (Kd.R_base ho89) hb)
                     have n3_ := Aside0.mk (Kd.R_lower (Kd.R_new' (Kd.R_new' (Kd.R_new' ho89 (Kd.R_lt (by (with_reducible repeat (first | apply Kd.R_alloc | apply Kd.R_drewN | apply Kd.R_drew)); exact HO304.out))) (Kd.R_lt (by (with_reducible repeat (first | apply Kd.R_alloc | apply Kd.R_drewN | apply Kd.R_drew)); exact HO322.out))) (Kd.R_lt (by (with_reducible repeat (first | apply Kd.R_alloc | apply Kd.R_drewN | apply Kd.R_drew)); exact HO331.out))) (below_size (by repeat (first | (with_reducible first | exact HB.out | apply below_alloc | apply pw_below_drewN | apply below_drew1 | refine below_set ?_ GE305.out) | exact HB.out))))
                     have n4_ := Aside0.mk (blk_below (g := gb305) (o := .cells #[.int .u8 1, .int .u8 8, .int .u32 a0, .string (((strOfNums y302) ++ a1) ++ (strOfNums y320))] 24 (0, 0)) (by (with_reducible repeat (first | refine blk_drewN ?_ _ | refine blk_drew ?_ | refine blk_alloc ?_ _)); exact BK305.out) hb)
                     have n5_ := Aside0.mk (below_step (by repeat (first | (with_reducible first | exact HB.out | apply below_alloc | apply pw_below_drewN | apply below_drew1 | refine below_set ?_ GE305.out) | exact HB.out)) hb)
                     clear HO304
                     clear HO322
                     clear HO331
                     clear BK305
                     clear HB
                     have HO304 := n0_
                     have HO322 := n1_
                     have HO331 := n2_
                     have HO328 := n3_
                     have BK305 := n4_
                     have HB := n5_
                     clear n0_ n1_ n2_ n3_ n4_ n5_
                     clear hb ho89
                     refine hK.out _ _ ⟨(blk_cell BK305.out 0).trans rfl, (blk_cell BK305.out 1).trans rfl, (blk_cell BK305.out 2).trans rfl, (blk_cell BK305.out 3).trans rfl⟩ (fun hHeld => ?_)
                     clear hK K
                     refine norm_ (a' := ?_) ?_ ?_
                     rotate_left
                     ·
                      show Act.put _ (some 77) _ = _
                      simp only [Act.put, List.setIfInBounds_toArray, List.set_cons_zero, List.set_cons_succ, i64_w, i32_w]
                      rfl
                     exact norm_ (by first | (simp only [putAll, Act.put, List.setIfInBounds_toArray, List.set_cons_zero, List.set_cons_succ]; done) | (simp only [putAll, Act.put, List.setIfInBounds_toArray, List.set_cons_zero, List.set_cons_succ]; rfl)) (hJ15_20_21 (v327, v330) _ ⟨hHeld, (by (with_reducible repeat (first | apply Kd.R_alloc | apply Kd.R_drewN | apply Kd.R_drew)); exact Kd.R_mono HO304.out (fun _ hk => ⟨hk.1.1, ⟨hk.2, hk.1.2⟩⟩)), (by (with_reducible repeat (first | apply Kd.R_alloc | apply Kd.R_drewN | apply Kd.R_drew)); exact Kd.R_mono HO322.out (fun _ hk => ⟨hk.1.1, ⟨hk.2, hk.1.2⟩⟩)), (by (with_reducible repeat (first | apply Kd.R_alloc | apply Kd.R_drewN | apply Kd.R_drew)); exact Kd.R_mono HO328.out (fun _ hk => ⟨hk.1.1.2, ⟨hk.1.2, hk.2⟩⟩)), (by (with_reducible repeat (first | apply Kd.R_alloc | apply Kd.R_drewN | apply Kd.R_drew)); exact Kd.R_mono HO331.out (fun _ hk => ⟨hk.1.1, ⟨hk.1.2, hk.2⟩⟩)), (by (with_reducible repeat (first | refine blk_drewN ?_ _ | refine blk_drew ?_ | refine blk_alloc ?_ _)); exact BK305.out), (by repeat (first | (with_reducible first | exact HB.out | apply below_alloc | apply pw_below_drewN | apply below_drew1 | refine below_set ?_ GE305.out) | exact HB.out))⟩)
                   ·
                    skip
                    rintro ⟨v327, v330⟩ w88 ⟨hS_, h0_, h1_, h2_, h3_, h4_, h5_⟩
                    have n0_ : Aside0 (Kd.R (Kd.int .u8) 5 w88 w.heap.size (fun k_ => some k_ ≠ (v321 : Value).ownBlock ∧ some k_ ≠ (v327 : Value).ownBlock ∧ some k_ ≠ (v330 : Value).ownBlock) v303 y302) := ⟨h0_⟩
                    have n1_ : Aside0 (Kd.R (Kd.int .u8) 5 w88 w.heap.size (fun k_ => some k_ ≠ (v303 : Value).ownBlock ∧ some k_ ≠ (v327 : Value).ownBlock ∧ some k_ ≠ (v330 : Value).ownBlock) v321 y320) := ⟨h1_⟩
                    have n2_ : Aside0 (Kd.R (Kd.int .u8) 5 w88 w.heap.size (fun k_ => some k_ ≠ (v303 : Value).ownBlock ∧ some k_ ≠ (v321 : Value).ownBlock ∧ some k_ ≠ (v330 : Value).ownBlock) v327 y326) := ⟨h2_⟩
                    have n3_ : Aside0 (Kd.R (Kd.int .u8) 5 w88 w.heap.size (fun k_ => some k_ ≠ (v303 : Value).ownBlock ∧ some k_ ≠ (v321 : Value).ownBlock ∧ some k_ ≠ (v327 : Value).ownBlock) v330 y329) := ⟨h3_⟩
                    have n4_ : Aside0 (w88.heap[gb305]? = some (.cells #[.int .u8 1, .int .u8 8, .int .u32 a0, .string (((strOfNums y302) ++ a1) ++ (strOfNums y320))] 24 (0, 0))) := ⟨h4_⟩
                    have n5_ : Aside0 (Below w.heap.size w w88) := ⟨h5_⟩
                    clear HO304
                    clear HO322
                    clear BK305
                    clear HB
                    clear h0_ h1_ h2_ h3_ h4_ h5_
                    have HO304 := n0_
                    have HO322 := n1_
                    have HO328 := n2_
                    have HO331 := n3_
                    have BK305 := n4_
                    have HB := n5_
                    clear n0_ n1_ n2_ n3_ n4_ n5_
                    have hHeld : w88.cell? ⟨gb305, 0, none⟩ = some (.int .u8 1) ∧ w88.cell? ⟨gb305, 1, none⟩ = some (.int .u8 8) ∧ w88.cell? ⟨gb305, 2, none⟩ = some (.int .u32 a0) ∧ w88.cell? ⟨gb305, 3, none⟩ = some (.string (((strOfNums y302) ++ a1) ++ (strOfNums y320))) := hS_
                    refine norm_ (a' := ?_) ?_ ?_
                    rotate_left
                    ·
                     simp only [putAll, Act.put, List.setIfInBounds_toArray, List.set_cons_zero, List.set_cons_succ]
                     rfl
                    refine two_ (i := 16) (j := 21) (Ni := some 78) (Nj := some 83) #[true, true, true, true, true, true, true, true, true, true, true, true, true, true, true, true, true, true, false, true, true, false, false, false, false, true, false, false, false] #[true, true, true, true, true, true, true, true, true, true, true, true, true, true, true, true, false, true, false, true, true, true, false, false, false, true, false, false, false] rfl rfl rfl rfl (two_of HT_.out (by kernel_rfl)) (by decide) (by decide) (fun K hK => ?_) (fun K hK => ?_)
                    ·
                     skip
                     have hcv89 := own_string (P := Try.prog) Try.underlying43 Try.underlying5 Try.underlying9 (Kd.own_of_R HO328.out)
                     refine value_ (w1 := ?_) (v := ?_) (by rfl) rfl ?_ ?_
                     rotate_left 2
                     ·
                      go_simp
                      constructor
                      · rfl
                      · rfl
                     clear hcv89
                     refine hK.out _ _ ⟨(blk_cell BK305.out 0).trans rfl, (blk_cell BK305.out 1).trans rfl, (blk_cell BK305.out 2).trans rfl, (blk_cell BK305.out 3).trans rfl⟩ (fun hHeld => ?_)
                     clear hK K
                     refine norm_ (a' := ?_) ?_ ?_
                     rotate_left
                     ·
                      show Act.put _ (some 78) _ = _
                      simp only [Act.put, List.setIfInBounds_toArray, List.set_cons_zero, List.set_cons_succ, i64_w, i32_w]
                      rfl
                     refine pure_ (i := 18) (N := some 80) (v := ?_) (a' := ?_) #[true, true, true, true, true, true, true, true, true, true, true, true, true, true, true, true, true, true, true, true, true, false, false, false, false, true, false, false, false] rfl rfl (any_of HT_.out (by kernel_rfl)) (fun _ _ _ h => h) (Or.inl ⟨by rfl, ?_⟩) ?_ ?_
                     rotate_left
                     ·
                      intro w'
                      go_simp
                      with_reducible rfl
                     rotate_left
                     ·
                      simp only [Act.put, List.setIfInBounds_toArray, List.set_cons_zero, List.set_cons_succ, i64_w, i32_w]
                      rfl
                     exact norm_ (by first | (simp only [putAll, Act.put, List.setIfInBounds_toArray, List.set_cons_zero, List.set_cons_succ]; done) | (simp only [putAll, Act.put, List.setIfInBounds_toArray, List.set_cons_zero, List.set_cons_succ]; rfl)) (hJ15_16_20 (v327, v330) _ ⟨hHeld, (by (with_reducible repeat (first | apply Kd.R_alloc | apply Kd.R_drewN | apply Kd.R_drew)); exact HO304.out), (by (with_reducible repeat (first | apply Kd.R_alloc | apply Kd.R_drewN | apply Kd.R_drew)); exact HO322.out), (by (with_reducible repeat (first | apply Kd.R_alloc | apply Kd.R_drewN | apply Kd.R_drew)); exact HO328.out), (by (with_reducible repeat (first | apply Kd.R_alloc | apply Kd.R_drewN | apply Kd.R_drew)); exact HO331.out), (by (with_reducible repeat (first | refine blk_drewN ?_ _ | refine blk_drew ?_ | refine blk_alloc ?_ _)); exact BK305.out), (by repeat (first | (with_reducible first | exact HB.out | apply below_alloc | apply pw_below_drewN | apply below_drew1 | refine below_set ?_ GE305.out) | exact HB.out))⟩)
                    ·
                     skip
                     have hcv89 := own_string (P := Try.prog) Try.underlying43 Try.underlying5 Try.underlying9 (Kd.own_of_R HO331.out)
                     refine value_ (w1 := ?_) (v := ?_) (by rfl) rfl ?_ ?_
                     rotate_left 2
                     ·
                      go_simp
                      constructor
                      · rfl
                      · rfl
                     clear hcv89
                     refine hK.out _ _ ⟨(blk_cell BK305.out 0).trans rfl, (blk_cell BK305.out 1).trans rfl, (blk_cell BK305.out 2).trans rfl, (blk_cell BK305.out 3).trans rfl⟩ (fun hHeld => ?_)
                     clear hK K
                     refine norm_ (a' := ?_) ?_ ?_
                     rotate_left
                     ·
                      show Act.put _ (some 83) _ = _
                      simp only [Act.put, List.setIfInBounds_toArray, List.set_cons_zero, List.set_cons_succ, i64_w, i32_w]
                      rfl
                     exact norm_ (by first | (simp only [putAll, Act.put, List.setIfInBounds_toArray, List.set_cons_zero, List.set_cons_succ]; done) | (simp only [putAll, Act.put, List.setIfInBounds_toArray, List.set_cons_zero, List.set_cons_succ]; rfl)) (hJ15_20_21 (v327, v330) _ ⟨hHeld, (by (with_reducible repeat (first | apply Kd.R_alloc | apply Kd.R_drewN | apply Kd.R_drew)); exact HO304.out), (by (with_reducible repeat (first | apply Kd.R_alloc | apply Kd.R_drewN | apply Kd.R_drew)); exact HO322.out), (by (with_reducible repeat (first | apply Kd.R_alloc | apply Kd.R_drewN | apply Kd.R_drew)); exact HO328.out), (by (with_reducible repeat (first | apply Kd.R_alloc | apply Kd.R_drewN | apply Kd.R_drew)); exact HO331.out), (by (with_reducible repeat (first | refine blk_drewN ?_ _ | refine blk_drew ?_ | refine blk_alloc ?_ _)); exact BK305.out), (by repeat (first | (with_reducible first | exact HB.out | apply below_alloc | apply pw_below_drewN | apply below_drew1 | refine below_set ?_ GE305.out) | exact HB.out))⟩)
                  ·
                   skip
                   rintro v327 w87 ⟨hS_, h0_, h1_, h2_, h3_, h4_⟩
                   have n0_ : Aside0 (Kd.R (Kd.int .u8) 5 w87 w.heap.size (fun k_ => some k_ ≠ (v321 : Value).ownBlock ∧ some k_ ≠ (v327 : Value).ownBlock) v303 y302) := ⟨h0_⟩
                   have n1_ : Aside0 (Kd.R (Kd.int .u8) 5 w87 w.heap.size (fun k_ => some k_ ≠ (v303 : Value).ownBlock ∧ some k_ ≠ (v327 : Value).ownBlock) v321 y320) := ⟨h1_⟩
                   have n2_ : Aside0 (Kd.R (Kd.int .u8) 5 w87 w.heap.size (fun k_ => some k_ ≠ (v303 : Value).ownBlock ∧ some k_ ≠ (v321 : Value).ownBlock) v327 y326) := ⟨h2_⟩
                   have n3_ : Aside0 (w87.heap[gb305]? = some (.cells #[.int .u8 1, .int .u8 8, .int .u32 a0, .string (((strOfNums y302) ++ a1) ++ (strOfNums y320))] 24 (0, 0))) := ⟨h3_⟩
                   have n4_ : Aside0 (Below w.heap.size w w87) := ⟨h4_⟩
                   clear HO304
                   clear HO322
                   clear BK305
                   clear HB
                   clear h0_ h1_ h2_ h3_ h4_
                   have HO304 := n0_
                   have HO322 := n1_
                   have HO328 := n2_
                   have BK305 := n3_
                   have HB := n4_
                   clear n0_ n1_ n2_ n3_ n4_
                   have hHeld : w87.cell? ⟨gb305, 0, none⟩ = some (.int .u8 1) ∧ w87.cell? ⟨gb305, 1, none⟩ = some (.int .u8 8) ∧ w87.cell? ⟨gb305, 2, none⟩ = some (.int .u32 a0) ∧ w87.cell? ⟨gb305, 3, none⟩ = some (.string (((strOfNums y302) ++ a1) ++ (strOfNums y320))) := hS_
                   refine norm_ (a' := ?_) ?_ ?_
                   rotate_left
                   ·
                    simp only [putAll, Act.put, List.setIfInBounds_toArray, List.set_cons_zero, List.set_cons_succ]
                    rfl
                   refine one_ (i := 20) (N := some 82) #[true, true, true, true, true, true, true, true, true, true, true, true, true, true, true, true, true, true, true, true, true, false, false, false, false, true, false, false, false] rfl rfl (one_of HT_.out (by kernel_rfl)) (by decide) (fun K hK => ?_)
                   refine Kd.R_makek_step (Kd.int .u8) _ 5 (by rfl) (N := 82) rfl 43 _ _ rfl a2 rfl rfl Try.underlying43 (.int .u8 0) 1 info5 rfl (by decide) (by omega) 0 (ok := fun _ => True) (okp := fun _ => True) rfl (fun _ hk => hk) trivial (of_decide_eq_true (by first | (with_reducible assumption) | assumption)) (Nat.le_trans (Nat.mul_le_mul_right _ (of_decide_eq_true (by first | (with_reducible assumption) | assumption) : a2.toNat ≤ 281474976710656)) (by omega)) (Below.refl _ _) (Nat.le_refl _) ?_
                   intro v330 w88 ho89 hb hg_ hnew_
                   clear hg_ hnew_
                   (first | rw [← Ny329.out] at ho89 | (simp only [Int.reduceToNat] at ho89; rw [← Ny329.out] at ho89))
                   have n0_ := Aside0.mk (Kd.R_elder' (by (with_reducible repeat (first | apply Kd.R_alloc | apply Kd.R_drewN | apply Kd.R_drew)); exact HO304.out) (Kd.R_base ho89) hb)
                   have n1_ := Aside0.mk (Kd.R_elder' (by (with_reducible repeat (first | apply Kd.R_alloc | apply Kd.R_drewN | apply Kd.R_drew)); exact HO322.out) (Kd.R_base ho89) hb)
                   have n2_ := Aside0.mk (Kd.R_elder' (by (with_reducible repeat (first | apply Kd.R_alloc | apply Kd.R_drewN | apply Kd.R_drew)); exact HO328.out) (Kd.R_base ho89) hb)
                   have n3_ := Aside0.mk (Kd.R_lower (Kd.R_new' (Kd.R_new' (Kd.R_new' ho89 (Kd.R_lt (by (with_reducible repeat (first | apply Kd.R_alloc | apply Kd.R_drewN | apply Kd.R_drew)); exact HO304.out))) (Kd.R_lt (by (with_reducible repeat (first | apply Kd.R_alloc | apply Kd.R_drewN | apply Kd.R_drew)); exact HO322.out))) (Kd.R_lt (by (with_reducible repeat (first | apply Kd.R_alloc | apply Kd.R_drewN | apply Kd.R_drew)); exact HO328.out))) (below_size (by repeat (first | (with_reducible first | exact HB.out | apply below_alloc | apply pw_below_drewN | apply below_drew1 | refine below_set ?_ GE305.out) | exact HB.out))))
                   have n4_ := Aside0.mk (blk_below (g := gb305) (o := .cells #[.int .u8 1, .int .u8 8, .int .u32 a0, .string (((strOfNums y302) ++ a1) ++ (strOfNums y320))] 24 (0, 0)) (by (with_reducible repeat (first | refine blk_drewN ?_ _ | refine blk_drew ?_ | refine blk_alloc ?_ _)); exact BK305.out) hb)
                   have n5_ := Aside0.mk (below_step (by repeat (first | (with_reducible first | exact HB.out | apply below_alloc | apply pw_below_drewN | apply below_drew1 | refine below_set ?_ GE305.out) | exact HB.out)) hb)
                   clear HO304
                   clear HO322
                   clear HO328
                   clear BK305
                   clear HB
                   have HO304 := n0_
                   have HO322 := n1_
                   have HO328 := n2_
                   have HO331 := n3_
                   have BK305 := n4_
                   have HB := n5_
                   clear n0_ n1_ n2_ n3_ n4_ n5_
                   clear hb ho89
                   refine hK.out _ _ ⟨(blk_cell BK305.out 0).trans rfl, (blk_cell BK305.out 1).trans rfl, (blk_cell BK305.out 2).trans rfl, (blk_cell BK305.out 3).trans rfl⟩ (fun hHeld => ?_)
                   clear hK K
                   refine norm_ (a' := ?_) ?_ ?_
                   rotate_left
                   ·
                    show Act.put _ (some 82) _ = _
                    simp only [Act.put, List.setIfInBounds_toArray, List.set_cons_zero, List.set_cons_succ, i64_w, i32_w]
                    rfl
                   exact norm_ (by first | (simp only [putAll, Act.put, List.setIfInBounds_toArray, List.set_cons_zero, List.set_cons_succ]; done) | (simp only [putAll, Act.put, List.setIfInBounds_toArray, List.set_cons_zero, List.set_cons_succ]; rfl)) (hJ15_16_20 (v327, v330) _ ⟨hHeld, (by (with_reducible repeat (first | apply Kd.R_alloc | apply Kd.R_drewN | apply Kd.R_drew)); exact Kd.R_mono HO304.out (fun _ hk => ⟨hk.1.1, ⟨hk.1.2, hk.2⟩⟩)), (by (with_reducible repeat (first | apply Kd.R_alloc | apply Kd.R_drewN | apply Kd.R_drew)); exact Kd.R_mono HO322.out (fun _ hk => ⟨hk.1.1, ⟨hk.1.2, hk.2⟩⟩)), (by (with_reducible repeat (first | apply Kd.R_alloc | apply Kd.R_drewN | apply Kd.R_drew)); exact Kd.R_mono HO328.out (fun _ hk => ⟨hk.1.1, ⟨hk.1.2, hk.2⟩⟩)), (by (with_reducible repeat (first | apply Kd.R_alloc | apply Kd.R_drewN | apply Kd.R_drew)); exact Kd.R_mono HO331.out (fun _ hk => ⟨hk.1.1.2, ⟨hk.1.2, hk.2⟩⟩)), (by (with_reducible repeat (first | refine blk_drewN ?_ _ | refine blk_drew ?_ | refine blk_alloc ?_ _)); exact BK305.out), (by repeat (first | (with_reducible first | exact HB.out | apply below_alloc | apply pw_below_drewN | apply below_drew1 | refine below_set ?_ GE305.out) | exact HB.out))⟩)
                 ·
                  skip
                  rintro ⟨v327, v330⟩ w89 ⟨hS_, h0_, h1_, h2_, h3_, h4_, h5_⟩
                  have n0_ : Aside0 (Kd.R (Kd.int .u8) 5 w89 w.heap.size (fun k_ => some k_ ≠ (v321 : Value).ownBlock ∧ some k_ ≠ (v327 : Value).ownBlock ∧ some k_ ≠ (v330 : Value).ownBlock) v303 y302) := ⟨h0_⟩
                  have n1_ : Aside0 (Kd.R (Kd.int .u8) 5 w89 w.heap.size (fun k_ => some k_ ≠ (v303 : Value).ownBlock ∧ some k_ ≠ (v327 : Value).ownBlock ∧ some k_ ≠ (v330 : Value).ownBlock) v321 y320) := ⟨h1_⟩
                  have n2_ : Aside0 (Kd.R (Kd.int .u8) 5 w89 w.heap.size (fun k_ => some k_ ≠ (v303 : Value).ownBlock ∧ some k_ ≠ (v321 : Value).ownBlock ∧ some k_ ≠ (v330 : Value).ownBlock) v327 y326) := ⟨h2_⟩
                  have n3_ : Aside0 (Kd.R (Kd.int .u8) 5 w89 w.heap.size (fun k_ => some k_ ≠ (v303 : Value).ownBlock ∧ some k_ ≠ (v321 : Value).ownBlock ∧ some k_ ≠ (v327 : Value).ownBlock) v330 y329) := ⟨h3_⟩
                  have n4_ : Aside0 (w89.heap[gb305]? = some (.cells #[.int .u8 1, .int .u8 8, .int .u32 a0, .string (((strOfNums y302) ++ a1) ++ (strOfNums y320))] 24 (0, 0))) := ⟨h4_⟩
                  have n5_ : Aside0 (Below w.heap.size w w89) := ⟨h5_⟩
                  clear HO304
                  clear HO322
                  clear BK305
                  clear HB
                  clear h0_ h1_ h2_ h3_ h4_ h5_
                  have HO304 := n0_
                  have HO322 := n1_
                  have HO328 := n2_
                  have HO331 := n3_
                  have BK305 := n4_
                  have HB := n5_
                  clear n0_ n1_ n2_ n3_ n4_ n5_
                  have hHeld : w89.cell? ⟨gb305, 0, none⟩ = some (.int .u8 1) ∧ w89.cell? ⟨gb305, 1, none⟩ = some (.int .u8 8) ∧ w89.cell? ⟨gb305, 2, none⟩ = some (.int .u32 a0) ∧ w89.cell? ⟨gb305, 3, none⟩ = some (.string (((strOfNums y302) ++ a1) ++ (strOfNums y320))) := hS_
                  refine norm_ (a' := ?_) ?_ ?_
                  rotate_left
                  ·
                   simp only [putAll, Act.put, List.setIfInBounds_toArray, List.set_cons_zero, List.set_cons_succ]
                   rfl
                  refine one_ (i := 16) (N := some 78) #[true, true, true, true, true, true, true, true, true, true, true, true, true, true, true, true, true, true, false, true, true, true, false, false, false, true, false, false, false] rfl rfl (one_of HT_.out (by kernel_rfl)) (by decide) (fun K hK => ?_)
                  have hcv90 := own_string (P := Try.prog) Try.underlying43 Try.underlying5 Try.underlying9 (Kd.own_of_R HO328.out)
                  refine value_ (w1 := ?_) (v := ?_) (by rfl) rfl ?_ ?_
                  rotate_left 2
                  ·
                   go_simp
                   constructor
                   · rfl
                   · rfl
                  clear hcv90
                  refine hK.out _ _ ⟨(blk_cell BK305.out 0).trans rfl, (blk_cell BK305.out 1).trans rfl, (blk_cell BK305.out 2).trans rfl, (blk_cell BK305.out 3).trans rfl⟩ (fun hHeld => ?_)
                  clear hK K
                  refine norm_ (a' := ?_) ?_ ?_
                  rotate_left
                  ·
                   show Act.put _ (some 78) _ = _
                   simp only [Act.put, List.setIfInBounds_toArray, List.set_cons_zero, List.set_cons_succ, i64_w, i32_w]
                   rfl
                  refine pure_ (i := 18) (N := some 80) (v := ?_) (a' := ?_) #[true, true, true, true, true, true, true, true, true, true, true, true, true, true, true, true, true, true, true, true, true, true, false, false, false, true, false, false, false] rfl rfl (any_of HT_.out (by kernel_rfl)) (fun _ _ _ h => h) (Or.inl ⟨by rfl, ?_⟩) ?_ ?_
                  rotate_left
                  ·
                   intro w'
                   go_simp
                   with_reducible rfl
                  rotate_left
                  ·
                   simp only [Act.put, List.setIfInBounds_toArray, List.set_cons_zero, List.set_cons_succ, i64_w, i32_w]
                   rfl
                  exact norm_ (by first | (simp only [putAll, Act.put, List.setIfInBounds_toArray, List.set_cons_zero, List.set_cons_succ]; done) | (simp only [putAll, Act.put, List.setIfInBounds_toArray, List.set_cons_zero, List.set_cons_succ]; rfl)) (hJ15_16_20_21 (v327, v330) _ ⟨hHeld, (by (with_reducible repeat (first | apply Kd.R_alloc | apply Kd.R_drewN | apply Kd.R_drew)); exact HO304.out), (by (with_reducible repeat (first | apply Kd.R_alloc | apply Kd.R_drewN | apply Kd.R_drew)); exact HO322.out), (by (with_reducible repeat (first | apply Kd.R_alloc | apply Kd.R_drewN | apply Kd.R_drew)); exact HO328.out), (by (with_reducible repeat (first | apply Kd.R_alloc | apply Kd.R_drewN | apply Kd.R_drew)); exact HO331.out), (by (with_reducible repeat (first | refine blk_drewN ?_ _ | refine blk_drew ?_ | refine blk_alloc ?_ _)); exact BK305.out), (by repeat (first | (with_reducible first | exact HB.out | apply below_alloc | apply pw_below_drewN | apply below_drew1 | refine below_set ?_ GE305.out) | exact HB.out))⟩)
                ·
                 skip
                 rintro ⟨v327, v330⟩ w89 ⟨hS_, h0_, h1_, h2_, h3_, h4_, h5_⟩
                 have n0_ : Aside0 (Kd.R (Kd.int .u8) 5 w89 w.heap.size (fun k_ => some k_ ≠ (v321 : Value).ownBlock ∧ some k_ ≠ (v327 : Value).ownBlock ∧ some k_ ≠ (v330 : Value).ownBlock) v303 y302) := ⟨h0_⟩
                 have n1_ : Aside0 (Kd.R (Kd.int .u8) 5 w89 w.heap.size (fun k_ => some k_ ≠ (v303 : Value).ownBlock ∧ some k_ ≠ (v327 : Value).ownBlock ∧ some k_ ≠ (v330 : Value).ownBlock) v321 y320) := ⟨h1_⟩
                 have n2_ : Aside0 (Kd.R (Kd.int .u8) 5 w89 w.heap.size (fun k_ => some k_ ≠ (v303 : Value).ownBlock ∧ some k_ ≠ (v321 : Value).ownBlock ∧ some k_ ≠ (v330 : Value).ownBlock) v327 y326) := ⟨h2_⟩
                 have n3_ : Aside0 (Kd.R (Kd.int .u8) 5 w89 w.heap.size (fun k_ => some k_ ≠ (v303 : Value).ownBlock ∧ some k_ ≠ (v321 : Value).ownBlock ∧ some k_ ≠ (v327 : Value).ownBlock) v330 y329) := ⟨h3_⟩
                 have n4_ : Aside0 (w89.heap[gb305]? = some (.cells #[.int .u8 1, .int .u8 8, .int .u32 a0, .string (((strOfNums y302) ++ a1) ++ (strOfNums y320))] 24 (0, 0))) := ⟨h4_⟩
                 have n5_ : Aside0 (Below w.heap.size w w89) := ⟨h5_⟩
                 clear HO304
                 clear HO322
                 clear BK305
                 clear HB
                 clear h0_ h1_ h2_ h3_ h4_ h5_
                 have HO304 := n0_
                 have HO322 := n1_
                 have HO328 := n2_
                 have HO331 := n3_
                 have BK305 := n4_
                 have HB := n5_
                 clear n0_ n1_ n2_ n3_ n4_ n5_
                 have hHeld : w89.cell? ⟨gb305, 0, none⟩ = some (.int .u8 1) ∧ w89.cell? ⟨gb305, 1, none⟩ = some (.int .u8 8) ∧ w89.cell? ⟨gb305, 2, none⟩ = some (.int .u32 a0) ∧ w89.cell? ⟨gb305, 3, none⟩ = some (.string (((strOfNums y302) ++ a1) ++ (strOfNums y320))) := hS_
                 refine norm_ (a' := ?_) ?_ ?_
                 rotate_left
                 ·
                  simp only [putAll, Act.put, List.setIfInBounds_toArray, List.set_cons_zero, List.set_cons_succ]
                  rfl
                 refine one_ (i := 21) (N := some 83) #[true, true, true, true, true, true, true, true, true, true, true, true, true, true, true, true, true, true, true, true, true, true, false, false, false, true, false, false, false] rfl rfl (one_of HT_.out (by kernel_rfl)) (by decide) (fun K hK => ?_)
                 have hcv90 := own_string (P := Try.prog) Try.underlying43 Try.underlying5 Try.underlying9 (Kd.own_of_R HO331.out)
                 refine value_ (w1 := ?_) (v := ?_) (by rfl) rfl ?_ ?_
                 rotate_left 2
                 ·
                  go_simp
                  constructor
                  · rfl
                  · rfl
                 clear hcv90
                 refine hK.out _ _ ⟨(blk_cell BK305.out 0).trans rfl, (blk_cell BK305.out 1).trans rfl, (blk_cell BK305.out 2).trans rfl, (blk_cell BK305.out 3).trans rfl⟩ (fun hHeld => ?_)
                 clear hK K
                 refine norm_ (a' := ?_) ?_ ?_
                 rotate_left
                 ·
                  show Act.put _ (some 83) _ = _
                  simp only [Act.put, List.setIfInBounds_toArray, List.set_cons_zero, List.set_cons_succ, i64_w, i32_w]
                  rfl
                 exact norm_ (by first | (simp only [putAll, Act.put, List.setIfInBounds_toArray, List.set_cons_zero, List.set_cons_succ]; done) | (simp only [putAll, Act.put, List.setIfInBounds_toArray, List.set_cons_zero, List.set_cons_succ]; rfl)) (hJ15_16_20_21 (v327, v330) _ ⟨hHeld, (by (with_reducible repeat (first | apply Kd.R_alloc | apply Kd.R_drewN | apply Kd.R_drew)); exact HO304.out), (by (with_reducible repeat (first | apply Kd.R_alloc | apply Kd.R_drewN | apply Kd.R_drew)); exact HO322.out), (by (with_reducible repeat (first | apply Kd.R_alloc | apply Kd.R_drewN | apply Kd.R_drew)); exact HO328.out), (by (with_reducible repeat (first | apply Kd.R_alloc | apply Kd.R_drewN | apply Kd.R_drew)); exact HO331.out), (by (with_reducible repeat (first | refine blk_drewN ?_ _ | refine blk_drew ?_ | refine blk_alloc ?_ _)); exact BK305.out), (by repeat (first | (with_reducible first | exact HB.out | apply below_alloc | apply pw_below_drewN | apply below_drew1 | refine below_set ?_ GE305.out) | exact HB.out))⟩)
               rintro ⟨v327, v330⟩ w90 ⟨hS_, h0_, h1_, h2_, h3_, h4_, h5_⟩
               have n0_ : Aside0 (Kd.R (Kd.int .u8) 5 w90 w.heap.size (fun k_ => some k_ ≠ (v321 : Value).ownBlock ∧ some k_ ≠ (v327 : Value).ownBlock ∧ some k_ ≠ (v330 : Value).ownBlock) v303 y302) := ⟨h0_⟩
               have n1_ : Aside0 (Kd.R (Kd.int .u8) 5 w90 w.heap.size (fun k_ => some k_ ≠ (v303 : Value).ownBlock ∧ some k_ ≠ (v327 : Value).ownBlock ∧ some k_ ≠ (v330 : Value).ownBlock) v321 y320) := ⟨h1_⟩
               have n2_ : Aside0 (Kd.R (Kd.int .u8) 5 w90 w.heap.size (fun k_ => some k_ ≠ (v303 : Value).ownBlock ∧ some k_ ≠ (v321 : Value).ownBlock ∧ some k_ ≠ (v330 : Value).ownBlock) v327 y326) := ⟨h2_⟩
               have n3_ : Aside0 (Kd.R (Kd.int .u8) 5 w90 w.heap.size (fun k_ => some k_ ≠ (v303 : Value).ownBlock ∧ some k_ ≠ (v321 : Value).ownBlock ∧ some k_ ≠ (v327 : Value).ownBlock) v330 y329) := ⟨h3_⟩
               have n4_ : Aside0 (w90.heap[gb305]? = some (.cells #[.int .u8 1, .int .u8 8, .int .u32 a0, .string (((strOfNums y302) ++ a1) ++ (strOfNums y320))] 24 (0, 0))) := ⟨h4_⟩
               have n5_ : Aside0 (Below w.heap.size w w90) := ⟨h5_⟩
               clear HO304
               clear HO322
               clear BK305
               clear HB
               clear h0_ h1_ h2_ h3_ h4_ h5_
               have HO304 := n0_
               have HO322 := n1_
               have HO328 := n2_
               have HO331 := n3_
               have BK305 := n4_
               have HB := n5_
               clear n0_ n1_ n2_ n3_ n4_ n5_
               have hHeld : w90.cell? ⟨gb305, 0, none⟩ = some (.int .u8 1) ∧ w90.cell? ⟨gb305, 1, none⟩ = some (.int .u8 8) ∧ w90.cell? ⟨gb305, 2, none⟩ = some (.int .u32 a0) ∧ w90.cell? ⟨gb305, 3, none⟩ = some (.string (((strOfNums y302) ++ a1) ++ (strOfNums y320))) := hS_
               refine norm_ (a' := ?_) ?_ ?_
               rotate_left
               ·
                simp only [putAll, Act.put, List.setIfInBounds_toArray, List.set_cons_zero, List.set_cons_succ]
                rfl
               refine pure_ (i := 22) (N := some 84) (v := ?_) (a' := ?_) #[true, true, true, true, true, true, true, true, true, true, true, true, true, true, true, true, true, true, true, true, true, true, true, false, false, true, false, false, false] rfl rfl (any_of HT_.out (by kernel_rfl)) (fun _ _ _ h => h) (Or.inl ⟨by rfl, ?_⟩) ?_ ?_
               rotate_left
               ·
                intro w'
                go_simp
                with_reducible rfl
               rotate_left
               ·
                simp only [Act.put, List.setIfInBounds_toArray, List.set_cons_zero, List.set_cons_succ, i64_w, i32_w]
                rfl
               refine pure_ (i := 23) (N := some 85) (v := ?_) (a' := ?_) #[true, true, true, true, true, true, true, true, true, true, true, true, true, true, true, true, true, true, true, true, true, true, true, true, false, true, false, false, false] rfl rfl (any_of HT_.out (by kernel_rfl)) (fun _ _ _ h => h) (Or.inl ⟨by rfl, ?_⟩) ?_ ?_
               rotate_left
               ·
                intro w'
                go_simp
                with_reducible rfl
               rotate_left
               ·
                simp only [Act.put, List.setIfInBounds_toArray, List.set_cons_zero, List.set_cons_succ, i64_w, i32_w]
                rfl
               refine one_ (i := 24) (N := some 86) #[true, true, true, true, true, true, true, true, true, true, true, true, true, true, true, true, true, true, true, true, true, true, true, true, true, true, false, false, false] rfl rfl (one_of HT_.out (by kernel_rfl)) (by decide) (fun K hK => ?_)
               refine goes_ Try.func15 (by kernel_rfl) rfl #[.agg #[.int .u8 0, .int .u8 8, .int .u32 a0, .string (((strOfNums y326) ++ a1) ++ (strOfNums y329))]] (by rfl) rfl rfl (by (try simp only [List.map_toArray, List.map_cons, List.map_nil]); first | done | rfl | (simp only [List.length_drop, List.length_take]; rfl)) ?_
               with_reducible refine (frame_Content.calls kj7 0 8 a0 (((strOfNums y326) ++ a1) ++ (strOfNums y329)) t332 _ A68.out).mono ?_
               rintro e w91 ⟨rfl, hb⟩
               refine ⟨_, rfl, ?_⟩
               have n0_ := Aside0.mk (Kd.R_below (by (with_reducible repeat (first | apply Kd.R_alloc | apply Kd.R_drewN | apply Kd.R_drew)); exact HO304.out) hb)
               have n1_ := Aside0.mk (Kd.R_below (by (with_reducible repeat (first | apply Kd.R_alloc | apply Kd.R_drewN | apply Kd.R_drew)); exact HO322.out) hb)
               have n2_ := Aside0.mk (Kd.R_below (by (with_reducible repeat (first | apply Kd.R_alloc | apply Kd.R_drewN | apply Kd.R_drew)); exact HO328.out) hb)
               have n3_ := Aside0.mk (Kd.R_below (by (with_reducible repeat (first | apply Kd.R_alloc | apply Kd.R_drewN | apply Kd.R_drew)); exact HO331.out) hb)
               have n4_ := Aside0.mk (blk_below (g := gb305) (o := .cells #[.int .u8 1, .int .u8 8, .int .u32 a0, .string (((strOfNums y302) ++ a1) ++ (strOfNums y320))] 24 (0, 0)) (by (with_reducible repeat (first | refine blk_drewN ?_ _ | refine blk_drew ?_ | refine blk_alloc ?_ _)); exact BK305.out) hb)
               have n5_ := Aside0.mk (below_step (by repeat (first | (with_reducible first | exact HB.out | apply below_alloc | apply pw_below_drewN | apply below_drew1 | refine below_set ?_ GE305.out) | exact HB.out)) hb)
               clear HO304
               clear HO322
               clear HO328
               clear HO331
               clear BK305
               clear HB
               have HO304 := n0_
               have HO322 := n1_
               have HO328 := n2_
               have HO331 := n3_
               have BK305 := n4_
               have HB := n5_
               clear n0_ n1_ n2_ n3_ n4_ n5_
               (try clear hb)
               (try clear hb2)
               (try clear hk)
               (try clear hi)
               refine hK.out _ _ ⟨(blk_cell BK305.out 0).trans rfl, (blk_cell BK305.out 1).trans rfl, (blk_cell BK305.out 2).trans rfl, (blk_cell BK305.out 3).trans rfl⟩ (fun hHeld => ?_)
               clear hK K
               refine norm_ (a' := ?_) ?_ ?_
               rotate_left
               ·
                show Act.put _ (some 86) _ = _
                simp only [Act.put, List.setIfInBounds_toArray, List.set_cons_zero, List.set_cons_succ, i64_w, i32_w]
                rfl
               refine pure_ (i := 26) (N := some 88) (v := ?_) (a' := ?_) #[true, true, true, true, true, true, true, true, true, true, true, true, true, true, true, true, true, true, true, true, true, true, true, true, true, true, true, false, false] rfl rfl (any_of HT_.out (by kernel_rfl)) (fun _ _ _ h => h) (Or.inl ⟨by rfl, ?_⟩) ?_ ?_
               rotate_left
               ·
                intro w'
                go_simp
                with_reducible rfl
               rotate_left
               ·
                simp only [Act.put, List.setIfInBounds_toArray, List.set_cons_zero, List.set_cons_succ, i64_w, i32_w]
                rfl
               refine pure_ (i := 27) (N := some 89) (v := ?_) (a' := ?_) #[true, true, true, true, true, true, true, true, true, true, true, true, true, true, true, true, true, true, true, true, true, true, true, true, true, true, true, true, false] rfl rfl (any_of HT_.out (by kernel_rfl)) (fun _ _ _ h => h) (Or.inl ⟨by rfl, ?_⟩) ?_ ?_
               rotate_left
               ·
                intro w'
                go_simp
                with_reducible rfl
               rotate_left
               ·
                simp only [Act.put, List.setIfInBounds_toArray, List.set_cons_zero, List.set_cons_succ, i64_w, i32_w]
                rfl
               refine pure_ (i := 28) (N := some 10) (v := ?_) (a' := ?_) #[true, true, true, true, true, true, true, true, true, true, true, true, true, true, true, true, true, true, true, true, true, true, true, true, true, true, true, true, true] rfl rfl (any_of HT_.out (by kernel_rfl)) (fun _ _ _ h => h) (Or.inl ⟨by rfl, ?_⟩) ?_ ?_
               rotate_left
               ·
                intro w'
                go_simp
                with_reducible rfl
               rotate_left
               ·
                simp only [Act.put, List.setIfInBounds_toArray, List.set_cons_zero, List.set_cons_succ, i64_w, i32_w]
                rfl
               refine done_ (done_of HT_.out (by kernel_rfl)) ?_
               try go_wp2
               go_ret
               exact ⟨by first | rfl | (simp [errW_none, errW_some] <;> rfl) | (simp [*, errW_none, errW_some] <;> rfl), by repeat (first | (with_reducible first | exact HB.out | apply below_alloc | apply pw_below_drewN | apply below_drew1 | refine below_set ?_ GE305.out) | exact HB.out)⟩
              ·
               rw [if_neg c67] at H
               exact absurd H (by simp)
             ·
              rw [if_neg c66] at H
              exact absurd H (by simp)
            ·
             rw [if_neg c65] at H
             have c65b0 : (t325.toList == a1.toList) = false := beq_eq_false_iff_ne.mpr c65
             have c65b1 : (t325.toList != a1.toList) = true := bne_iff_ne.mpr c65
             exact absurd ((Option.some.inj H).trans HT.out) (by decide)
           ·
            rw [if_neg c63] at H
            have c63b0 : (t324 == 0) = false := beq_eq_false_iff_ne.mpr c63
            have c63b1 : (t324 != 0) = true := bne_iff_ne.mpr c63
            exact absurd ((Option.some.inj H).trans HT.out) (by decide)
          ·
           rw [if_neg c62] at H
           have c62b0 : (t323 == 0) = false := beq_eq_false_iff_ne.mpr c62
           have c62b1 : (t323 != 0) = true := bne_iff_ne.mpr c62
           exact absurd ((Option.some.inj H).trans HT.out) (by decide)
         ·
          rw [if_neg c60] at H
          exact absurd H (by simp)
        ·
         rw [if_neg c59] at H
         exact absurd H (by simp)
       ·
        rw [if_neg c58] at H
        exact absurd H (by simp)
      ·
       rw [if_neg c57] at H
       exact absurd H (by simp)
 ·
  replace c7 := Bool.eq_false_iff.mpr c7
  subst c7
  have H1 : (some false) = some r := by rw [if_neg (show ¬ (false = true) by decide)] at H; exact H
  clear H
  have H := H1
  clear H1
  exact absurd ((Option.some.inj H).trans HT.out) (by decide)

/-- THE ONE PURE STATEMENT of nunciolaw14_FramePads: yours. -/
def nunciolaw14_FramePads.Pure : Prop := ∀ (a0 : Int) (a1 : ByteArray) (a2 : Int) (a3 : Bool) (a4 : Int), (Lit.int .u32 a0).wf = true → a1.size ≤ 140737488351232 → (Lit.int .u8 a2).wf = true → (Lit.int .u32 a4).wf = true → ∃ k, nunciolaw14_FramePads.f k a0 a1 a2 a3 a4 = some true
theorem nunciolaw14_FramePads.walk (P : nunciolaw14_FramePads.Pure) (a0 : Int) (a1 : ByteArray) (a2 : Int) (a3 : Bool) (a4 : Int) (w : World) (w0 : (Lit.int .u32 a0).wf = true) (w1 : a1.size ≤ 140737488351232) (w2 : (Lit.int .u8 a2).wf = true) (w4 : (Lit.int .u32 a4).wf = true) :
  Calls Try.prog 6 #[.int .u32 a0, .string a1, .int .u8 a2, .bool a3, .int .u32 a4] w fun e w' => e = .returned (.bool true) ∧ Below w.heap.size w w' := by
 obtain ⟨k, h⟩ := P a0 a1 a2 a3 a4 w0 w1 w2 w4
 refine (nunciolaw14_FramePads.calls k a0 a1 a2 a3 a4 true w h rfl).mono ?_
 rintro e w' ⟨rfl, hd⟩
 exact ⟨rfl, hd⟩

end Go.Proofs.Ytimhhacnpjcjnaa.Mine
