-- Written by this repo's own printer (wip/print), which builds on the kit's.
import Derived.Test.YtebnbjnkameicaaMinex0
namespace Go.Proofs.Ytebnbjnkameicaa.Mine
open Go.RowKit Go.Proofs.YtebnbjnkameicaaW.PrintWords Go.Proofs.YtebnbjnkameicaaW.PrintLast Go.Proofs.YtebnbjnkameicaaW.PrintMore
attribute [local go_sem] max2_int min2_int max_two min_two max_three min_three max_four min_four   -- for this text's walks alone
set_option linter.unusedVariables false
set_option linter.unusedSimpArgs false

/-! ### rdata_Shape: function 9 -/
def rdata_Shape.j0 : Nat → Int → Bool → Option (Int × Int × Int)
 | 0, _, _ => none
 | k + 1, x5, x6 => if x6 = true then (some (1, 0, 0)) else (if x5 = 6 then (some (2, 5, 0)) else (if x5 = 15 then (some (1, 1, 0)) else (if x5 = 33 then (some (1, 3, 0)) else (some (0, 0, 1)))))
def rdata_Shape.f (k : Nat) (a0 : Int) : Option (Int × Int × Int) := if a0 = 2 then (rdata_Shape.j0 k a0 (a0 == 2)) else (if a0 = 5 then (rdata_Shape.j0 k a0 (a0 == 5)) else (rdata_Shape.j0 k a0 (a0 == 12)))
theorem rdata_Shape.mono_l : ∀ k, (∀ y0 y1, LeO (rdata_Shape.j0 k y0 y1) (rdata_Shape.j0 (k + 1) y0 y1))
 | 0 => fun _ _ r h => by simp [rdata_Shape.j0] at h
 | k + 1 => by
  have ih0 := rdata_Shape.mono_l k
  ·
   intro y0 y1
   unfold rdata_Shape.j0
   repeat' first
   | (with_reducible exact ih0 _ _)
   | (with_reducible exact LeO.refl _)
   | (with_reducible exact LeO.none _)
   | (with_reducible refine LeO.ite ?_ ?_)
   | (with_reducible refine LeO.bind ?_ (fun _ => ?_))
   | exact ih0 _ _
   | exact LeO.none _
   | refine LeO.ite ?_ ?_
   | refine LeO.bind ?_ (fun _ => ?_)
theorem rdata_Shape.mono : ∀ a0 k, LeO (rdata_Shape.f k a0) (rdata_Shape.f (k + 1) a0) := by
 intro a0 k
 have ih0 := rdata_Shape.mono_l k
 unfold rdata_Shape.f
 repeat' first
   | (with_reducible exact ih0 _ _)
   | (with_reducible exact LeO.refl _)
   | (with_reducible exact LeO.none _)
   | (with_reducible refine LeO.ite ?_ ?_)
   | (with_reducible refine LeO.bind ?_ (fun _ => ?_))
   | exact ih0 _ _
   | exact LeO.none _
   | refine LeO.ite ?_ ?_
   | refine LeO.bind ?_ (fun _ => ?_)
set_option maxHeartbeats 8000000 in
set_option maxRecDepth 100000 in
theorem rdata_Shape.calls (k : Nat) (a0 : Int) (r1 : Int) (r2 : Int) (r3 : Int) (w : World) (h : rdata_Shape.f k a0 = some (r1, r2, r3)) :
  Calls Try.prog 9 #[.int .u16 a0] w fun e w' => e = .returned (.tuple #[.int .i64 r1, .int .i64 r2, .int .i64 r3]) ∧ Drawn0 w w' := by
 have H : (if a0 = 2 then (rdata_Shape.j0 k a0 (a0 == 2)) else (if a0 = 5 then (rdata_Shape.j0 k a0 (a0 == 5)) else (rdata_Shape.j0 k a0 (a0 == 12)))) = some (r1, r2, r3) := h
 clear h
 have HC2 := Aside0.mk H
 clear H
 go_enter Try.func9, Try.ntmps9
 go_upto_if 6 with (fail)
 go_cut [6] (fun v6 wc => ∃ (kq : Nat) (x6_1 : Bool), v6 = .bool x6_1 ∧ Aside0 (rdata_Shape.j0 kq a0 x6_1 = some (r1, r2, r3)) ∧ Aside0 (kq ≤ k) ∧ Drawn0 w wc)
 case first =>
  have H := HC2.out
  clear HC2
  by_cases c3 : a0 = 2
  ·
   rw [if_pos c3] at H
   have c3b0 : (a0 == 2) = true := beq_iff_eq.mpr c3
   have c3b1 : (a0 != 2) = false := bne_eq_false_iff_eq.mpr c3
   clear c3
   (first | rw [c3b0] | rw [c3b1] | (simp only [i64_w, i32_w]; rw [c3b0]) | skip)
   have H' := Aside0.mk H
   clear H
   go_wp2
   go_meet
   case rel => exact ⟨_, ((a0 == 2)), (by first | rfl | (simp; done) | (simp [*]; done)), H', ⟨by first | omega | exact Nat.le_refl _⟩, by repeat (first | exact Drawn0.refl _ | apply Drawn0.step)⟩
  ·
   rw [if_neg c3] at H
   have c3b0 : (a0 == 2) = false := beq_eq_false_iff_ne.mpr c3
   have c3b1 : (a0 != 2) = true := bne_iff_ne.mpr c3
   (first | rw [c3b0] | rw [c3b1] | (simp only [i64_w, i32_w]; rw [c3b0]) | skip)
   by_cases c4 : a0 = 5
   ·
    rw [if_pos c4] at H
    have c4b0 : (a0 == 5) = true := beq_iff_eq.mpr c4
    have c4b1 : (a0 != 5) = false := bne_eq_false_iff_eq.mpr c4
    clear c4
    have H' := Aside0.mk H
    clear H
    go_wp2
    go_meet
    case rel => exact ⟨_, ((a0 == 5)), (by first | rfl | (simp; done) | (simp [*]; done)), H', ⟨by first | omega | exact Nat.le_refl _⟩, by repeat (first | exact Drawn0.refl _ | apply Drawn0.step)⟩
   ·
    rw [if_neg c4] at H
    have c4b0 : (a0 == 5) = false := beq_eq_false_iff_ne.mpr c4
    have c4b1 : (a0 != 5) = true := bne_iff_ne.mpr c4
    have H' := Aside0.mk H
    clear H
    go_wp2
    go_meet
    case rel => exact ⟨_, ((a0 == 12)), (by first | rfl | (simp; done) | (simp [*]; done)), H', ⟨by first | omega | exact Nat.le_refl _⟩, by repeat (first | exact Drawn0.refl _ | apply Drawn0.step)⟩
 case rest =>
  clear HC2
  try clear p2
  try clear c3
  try clear c3b0
  try clear c3b1
  try clear c4
  try clear c4b0
  try clear c4b1
  obtain ⟨kq, x6_1, rfl, HA, HJ1, ⟨mc1, rfl⟩⟩ := hcut
  cases kq with
  | zero => exact absurd HA.out (by simp [rdata_Shape.j0])
  | succ kj1 =>
   have H := HA.out
   clear HA
   simp only [rdata_Shape.j0] at H
   by_cases c5 : x6_1 = true
   ·
    subst c5
    have H1 : (some (1, 0, 0)) = some (r1, r2, r3) := by rw [if_pos rfl] at H; exact H
    clear H
    have H := H1
    clear H1
    simp only [Option.some.injEq, Prod.mk.injEq] at H
    obtain ⟨rfl, rfl, rfl⟩ := H
    go_wp2
    go_ret3
    exact ⟨by first | rfl | (simp; done) | (simp [*]; done), by repeat (first | exact Drawn0.refl _ | apply Drawn0.step)⟩
   ·
    replace c5 := Bool.eq_false_iff.mpr c5
    subst c5
    have H1 : (if a0 = 6 then (some (2, 5, 0)) else (if a0 = 15 then (some (1, 1, 0)) else (if a0 = 33 then (some (1, 3, 0)) else (some (0, 0, 1))))) = some (r1, r2, r3) := by rw [if_neg (show ¬ (false = true) by decide)] at H; exact H
    clear H
    have H := H1
    clear H1
    by_cases c6 : a0 = 6
    ·
     rw [if_pos c6] at H
     have c6b0 : (a0 == 6) = true := beq_iff_eq.mpr c6
     have c6b1 : (a0 != 6) = false := bne_eq_false_iff_eq.mpr c6
     clear c6
     simp only [Option.some.injEq, Prod.mk.injEq] at H
     obtain ⟨rfl, rfl, rfl⟩ := H
     go_wp2
     go_ret3
     exact ⟨by first | rfl | (simp; done) | (simp [*]; done), by repeat (first | exact Drawn0.refl _ | apply Drawn0.step)⟩
    ·
     rw [if_neg c6] at H
     have c6b0 : (a0 == 6) = false := beq_eq_false_iff_ne.mpr c6
     have c6b1 : (a0 != 6) = true := bne_iff_ne.mpr c6
     by_cases c7 : a0 = 15
     ·
      rw [if_pos c7] at H
      have c7b0 : (a0 == 15) = true := beq_iff_eq.mpr c7
      have c7b1 : (a0 != 15) = false := bne_eq_false_iff_eq.mpr c7
      clear c7
      simp only [Option.some.injEq, Prod.mk.injEq] at H
      obtain ⟨rfl, rfl, rfl⟩ := H
      go_wp2
      go_ret3
      exact ⟨by first | rfl | (simp; done) | (simp [*]; done), by repeat (first | exact Drawn0.refl _ | apply Drawn0.step)⟩
     ·
      rw [if_neg c7] at H
      have c7b0 : (a0 == 15) = false := beq_eq_false_iff_ne.mpr c7
      have c7b1 : (a0 != 15) = true := bne_iff_ne.mpr c7
      by_cases c8 : a0 = 33
      ·
       rw [if_pos c8] at H
       have c8b0 : (a0 == 33) = true := beq_iff_eq.mpr c8
       have c8b1 : (a0 != 33) = false := bne_eq_false_iff_eq.mpr c8
       clear c8
       simp only [Option.some.injEq, Prod.mk.injEq] at H
       obtain ⟨rfl, rfl, rfl⟩ := H
       go_wp2
       go_ret3
       exact ⟨by first | rfl | (simp; done) | (simp [*]; done), by repeat (first | exact Drawn0.refl _ | apply Drawn0.step)⟩
      ·
       rw [if_neg c8] at H
       have c8b0 : (a0 == 33) = false := beq_eq_false_iff_ne.mpr c8
       have c8b1 : (a0 != 33) = true := bne_iff_ne.mpr c8
       simp only [Option.some.injEq, Prod.mk.injEq] at H
       obtain ⟨rfl, rfl, rfl⟩ := H
       go_wp2
       go_ret3
       exact ⟨by first | rfl | (simp; done) | (simp [*]; done), by repeat (first | exact Drawn0.refl _ | apply Drawn0.step)⟩

end Go.Proofs.Ytebnbjnkameicaa.Mine
