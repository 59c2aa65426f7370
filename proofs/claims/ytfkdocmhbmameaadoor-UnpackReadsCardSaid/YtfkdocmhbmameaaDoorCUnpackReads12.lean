/- The walks and the plain laws that the row comes to: merged out of this repo's texts. -/
import Derived.Test.YtfkdocmhbmameaaDoorProg
import Derived.Below
import Derived.Deep.Draws
import Derived.Deep.AppendLies
import Derived.Maps.AppendAt
import Derived.OwnWalk
import Derived.Laws.BytesArg
import Derived.Laws.MakeOwn
import Derived.Laws.OwnMore
import Derived.Deep.OwnRows
import Derived.Tactics
import Derived.Lib.ConvBytes
import Derived.Laws.Slices
import Derived.WalkKit
import Derived.KernelRfl
import Derived.RowKit3
import Derived.Deep.LoopGhost
import Derived.Deep.QuietTactic
import Derived.BigQuiet
import Derived.WideLaws
import Derived.Deep.DeepCutAuto
import Derived.Deep.CutBlock
import Derived.Deep.RegionHeld3
import Derived.Laws.Rows
import Derived.Lib.AppendStr
import Derived.ArgAppend
import Derived.Laws.IdiomCopy
import Derived.RowKit
import Derived.OrdersHeld
import Derived.Laws.BitsLemmas
import Derived.Laws.StructEq
import Derived.Laws.CopyOwn
import Derived.SizedLaws
import Derived.ChangeSlices
import Derived.Deep.Slices
import Derived.Lib.SmallJoins
import Derived.Lib.OthersKept
import Derived.Lib.AppendZerosOnto
import Derived.WalkSpells
import Derived.Test.YtfkdocmhbmameaaDoorCUnpackReads1
import Derived.Test.YtfkdocmhbmameaaDoorCUnpackReads2
import Derived.Test.YtfkdocmhbmameaaDoorCUnpackReads3
import Derived.Test.YtfkdocmhbmameaaDoorCUnpackReads11
namespace Go.Proofs.YtfkdocmhbmameaaDoor.Mine
open Go.RowKit Go.Proofs.YtfkdocmhbmameaaDoorW.PrintWords Go.Proofs.YtfkdocmhbmameaaDoorW.PrintLast Go.Proofs.YtfkdocmhbmameaaDoorW.PrintMore
attribute [local go_sem] max2_int min2_int max_two min_two max_three min_three max_four min_four
set_option linter.unusedVariables false
set_option linter.unusedSimpArgs false
mutual
def nuncioref09_Get.j0 : Nat → ByteArray → Int → Int → Bool → Option (Int × Int × Int)
 | 0, _, _, _, _ => none
 | k + 1, x0, x1, x2, x21 => if x21 = true then (some (0, 0, 2)) else ((nuncioref09_Full.f k x2).bind fun t409 => (if 0 ≤ x1 then (if x1 < (x0.size : Int) then (if (IntKind.u64.wrap (t409 + 1)) = 0 then (none) else (if (Int.tmod (IntKind.u64.wrap (bt x0 x1)) (IntKind.u64.wrap (t409 + 1))) < t409 then (some (Int.tmod (IntKind.u64.wrap (bt x0 x1)) (IntKind.u64.wrap (t409 + 1)), wrap64 (x1 + 1), 0)) else (nuncioref09_Get.l0 k x0 x1 (Int.tmod (IntKind.u64.wrap (bt x0 x1)) (IntKind.u64.wrap (t409 + 1))) 1 1))) else (none)) else (none)))
def nuncioref09_Get.l0 : Nat → ByteArray → Int → Int → Int → Int → Option (Int × Int × Int)
 | 0, _, _, _, _, _ => none
 | k + 1, x0, x1, x10, x11, x12 => if x12 ≤ 5 then (if (wrap64 ((x0.size : Int) - x1)) ≤ x12 then (some (0, 0, 2)) else (if 0 ≤ (wrap64 (x1 + x12)) then (if (wrap64 (x1 + x12)) < (x0.size : Int) then (if (IntKind.u64.wrap (x10 + (IntKind.u64.wrap ((Int.tmod (IntKind.u64.wrap (bt x0 (wrap64 (x1 + x12)))) 128) * x11)))) > 4294967295 then (some (0, 0, 90)) else (if (IntKind.u64.wrap (bt x0 (wrap64 (x1 + x12)))) < 128 then (some (IntKind.u64.wrap (x10 + (IntKind.u64.wrap ((Int.tmod (IntKind.u64.wrap (bt x0 (wrap64 (x1 + x12)))) 128) * x11))), wrap64 ((wrap64 (x1 + x12)) + 1), 0)) else (nuncioref09_Get.l0 k x0 x1 (IntKind.u64.wrap (x10 + (IntKind.u64.wrap ((Int.tmod (IntKind.u64.wrap (bt x0 (wrap64 (x1 + x12)))) 128) * x11)))) (IntKind.u64.wrap (x11 * 128)) (wrap64 (x12 + 1))))) else (none)) else (none))) else (some (0, 0, 90))
end
def nuncioref09_Get.f (k : Nat) (a0 : ByteArray) (a1 : Int) (a2 : Int) : Option (Int × Int × Int) := if a1 < 0 then (nuncioref09_Get.j0 k a0 a1 a2 true) else (nuncioref09_Get.j0 k a0 a1 a2 (decide (a1 ≥ (a0.size : Int))))
set_option maxHeartbeats 8000000 in
set_option maxRecDepth 100000 in
theorem nuncioref09_Get.calls (k : Nat) (a0 : ByteArray) (a1 : Int) (a2 : Int) (r1 : Int) (r2 : Int) (r3 : Int) (w : World) (h : nuncioref09_Get.f k a0 a1 a2 = some (r1, r2, r3)) :
  Calls Tryd.prog 66 #[.string a0, .int .i64 a1, .int .i64 a2] w fun e w' => e = .returned (.tuple #[.int .u64 r1, .int .i64 r2, .int .i64 r3]) ∧ Drawn0 w w' := by
 have H : (if a1 < 0 then (nuncioref09_Get.j0 k a0 a1 a2 true) else (nuncioref09_Get.j0 k a0 a1 a2 (decide (a1 ≥ (a0.size : Int))))) = some (r1, r2, r3) := h
 clear h
 have HC4 := Aside0.mk H
 clear H
 go_enter Tryd.func66, Tryd.ntmps66
 go_upto_region 1 with (fail)
 go_cut [21] (fun v21 wc => ∃ (kq : Nat) (x21_3 : Bool), v21 = .bool x21_3 ∧ Aside0 (nuncioref09_Get.j0 kq a0 a1 a2 x21_3 = some (r1, r2, r3)) ∧ Aside0 (kq ≤ k) ∧ Drawn0 w wc)
 case first =>
  have H := HC4.out
  clear HC4
  by_cases c5 : a1 < 0
  ·
   rw [if_pos c5] at H
   have c5b0 : decide (a1 < 0) = true := decide_eq_true c5
   clear c5
   (first | rw [c5b0] | rw [c5b1] | (simp only [i64_w, i32_w]; rw [c5b0]) | skip)
   have H' := Aside0.mk H
   clear H
   go_wp2
   go_meet
   case rel => exact ⟨_, (true), (by first | rfl | (simp; done) | (simp [*]; done)), H', ⟨by first | omega | exact Nat.le_refl _⟩, by repeat (first | exact Drawn0.refl _ | apply Drawn0.step)⟩
  ·
   rw [if_neg c5] at H
   have c5b0 : decide (a1 < 0) = false := decide_eq_false c5
   clear c5
   (first | rw [c5b0] | rw [c5b1] | (simp only [i64_w, i32_w]; rw [c5b0]) | skip)
   have H' := Aside0.mk H
   clear H
   go_wp2
   go_meet
   case rel => exact ⟨_, (decide (a1 ≥ (a0.size : Int))), (by first | rfl | (simp; done) | (simp [*]; done)), H', ⟨by first | omega | exact Nat.le_refl _⟩, by repeat (first | exact Drawn0.refl _ | apply Drawn0.step)⟩
 case rest =>
  clear HC4
  try clear p2
  try clear c5
  try clear c5b0
  try clear c5b1
  obtain ⟨kq, x21_3, rfl, HA, HJ3, ⟨mc3, rfl⟩⟩ := hcut
  cases kq with
  | zero => exact absurd HA.out (by simp [nuncioref09_Get.j0])
  | succ kj3 =>
   have H := HA.out
   clear HA
   simp only [nuncioref09_Get.j0] at H
   by_cases c6 : x21_3 = true
   ·
    subst c6
    have H1 : (some (0, 0, 2)) = some (r1, r2, r3) := by rw [if_pos rfl] at H; exact H
    clear H
    have H := H1
    clear H1
    simp only [Option.some.injEq, Prod.mk.injEq] at H
    obtain ⟨rfl, rfl, rfl⟩ := H
    go_wp2
    go_ret3
    exact ⟨by first | rfl | (simp; done) | (simp [*]; done), by repeat (first | exact Drawn0.refl _ | apply Drawn0.step)⟩
   ·
    replace c6 := Bool.eq_false_iff.mpr c6
    subst c6
    have H1 : ((nuncioref09_Full.f kj3 a2).bind fun t409 => (if 0 ≤ a1 then (if a1 < (a0.size : Int) then (if (IntKind.u64.wrap (t409 + 1)) = 0 then (none) else (if (Int.tmod (IntKind.u64.wrap (bt a0 a1)) (IntKind.u64.wrap (t409 + 1))) < t409 then (some (Int.tmod (IntKind.u64.wrap (bt a0 a1)) (IntKind.u64.wrap (t409 + 1)), wrap64 (a1 + 1), 0)) else (nuncioref09_Get.l0 kj3 a0 a1 (Int.tmod (IntKind.u64.wrap (bt a0 a1)) (IntKind.u64.wrap (t409 + 1))) 1 1))) else (none)) else (none))) = some (r1, r2, r3) := by rw [if_neg (show ¬ (false = true) by decide)] at H; exact H
    clear H
    have H := H1
    clear H1
    replace H := Option.bind_eq_some_iff.mp H
    obtain ⟨t409, A70, H⟩ := H
    replace H : (if 0 ≤ a1 then (if a1 < (a0.size : Int) then (if (IntKind.u64.wrap (t409 + 1)) = 0 then (none) else (if (Int.tmod (IntKind.u64.wrap (bt a0 a1)) (IntKind.u64.wrap (t409 + 1))) < t409 then (some (Int.tmod (IntKind.u64.wrap (bt a0 a1)) (IntKind.u64.wrap (t409 + 1)), wrap64 (a1 + 1), 0)) else (nuncioref09_Get.l0 kj3 a0 a1 (Int.tmod (IntKind.u64.wrap (bt a0 a1)) (IntKind.u64.wrap (t409 + 1))) 1 1))) else (none)) else (none)) = some (r1, r2, r3) := H
    have A7 := Aside0.mk A70
    clear A70
    by_cases c8 : 0 ≤ a1
    ·
     rw [if_pos c8] at H
     have c8b0 : decide (0 ≤ a1) = true := decide_eq_true c8
     clear c8
     by_cases c9 : a1 < (a0.size : Int)
     ·
      rw [if_pos c9] at H
      have c9b0 : decide (a1 < (a0.size : Int)) = true := decide_eq_true c9
      clear c9
      by_cases c11 : (IntKind.u64.wrap (t409 + 1)) = 0
      ·
       rw [if_pos c11] at H
       exact absurd H (by simp)
      ·
       rw [if_neg c11] at H
       have c11b0 : ((IntKind.u64.wrap (t409 + 1)) == 0) = false := beq_eq_false_iff_ne.mpr c11
       have c11b1 : ((IntKind.u64.wrap (t409 + 1)) != 0) = true := bne_iff_ne.mpr c11
       by_cases c12 : (Int.tmod (IntKind.u64.wrap (bt a0 a1)) (IntKind.u64.wrap (t409 + 1))) < t409
       ·
        rw [if_pos c12] at H
        have c12b0 : decide ((Int.tmod (IntKind.u64.wrap (bt a0 a1)) (IntKind.u64.wrap (t409 + 1))) < t409) = true := decide_eq_true c12
        clear c12
        (try (have c12b7 := c12b0; rw [Int.tmod_eq_emod_of_nonneg (Int.natCast_nonneg _)] at c12b7))
        (try (have c12b6 := c12b1; rw [Int.tmod_eq_emod_of_nonneg (Int.natCast_nonneg _)] at c12b6))
        simp only [Option.some.injEq, Prod.mk.injEq] at H
        obtain ⟨rfl, rfl, rfl⟩ := H
        go_wp2_with (first | ((with_reducible refine gate_callee (f := 59) rfl ?_); refine goesL_ (some 23) rfl rfl Tryd.func59 (by kernel_rfl) rfl #[.int .i64 a2] rfl (by (try simp only [List.map_toArray, List.map_cons, List.map_nil]); first | done | rfl | (simp only [List.length_drop, List.length_take]; rfl)) ?_; (with_reducible refine (nuncioref09_Full.calls kj3 a2 t409 _ A7.out).mono ?_); rintro e w' ⟨rfl, ⟨nd, rfl⟩⟩; refine ⟨_, rfl, ?_⟩; have p10 : 0 ≤ (a1 : Int) := of_decide_eq_true (by first | (with_reducible assumption) | assumption); have q10 : a1 < (a0.size : Int) := of_decide_eq_true (by first | (with_reducible assumption) | assumption); have hx10 := bt_at a0 a1; replace p10 := eq_true p10; replace q10 := eq_true q10))
        go_ret3
        exact ⟨by first | rfl | (simp; done) | (simp [*]; done), by repeat (first | exact Drawn0.refl _ | apply Drawn0.step)⟩
       ·
        rw [if_neg c12] at H
        have c12b0 : decide ((Int.tmod (IntKind.u64.wrap (bt a0 a1)) (IntKind.u64.wrap (t409 + 1))) < t409) = false := decide_eq_false c12
        clear c12
        (try (have c12b7 := c12b0; rw [Int.tmod_eq_emod_of_nonneg (Int.natCast_nonneg _)] at c12b7))
        (try (have c12b6 := c12b1; rw [Int.tmod_eq_emod_of_nonneg (Int.natCast_nonneg _)] at c12b6))
        have H' := Aside0.mk H
        clear H
        go_wp2_with (first | ((with_reducible refine gate_callee (f := 59) rfl ?_); refine goesL_ (some 23) rfl rfl Tryd.func59 (by kernel_rfl) rfl #[.int .i64 a2] rfl (by (try simp only [List.map_toArray, List.map_cons, List.map_nil]); first | done | rfl | (simp only [List.length_drop, List.length_take]; rfl)) ?_; (with_reducible refine (nuncioref09_Full.calls kj3 a2 t409 _ A7.out).mono ?_); rintro e w' ⟨rfl, ⟨nd, rfl⟩⟩; refine ⟨_, rfl, ?_⟩; have p10 : 0 ≤ (a1 : Int) := of_decide_eq_true (by first | (with_reducible assumption) | assumption); have q10 : a1 < (a0.size : Int) := of_decide_eq_true (by first | (with_reducible assumption) | assumption); have hx10 := bt_at a0 a1; replace p10 := eq_true p10; replace q10 := eq_true q10))
        go_loopg [10, 11, 12] kj3 (fun kq v10 v11 v12 w' => ∃ (x10_2 : Int) (x11_2 : Int) (x12_2 : Int), v10 = .int .u64 x10_2 ∧ v11 = .int .u64 x11_2 ∧ v12 = .int .i64 x12_2 ∧ Aside0 (nuncioref09_Get.l0 kq a0 a1 x10_2 x11_2 x12_2 = some (r1, r2, r3)) ∧ Aside0 (kq ≤ kj3) ∧ Drawn0 w w')
        case atStart => exact ⟨(Int.tmod (IntKind.u64.wrap (bt a0 a1)) (IntKind.u64.wrap (t409 + 1))), (1), (1), (by first | rfl | (simp; done) | (simp [*]; done)), (by first | rfl | (simp; done) | (simp [*]; done)), (by first | rfl | (simp; done) | (simp [*]; done)), H', ⟨Nat.le_refl _⟩, by repeat (first | exact Drawn0.refl _ | apply Drawn0.step)⟩
        case round =>
         clear H'
         try clear c1
         try clear p1
         try clear q1
         try clear hx1
         try clear p2
         try clear c3
         try clear c5
         try clear c5b0
         try clear c5b1
         try clear c6
         try clear p6
         try clear c8
         try clear c8b0
         try clear c9
         try clear c9b0
         try clear p10
         try clear q10
         try clear hx10
         try clear c11
         try clear c11b0
         try clear c11b1
         try clear c12
         try clear c12b0
         try clear c12b1
         try clear p10
         try clear p2
         try clear q10
         obtain ⟨x10_2, x11_2, x12_2, rfl, rfl, rfl, HA, HK2, ⟨m2, rfl⟩⟩ := hrel
         cases gk with
         | zero => exact absurd HA.out (by simp [nuncioref09_Get.l0])
         | succ k2 =>
          have H := HA.out
          clear HA
          simp only [nuncioref09_Get.l0] at H
          by_cases c13 : x12_2 ≤ 5
          ·
           rw [if_pos c13] at H
           have c13b0 : decide (x12_2 ≤ 5) = true := decide_eq_true c13
           clear c13
           by_cases c14 : (wrap64 ((a0.size : Int) - a1)) ≤ x12_2
           ·
            rw [if_pos c14] at H
            have c14b0 : decide ((wrap64 ((a0.size : Int) - a1)) ≤ x12_2) = true := decide_eq_true c14
            clear c14
            simp only [Option.some.injEq, Prod.mk.injEq] at H
            obtain ⟨rfl, rfl, rfl⟩ := H
            go_wp2
            go_ret3
            exact ⟨by first | rfl | (simp; done) | (simp [*]; done), by repeat (first | exact Drawn0.refl _ | apply Drawn0.step)⟩
           ·
            rw [if_neg c14] at H
            have c14b0 : decide ((wrap64 ((a0.size : Int) - a1)) ≤ x12_2) = false := decide_eq_false c14
            clear c14
            obtain ⟨ji15, hji15⟩ : ∃ j_ : Int, (wrap64 (a1 + x12_2)) = j_ := ⟨_, rfl⟩
            replace H : (if 0 ≤ (ji15) then (if (ji15) < (a0.size : Int) then (if (IntKind.u64.wrap (x10_2 + (IntKind.u64.wrap ((Int.tmod (IntKind.u64.wrap (bt a0 (ji15))) 128) * x11_2)))) > 4294967295 then (some (0, 0, 90)) else (if (IntKind.u64.wrap (bt a0 (ji15))) < 128 then (some (IntKind.u64.wrap (x10_2 + (IntKind.u64.wrap ((Int.tmod (IntKind.u64.wrap (bt a0 (ji15))) 128) * x11_2))), wrap64 ((ji15) + 1), 0)) else (nuncioref09_Get.l0 k2 a0 a1 (IntKind.u64.wrap (x10_2 + (IntKind.u64.wrap ((Int.tmod (IntKind.u64.wrap (bt a0 (ji15))) 128) * x11_2)))) (IntKind.u64.wrap (x11_2 * 128)) (wrap64 (x12_2 + 1))))) else (none)) else (none)) = some (r1, r2, r3) := by first | (rw [hji15] at H; exact H) | (simp only [hji15] at H ⊢; exact H)
            have hji15w : (IntKind.i64.wrap (a1 + x12_2)) = ji15 := (i64_w _).trans hji15
            by_cases c16 : 0 ≤ (ji15)
            ·
             rw [if_pos c16] at H
             have c16b0 : decide (0 ≤ (ji15)) = true := decide_eq_true c16
             clear c16
             by_cases c17 : (ji15) < (a0.size : Int)
             ·
              rw [if_pos c17] at H
              have c17b0 : decide ((ji15) < (a0.size : Int)) = true := decide_eq_true c17
              clear c17
              by_cases c19 : (IntKind.u64.wrap (x10_2 + (IntKind.u64.wrap ((Int.tmod (IntKind.u64.wrap (bt a0 (ji15))) 128) * x11_2)))) > 4294967295
              ·
               rw [if_pos c19] at H
               have c19b0 : decide (4294967295 < (IntKind.u64.wrap (x10_2 + (IntKind.u64.wrap ((Int.tmod (IntKind.u64.wrap (bt a0 (ji15))) 128) * x11_2))))) = true := decide_eq_true c19
               clear c19
               (try (have c19b7 := c19b0; rw [Int.tmod_eq_emod_of_nonneg (Int.natCast_nonneg _)] at c19b7))
               (try (have c19b6 := c19b1; rw [Int.tmod_eq_emod_of_nonneg (Int.natCast_nonneg _)] at c19b6))
               simp only [Option.some.injEq, Prod.mk.injEq] at H
               obtain ⟨rfl, rfl, rfl⟩ := H
               have p18 : 0 ≤ ((ji15) : Int) := of_decide_eq_true (by first | (with_reducible assumption) | assumption)
               have q18 : (ji15) < (a0.size : Int) := of_decide_eq_true (by first | (with_reducible assumption) | assumption)
               have hx18 := bt_at a0 (ji15)
               replace p18 := eq_true p18
               replace q18 := eq_true q18
               go_wp2
               go_ret3
               exact ⟨by first | rfl | (simp; done) | (simp only [← hji15] <;> (first | rfl | simp)) | (simp [*]; done), by repeat (first | exact Drawn0.refl _ | apply Drawn0.step)⟩
              ·
               rw [if_neg c19] at H
               have c19b0 : decide (4294967295 < (IntKind.u64.wrap (x10_2 + (IntKind.u64.wrap ((Int.tmod (IntKind.u64.wrap (bt a0 (ji15))) 128) * x11_2))))) = false := decide_eq_false c19
               clear c19
               (try (have c19b7 := c19b0; rw [Int.tmod_eq_emod_of_nonneg (Int.natCast_nonneg _)] at c19b7))
               (try (have c19b6 := c19b1; rw [Int.tmod_eq_emod_of_nonneg (Int.natCast_nonneg _)] at c19b6))
               by_cases c20 : (IntKind.u64.wrap (bt a0 (ji15))) < 128
               ·
                rw [if_pos c20] at H
                have c20b0 : decide ((IntKind.u64.wrap (bt a0 (ji15))) < 128) = true := decide_eq_true c20
                clear c20
                simp only [Option.some.injEq, Prod.mk.injEq] at H
                obtain ⟨rfl, rfl, rfl⟩ := H
                have p18 : 0 ≤ ((ji15) : Int) := of_decide_eq_true (by first | (with_reducible assumption) | assumption)
                have q18 : (ji15) < (a0.size : Int) := of_decide_eq_true (by first | (with_reducible assumption) | assumption)
                have hx18 := bt_at a0 (ji15)
                replace p18 := eq_true p18
                replace q18 := eq_true q18
                go_wp2
                go_ret3
                exact ⟨by first | rfl | (simp; done) | (simp only [← hji15] <;> (first | rfl | simp)) | (simp [*]; done), by repeat (first | exact Drawn0.refl _ | apply Drawn0.step)⟩
               ·
                rw [if_neg c20] at H
                have c20b0 : decide ((IntKind.u64.wrap (bt a0 (ji15))) < 128) = false := decide_eq_false c20
                clear c20
                have H' := Aside0.mk H
                clear H
                have p18 : 0 ≤ ((ji15) : Int) := of_decide_eq_true (by first | (with_reducible assumption) | assumption)
                have q18 : (ji15) < (a0.size : Int) := of_decide_eq_true (by first | (with_reducible assumption) | assumption)
                have hx18 := bt_at a0 (ji15)
                replace p18 := eq_true p18
                replace q18 := eq_true q18
                go_wp2
                go_roundg k2
                case measure => have := HJ3.out; have := HK2.out; omega
                case rel => exact ⟨(IntKind.u64.wrap (x10_2 + (IntKind.u64.wrap ((Int.tmod (IntKind.u64.wrap (bt a0 (ji15))) 128) * x11_2)))), (IntKind.u64.wrap (x11_2 * 128)), (wrap64 (x12_2 + 1)), (by first | rfl | (simp; done) | (simp only [← hji15] <;> (first | rfl | simp)) | (simp [*]; done)), (by first | rfl | (simp; done) | (simp [*]; done)), (by first | rfl | (simp; done) | (simp [*]; done)), H', ⟨by have := HJ3.out; have := HK2.out; omega⟩, by repeat (first | exact Drawn0.refl _ | apply Drawn0.step)⟩
             ·
              rw [if_neg c17] at H
              exact absurd H (by simp)
            ·
             rw [if_neg c16] at H
             exact absurd H (by simp)
          ·
           rw [if_neg c13] at H
           have c13b0 : decide (x12_2 ≤ 5) = false := decide_eq_false c13
           clear c13
           simp only [Option.some.injEq, Prod.mk.injEq] at H
           obtain ⟨rfl, rfl, rfl⟩ := H
           go_wp2
           go_ret3
           exact ⟨by first | rfl | (simp; done) | (simp [*]; done), by repeat (first | exact Drawn0.refl _ | apply Drawn0.step)⟩
     ·
      rw [if_neg c9] at H
      exact absurd H (by simp)
    ·
     rw [if_neg c8] at H
     exact absurd H (by simp)
end Go.Proofs.YtfkdocmhbmameaaDoor.Mine
