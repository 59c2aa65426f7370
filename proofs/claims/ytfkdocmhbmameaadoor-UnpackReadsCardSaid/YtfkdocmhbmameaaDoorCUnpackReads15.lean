/- The walks and the plain laws that the row comes to: merged out of this repo's texts. -/
import Derived.Test.YtfkdocmhbmameaaDoorProg
import Derived.Below
import Derived.Deep.Draws
import Derived.Deep.AppendLies
import Derived.Maps.AppendAt
import Derived.OwnWalk
import Derived.Laws.BytesArg
import Derived.Laws.MakeOwn
import Derived.Laws.OwnMore
import Derived.Deep.OwnRows
import Derived.Tactics
import Derived.Lib.ConvBytes
import Derived.Laws.Slices
import Derived.WalkKit
import Derived.KernelRfl
import Derived.RowKit3
import Derived.Deep.LoopGhost
import Derived.Deep.QuietTactic
import Derived.BigQuiet
import Derived.WideLaws
import Derived.Deep.DeepCutAuto
import Derived.Deep.CutBlock
import Derived.Deep.RegionHeld3
import Derived.Laws.Rows
import Derived.Lib.AppendStr
import Derived.ArgAppend
import Derived.Laws.IdiomCopy
import Derived.RowKit
import Derived.OrdersHeld
import Derived.Laws.BitsLemmas
import Derived.Laws.StructEq
import Derived.Laws.CopyOwn
import Derived.SizedLaws
import Derived.ChangeSlices
import Derived.Deep.Slices
import Derived.Lib.SmallJoins
import Derived.Lib.OthersKept
import Derived.Lib.AppendZerosOnto
import Derived.WalkSpells
import Derived.Test.YtfkdocmhbmameaaDoorCUnpackReads1
import Derived.Test.YtfkdocmhbmameaaDoorCUnpackReads2
import Derived.Test.YtfkdocmhbmameaaDoorCUnpackReads3
import Derived.Test.YtfkdocmhbmameaaDoorCUnpackReads13
import Derived.Test.YtfkdocmhbmameaaDoorCUnpackReads14
namespace Go.Proofs.YtfkdocmhbmameaaDoor.Mine
open Go.RowKit Go.Proofs.YtfkdocmhbmameaaDoorW.PrintWords Go.Proofs.YtfkdocmhbmameaaDoorW.PrintLast Go.Proofs.YtfkdocmhbmameaaDoorW.PrintMore
attribute [local go_sem] max2_int min2_int max_two min_two max_three min_three max_four min_four
set_option linter.unusedVariables false
set_option linter.unusedSimpArgs false
mutual
def nuncioref10_Codes.l0 : Nat → List Int → Int → Int → Bool → Int → Option (List Int)
 | 0, _, _, _, _, _ => none
 | k + 1, x1, x2, x3, x4, x5 => if x5 ≤ 30 then (nuncioref10_Codes.l1 k x1 x2 x3 x4 x5 0) else (some x1)
def nuncioref10_Codes.l1 : Nat → List Int → Int → Int → Bool → Int → Int → Option (List Int)
 | 0, _, _, _, _, _, _ => none
 | k + 1, x1, x2, x3, x4, x5, x6 => if x6 ≤ 256 then ((nuncioref10_Length.f x6).bind fun t282 => (if t282 = x5 then (if x4 = true then (nuncioref10_Codes.j2 k x1 x2 x3 x5 x6) else (nuncioref10_Codes.j2 k x1 (IntKind.u64.wrap (x2 + 1)) x3 x5 x6)) else (nuncioref10_Codes.l1 k x1 x2 x3 x4 x5 (wrap64 (x6 + 1))))) else (nuncioref10_Codes.l0 k x1 x2 x3 x4 (wrap64 (x5 + 1)))
def nuncioref10_Codes.j2 : Nat → List Int → Int → Int → Int → Int → Option (List Int)
 | 0, _, _, _, _, _ => none
 | k + 1, x1, x2, x3, x5, x6 => nuncioref10_Codes.l2 k x1 x2 x3 false x5 x6
def nuncioref10_Codes.l2 : Nat → List Int → Int → Int → Bool → Int → Int → Option (List Int)
 | 0, _, _, _, _, _, _ => none
 | k + 1, x1, x2, x3, x4, x5, x6 => if x3 < x5 then (nuncioref10_Codes.l2 k x1 (IntKind.u64.wrap (x2 * 2)) (wrap64 (x3 + 1)) x4 x5 x6) else (if 0 ≤ x6 then (if x6 < (x1.length : Int) then (nuncioref10_Codes.l1 k (x1.set (x6 : Int).toNat x2) x2 x3 x4 x5 (wrap64 (x6 + 1))) else (none)) else (none))
end
def nuncioref10_Codes.f (k : Nat)  : Option (List Int) := if 257 ≤ 35184372088832 then (nuncioref10_Codes.l0 k (List.replicate 257 0) 0 5 true 5) else (none)
theorem nuncioref10_Codes.mono_l : ∀ k, (∀ y0 y1 y2 y3 y4, LeO (nuncioref10_Codes.l0 k y0 y1 y2 y3 y4) (nuncioref10_Codes.l0 (k + 1) y0 y1 y2 y3 y4)) ∧ (∀ y0 y1 y2 y3 y4 y5, LeO (nuncioref10_Codes.l1 k y0 y1 y2 y3 y4 y5) (nuncioref10_Codes.l1 (k + 1) y0 y1 y2 y3 y4 y5)) ∧ (∀ y0 y1 y2 y3 y4, LeO (nuncioref10_Codes.j2 k y0 y1 y2 y3 y4) (nuncioref10_Codes.j2 (k + 1) y0 y1 y2 y3 y4)) ∧ (∀ y0 y1 y2 y3 y4 y5, LeO (nuncioref10_Codes.l2 k y0 y1 y2 y3 y4 y5) (nuncioref10_Codes.l2 (k + 1) y0 y1 y2 y3 y4 y5))
 | 0 => ⟨fun _ _ _ _ _ r h => by simp [nuncioref10_Codes.l0] at h, fun _ _ _ _ _ _ r h => by simp [nuncioref10_Codes.l1] at h, fun _ _ _ _ _ r h => by simp [nuncioref10_Codes.j2] at h, fun _ _ _ _ _ _ r h => by simp [nuncioref10_Codes.l2] at h⟩
 | k + 1 => by
  obtain ⟨ih0, ih1, ih2, ih3⟩ := nuncioref10_Codes.mono_l k
  refine ⟨?_, ?_, ?_, ?_⟩
  ·
   intro y0 y1 y2 y3 y4
   unfold nuncioref10_Codes.l0
   repeat' first
   | (with_reducible exact ih0 _ _ _ _ _)
   | (with_reducible exact ih1 _ _ _ _ _ _)
   | (with_reducible exact ih2 _ _ _ _ _)
   | (with_reducible exact ih3 _ _ _ _ _ _)
   | (with_reducible exact LeO.refl _)
   | (with_reducible exact LeO.none _)
   | (with_reducible refine LeO.ite ?_ ?_)
   | (with_reducible refine LeO.bind ?_ (fun _ => ?_))
   | exact ih0 _ _ _ _ _
   | exact ih1 _ _ _ _ _ _
   | exact ih2 _ _ _ _ _
   | exact ih3 _ _ _ _ _ _
   | exact LeO.none _
   | refine LeO.ite ?_ ?_
   | refine LeO.bind ?_ (fun _ => ?_)
  ·
   intro y0 y1 y2 y3 y4 y5
   unfold nuncioref10_Codes.l1
   repeat' first
   | (with_reducible exact ih0 _ _ _ _ _)
   | (with_reducible exact ih1 _ _ _ _ _ _)
   | (with_reducible exact ih2 _ _ _ _ _)
   | (with_reducible exact ih3 _ _ _ _ _ _)
   | (with_reducible exact LeO.refl _)
   | (with_reducible exact LeO.none _)
   | (with_reducible refine LeO.ite ?_ ?_)
   | (with_reducible refine LeO.bind ?_ (fun _ => ?_))
   | exact ih0 _ _ _ _ _
   | exact ih1 _ _ _ _ _ _
   | exact ih2 _ _ _ _ _
   | exact ih3 _ _ _ _ _ _
   | exact LeO.none _
   | refine LeO.ite ?_ ?_
   | refine LeO.bind ?_ (fun _ => ?_)
  ·
   intro y0 y1 y2 y3 y4
   unfold nuncioref10_Codes.j2
   repeat' first
   | (with_reducible exact ih0 _ _ _ _ _)
   | (with_reducible exact ih1 _ _ _ _ _ _)
   | (with_reducible exact ih2 _ _ _ _ _)
   | (with_reducible exact ih3 _ _ _ _ _ _)
   | (with_reducible exact LeO.refl _)
   | (with_reducible exact LeO.none _)
   | (with_reducible refine LeO.ite ?_ ?_)
   | (with_reducible refine LeO.bind ?_ (fun _ => ?_))
   | exact ih0 _ _ _ _ _
   | exact ih1 _ _ _ _ _ _
   | exact ih2 _ _ _ _ _
   | exact ih3 _ _ _ _ _ _
   | exact LeO.none _
   | refine LeO.ite ?_ ?_
   | refine LeO.bind ?_ (fun _ => ?_)
  ·
   intro y0 y1 y2 y3 y4 y5
   unfold nuncioref10_Codes.l2
   repeat' first
   | (with_reducible exact ih0 _ _ _ _ _)
   | (with_reducible exact ih1 _ _ _ _ _ _)
   | (with_reducible exact ih2 _ _ _ _ _)
   | (with_reducible exact ih3 _ _ _ _ _ _)
   | (with_reducible exact LeO.refl _)
   | (with_reducible exact LeO.none _)
   | (with_reducible refine LeO.ite ?_ ?_)
   | (with_reducible refine LeO.bind ?_ (fun _ => ?_))
   | exact ih0 _ _ _ _ _
   | exact ih1 _ _ _ _ _ _
   | exact ih2 _ _ _ _ _
   | exact ih3 _ _ _ _ _ _
   | exact LeO.none _
   | refine LeO.ite ?_ ?_
   | refine LeO.bind ?_ (fun _ => ?_)
theorem nuncioref10_Codes.mono : ∀ k, LeO (nuncioref10_Codes.f k ) (nuncioref10_Codes.f (k + 1) ) := by
 intro  k
 obtain ⟨ih0, ih1, ih2, ih3⟩ := nuncioref10_Codes.mono_l k
 unfold nuncioref10_Codes.f
 repeat' first
   | (with_reducible exact ih0 _ _ _ _ _)
   | (with_reducible exact ih1 _ _ _ _ _ _)
   | (with_reducible exact ih2 _ _ _ _ _)
   | (with_reducible exact ih3 _ _ _ _ _ _)
   | (with_reducible exact LeO.refl _)
   | (with_reducible exact LeO.none _)
   | (with_reducible refine LeO.ite ?_ ?_)
   | (with_reducible refine LeO.bind ?_ (fun _ => ?_))
   | exact ih0 _ _ _ _ _
   | exact ih1 _ _ _ _ _ _
   | exact ih2 _ _ _ _ _
   | exact ih3 _ _ _ _ _ _
   | exact LeO.none _
   | refine LeO.ite ?_ ?_
   | refine LeO.bind ?_ (fun _ => ?_)
set_option maxHeartbeats 8000000 in
set_option maxRecDepth 100000 in
theorem nuncioref10_Codes.calls (k : Nat)  (r : List Int) (w : World) (h : nuncioref10_Codes.f k  = some r) :
  Calls Tryd.prog 83 #[] w fun e w' => ∃ v0_ : Value, e = .returned (v0_) ∧ Kd.R (Kd.int .u64) 73 w' w.heap.size (fun _ => True) v0_ r ∧ Below w.heap.size w w' := by
 have HB := Aside0.mk (Below.refl w.heap.size w)
 have H : (if 257 ≤ 35184372088832 then (nuncioref10_Codes.l0 k (List.replicate 257 0) 0 5 true 5) else (none)) = some r := h
 clear h
 by_cases c1 : 257 ≤ 35184372088832
 ·
  rw [if_pos c1] at H
  have c1b0 := eq_true c1
  have c1b1 : decide (257 ≤ 35184372088832) = true := decide_eq_true c1
  clear c1
  obtain ⟨y279, hy279⟩ : ∃ y_ : List Int, y_ = (List.replicate 257 0) := ⟨_, rfl⟩
  replace H : (nuncioref10_Codes.l0 k y279 0 5 true 5) = some r := by first | (rw [hy279]; with_reducible exact H) | (have H2_ := (Option.bind_some _ _).symm.trans H; rw [hy279]; with_reducible exact H2_) | (have H2_ := (Option.bind_some _ _).symm.trans H; with_reducible exact H2_) | with_reducible exact H | (rw [hy279]; exact H) | exact H
  have Ny279 := Aside0.mk hy279
  clear hy279
  have H' := Aside0.mk H
  clear H
  go_enter Tryd.func83, Tryd.ntmps83
  go_wp2_with (first | ((with_reducible refine gate_dst (N := 7) rfl ?_); refine Kd.R_make (Kd.int .u64) _ 73 rfl (N := 7) rfl 135 _ _ rfl 257 rfl rfl Tryd.underlying135 (.int .u64 0) 8 info73 rfl (by decide) (by omega) 0 (ok := fun _ => True) (okp := fun _ => True) rfl (fun _ hk => hk) trivial (by omega) (by omega) (Below.refl _ _) (Nat.le_refl _) ?_; intro v280 w2 ho3 hb hg_ hnew_; clear hg_ hnew_; (first | rw [← Ny279.out] at ho3 | (simp only [Int.reduceToNat] at ho3; rw [← Ny279.out] at ho3)); have n0_ := Aside0.mk (Kd.R_lower ho3 (below_size (by repeat (first | (with_reducible first | exact HB.out | apply below_alloc | apply pw_below_drewN | apply below_drew1) | exact HB.out)))); have n1_ := Aside0.mk (below_step (by repeat (first | (with_reducible first | exact HB.out | apply below_alloc | apply pw_below_drewN | apply below_drew1) | exact HB.out)) hb); clear HB; have HO281 := n0_; have HB := n1_; clear n0_ n1_; clear hb ho3))
  go_loopg [2, 3, 4, 5] k (fun kq v2 v3 v4 v5 w' => ∃ (x1_1 : List Int) (x2_1 : Int) (x3_1 : Int) (x4_1 : Bool) (x5_1 : Int), v2 = .int .u64 x2_1 ∧ v3 = .int .i64 x3_1 ∧ v4 = .bool x4_1 ∧ v5 = .int .i64 x5_1 ∧ Aside0 (nuncioref10_Codes.l0 kq x1_1 x2_1 x3_1 x4_1 x5_1 = some r) ∧ Aside0 (kq ≤ k) ∧ Aside0 (Kd.R (Kd.int .u64) 73 w' w.heap.size (fun _ => True) v280 x1_1) ∧ Aside0 (Below w.heap.size w w'))
  case atStart => exact ⟨(y279), (0), (5), (true), (5), (by first | rfl | (simp; done) | (simp [*]; done)), (by first | rfl | (simp; done) | (simp [*]; done)), (by first | rfl | (simp; done) | (simp [*]; done)), (by first | rfl | (simp; done) | (simp [*]; done)), H', ⟨Nat.le_refl _⟩, ⟨by (with_reducible repeat (first | apply Kd.R_alloc | apply Kd.R_drewN | apply Kd.R_drew)); exact HO281.out⟩, ⟨by repeat (first | (with_reducible first | exact HB.out | apply below_alloc | apply pw_below_drewN | apply below_drew1) | exact HB.out)⟩⟩
  case round =>
   clear H'
   try clear c1
   try clear c1b0
   try clear c1b1
   try clear p2
   obtain ⟨x1_1, x2_1, x3_1, x4_1, x5_1, rfl, rfl, rfl, rfl, HA, HK1, HO_1, HB⟩ := hrel
   cases gk with
   | zero => exact absurd HA.out (by simp [nuncioref10_Codes.l0])
   | succ k1 =>
    have H := HA.out
    clear HA
    simp only [nuncioref10_Codes.l0] at H
    by_cases c4 : x5_1 ≤ 30
    ·
     rw [if_pos c4] at H
     have c4b0 : decide (x5_1 ≤ 30) = true := decide_eq_true c4
     clear c4
     have H' := Aside0.mk H
     clear H
     go_wp2
     go_loopg [2, 3, 4, 6] k1 (fun kq v2 v3 v4 v6 w' => ∃ (x1_2 : List Int) (x2_2 : Int) (x3_2 : Int) (x4_2 : Bool) (x6_2 : Int), v2 = .int .u64 x2_2 ∧ v3 = .int .i64 x3_2 ∧ v4 = .bool x4_2 ∧ v6 = .int .i64 x6_2 ∧ Aside0 (nuncioref10_Codes.l1 kq x1_2 x2_2 x3_2 x4_2 x5_1 x6_2 = some r) ∧ Aside0 (kq ≤ k1) ∧ Aside0 (Kd.R (Kd.int .u64) 73 w' w.heap.size (fun _ => True) v280 x1_2) ∧ Aside0 (Below w.heap.size w w'))
     case atStart => exact ⟨(x1_1), (x2_1), (x3_1), (x4_1), (0), (by first | rfl | (simp; done) | (simp [*]; done)), (by first | rfl | (simp; done) | (simp [*]; done)), (by first | rfl | (simp; done) | (simp [*]; done)), (by first | rfl | (simp; done) | (simp [*]; done)), H', ⟨Nat.le_refl _⟩, ⟨by (with_reducible repeat (first | apply Kd.R_alloc | apply Kd.R_drewN | apply Kd.R_drew)); exact HO_1.out⟩, ⟨by repeat (first | (with_reducible first | exact HB.out | apply below_alloc | apply pw_below_drewN | apply below_drew1) | exact HB.out)⟩⟩
     case round =>
      clear H'
      try clear c1
      try clear c1b0
      try clear c1b1
      try clear p2
      try clear c4
      try clear c4b0
      try clear p2
      obtain ⟨x1_2, x2_2, x3_2, x4_2, x6_2, rfl, rfl, rfl, rfl, HA, HK2, HO_1, HB⟩ := hrel
      cases gk with
      | zero => exact absurd HA.out (by simp [nuncioref10_Codes.l1])
      | succ k2 =>
       have H := HA.out
       clear HA
       simp only [nuncioref10_Codes.l1] at H
       by_cases c5 : x6_2 ≤ 256
       ·
        rw [if_pos c5] at H
        have c5b0 : decide (x6_2 ≤ 256) = true := decide_eq_true c5
        clear c5
        replace H := Option.bind_eq_some_iff.mp H
        obtain ⟨t282, A60, H⟩ := H
        replace H : (if t282 = x5_1 then (if x4_2 = true then (nuncioref10_Codes.j2 k2 x1_2 x2_2 x3_2 x5_1 x6_2) else (nuncioref10_Codes.j2 k2 x1_2 (IntKind.u64.wrap (x2_2 + 1)) x3_2 x5_1 x6_2)) else (nuncioref10_Codes.l1 k2 x1_2 x2_2 x3_2 x4_2 x5_1 (wrap64 (x6_2 + 1)))) = some r := H
        have A6 := Aside0.mk A60
        clear A60
        by_cases c7 : t282 = x5_1
        ·
         rw [if_pos c7] at H
         have c7b0 : (t282 == x5_1) = true := beq_iff_eq.mpr c7
         have c7b1 : (t282 != x5_1) = false := bne_eq_false_iff_eq.mpr c7
         clear c7
         have HC8 := Aside0.mk H
         clear H
         go_upto_if 21 with (first | ((with_reducible refine gate_callee (f := 85) rfl ?_); refine goesL_ (some 17) rfl rfl Tryd.func85 (by kernel_rfl) rfl #[.int .i64 x6_2] rfl (by (try simp only [List.map_toArray, List.map_cons, List.map_nil]); first | done | rfl | (simp only [List.length_drop, List.length_take]; rfl)) ?_; (with_reducible refine (nuncioref10_Length.calls x6_2 t282 _ A6.out).mono ?_); rintro e w' ⟨rfl, ⟨nd, rfl⟩⟩; refine ⟨_, rfl, ?_⟩))
         (try simp only [Act.put, List.setIfInBounds_toArray, List.set_cons_zero, List.set_cons_succ])
         go_cut [2] (fun v2 wc => ∃ (kq : Nat) (x2_7 : Int), v2 = .int .u64 x2_7 ∧ Aside0 (nuncioref10_Codes.j2 kq x1_2 x2_7 x3_2 x5_1 x6_2 = some r) ∧ Aside0 (kq ≤ k2) ∧ Aside0 (Kd.R (Kd.int .u64) 73 wc w.heap.size (fun _ => True) v280 x1_2) ∧ Aside0 (Below w.heap.size w wc))
         case first =>
          have H := HC8.out
          clear HC8
          by_cases c9 : x4_2 = true
          ·
           subst c9
           have H1 : (nuncioref10_Codes.j2 k2 x1_2 x2_2 x3_2 x5_1 x6_2) = some r := by rw [if_pos rfl] at H; exact H
           clear H
           have H := H1
           clear H1
           have H' := Aside0.mk H
           clear H
           go_wp2
           go_meet
           case rel => exact ⟨_, (x2_2), (by first | rfl | (simp; done) | (simp [*]; done)), H', ⟨by have := HK1.out; have := HK2.out; first | omega | exact Nat.le_refl _⟩, ⟨by (with_reducible repeat (first | apply Kd.R_alloc | apply Kd.R_drewN | apply Kd.R_drew)); exact HO_1.out⟩, ⟨by repeat (first | (with_reducible first | exact HB.out | apply below_alloc | apply pw_below_drewN | apply below_drew1) | exact HB.out)⟩⟩
          ·
           replace c9 := Bool.eq_false_iff.mpr c9
           subst c9
           have H1 : (nuncioref10_Codes.j2 k2 x1_2 (IntKind.u64.wrap (x2_2 + 1)) x3_2 x5_1 x6_2) = some r := by rw [if_neg (show ¬ (false = true) by decide)] at H; exact H
           clear H
           have H := H1
           clear H1
           have H' := Aside0.mk H
           clear H
           go_wp2
           go_meet
           case rel => exact ⟨_, (IntKind.u64.wrap (x2_2 + 1)), (by first | rfl | (simp; done) | (simp [*]; done)), H', ⟨by have := HK1.out; have := HK2.out; first | omega | exact Nat.le_refl _⟩, ⟨by (with_reducible repeat (first | apply Kd.R_alloc | apply Kd.R_drewN | apply Kd.R_drew)); exact HO_1.out⟩, ⟨by repeat (first | (with_reducible first | exact HB.out | apply below_alloc | apply pw_below_drewN | apply below_drew1) | exact HB.out)⟩⟩
         case rest =>
          clear HC8
          try clear c1
          try clear c1b0
          try clear c1b1
          try clear p2
          try clear c4
          try clear c4b0
          try clear c5
          try clear c5b0
          try clear p6
          try clear c7
          try clear c7b0
          try clear c7b1
          try clear c8
          try clear c9
          try clear p2
          obtain ⟨kq, x2_7, rfl, HA, HJ7, HO_1, HB⟩ := hcut
          cases kq with
          | zero => exact absurd HA.out (by simp [nuncioref10_Codes.j2])
          | succ kj7 =>
           have H := HA.out
           clear HA
           simp only [nuncioref10_Codes.j2] at H
           have H' := Aside0.mk H
           clear H
           go_wp2
           go_loopg [2, 3] kj7 (fun kq v2 v3 w' => ∃ (x2_4 : Int) (x3_4 : Int), v2 = .int .u64 x2_4 ∧ v3 = .int .i64 x3_4 ∧ Aside0 (nuncioref10_Codes.l2 kq x1_2 x2_4 x3_4 false x5_1 x6_2 = some r) ∧ Aside0 (kq ≤ kj7) ∧ Aside0 (Kd.R (Kd.int .u64) 73 w' w.heap.size (fun _ => True) v280 x1_2) ∧ Aside0 (Below w.heap.size w w'))
           case atStart => exact ⟨(x2_7), (x3_2), (by first | rfl | (simp; done) | (simp [*]; done)), (by first | rfl | (simp; done) | (simp [*]; done)), H', ⟨Nat.le_refl _⟩, ⟨by (with_reducible repeat (first | apply Kd.R_alloc | apply Kd.R_drewN | apply Kd.R_drew)); exact HO_1.out⟩, ⟨by repeat (first | (with_reducible first | exact HB.out | apply below_alloc | apply pw_below_drewN | apply below_drew1) | exact HB.out)⟩⟩
           case round =>
            clear H'
            try clear c1
            try clear c1b0
            try clear c1b1
            try clear p2
            try clear c4
            try clear c4b0
            try clear c5
            try clear c5b0
            try clear p6
            try clear c7
            try clear c7b0
            try clear c7b1
            try clear c8
            try clear c9
            try clear p2
            try clear p6
            obtain ⟨x2_4, x3_4, rfl, rfl, HA, HK4, HO_1, HB⟩ := hrel
            cases gk with
            | zero => exact absurd HA.out (by simp [nuncioref10_Codes.l2])
            | succ k4 =>
             have H := HA.out
             clear HA
             simp only [nuncioref10_Codes.l2] at H
             by_cases c10 : x3_4 < x5_1
             ·
              rw [if_pos c10] at H
              have c10b0 : decide (x3_4 < x5_1) = true := decide_eq_true c10
              clear c10
              have H' := Aside0.mk H
              clear H
              go_wp2
              go_roundg k4
              case measure => have := HK1.out; have := HK2.out; have := HJ7.out; have := HK4.out; omega
              case rel => exact ⟨(IntKind.u64.wrap (x2_4 * 2)), (wrap64 (x3_4 + 1)), (by first | rfl | (simp; done) | (simp [*]; done)), (by first | rfl | (simp; done) | (simp [*]; done)), H', ⟨by have := HK1.out; have := HK2.out; have := HJ7.out; have := HK4.out; omega⟩, ⟨by (with_reducible repeat (first | apply Kd.R_alloc | apply Kd.R_drewN | apply Kd.R_drew)); exact HO_1.out⟩, ⟨by repeat (first | (with_reducible first | exact HB.out | apply below_alloc | apply pw_below_drewN | apply below_drew1) | exact HB.out)⟩⟩
             ·
              rw [if_neg c10] at H
              have c10b0 : decide (x3_4 < x5_1) = false := decide_eq_false c10
              clear c10
              by_cases c11 : 0 ≤ x6_2
              ·
               rw [if_pos c11] at H
               have c11b0 : decide (0 ≤ x6_2) = true := decide_eq_true c11
               clear c11
               by_cases c12 : x6_2 < (x1_2.length : Int)
               ·
                rw [if_pos c12] at H
                have c12b0 : decide (x6_2 < (x1_2.length : Int)) = true := decide_eq_true c12
                clear c12
                obtain ⟨y283, hy283⟩ : ∃ y_ : List Int, y_ = (x1_2.set (x6_2 : Int).toNat x2_4) := ⟨_, rfl⟩
                replace H : (nuncioref10_Codes.l1 k4 y283 x2_4 x3_4 false x5_1 (wrap64 (x6_2 + 1))) = some r := by first | (rw [hy283]; with_reducible exact H) | (have H2_ := (Option.bind_some _ _).symm.trans H; rw [hy283]; with_reducible exact H2_) | (have H2_ := (Option.bind_some _ _).symm.trans H; with_reducible exact H2_) | with_reducible exact H | (rw [hy283]; exact H) | exact H
                have Ny283 := Aside0.mk hy283
                clear hy283
                have H' := Aside0.mk H
                clear H
                have p13 : 0 ≤ (x6_2 : Int) := of_decide_eq_true (by first | (with_reducible assumption) | assumption)
                have q13 : (x6_2 : Int) < ((x1_2.length : Int) : Int) := of_decide_eq_true (by first | (with_reducible assumption) | assumption)
                obtain ⟨go13, co13, eo13, gb13, gl13, cl13, HG13⟩ := Kd.R_form HO_1.out (by omega)
                (first | cases eo13 | (injection eo13 with ea_ en_ ec_; (first | subst ea_ | (injection ea_ with ea_; subst ea_)); subst ec_; clear en_))
                have GB13 := Aside0.mk gb13
                have GG13 := Aside0.mk HG13
                clear gb13 gl13 HG13
                obtain ⟨hx13_0, hf13_0⟩ := Kd.R_celln 0 HO_1.out (x6_2 : Int) p13 q13
                replace p13 := eq_true p13
                replace q13 := eq_true q13
                have HP14 := Kd.R_putg HO_1.out (x6_2 : Int) x2_4
                go_wp2_with (first | ((with_reducible refine gate_store (t := 73) (p := 34) rfl ?_); refine store_event (t := 73) (p := 34) (v := ?vo_w15) (w1 := (wr.setCell ⟨go13, (x6_2 : Int).toNat, none⟩ (.int .u64 x2_4))) ?hg ?ho ?hn ?hr ?_; (case ho => rfl); (case hg => rfl); (case hn => rfl); (case hr => first | (go_simp; done) | (go_simp; rfl)); intro w15 hw; have hg : wr.grownBy w15 (some go13) := (by rw [hw]; exact HP14.2); have hp_ : Kd.R (Kd.int .u64) 73 w15 w.heap.size (fun _ => True) (.slice (some ⟨go13, 0, none⟩) x1_2.length co13) y283 := (by rw [hw, Ny283.out]; exact HP14.1); clear HP14; have n0_ := Aside0.mk (hp_); have n1_ := Aside0.mk ((by rw [hw]; exact below_set (HB.out) GB13.out : Below w.heap.size w w15)); clear HO_1; clear HB; have HO_1 := n0_; have HB := n1_; clear n0_ n1_; clear hg hw hp_))
                go_roundg k4
                case measure => have := HK1.out; have := HK2.out; have := HJ7.out; have := HK4.out; omega
                case rel => exact ⟨(y283), (x2_4), (x3_4), (false), (wrap64 (x6_2 + 1)), (by first | rfl | (simp; done) | (simp [*]; done)), (by first | rfl | (simp; done) | (simp [*]; done)), (by first | rfl | (simp; done) | (simp [*]; done)), (by first | rfl | (simp; done) | (simp [*]; done)), H', ⟨by have := HK1.out; have := HK2.out; have := HJ7.out; have := HK4.out; omega⟩, ⟨by (with_reducible repeat (first | apply Kd.R_alloc | apply Kd.R_drewN | apply Kd.R_drew)); exact HO_1.out⟩, ⟨by repeat (first | (with_reducible first | exact HB.out | apply below_alloc | apply pw_below_drewN | apply below_drew1) | exact HB.out)⟩⟩
               ·
                rw [if_neg c12] at H
                exact absurd H (by simp)
              ·
               rw [if_neg c11] at H
               exact absurd H (by simp)
        ·
         rw [if_neg c7] at H
         have c7b0 : (t282 == x5_1) = false := beq_eq_false_iff_ne.mpr c7
         have c7b1 : (t282 != x5_1) = true := bne_iff_ne.mpr c7
         have H' := Aside0.mk H
         clear H
         go_wp2_with (first | ((with_reducible refine gate_callee (f := 85) rfl ?_); refine goesL_ (some 17) rfl rfl Tryd.func85 (by kernel_rfl) rfl #[.int .i64 x6_2] rfl (by (try simp only [List.map_toArray, List.map_cons, List.map_nil]); first | done | rfl | (simp only [List.length_drop, List.length_take]; rfl)) ?_; (with_reducible refine (nuncioref10_Length.calls x6_2 t282 _ A6.out).mono ?_); rintro e w' ⟨rfl, ⟨nd, rfl⟩⟩; refine ⟨_, rfl, ?_⟩))
         go_roundg k2
         case measure => have := HK1.out; have := HK2.out; omega
         case rel => exact ⟨(x1_2), (x2_2), (x3_2), (x4_2), (wrap64 (x6_2 + 1)), (by first | rfl | (simp; done) | (simp [*]; done)), (by first | rfl | (simp; done) | (simp [*]; done)), (by first | rfl | (simp; done) | (simp [*]; done)), (by first | rfl | (simp; done) | (simp [*]; done)), H', ⟨by have := HK1.out; have := HK2.out; omega⟩, ⟨by (with_reducible repeat (first | apply Kd.R_alloc | apply Kd.R_drewN | apply Kd.R_drew)); exact HO_1.out⟩, ⟨by repeat (first | (with_reducible first | exact HB.out | apply below_alloc | apply pw_below_drewN | apply below_drew1) | exact HB.out)⟩⟩
       ·
        rw [if_neg c5] at H
        have c5b0 : decide (x6_2 ≤ 256) = false := decide_eq_false c5
        clear c5
        have H' := Aside0.mk H
        clear H
        go_wp2
        go_roundg k2
        case measure => have := HK1.out; have := HK2.out; omega
        case rel => exact ⟨(x1_2), (x2_2), (x3_2), (x4_2), (wrap64 (x5_1 + 1)), (by first | rfl | (simp; done) | (simp [*]; done)), (by first | rfl | (simp; done) | (simp [*]; done)), (by first | rfl | (simp; done) | (simp [*]; done)), (by first | rfl | (simp; done) | (simp [*]; done)), H', ⟨by have := HK1.out; have := HK2.out; omega⟩, ⟨by (with_reducible repeat (first | apply Kd.R_alloc | apply Kd.R_drewN | apply Kd.R_drew)); exact HO_1.out⟩, ⟨by repeat (first | (with_reducible first | exact HB.out | apply below_alloc | apply pw_below_drewN | apply below_drew1) | exact HB.out)⟩⟩
    ·
     rw [if_neg c4] at H
     have c4b0 : decide (x5_1 ≤ 30) = false := decide_eq_false c4
     clear c4
     obtain rfl := Option.some.inj H
     go_wp2
     go_ret
     exact ⟨_, by first | rfl | (simp [errW_none, errW_some] <;> rfl) | (simp [*, errW_none, errW_some] <;> rfl), by (with_reducible repeat (first | apply Kd.R_alloc | apply Kd.R_drewN | apply Kd.R_drew)); exact HO_1.out, by repeat (first | (with_reducible first | exact HB.out | apply below_alloc | apply pw_below_drewN | apply below_drew1) | exact HB.out)⟩
 ·
  rw [if_neg c1] at H
  exact absurd H (by simp)
end Go.Proofs.YtfkdocmhbmameaaDoor.Mine
namespace Go.Proofs.YtfkdocmhbmameaaDoor.Mine
open Go.RowKit Go.Proofs.YtfkdocmhbmameaaDoorW.PrintWords Go.Proofs.YtfkdocmhbmameaaDoorW.PrintLast Go.Proofs.YtfkdocmhbmameaaDoorW.PrintMore
attribute [local go_sem] max2_int min2_int max_two min_two max_three min_three max_four min_four
set_option linter.unusedVariables false
set_option linter.unusedSimpArgs false
mutual
def nuncioref10_Decode.l0 : Nat → ByteArray → List Int → List Int → Int → Int → Int → Option (ByteArray × Int)
 | 0, _, _, _, _, _, _ => none
 | k + 1, x0, x4, x5, x6, x7, x8 => if x8 < (wrap64 (8 * (x0.size : Int))) then (if 0 ≤ (wrap64 (Int.tdiv x8 8)) then (if (wrap64 (Int.tdiv x8 8)) < (x0.size : Int) then (nuncioref10_Decode.l1 k x0 x4 x5 x6 x7 x8 (bt x0 (wrap64 (Int.tdiv x8 8))) (Int.tmod x8 8)) else (none)) else (none)) else (if x7 > 7 then (some ((⟨#[]⟩ : ByteArray), 91)) else (nuncioref10_Decode.l3 k x5 x6 x7 0))
def nuncioref10_Decode.l1 : Nat → ByteArray → List Int → List Int → Int → Int → Int → Int → Int → Option (ByteArray × Int)
 | 0, _, _, _, _, _, _, _, _ => none
 | k + 1, x0, x4, x5, x6, x7, x8, x9, x10 => if x10 < 7 then (nuncioref10_Decode.l1 k x0 x4 x5 x6 x7 x8 ((Int.tdiv x9 2) % 256) (wrap64 (x10 + 1))) else (if (wrap64 (x7 + 1)) > 30 then (some ((⟨#[]⟩ : ByteArray), 91)) else (nuncioref10_Decode.l2 k x0 x4 x5 (IntKind.u64.wrap ((IntKind.u64.wrap (x6 * 2)) + (IntKind.u64.wrap (Int.tmod x9 2)))) (wrap64 (x7 + 1)) x8 0))
def nuncioref10_Decode.l2 : Nat → ByteArray → List Int → List Int → Int → Int → Int → Int → Option (ByteArray × Int)
 | 0, _, _, _, _, _, _, _ => none
 | k + 1, x0, x4, x5, x6, x7, x8, x11 => if x11 ≤ 256 then ((nuncioref10_Length.f x11).bind fun t427 => (if t427 = x7 then (if 0 ≤ x11 then (if x11 < (x4.length : Int) then (nuncioref10_Decode.j3 k x0 x4 x5 x6 x7 x8 x11 ((rd x4 x11) == x6)) else (none)) else (none)) else (nuncioref10_Decode.j3 k x0 x4 x5 x6 x7 x8 x11 false))) else (nuncioref10_Decode.l0 k x0 x4 x5 x6 x7 (wrap64 (x8 + 1)))
def nuncioref10_Decode.j3 : Nat → ByteArray → List Int → List Int → Int → Int → Int → Int → Bool → Option (ByteArray × Int)
 | 0, _, _, _, _, _, _, _, _ => none
 | k + 1, x0, x4, x5, x6, x7, x8, x11, x58 => if x58 = true then (if x11 = 256 then (some ((⟨#[]⟩ : ByteArray), 91)) else (if x5.length < 140737488355328 then (nuncioref10_Decode.l0 k x0 x4 (x5 ++ [(x11) % 256]) 0 0 (wrap64 (x8 + 1))) else (none))) else (nuncioref10_Decode.l2 k x0 x4 x5 x6 x7 x8 (wrap64 (x11 + 1)))
def nuncioref10_Decode.l3 : Nat → List Int → Int → Int → Int → Option (ByteArray × Int)
 | 0, _, _, _, _ => none
 | k + 1, x5, x6, x7, x12 => if x12 < x7 then (if (Int.tmod x6 2) = 0 then (some ((⟨#[]⟩ : ByteArray), 91)) else (nuncioref10_Decode.l3 k x5 (IntKind.u64.wrap (Int.tdiv x6 2)) x7 (wrap64 (x12 + 1)))) else (some (strOfNums x5, 0))
end
def nuncioref10_Decode.f (k : Nat) (a0 : ByteArray) : Option (ByteArray × Int) := (nuncioref10_Codes.f k).bind fun t424 => (nuncioref10_Decode.l0 k a0 t424 ([] : List Int) 0 0 0)
set_option maxHeartbeats 8000000 in
set_option maxRecDepth 100000 in
theorem nuncioref10_Decode.calls (k : Nat) (a0 : ByteArray) (r1 : ByteArray) (r2 : Int) (w : World) (h : nuncioref10_Decode.f k a0 = some (r1, r2)) :
  Calls Tryd.prog 78 #[.string a0] w fun e w' => e = .returned (.tuple #[.string r1, .int .i64 r2]) ∧ Below w.heap.size w w' := by
 have HB := Aside0.mk (Below.refl w.heap.size w)
 have H : ((nuncioref10_Codes.f k).bind fun t424 => (nuncioref10_Decode.l0 k a0 t424 ([] : List Int) 0 0 0)) = some (r1, r2) := h
 clear h
 replace H := Option.bind_eq_some_iff.mp H
 obtain ⟨t424, A20, H⟩ := H
 replace H : (nuncioref10_Decode.l0 k a0 t424 ([] : List Int) 0 0 0) = some (r1, r2) := H
 have A2 := Aside0.mk A20
 clear A20
 have H' := Aside0.mk H
 clear H
 go_enter Tryd.func78, Tryd.ntmps78
 go_wp2_with (first | ((with_reducible refine gate_callee (f := 83) rfl ?_); refine goesL_ (some 13) rfl rfl Tryd.func83 (by kernel_rfl) rfl #[] rfl (by (try simp only [List.map_toArray, List.map_cons, List.map_nil]); first | done | rfl | (simp only [List.length_drop, List.length_take]; rfl)) ?_; (with_reducible refine (nuncioref10_Codes.calls k  t424 _ A2.out).mono ?_); rintro e w3 ⟨v425, rfl, ho0, hb⟩; refine ⟨_, rfl, ?_⟩; have n0_ := Aside0.mk (Kd.R_lower ho0 (below_size (by repeat (first | (with_reducible first | exact HB.out | apply below_alloc | apply pw_below_drewN | apply below_drew1) | exact HB.out)))); have n1_ := Aside0.mk (below_step (by repeat (first | (with_reducible first | exact HB.out | apply below_alloc | apply pw_below_drewN | apply below_drew1) | exact HB.out)) hb); clear HB; have HO426 := n0_; have HB := n1_; clear n0_ n1_; (try clear hb); (try clear hb2); (try clear hk); (try clear hi); (try clear ho0)))
 go_loopg [5, 6, 7, 8] k (fun kq v5 v6 v7 v8 w' => ∃ (x5_1 : List Int) (x6_1 : Int) (x7_1 : Int) (x8_1 : Int), v6 = .int .u64 x6_1 ∧ v7 = .int .i64 x7_1 ∧ v8 = .int .i64 x8_1 ∧ Aside0 (nuncioref10_Decode.l0 kq a0 t424 x5_1 x6_1 x7_1 x8_1 = some (r1, r2)) ∧ Aside0 (kq ≤ k) ∧ Aside0 (Kd.R (Kd.int .u64) 73 w' w.heap.size (fun _ => True) v425 t424) ∧ Aside0 (Kd.R (Kd.int .u8) 5 w' w.heap.size (fun _ => True) v5 x5_1) ∧ Aside0 (Below w.heap.size w w'))
 case atStart => exact ⟨(([] : List Int)), (0), (0), (0), (by first | rfl | (simp; done) | (simp [*]; done)), (by first | rfl | (simp; done) | (simp [*]; done)), (by first | rfl | (simp; done) | (simp [*]; done)), H', ⟨Nat.le_refl _⟩, ⟨by (with_reducible repeat (first | apply Kd.R_alloc | apply Kd.R_drewN | apply Kd.R_drew)); exact HO426.out⟩, ⟨by first | exact Kd.R_nil _ _ _ _ _ | exact Kd.N_nil _ _ _ _ _ | exact Kd.V_nil _ _ _ _ _ | exact Kd.Q_nil _ _ _ _ _ | exact Kd.S_nil _ _ _ _ _⟩, ⟨by repeat (first | (with_reducible first | exact HB.out | apply below_alloc | apply pw_below_drewN | apply below_drew1) | exact HB.out)⟩⟩
 case round =>
  clear H'
  try clear p2
  obtain ⟨x5_1, x6_1, x7_1, x8_1, rfl, rfl, rfl, HA, HK1, HO_4, HO_5, HB⟩ := hrel
  cases gk with
  | zero => exact absurd HA.out (by simp [nuncioref10_Decode.l0])
  | succ k1 =>
   have H := HA.out
   clear HA
   simp only [nuncioref10_Decode.l0] at H
   by_cases c4 : x8_1 < (wrap64 (8 * (a0.size : Int)))
   ·
    rw [if_pos c4] at H
    have c4b0 : decide (x8_1 < (wrap64 (8 * (a0.size : Int)))) = true := decide_eq_true c4
    clear c4
    obtain ⟨ji5, hji5⟩ : ∃ j_ : Int, (wrap64 (Int.tdiv x8_1 8)) = j_ := ⟨_, rfl⟩
    replace H : (if 0 ≤ (ji5) then (if (ji5) < (a0.size : Int) then (nuncioref10_Decode.l1 k1 a0 t424 x5_1 x6_1 x7_1 x8_1 (bt a0 (ji5)) (Int.tmod x8_1 8)) else (none)) else (none)) = some (r1, r2) := by first | (rw [hji5] at H; exact H) | (simp only [hji5] at H ⊢; exact H)
    have hji5w : (IntKind.i64.wrap (Int.tdiv x8_1 8)) = ji5 := (i64_w _).trans hji5
    by_cases c6 : 0 ≤ (ji5)
    ·
     rw [if_pos c6] at H
     have c6b0 : decide (0 ≤ (ji5)) = true := decide_eq_true c6
     clear c6
     by_cases c7 : (ji5) < (a0.size : Int)
     ·
      rw [if_pos c7] at H
      have c7b0 : decide ((ji5) < (a0.size : Int)) = true := decide_eq_true c7
      clear c7
      have H' := Aside0.mk H
      clear H
      have p8 : 0 ≤ ((ji5) : Int) := of_decide_eq_true (by first | (with_reducible assumption) | assumption)
      have q8 : (ji5) < (a0.size : Int) := of_decide_eq_true (by first | (with_reducible assumption) | assumption)
      have hx8 := bt_at a0 (ji5)
      replace p8 := eq_true p8
      replace q8 := eq_true q8
      go_wp2
      go_loopg [9, 10] k1 (fun kq v9 v10 w' => ∃ (x9_2 : Int) (x10_2 : Int), v9 = .int .u8 x9_2 ∧ v10 = .int .i64 x10_2 ∧ Aside0 (nuncioref10_Decode.l1 kq a0 t424 x5_1 x6_1 x7_1 x8_1 x9_2 x10_2 = some (r1, r2)) ∧ Aside0 (kq ≤ k1) ∧ Aside0 (Kd.R (Kd.int .u64) 73 w' w.heap.size (fun _ => True) v425 t424) ∧ Aside0 (Kd.R (Kd.int .u8) 5 w' w.heap.size (fun _ => True) u5 x5_1) ∧ Aside0 (Below w.heap.size w w'))
      case atStart => exact ⟨(bt a0 (ji5)), (Int.tmod x8_1 8), (by first | rfl | (simp; done) | (simp only [← hji5] <;> (first | rfl | simp)) | (simp [*]; done)), (by first | rfl | (simp; done) | (simp [*]; done)), H', ⟨Nat.le_refl _⟩, ⟨by (with_reducible repeat (first | apply Kd.R_alloc | apply Kd.R_drewN | apply Kd.R_drew)); exact HO_4.out⟩, ⟨by (with_reducible repeat (first | apply Kd.R_alloc | apply Kd.R_drewN | apply Kd.R_drew)); exact HO_5.out⟩, ⟨by repeat (first | (with_reducible first | exact HB.out | apply below_alloc | apply pw_below_drewN | apply below_drew1) | exact HB.out)⟩⟩
      case round =>
       clear H'
       try clear p2
       try clear c4
       try clear c4b0
       try clear c6
       try clear c6b0
       try clear p6
       try clear c7
       try clear c7b0
       try clear c8
       try clear p8
       try clear q8
       try clear hx8
       try clear p2
       try clear p8
       try clear q8
       obtain ⟨x9_2, x10_2, rfl, rfl, HA, HK2, HO_4, HO_5, HB⟩ := hrel
       cases gk with
       | zero => exact absurd HA.out (by simp [nuncioref10_Decode.l1])
       | succ k2 =>
        have H := HA.out
        clear HA
        simp only [nuncioref10_Decode.l1] at H
        by_cases c9 : x10_2 < 7
        ·
         rw [if_pos c9] at H
         have c9b0 : decide (x10_2 < 7) = true := decide_eq_true c9
         clear c9
         have H' := Aside0.mk H
         clear H
         go_wp2
         go_roundg k2
         case measure => have := HK1.out; have := HK2.out; omega
         case rel => exact ⟨((Int.tdiv x9_2 2) % 256), (wrap64 (x10_2 + 1)), (by first | rfl | (simp; done) | (simp [*]; done)), (by first | rfl | (simp; done) | (simp [*]; done)), H', ⟨by have := HK1.out; have := HK2.out; omega⟩, ⟨by (with_reducible repeat (first | apply Kd.R_alloc | apply Kd.R_drewN | apply Kd.R_drew)); exact HO_4.out⟩, ⟨by (with_reducible repeat (first | apply Kd.R_alloc | apply Kd.R_drewN | apply Kd.R_drew)); exact HO_5.out⟩, ⟨by repeat (first | (with_reducible first | exact HB.out | apply below_alloc | apply pw_below_drewN | apply below_drew1) | exact HB.out)⟩⟩
        ·
         rw [if_neg c9] at H
         have c9b0 : decide (x10_2 < 7) = false := decide_eq_false c9
         clear c9
         by_cases c10 : (wrap64 (x7_1 + 1)) > 30
         ·
          rw [if_pos c10] at H
          have c10b0 : decide (30 < (wrap64 (x7_1 + 1))) = true := decide_eq_true c10
          clear c10
          simp only [Option.some.injEq, Prod.mk.injEq] at H
          obtain ⟨rfl, rfl⟩ := H
          go_wp2
          go_ret2
          exact ⟨by first | rfl | (simp [errW_none, errW_some] <;> rfl) | (simp only [← hji5]; first | rfl | (simp [errW_none, errW_some] <;> rfl)) | (simp [*, errW_none, errW_some] <;> rfl), by repeat (first | (with_reducible first | exact HB.out | apply below_alloc | apply pw_below_drewN | apply below_drew1) | exact HB.out)⟩
         ·
          rw [if_neg c10] at H
          have c10b0 : decide (30 < (wrap64 (x7_1 + 1))) = false := decide_eq_false c10
          clear c10
          have H' := Aside0.mk H
          clear H
          go_wp2
          go_loopg [5, 6, 7, 11] k2 (fun kq v5 v6 v7 v11 w' => ∃ (x5_3 : List Int) (x6_3 : Int) (x7_3 : Int) (x11_3 : Int), v6 = .int .u64 x6_3 ∧ v7 = .int .i64 x7_3 ∧ v11 = .int .i64 x11_3 ∧ Aside0 (nuncioref10_Decode.l2 kq a0 t424 x5_3 x6_3 x7_3 x8_1 x11_3 = some (r1, r2)) ∧ Aside0 (kq ≤ k2) ∧ Aside0 (Kd.R (Kd.int .u64) 73 w' w.heap.size (fun _ => True) v425 t424) ∧ Aside0 (Kd.R (Kd.int .u8) 5 w' w.heap.size (fun _ => True) v5 x5_3) ∧ Aside0 (Below w.heap.size w w'))
          case atStart => exact ⟨(x5_1), (IntKind.u64.wrap ((IntKind.u64.wrap (x6_1 * 2)) + (IntKind.u64.wrap (Int.tmod x9_2 2)))), (wrap64 (x7_1 + 1)), (0), (by first | rfl | (simp; done) | (simp [*]; done)), (by first | rfl | (simp; done) | (simp [*]; done)), (by first | rfl | (simp; done) | (simp [*]; done)), H', ⟨Nat.le_refl _⟩, ⟨by (with_reducible repeat (first | apply Kd.R_alloc | apply Kd.R_drewN | apply Kd.R_drew)); exact HO_4.out⟩, ⟨by (with_reducible repeat (first | apply Kd.R_alloc | apply Kd.R_drewN | apply Kd.R_drew)); exact HO_5.out⟩, ⟨by repeat (first | (with_reducible first | exact HB.out | apply below_alloc | apply pw_below_drewN | apply below_drew1) | exact HB.out)⟩⟩
          case round =>
           clear H'
           try clear c1
           try clear p2
           try clear c4
           try clear c4b0
           try clear c6
           try clear c6b0
           try clear p6
           try clear c7
           try clear c7b0
           try clear c8
           try clear p8
           try clear q8
           try clear hx8
           try clear c9
           try clear c9b0
           try clear c10
           try clear c10b0
           try clear p2
           try clear p6
           try clear p8
           try clear q8
           obtain ⟨x5_3, x6_3, x7_3, x11_3, rfl, rfl, rfl, HA, HK3, HO_4, HO_5, HB⟩ := hrel
           cases gk with
           | zero => exact absurd HA.out (by simp [nuncioref10_Decode.l2])
           | succ k3 =>
            have H := HA.out
            clear HA
            simp only [nuncioref10_Decode.l2] at H
            by_cases c11 : x11_3 ≤ 256
            ·
             rw [if_pos c11] at H
             have c11b0 : decide (x11_3 ≤ 256) = true := decide_eq_true c11
             clear c11
             have HC12 := Aside0.mk H
             clear H
             go_upto_region 20 with (fail)
             go_cut [58] (fun v58 wc => ∃ (kq : Nat) (x58_11 : Bool), v58 = .bool x58_11 ∧ Aside0 (nuncioref10_Decode.j3 kq a0 t424 x5_3 x6_3 x7_3 x8_1 x11_3 x58_11 = some (r1, r2)) ∧ Aside0 (kq ≤ k3) ∧ Aside0 (Kd.R (Kd.int .u64) 73 wc w.heap.size (fun _ => True) v425 t424) ∧ Aside0 (Kd.R (Kd.int .u8) 5 wc w.heap.size (fun _ => True) u5 x5_3) ∧ Aside0 (Below w.heap.size w wc))
             case first =>
              have H := HC12.out
              clear HC12
              replace H := Option.bind_eq_some_iff.mp H
              obtain ⟨t427, A130, H⟩ := H
              replace H : (if t427 = x7_3 then (if 0 ≤ x11_3 then (if x11_3 < (t424.length : Int) then (nuncioref10_Decode.j3 k3 a0 t424 x5_3 x6_3 x7_3 x8_1 x11_3 ((rd t424 x11_3) == x6_3)) else (none)) else (none)) else (nuncioref10_Decode.j3 k3 a0 t424 x5_3 x6_3 x7_3 x8_1 x11_3 false)) = some (r1, r2) := H
              have A13 := Aside0.mk A130
              clear A130
              by_cases c14 : t427 = x7_3
              ·
               rw [if_pos c14] at H
               have c14b0 : (t427 == x7_3) = true := beq_iff_eq.mpr c14
               have c14b1 : (t427 != x7_3) = false := bne_eq_false_iff_eq.mpr c14
               clear c14
               (first | rw [c14b0] | rw [c14b1] | (simp only [i64_w, i32_w]; rw [c14b0]) | skip)
               by_cases c15 : 0 ≤ x11_3
               ·
                rw [if_pos c15] at H
                have c15b0 : decide (0 ≤ x11_3) = true := decide_eq_true c15
                clear c15
                by_cases c16 : x11_3 < (t424.length : Int)
                ·
                 rw [if_pos c16] at H
                 have c16b0 : decide (x11_3 < (t424.length : Int)) = true := decide_eq_true c16
                 clear c16
                 have H' := Aside0.mk H
                 clear H
                 go_wp2_with (first | ((with_reducible refine gate_callee (f := 85) rfl ?_); refine goesL_ (some 48) rfl rfl Tryd.func85 (by kernel_rfl) rfl #[.int .i64 x11_3] rfl (by (try simp only [List.map_toArray, List.map_cons, List.map_nil]); first | done | rfl | (simp only [List.length_drop, List.length_take]; rfl)) ?_; (with_reducible refine (nuncioref10_Length.calls x11_3 t427 _ A13.out).mono ?_); rintro e w' ⟨rfl, ⟨nd, rfl⟩⟩; refine ⟨_, rfl, ?_⟩; obtain ⟨Ao17, co17, eo17⟩ := Kd.R_slice HO_4.out; subst eo17; have p428 : 0 ≤ (x11_3 : Int) := of_decide_eq_true (by first | (with_reducible assumption) | assumption); have q428 : x11_3 < (t424.length : Int) := of_decide_eq_true (by first | (with_reducible assumption) | assumption); obtain ⟨ad428, e428, hx428_0⟩ := Kd.at_int (Kd.R_reads' HO_4.out).2.2 x11_3 p428 q428; cases e428; replace p428 := eq_true p428; replace q428 := eq_true q428))
                 go_meet
                 case rel => exact ⟨_, (((rd t424 x11_3) == x6_3)), (by first | rfl | (simp; done) | (simp [*]; done)), H', ⟨by have := HK1.out; have := HK2.out; have := HK3.out; first | omega | exact Nat.le_refl _⟩, ⟨by (with_reducible repeat (first | apply Kd.R_alloc | apply Kd.R_drewN | apply Kd.R_drew)); exact HO_4.out⟩, ⟨by (with_reducible repeat (first | apply Kd.R_alloc | apply Kd.R_drewN | apply Kd.R_drew)); exact HO_5.out⟩, ⟨by repeat (first | (with_reducible first | exact HB.out | apply below_alloc | apply pw_below_drewN | apply below_drew1) | exact HB.out)⟩⟩
                ·
                 rw [if_neg c16] at H
                 exact absurd H (by simp)
               ·
                rw [if_neg c15] at H
                exact absurd H (by simp)
              ·
               rw [if_neg c14] at H
               have c14b0 : (t427 == x7_3) = false := beq_eq_false_iff_ne.mpr c14
               have c14b1 : (t427 != x7_3) = true := bne_iff_ne.mpr c14
               (first | rw [c14b0] | rw [c14b1] | (simp only [i64_w, i32_w]; rw [c14b0]) | skip)
               have H' := Aside0.mk H
               clear H
               go_wp2_with (first | ((with_reducible refine gate_callee (f := 85) rfl ?_); refine goesL_ (some 48) rfl rfl Tryd.func85 (by kernel_rfl) rfl #[.int .i64 x11_3] rfl (by (try simp only [List.map_toArray, List.map_cons, List.map_nil]); first | done | rfl | (simp only [List.length_drop, List.length_take]; rfl)) ?_; (with_reducible refine (nuncioref10_Length.calls x11_3 t427 _ A13.out).mono ?_); rintro e w' ⟨rfl, ⟨nd, rfl⟩⟩; refine ⟨_, rfl, ?_⟩))
               go_meet
               case rel => exact ⟨_, (false), (by first | rfl | (simp; done) | (simp [*]; done)), H', ⟨by have := HK1.out; have := HK2.out; have := HK3.out; first | omega | exact Nat.le_refl _⟩, ⟨by (with_reducible repeat (first | apply Kd.R_alloc | apply Kd.R_drewN | apply Kd.R_drew)); exact HO_4.out⟩, ⟨by (with_reducible repeat (first | apply Kd.R_alloc | apply Kd.R_drewN | apply Kd.R_drew)); exact HO_5.out⟩, ⟨by repeat (first | (with_reducible first | exact HB.out | apply below_alloc | apply pw_below_drewN | apply below_drew1) | exact HB.out)⟩⟩
             case rest =>
              clear HC12
              try clear c1
              try clear p2
              try clear c4
              try clear c4b0
              try clear p4
              try clear q4
              try clear hx4
              try clear c6
              try clear c6b0
              try clear p6
              try clear c7
              try clear c7b0
              try clear c8
              try clear p8
              try clear q8
              try clear hx8
              try clear c9
              try clear c9b0
              try clear c10
              try clear c10b0
              try clear c11
              try clear c11b0
              try clear c14
              try clear c14b0
              try clear c14b1
              try clear c15
              try clear c15b0
              try clear c16
              try clear c16b0
              try clear hx428_0
              try clear p2
              try clear p428
              try clear p6
              try clear p8
              try clear q428
              try clear q8
              obtain ⟨kq, x58_11, rfl, HA, HJ11, HO_4, HO_5, HB⟩ := hcut
              cases kq with
              | zero => exact absurd HA.out (by simp [nuncioref10_Decode.j3])
              | succ kj11 =>
               have H := HA.out
               clear HA
               simp only [nuncioref10_Decode.j3] at H
               by_cases c18 : x58_11 = true
               ·
                subst c18
                have H1 : (if x11_3 = 256 then (some ((⟨#[]⟩ : ByteArray), 91)) else (if x5_3.length < 140737488355328 then (nuncioref10_Decode.l0 kj11 a0 t424 (x5_3 ++ [(x11_3) % 256]) 0 0 (wrap64 (x8_1 + 1))) else (none))) = some (r1, r2) := by rw [if_pos rfl] at H; exact H
                clear H
                have H := H1
                clear H1
                by_cases c19 : x11_3 = 256
                ·
                 rw [if_pos c19] at H
                 have c19b0 : (x11_3 == 256) = true := beq_iff_eq.mpr c19
                 have c19b1 : (x11_3 != 256) = false := bne_eq_false_iff_eq.mpr c19
                 clear c19
                 simp only [Option.some.injEq, Prod.mk.injEq] at H
                 obtain ⟨rfl, rfl⟩ := H
                 go_wp2
                 go_ret2
                 exact ⟨by first | rfl | (simp [errW_none, errW_some] <;> rfl) | (simp only [← hji5]; first | rfl | (simp [errW_none, errW_some] <;> rfl)) | (simp [*, errW_none, errW_some] <;> rfl), by repeat (first | (with_reducible first | exact HB.out | apply below_alloc | apply pw_below_drewN | apply below_drew1) | exact HB.out)⟩
                ·
                 rw [if_neg c19] at H
                 have c19b0 : (x11_3 == 256) = false := beq_eq_false_iff_ne.mpr c19
                 have c19b1 : (x11_3 != 256) = true := bne_iff_ne.mpr c19
                 by_cases c20 : x5_3.length < 140737488355328
                 ·
                  rw [if_pos c20] at H
                  have LMc20 := Aside0.mk c20
                  clear c20
                  obtain ⟨y429, hy429⟩ : ∃ y_ : List Int, y_ = (x5_3 ++ [(x11_3) % 256]) := ⟨_, rfl⟩
                  replace H : (nuncioref10_Decode.l0 kj11 a0 t424 y429 0 0 (wrap64 (x8_1 + 1))) = some (r1, r2) := by first | (rw [hy429]; with_reducible exact H) | (have H2_ := (Option.bind_some _ _).symm.trans H; rw [hy429]; with_reducible exact H2_) | (have H2_ := (Option.bind_some _ _).symm.trans H; with_reducible exact H2_) | with_reducible exact H | (rw [hy429]; exact H) | exact H
                  have Ny429 := Aside0.mk hy429
                  clear hy429
                  have H' := Aside0.mk H
                  clear H
                  go_wp2_with (first | ((with_reducible refine gate_builtin (b := .append) (xs := #[.tmp 61, .tmp 64]) rfl ?_); at_builtin; refine Kd.R_append (Kd.int .u8) (w0 := w) w.heap.size rfl (.tmp 61) (.tmp 64) 71 5 (.int .u8 0) 1 rfl Tryd.underlying71 info5 rfl (by decide) (by omega) u5 x5_3 ((x11_3) % 256) [.int .u8 ((x11_3) % 256)] (fun _ => True) (fun _ => False) rfl rfl ?aP (fun _ hk => hk.elim) ?aF ?aO ?aB ?aS ?aL ?_; (case aP => exact rfl); (case aB => exact (by repeat (first | (with_reducible first | exact HB.out | apply below_alloc | apply pw_below_drewN | apply below_drew1) | exact HB.out))); (case aF => exact (fun _ _ => trivial)); (case aO => exact (by (with_reducible repeat (first | apply Kd.R_alloc | apply Kd.R_drewN | apply Kd.R_drew)); exact HO_5.out)); (case aS => exact (below_size (by repeat (first | (with_reducible first | exact HB.out | apply below_alloc | apply pw_below_drewN | apply below_drew1) | exact HB.out)))); (case aL => have := LMc20.out; omega); intro v430 w21 ho hb hg hat; rw [← Ny429.out] at ho; have n0_ := Aside0.mk (Kd.R_over' (by (with_reducible repeat (first | apply Kd.R_alloc | apply Kd.R_drewN | apply Kd.R_drew)); exact HO_4.out) (Kd.R_typed (by (with_reducible repeat (first | apply Kd.R_alloc | apply Kd.R_drewN | apply Kd.R_drew)); exact HO_5.out)) (by decide) hg); have n1_ := Aside0.mk (hb); have n2_ := Aside0.mk (ho); clear HO_4; clear HB; clear HO_5; have HO_4 := n0_; have HB := n1_; have HO431 := n2_; clear n0_ n1_ n2_; clear ho hb hg hat))
                  go_roundg kj11
                  case measure => have := HK1.out; have := HK2.out; have := HK3.out; have := HJ11.out; omega
                  case rel => exact ⟨(y429), (0), (0), (wrap64 (x8_1 + 1)), (by first | rfl | (simp; done) | (simp [*]; done)), (by first | rfl | (simp; done) | (simp [*]; done)), (by first | rfl | (simp; done) | (simp [*]; done)), H', ⟨by have := HK1.out; have := HK2.out; have := HK3.out; have := HJ11.out; omega⟩, ⟨by (with_reducible repeat (first | apply Kd.R_alloc | apply Kd.R_drewN | apply Kd.R_drew)); exact HO_4.out⟩, ⟨by (with_reducible repeat (first | apply Kd.R_alloc | apply Kd.R_drewN | apply Kd.R_drew)); exact HO431.out⟩, ⟨by repeat (first | (with_reducible first | exact HB.out | apply below_alloc | apply pw_below_drewN | apply below_drew1) | exact HB.out)⟩⟩
                 ·
                  rw [if_neg c20] at H
                  exact absurd H (by simp)
               ·
                replace c18 := Bool.eq_false_iff.mpr c18
                subst c18
                have H1 : (nuncioref10_Decode.l2 kj11 a0 t424 x5_3 x6_3 x7_3 x8_1 (wrap64 (x11_3 + 1))) = some (r1, r2) := by rw [if_neg (show ¬ (false = true) by decide)] at H; exact H
                clear H
                have H := H1
                clear H1
                have H' := Aside0.mk H
                clear H
                go_wp2
                go_roundg kj11
                case measure => have := HK1.out; have := HK2.out; have := HK3.out; have := HJ11.out; omega
                case rel => exact ⟨(x5_3), (x6_3), (x7_3), (wrap64 (x11_3 + 1)), (by first | rfl | (simp; done) | (simp [*]; done)), (by first | rfl | (simp; done) | (simp [*]; done)), (by first | rfl | (simp; done) | (simp [*]; done)), H', ⟨by have := HK1.out; have := HK2.out; have := HK3.out; have := HJ11.out; omega⟩, ⟨by (with_reducible repeat (first | apply Kd.R_alloc | apply Kd.R_drewN | apply Kd.R_drew)); exact HO_4.out⟩, ⟨by (with_reducible repeat (first | apply Kd.R_alloc | apply Kd.R_drewN | apply Kd.R_drew)); exact HO_5.out⟩, ⟨by repeat (first | (with_reducible first | exact HB.out | apply below_alloc | apply pw_below_drewN | apply below_drew1) | exact HB.out)⟩⟩
            ·
             rw [if_neg c11] at H
             have c11b0 : decide (x11_3 ≤ 256) = false := decide_eq_false c11
             clear c11
             have H' := Aside0.mk H
             clear H
             go_wp2
             go_roundg k3
             case measure => have := HK1.out; have := HK2.out; have := HK3.out; omega
             case rel => exact ⟨(x5_3), (x6_3), (x7_3), (wrap64 (x8_1 + 1)), (by first | rfl | (simp; done) | (simp [*]; done)), (by first | rfl | (simp; done) | (simp [*]; done)), (by first | rfl | (simp; done) | (simp [*]; done)), H', ⟨by have := HK1.out; have := HK2.out; have := HK3.out; omega⟩, ⟨by (with_reducible repeat (first | apply Kd.R_alloc | apply Kd.R_drewN | apply Kd.R_drew)); exact HO_4.out⟩, ⟨by (with_reducible repeat (first | apply Kd.R_alloc | apply Kd.R_drewN | apply Kd.R_drew)); exact HO_5.out⟩, ⟨by repeat (first | (with_reducible first | exact HB.out | apply below_alloc | apply pw_below_drewN | apply below_drew1) | exact HB.out)⟩⟩
     ·
      rw [if_neg c7] at H
      exact absurd H (by simp)
    ·
     rw [if_neg c6] at H
     exact absurd H (by simp)
   ·
    rw [if_neg c4] at H
    have c4b0 : decide (x8_1 < (wrap64 (8 * (a0.size : Int)))) = false := decide_eq_false c4
    clear c4
    by_cases c22 : x7_1 > 7
    ·
     rw [if_pos c22] at H
     have c22b0 : decide (7 < x7_1) = true := decide_eq_true c22
     clear c22
     simp only [Option.some.injEq, Prod.mk.injEq] at H
     obtain ⟨rfl, rfl⟩ := H
     go_wp2
     go_ret2
     exact ⟨by first | rfl | (simp [errW_none, errW_some] <;> rfl) | (simp [*, errW_none, errW_some] <;> rfl), by repeat (first | (with_reducible first | exact HB.out | apply below_alloc | apply pw_below_drewN | apply below_drew1) | exact HB.out)⟩
    ·
     rw [if_neg c22] at H
     have c22b0 : decide (7 < x7_1) = false := decide_eq_false c22
     clear c22
     have H' := Aside0.mk H
     clear H
     go_wp2
     go_loopg [6, 12] k1 (fun kq v6 v12 w' => ∃ (x6_2 : Int) (x12_2 : Int), v6 = .int .u64 x6_2 ∧ v12 = .int .i64 x12_2 ∧ Aside0 (nuncioref10_Decode.l3 kq x5_1 x6_2 x7_1 x12_2 = some (r1, r2)) ∧ Aside0 (kq ≤ k1) ∧ Aside0 (Kd.R (Kd.int .u8) 5 w' w.heap.size (fun _ => True) u5 x5_1) ∧ Aside0 (Below w.heap.size w w'))
     case atStart => exact ⟨(x6_1), (0), (by first | rfl | (simp; done) | (simp [*]; done)), (by first | rfl | (simp; done) | (simp [*]; done)), H', ⟨Nat.le_refl _⟩, ⟨by (with_reducible repeat (first | apply Kd.R_alloc | apply Kd.R_drewN | apply Kd.R_drew)); exact HO_5.out⟩, ⟨by repeat (first | (with_reducible first | exact HB.out | apply below_alloc | apply pw_below_drewN | apply below_drew1) | exact HB.out)⟩⟩
     case round =>
      clear H'
      try clear c1
      try clear c2
      try clear p2
      try clear c4
      try clear c4b0
      try clear p4
      try clear q4
      try clear hx4
      try clear c6
      try clear c6b0
      try clear p6
      try clear c7
      try clear c7b0
      try clear c8
      try clear p8
      try clear q8
      try clear hx8
      try clear c9
      try clear c9b0
      try clear c10
      try clear c10b0
      try clear c11
      try clear c11b0
      try clear c14
      try clear c14b0
      try clear c14b1
      try clear c15
      try clear c15b0
      try clear c16
      try clear c16b0
      try clear c18
      try clear c19
      try clear c19b0
      try clear c19b1
      try clear c20
      try clear c22
      try clear c22b0
      try clear hx428_0
      try clear p2
      try clear p4
      try clear p428
      try clear p6
      try clear p8
      try clear q4
      try clear q428
      try clear q8
      obtain ⟨x6_2, x12_2, rfl, rfl, HA, HK2, HO_5, HB⟩ := hrel
      cases gk with
      | zero => exact absurd HA.out (by simp [nuncioref10_Decode.l3])
      | succ k2 =>
       have H := HA.out
       clear HA
       simp only [nuncioref10_Decode.l3] at H
       by_cases c23 : x12_2 < x7_1
       ·
        rw [if_pos c23] at H
        have c23b0 : decide (x12_2 < x7_1) = true := decide_eq_true c23
        clear c23
        by_cases c24 : (Int.tmod x6_2 2) = 0
        ·
         rw [if_pos c24] at H
         have c24b0 : ((Int.tmod x6_2 2) == 0) = true := beq_iff_eq.mpr c24
         have c24b1 : ((Int.tmod x6_2 2) != 0) = false := bne_eq_false_iff_eq.mpr c24
         clear c24
         (try (have c24b7 := c24b0; rw [Int.tmod_eq_emod_of_nonneg (Int.natCast_nonneg _)] at c24b7))
         (try (have c24b6 := c24b1; rw [Int.tmod_eq_emod_of_nonneg (Int.natCast_nonneg _)] at c24b6))
         simp only [Option.some.injEq, Prod.mk.injEq] at H
         obtain ⟨rfl, rfl⟩ := H
         go_wp2
         go_ret2
         exact ⟨by first | rfl | (simp [errW_none, errW_some] <;> rfl) | (simp [*, errW_none, errW_some] <;> rfl), by repeat (first | (with_reducible first | exact HB.out | apply below_alloc | apply pw_below_drewN | apply below_drew1) | exact HB.out)⟩
        ·
         rw [if_neg c24] at H
         have c24b0 : ((Int.tmod x6_2 2) == 0) = false := beq_eq_false_iff_ne.mpr c24
         have c24b1 : ((Int.tmod x6_2 2) != 0) = true := bne_iff_ne.mpr c24
         (try (have c24b7 := c24b0; rw [Int.tmod_eq_emod_of_nonneg (Int.natCast_nonneg _)] at c24b7))
         (try (have c24b6 := c24b1; rw [Int.tmod_eq_emod_of_nonneg (Int.natCast_nonneg _)] at c24b6))
         have H' := Aside0.mk H
         clear H
         go_wp2
         go_roundg k2
         case measure => have := HK1.out; have := HK2.out; omega
         case rel => exact ⟨(IntKind.u64.wrap (Int.tdiv x6_2 2)), (wrap64 (x12_2 + 1)), (by first | rfl | (simp; done) | (simp [*]; done)), (by first | rfl | (simp; done) | (simp [*]; done)), H', ⟨by have := HK1.out; have := HK2.out; omega⟩, ⟨by (with_reducible repeat (first | apply Kd.R_alloc | apply Kd.R_drewN | apply Kd.R_drew)); exact HO_5.out⟩, ⟨by repeat (first | (with_reducible first | exact HB.out | apply below_alloc | apply pw_below_drewN | apply below_drew1) | exact HB.out)⟩⟩
       ·
        rw [if_neg c23] at H
        have c23b0 : decide (x12_2 < x7_1) = false := decide_eq_false c23
        clear c23
        simp only [Option.some.injEq, Prod.mk.injEq] at H
        obtain ⟨rfl, rfl⟩ := H
        have hcv25 := own_string (P := Tryd.prog) Tryd.underlying71 Tryd.underlying5 Tryd.underlying9 (Kd.own_of_R HO_5.out)
        go_wp2
        go_ret2
        exact ⟨by first | rfl | (simp [errW_none, errW_some] <;> rfl) | (simp [*, errW_none, errW_some] <;> rfl), by repeat (first | (with_reducible first | exact HB.out | apply below_alloc | apply pw_below_drewN | apply below_drew1) | exact HB.out)⟩
end Go.Proofs.YtfkdocmhbmameaaDoor.Mine
