/- The walks and the plain laws that the rows come to: merged out of this repo's texts. -/
import Derived.Test.YtfkdocmhbmameaaDoorProg
import Derived.Below
import Derived.Deep.Draws
import Derived.Deep.AppendLies
import Derived.Maps.AppendAt
import Derived.OwnWalk
import Derived.Laws.BytesArg
import Derived.Laws.MakeOwn
import Derived.Laws.OwnMore
import Derived.Deep.OwnRows
import Derived.Tactics
import Derived.Lib.ConvBytes
import Derived.Laws.Slices
import Derived.WalkKit
import Derived.KernelRfl
import Derived.RowKit3
import Derived.Deep.LoopGhost
import Derived.Deep.QuietTactic
import Derived.BigQuiet
import Derived.WideLaws
import Derived.Deep.DeepCutAuto
import Derived.Deep.CutBlock
import Derived.Deep.RegionHeld3
import Derived.Laws.Rows
import Derived.Lib.AppendStr
import Derived.ArgAppend
import Derived.Laws.IdiomCopy
import Derived.RowKit
import Derived.OrdersHeld
import Derived.Laws.BitsLemmas
import Derived.Laws.StructEq
import Derived.Laws.CopyOwn
import Derived.SizedLaws
import Derived.ChangeSlices
import Derived.Deep.Slices
import Derived.Lib.SmallJoins
import Derived.Lib.OthersKept
import Derived.Lib.AppendZerosOnto
import Derived.WalkSpells
import Derived.Test.YtfkdocmhbmameaaDoorCV1
import Derived.Test.YtfkdocmhbmameaaDoorCV2
import Derived.Test.YtfkdocmhbmameaaDoorCV6
import Derived.Test.YtfkdocmhbmameaaDoorCV7
namespace Go.Proofs.YtfkdocmhbmameaaDoor.Mine
open Go.RowKit Go.Proofs.YtfkdocmhbmameaaDoorW.PrintWords Go.Proofs.YtfkdocmhbmameaaDoorW.PrintLast Go.Proofs.YtfkdocmhbmameaaDoorW.PrintMore
attribute [local go_sem] max2_int min2_int max_two min_two max_three min_three max_four min_four
set_option linter.unusedVariables false
set_option linter.unusedSimpArgs false
mutual
def nuncioref10_Codes.l0 : Nat → List Int → Int → Int → Bool → Int → Option (List Int)
 | 0, _, _, _, _, _ => none
 | k + 1, x1, x2, x3, x4, x5 => if x5 ≤ 30 then (nuncioref10_Codes.l1 k x1 x2 x3 x4 x5 0) else (some x1)
def nuncioref10_Codes.l1 : Nat → List Int → Int → Int → Bool → Int → Int → Option (List Int)
 | 0, _, _, _, _, _, _ => none
 | k + 1, x1, x2, x3, x4, x5, x6 => if x6 ≤ 256 then ((nuncioref10_Length.f x6).bind fun t282 => (if t282 = x5 then (if x4 = true then (nuncioref10_Codes.j2 k x1 x2 x3 x5 x6) else (nuncioref10_Codes.j2 k x1 (IntKind.u64.wrap (x2 + 1)) x3 x5 x6)) else (nuncioref10_Codes.l1 k x1 x2 x3 x4 x5 (wrap64 (x6 + 1))))) else (nuncioref10_Codes.l0 k x1 x2 x3 x4 (wrap64 (x5 + 1)))
def nuncioref10_Codes.j2 : Nat → List Int → Int → Int → Int → Int → Option (List Int)
 | 0, _, _, _, _, _ => none
 | k + 1, x1, x2, x3, x5, x6 => nuncioref10_Codes.l2 k x1 x2 x3 false x5 x6
def nuncioref10_Codes.l2 : Nat → List Int → Int → Int → Bool → Int → Int → Option (List Int)
 | 0, _, _, _, _, _, _ => none
 | k + 1, x1, x2, x3, x4, x5, x6 => if x3 < x5 then (nuncioref10_Codes.l2 k x1 (IntKind.u64.wrap (x2 * 2)) (wrap64 (x3 + 1)) x4 x5 x6) else (if 0 ≤ x6 then (if x6 < (x1.length : Int) then (nuncioref10_Codes.l1 k (x1.set (x6 : Int).toNat x2) x2 x3 x4 x5 (wrap64 (x6 + 1))) else (none)) else (none))
end
def nuncioref10_Codes.f (k : Nat)  : Option (List Int) := if 257 ≤ 35184372088832 then (nuncioref10_Codes.l0 k (List.replicate 257 0) 0 5 true 5) else (none)
theorem nuncioref10_Codes.mono_l : ∀ k, (∀ y0 y1 y2 y3 y4, LeO (nuncioref10_Codes.l0 k y0 y1 y2 y3 y4) (nuncioref10_Codes.l0 (k + 1) y0 y1 y2 y3 y4)) ∧ (∀ y0 y1 y2 y3 y4 y5, LeO (nuncioref10_Codes.l1 k y0 y1 y2 y3 y4 y5) (nuncioref10_Codes.l1 (k + 1) y0 y1 y2 y3 y4 y5)) ∧ (∀ y0 y1 y2 y3 y4, LeO (nuncioref10_Codes.j2 k y0 y1 y2 y3 y4) (nuncioref10_Codes.j2 (k + 1) y0 y1 y2 y3 y4)) ∧ (∀ y0 y1 y2 y3 y4 y5, LeO (nuncioref10_Codes.l2 k y0 y1 y2 y3 y4 y5) (nuncioref10_Codes.l2 (k + 1) y0 y1 y2 y3 y4 y5))
 | 0 => ⟨fun _ _ _ _ _ r h => by simp [nuncioref10_Codes.l0] at h, fun _ _ _ _ _ _ r h => by simp [nuncioref10_Codes.l1] at h, fun _ _ _ _ _ r h => by simp [nuncioref10_Codes.j2] at h, fun _ _ _ _ _ _ r h => by simp [nuncioref10_Codes.l2] at h⟩
 | k + 1 => by
  obtain ⟨ih0, ih1, ih2, ih3⟩ := nuncioref10_Codes.mono_l k
  refine ⟨?_, ?_, ?_, ?_⟩
  ·
   intro y0 y1 y2 y3 y4
   unfold nuncioref10_Codes.l0
   repeat' first
   | (with_reducible exact ih0 _ _ _ _ _)
   | (with_reducible exact ih1 _ _ _ _ _ _)
   | (with_reducible exact ih2 _ _ _ _ _)
   | (with_reducible exact ih3 _ _ _ _ _ _)
   | (with_reducible exact LeO.refl _)
   | (with_reducible exact LeO.none _)
   | (with_reducible refine LeO.ite ?_ ?_)
   | (with_reducible refine LeO.bind ?_ (fun _ => ?_))
   | exact ih0 _ _ _ _ _
   | exact ih1 _ _ _ _ _ _
   | exact ih2 _ _ _ _ _
   | exact ih3 _ _ _ _ _ _
   | exact LeO.none _
   | refine LeO.ite ?_ ?_
   | refine LeO.bind ?_ (fun _ => ?_)
  ·
   intro y0 y1 y2 y3 y4 y5
   unfold nuncioref10_Codes.l1
   repeat' first
   | (with_reducible exact ih0 _ _ _ _ _)
   | (with_reducible exact ih1 _ _ _ _ _ _)
   | (with_reducible exact ih2 _ _ _ _ _)
   | (with_reducible exact ih3 _ _ _ _ _ _)
   | (with_reducible exact LeO.refl _)
   | (with_reducible exact LeO.none _)
   | (with_reducible refine LeO.ite ?_ ?_)
   | (with_reducible refine LeO.bind ?_ (fun _ => ?_))
   | exact ih0 _ _ _ _ _
   | exact ih1 _ _ _ _ _ _
   | exact ih2 _ _ _ _ _
   | exact ih3 _ _ _ _ _ _
   | exact LeO.none _
   | refine LeO.ite ?_ ?_
   | refine LeO.bind ?_ (fun _ => ?_)
  ·
   intro y0 y1 y2 y3 y4
   unfold nuncioref10_Codes.j2
   repeat' first
   | (with_reducible exact ih0 _ _ _ _ _)
   | (with_reducible exact ih1 _ _ _ _ _ _)
   | (with_reducible exact ih2 _ _ _ _ _)
   | (with_reducible exact ih3 _ _ _ _ _ _)
   | (with_reducible exact LeO.refl _)
   | (with_reducible exact LeO.none _)
   | (with_reducible refine LeO.ite ?_ ?_)
   | (with_reducible refine LeO.bind ?_ (fun _ => ?_))
   | exact ih0 _ _ _ _ _
   | exact ih1 _ _ _ _ _ _
   | exact ih2 _ _ _ _ _
   | exact ih3 _ _ _ _ _ _
   | exact LeO.none _
   | refine LeO.ite ?_ ?_
   | refine LeO.bind ?_ (fun _ => ?_)
  ·
   intro y0 y1 y2 y3 y4 y5
   unfold nuncioref10_Codes.l2
   repeat' first
   | (with_reducible exact ih0 _ _ _ _ _)
   | (with_reducible exact ih1 _ _ _ _ _ _)
   | (with_reducible exact ih2 _ _ _ _ _)
   | (with_reducible exact ih3 _ _ _ _ _ _)
   | (with_reducible exact LeO.refl _)
   | (with_reducible exact LeO.none _)
   | (with_reducible refine LeO.ite ?_ ?_)
   | (with_reducible refine LeO.bind ?_ (fun _ => ?_))
   | exact ih0 _ _ _ _ _
   | exact ih1 _ _ _ _ _ _
   | exact ih2 _ _ _ _ _
   | exact ih3 _ _ _ _ _ _
   | exact LeO.none _
   | refine LeO.ite ?_ ?_
   | refine LeO.bind ?_ (fun _ => ?_)
theorem nuncioref10_Codes.mono : ∀ k, LeO (nuncioref10_Codes.f k ) (nuncioref10_Codes.f (k + 1) ) := by
 intro  k
 obtain ⟨ih0, ih1, ih2, ih3⟩ := nuncioref10_Codes.mono_l k
 unfold nuncioref10_Codes.f
 repeat' first
   | (with_reducible exact ih0 _ _ _ _ _)
   | (with_reducible exact ih1 _ _ _ _ _ _)
   | (with_reducible exact ih2 _ _ _ _ _)
   | (with_reducible exact ih3 _ _ _ _ _ _)
   | (with_reducible exact LeO.refl _)
   | (with_reducible exact LeO.none _)
   | (with_reducible refine LeO.ite ?_ ?_)
   | (with_reducible refine LeO.bind ?_ (fun _ => ?_))
   | exact ih0 _ _ _ _ _
   | exact ih1 _ _ _ _ _ _
   | exact ih2 _ _ _ _ _
   | exact ih3 _ _ _ _ _ _
   | exact LeO.none _
   | refine LeO.ite ?_ ?_
   | refine LeO.bind ?_ (fun _ => ?_)
set_option maxHeartbeats 8000000 in
set_option maxRecDepth 100000 in
theorem nuncioref10_Codes.calls (k : Nat)  (r : List Int) (w : World) (h : nuncioref10_Codes.f k  = some r) :
  Calls Tryd.prog 83 #[] w fun e w' => ∃ v0_ : Value, e = .returned (v0_) ∧ Kd.R (Kd.int .u64) 73 w' w.heap.size (fun _ => True) v0_ r ∧ Below w.heap.size w w' := by
 have HB := Aside0.mk (Below.refl w.heap.size w)
 have H : (if 257 ≤ 35184372088832 then (nuncioref10_Codes.l0 k (List.replicate 257 0) 0 5 true 5) else (none)) = some r := h
 clear h
 by_cases c1 : 257 ≤ 35184372088832
 ·
  rw [if_pos c1] at H
  have c1b0 := eq_true c1
  have c1b1 : decide (257 ≤ 35184372088832) = true := decide_eq_true c1
  clear c1
  obtain ⟨y279, hy279⟩ : ∃ y_ : List Int, y_ = (List.replicate 257 0) := ⟨_, rfl⟩
  replace H : (nuncioref10_Codes.l0 k y279 0 5 true 5) = some r := by first | (rw [hy279]; with_reducible exact H) | (have H2_ := (Option.bind_some _ _).symm.trans H; rw [hy279]; with_reducible exact H2_) | (have H2_ := (Option.bind_some _ _).symm.trans H; with_reducible exact H2_) | with_reducible exact H | (rw [hy279]; exact H) | exact H
  have Ny279 := Aside0.mk hy279
  clear hy279
  have H' := Aside0.mk H
  clear H
  go_enter Tryd.func83, Tryd.ntmps83
  go_wp2_with (first | ((with_reducible refine gate_dst (N := 7) rfl ?_); refine Kd.R_make (Kd.int .u64) _ 73 rfl (N := 7) rfl 135 _ _ rfl 257 rfl rfl Tryd.underlying135 (.int .u64 0) 8 info73 rfl (by decide) (by omega) 0 (ok := fun _ => True) (okp := fun _ => True) rfl (fun _ hk => hk) trivial (by omega) (by omega) (Below.refl _ _) (Nat.le_refl _) ?_; intro v280 w2 ho3 hb hg_ hnew_; clear hg_ hnew_; (first | rw [← Ny279.out] at ho3 | (simp only [Int.reduceToNat] at ho3; rw [← Ny279.out] at ho3)); have n0_ := Aside0.mk (Kd.R_lower ho3 (below_size (by repeat (first | (with_reducible first | exact HB.out | apply below_alloc | apply pw_below_drewN | apply below_drew1) | exact HB.out)))); have n1_ := Aside0.mk (below_step (by repeat (first | (with_reducible first | exact HB.out | apply below_alloc | apply pw_below_drewN | apply below_drew1) | exact HB.out)) hb); clear HB; have HO281 := n0_; have HB := n1_; clear n0_ n1_; clear hb ho3))
  go_loopg [2, 3, 4, 5] k (fun kq v2 v3 v4 v5 w' => ∃ (x1_1 : List Int) (x2_1 : Int) (x3_1 : Int) (x4_1 : Bool) (x5_1 : Int), v2 = .int .u64 x2_1 ∧ v3 = .int .i64 x3_1 ∧ v4 = .bool x4_1 ∧ v5 = .int .i64 x5_1 ∧ Aside0 (nuncioref10_Codes.l0 kq x1_1 x2_1 x3_1 x4_1 x5_1 = some r) ∧ Aside0 (kq ≤ k) ∧ Aside0 (Kd.R (Kd.int .u64) 73 w' w.heap.size (fun _ => True) v280 x1_1) ∧ Aside0 (Below w.heap.size w w'))
  case atStart => exact ⟨(y279), (0), (5), (true), (5), (by first | rfl | (simp; done) | (simp [*]; done)), (by first | rfl | (simp; done) | (simp [*]; done)), (by first | rfl | (simp; done) | (simp [*]; done)), (by first | rfl | (simp; done) | (simp [*]; done)), H', ⟨Nat.le_refl _⟩, ⟨by (with_reducible repeat (first | apply Kd.R_alloc | apply Kd.R_drewN | apply Kd.R_drew)); exact HO281.out⟩, ⟨by repeat (first | (with_reducible first | exact HB.out | apply below_alloc | apply pw_below_drewN | apply below_drew1) | exact HB.out)⟩⟩
  case round =>
   clear H'
   try clear c1
   try clear c1b0
   try clear c1b1
   try clear p2
   obtain ⟨x1_1, x2_1, x3_1, x4_1, x5_1, rfl, rfl, rfl, rfl, HA, HK1, HO_1, HB⟩ := hrel
   cases gk with
   | zero => exact absurd HA.out (by simp [nuncioref10_Codes.l0])
   | succ k1 =>
    have H := HA.out
    clear HA
    simp only [nuncioref10_Codes.l0] at H
    by_cases c4 : x5_1 ≤ 30
    ·
     rw [if_pos c4] at H
     have c4b0 : decide (x5_1 ≤ 30) = true := decide_eq_true c4
     clear c4
     have H' := Aside0.mk H
     clear H
     go_wp2
     go_loopg [2, 3, 4, 6] k1 (fun kq v2 v3 v4 v6 w' => ∃ (x1_2 : List Int) (x2_2 : Int) (x3_2 : Int) (x4_2 : Bool) (x6_2 : Int), v2 = .int .u64 x2_2 ∧ v3 = .int .i64 x3_2 ∧ v4 = .bool x4_2 ∧ v6 = .int .i64 x6_2 ∧ Aside0 (nuncioref10_Codes.l1 kq x1_2 x2_2 x3_2 x4_2 x5_1 x6_2 = some r) ∧ Aside0 (kq ≤ k1) ∧ Aside0 (Kd.R (Kd.int .u64) 73 w' w.heap.size (fun _ => True) v280 x1_2) ∧ Aside0 (Below w.heap.size w w'))
     case atStart => exact ⟨(x1_1), (x2_1), (x3_1), (x4_1), (0), (by first | rfl | (simp; done) | (simp [*]; done)), (by first | rfl | (simp; done) | (simp [*]; done)), (by first | rfl | (simp; done) | (simp [*]; done)), (by first | rfl | (simp; done) | (simp [*]; done)), H', ⟨Nat.le_refl _⟩, ⟨by (with_reducible repeat (first | apply Kd.R_alloc | apply Kd.R_drewN | apply Kd.R_drew)); exact HO_1.out⟩, ⟨by repeat (first | (with_reducible first | exact HB.out | apply below_alloc | apply pw_below_drewN | apply below_drew1) | exact HB.out)⟩⟩
     case round =>
      clear H'
      try clear c1
      try clear c1b0
      try clear c1b1
      try clear p2
      try clear c4
      try clear c4b0
      try clear p2
      obtain ⟨x1_2, x2_2, x3_2, x4_2, x6_2, rfl, rfl, rfl, rfl, HA, HK2, HO_1, HB⟩ := hrel
      cases gk with
      | zero => exact absurd HA.out (by simp [nuncioref10_Codes.l1])
      | succ k2 =>
       have H := HA.out
       clear HA
       simp only [nuncioref10_Codes.l1] at H
       by_cases c5 : x6_2 ≤ 256
       ·
        rw [if_pos c5] at H
        have c5b0 : decide (x6_2 ≤ 256) = true := decide_eq_true c5
        clear c5
        replace H := Option.bind_eq_some_iff.mp H
        obtain ⟨t282, A60, H⟩ := H
        replace H : (if t282 = x5_1 then (if x4_2 = true then (nuncioref10_Codes.j2 k2 x1_2 x2_2 x3_2 x5_1 x6_2) else (nuncioref10_Codes.j2 k2 x1_2 (IntKind.u64.wrap (x2_2 + 1)) x3_2 x5_1 x6_2)) else (nuncioref10_Codes.l1 k2 x1_2 x2_2 x3_2 x4_2 x5_1 (wrap64 (x6_2 + 1)))) = some r := H
        have A6 := Aside0.mk A60
        clear A60
        by_cases c7 : t282 = x5_1
        ·
         rw [if_pos c7] at H
         have c7b0 : (t282 == x5_1) = true := beq_iff_eq.mpr c7
         have c7b1 : (t282 != x5_1) = false := bne_eq_false_iff_eq.mpr c7
         clear c7
         have HC8 := Aside0.mk H
         clear H
         go_upto_if 21 with (first | ((with_reducible refine gate_callee (f := 85) rfl ?_); refine goesL_ (some 17) rfl rfl Tryd.func85 (by kernel_rfl) rfl #[.int .i64 x6_2] rfl (by (try simp only [List.map_toArray, List.map_cons, List.map_nil]); first | done | rfl | (simp only [List.length_drop, List.length_take]; rfl)) ?_; (with_reducible refine (nuncioref10_Length.calls x6_2 t282 _ A6.out).mono ?_); rintro e w' ⟨rfl, ⟨nd, rfl⟩⟩; refine ⟨_, rfl, ?_⟩))
         (try simp only [Act.put, List.setIfInBounds_toArray, List.set_cons_zero, List.set_cons_succ])
         go_cut [2] (fun v2 wc => ∃ (kq : Nat) (x2_7 : Int), v2 = .int .u64 x2_7 ∧ Aside0 (nuncioref10_Codes.j2 kq x1_2 x2_7 x3_2 x5_1 x6_2 = some r) ∧ Aside0 (kq ≤ k2) ∧ Aside0 (Kd.R (Kd.int .u64) 73 wc w.heap.size (fun _ => True) v280 x1_2) ∧ Aside0 (Below w.heap.size w wc))
         case first =>
          have H := HC8.out
          clear HC8
          by_cases c9 : x4_2 = true
          ·
           subst c9
           have H1 : (nuncioref10_Codes.j2 k2 x1_2 x2_2 x3_2 x5_1 x6_2) = some r := by rw [if_pos rfl] at H; exact H
           clear H
           have H := H1
           clear H1
           have H' := Aside0.mk H
           clear H
           go_wp2
           go_meet
           case rel => exact ⟨_, (x2_2), (by first | rfl | (simp; done) | (simp [*]; done)), H', ⟨by have := HK1.out; have := HK2.out; first | omega | exact Nat.le_refl _⟩, ⟨by (with_reducible repeat (first | apply Kd.R_alloc | apply Kd.R_drewN | apply Kd.R_drew)); exact HO_1.out⟩, ⟨by repeat (first | (with_reducible first | exact HB.out | apply below_alloc | apply pw_below_drewN | apply below_drew1) | exact HB.out)⟩⟩
          ·
           replace c9 := Bool.eq_false_iff.mpr c9
           subst c9
           have H1 : (nuncioref10_Codes.j2 k2 x1_2 (IntKind.u64.wrap (x2_2 + 1)) x3_2 x5_1 x6_2) = some r := by rw [if_neg (show ¬ (false = true) by decide)] at H; exact H
           clear H
           have H := H1
           clear H1
           have H' := Aside0.mk H
           clear H
           go_wp2
           go_meet
           case rel => exact ⟨_, (IntKind.u64.wrap (x2_2 + 1)), (by first | rfl | (simp; done) | (simp [*]; done)), H', ⟨by have := HK1.out; have := HK2.out; first | omega | exact Nat.le_refl _⟩, ⟨by (with_reducible repeat (first | apply Kd.R_alloc | apply Kd.R_drewN | apply Kd.R_drew)); exact HO_1.out⟩, ⟨by repeat (first | (with_reducible first | exact HB.out | apply below_alloc | apply pw_below_drewN | apply below_drew1) | exact HB.out)⟩⟩
         case rest =>
          clear HC8
          try clear c1
          try clear c1b0
          try clear c1b1
          try clear p2
          try clear c4
          try clear c4b0
          try clear c5
          try clear c5b0
          try clear p6
          try clear c7
          try clear c7b0
          try clear c7b1
          try clear c8
          try clear c9
          try clear p2
          obtain ⟨kq, x2_7, rfl, HA, HJ7, HO_1, HB⟩ := hcut
          cases kq with
          | zero => exact absurd HA.out (by simp [nuncioref10_Codes.j2])
          | succ kj7 =>
           have H := HA.out
           clear HA
           simp only [nuncioref10_Codes.j2] at H
           have H' := Aside0.mk H
           clear H
           go_wp2
           go_loopg [2, 3] kj7 (fun kq v2 v3 w' => ∃ (x2_4 : Int) (x3_4 : Int), v2 = .int .u64 x2_4 ∧ v3 = .int .i64 x3_4 ∧ Aside0 (nuncioref10_Codes.l2 kq x1_2 x2_4 x3_4 false x5_1 x6_2 = some r) ∧ Aside0 (kq ≤ kj7) ∧ Aside0 (Kd.R (Kd.int .u64) 73 w' w.heap.size (fun _ => True) v280 x1_2) ∧ Aside0 (Below w.heap.size w w'))
           case atStart => exact ⟨(x2_7), (x3_2), (by first | rfl | (simp; done) | (simp [*]; done)), (by first | rfl | (simp; done) | (simp [*]; done)), H', ⟨Nat.le_refl _⟩, ⟨by (with_reducible repeat (first | apply Kd.R_alloc | apply Kd.R_drewN | apply Kd.R_drew)); exact HO_1.out⟩, ⟨by repeat (first | (with_reducible first | exact HB.out | apply below_alloc | apply pw_below_drewN | apply below_drew1) | exact HB.out)⟩⟩
           case round =>
            clear H'
            try clear c1
            try clear c1b0
            try clear c1b1
            try clear p2
            try clear c4
            try clear c4b0
            try clear c5
            try clear c5b0
            try clear p6
            try clear c7
            try clear c7b0
            try clear c7b1
            try clear c8
            try clear c9
            try clear p2
            try clear p6
            obtain ⟨x2_4, x3_4, rfl, rfl, HA, HK4, HO_1, HB⟩ := hrel
            cases gk with
            | zero => exact absurd HA.out (by simp [nuncioref10_Codes.l2])
            | succ k4 =>
             have H := HA.out
             clear HA
             simp only [nuncioref10_Codes.l2] at H
             by_cases c10 : x3_4 < x5_1
             ·
              rw [if_pos c10] at H
              have c10b0 : decide (x3_4 < x5_1) = true := decide_eq_true c10
              clear c10
              have H' := Aside0.mk H
              clear H
              go_wp2
              go_roundg k4
              case measure => have := HK1.out; have := HK2.out; have := HJ7.out; have := HK4.out; omega
              case rel => exact ⟨(IntKind.u64.wrap (x2_4 * 2)), (wrap64 (x3_4 + 1)), (by first | rfl | (simp; done) | (simp [*]; done)), (by first | rfl | (simp; done) | (simp [*]; done)), H', ⟨by have := HK1.out; have := HK2.out; have := HJ7.out; have := HK4.out; omega⟩, ⟨by (with_reducible repeat (first | apply Kd.R_alloc | apply Kd.R_drewN | apply Kd.R_drew)); exact HO_1.out⟩, ⟨by repeat (first | (with_reducible first | exact HB.out | apply below_alloc | apply pw_below_drewN | apply below_drew1) | exact HB.out)⟩⟩
             ·
              rw [if_neg c10] at H
              have c10b0 : decide (x3_4 < x5_1) = false := decide_eq_false c10
              clear c10
              by_cases c11 : 0 ≤ x6_2
              ·
               rw [if_pos c11] at H
               have c11b0 : decide (0 ≤ x6_2) = true := decide_eq_true c11
               clear c11
               by_cases c12 : x6_2 < (x1_2.length : Int)
               ·
                rw [if_pos c12] at H
                have c12b0 : decide (x6_2 < (x1_2.length : Int)) = true := decide_eq_true c12
                clear c12
                obtain ⟨y283, hy283⟩ : ∃ y_ : List Int, y_ = (x1_2.set (x6_2 : Int).toNat x2_4) := ⟨_, rfl⟩
                replace H : (nuncioref10_Codes.l1 k4 y283 x2_4 x3_4 false x5_1 (wrap64 (x6_2 + 1))) = some r := by first | (rw [hy283]; with_reducible exact H) | (have H2_ := (Option.bind_some _ _).symm.trans H; rw [hy283]; with_reducible exact H2_) | (have H2_ := (Option.bind_some _ _).symm.trans H; with_reducible exact H2_) | with_reducible exact H | (rw [hy283]; exact H) | exact H
                have Ny283 := Aside0.mk hy283
                clear hy283
                have H' := Aside0.mk H
                clear H
                have p13 : 0 ≤ (x6_2 : Int) := of_decide_eq_true (by first | (with_reducible assumption) | assumption)
                have q13 : (x6_2 : Int) < ((x1_2.length : Int) : Int) := of_decide_eq_true (by first | (with_reducible assumption) | assumption)
                obtain ⟨go13, co13, eo13, gb13, gl13, cl13, HG13⟩ := Kd.R_form HO_1.out (by omega)
                (first | cases eo13 | (injection eo13 with ea_ en_ ec_; (first | subst ea_ | (injection ea_ with ea_; subst ea_)); subst ec_; clear en_))
                have GB13 := Aside0.mk gb13
                have GG13 := Aside0.mk HG13
                clear gb13 gl13 HG13
                obtain ⟨hx13_0, hf13_0⟩ := Kd.R_celln 0 HO_1.out (x6_2 : Int) p13 q13
                replace p13 := eq_true p13
                replace q13 := eq_true q13
                have HP14 := Kd.R_putg HO_1.out (x6_2 : Int) x2_4
                go_wp2_with (first | ((with_reducible refine gate_store (t := 73) (p := 34) rfl ?_); refine store_event (t := 73) (p := 34) (v := ?vo_w15) (w1 := (wr.setCell ⟨go13, (x6_2 : Int).toNat, none⟩ (.int .u64 x2_4))) ?hg ?ho ?hn ?hr ?_; (case ho => rfl); (case hg => rfl); (case hn => rfl); (case hr => first | (go_simp; done) | (go_simp; rfl)); intro w15 hw; have hg : wr.grownBy w15 (some go13) := (by rw [hw]; exact HP14.2); have hp_ : Kd.R (Kd.int .u64) 73 w15 w.heap.size (fun _ => True) (.slice (some ⟨go13, 0, none⟩) x1_2.length co13) y283 := (by rw [hw, Ny283.out]; exact HP14.1); clear HP14; have n0_ := Aside0.mk (hp_); have n1_ := Aside0.mk ((by rw [hw]; exact below_set (HB.out) GB13.out : Below w.heap.size w w15)); clear HO_1; clear HB; have HO_1 := n0_; have HB := n1_; clear n0_ n1_; clear hg hw hp_))
                go_roundg k4
                case measure => have := HK1.out; have := HK2.out; have := HJ7.out; have := HK4.out; omega
                case rel => exact ⟨(y283), (x2_4), (x3_4), (false), (wrap64 (x6_2 + 1)), (by first | rfl | (simp; done) | (simp [*]; done)), (by first | rfl | (simp; done) | (simp [*]; done)), (by first | rfl | (simp; done) | (simp [*]; done)), (by first | rfl | (simp; done) | (simp [*]; done)), H', ⟨by have := HK1.out; have := HK2.out; have := HJ7.out; have := HK4.out; omega⟩, ⟨by (with_reducible repeat (first | apply Kd.R_alloc | apply Kd.R_drewN | apply Kd.R_drew)); exact HO_1.out⟩, ⟨by repeat (first | (with_reducible first | exact HB.out | apply below_alloc | apply pw_below_drewN | apply below_drew1) | exact HB.out)⟩⟩
               ·
                rw [if_neg c12] at H
                exact absurd H (by simp)
              ·
               rw [if_neg c11] at H
               exact absurd H (by simp)
        ·
         rw [if_neg c7] at H
         have c7b0 : (t282 == x5_1) = false := beq_eq_false_iff_ne.mpr c7
         have c7b1 : (t282 != x5_1) = true := bne_iff_ne.mpr c7
         have H' := Aside0.mk H
         clear H
         go_wp2_with (first | ((with_reducible refine gate_callee (f := 85) rfl ?_); refine goesL_ (some 17) rfl rfl Tryd.func85 (by kernel_rfl) rfl #[.int .i64 x6_2] rfl (by (try simp only [List.map_toArray, List.map_cons, List.map_nil]); first | done | rfl | (simp only [List.length_drop, List.length_take]; rfl)) ?_; (with_reducible refine (nuncioref10_Length.calls x6_2 t282 _ A6.out).mono ?_); rintro e w' ⟨rfl, ⟨nd, rfl⟩⟩; refine ⟨_, rfl, ?_⟩))
         go_roundg k2
         case measure => have := HK1.out; have := HK2.out; omega
         case rel => exact ⟨(x1_2), (x2_2), (x3_2), (x4_2), (wrap64 (x6_2 + 1)), (by first | rfl | (simp; done) | (simp [*]; done)), (by first | rfl | (simp; done) | (simp [*]; done)), (by first | rfl | (simp; done) | (simp [*]; done)), (by first | rfl | (simp; done) | (simp [*]; done)), H', ⟨by have := HK1.out; have := HK2.out; omega⟩, ⟨by (with_reducible repeat (first | apply Kd.R_alloc | apply Kd.R_drewN | apply Kd.R_drew)); exact HO_1.out⟩, ⟨by repeat (first | (with_reducible first | exact HB.out | apply below_alloc | apply pw_below_drewN | apply below_drew1) | exact HB.out)⟩⟩
       ·
        rw [if_neg c5] at H
        have c5b0 : decide (x6_2 ≤ 256) = false := decide_eq_false c5
        clear c5
        have H' := Aside0.mk H
        clear H
        go_wp2
        go_roundg k2
        case measure => have := HK1.out; have := HK2.out; omega
        case rel => exact ⟨(x1_2), (x2_2), (x3_2), (x4_2), (wrap64 (x5_1 + 1)), (by first | rfl | (simp; done) | (simp [*]; done)), (by first | rfl | (simp; done) | (simp [*]; done)), (by first | rfl | (simp; done) | (simp [*]; done)), (by first | rfl | (simp; done) | (simp [*]; done)), H', ⟨by have := HK1.out; have := HK2.out; omega⟩, ⟨by (with_reducible repeat (first | apply Kd.R_alloc | apply Kd.R_drewN | apply Kd.R_drew)); exact HO_1.out⟩, ⟨by repeat (first | (with_reducible first | exact HB.out | apply below_alloc | apply pw_below_drewN | apply below_drew1) | exact HB.out)⟩⟩
    ·
     rw [if_neg c4] at H
     have c4b0 : decide (x5_1 ≤ 30) = false := decide_eq_false c4
     clear c4
     obtain rfl := Option.some.inj H
     go_wp2
     go_ret
     exact ⟨_, by first | rfl | (simp [errW_none, errW_some] <;> rfl) | (simp [*, errW_none, errW_some] <;> rfl), by (with_reducible repeat (first | apply Kd.R_alloc | apply Kd.R_drewN | apply Kd.R_drew)); exact HO_1.out, by repeat (first | (with_reducible first | exact HB.out | apply below_alloc | apply pw_below_drewN | apply below_drew1) | exact HB.out)⟩
 ·
  rw [if_neg c1] at H
  exact absurd H (by simp)
end Go.Proofs.YtfkdocmhbmameaaDoor.Mine
namespace Go.Proofs.YtfkdocmhbmameaaDoor.Mine
open Go.RowKit Go.Proofs.YtfkdocmhbmameaaDoorW.PrintWords Go.Proofs.YtfkdocmhbmameaaDoorW.PrintLast Go.Proofs.YtfkdocmhbmameaaDoorW.PrintMore
attribute [local go_sem] max2_int min2_int max_two min_two max_three min_three max_four min_four
set_option linter.unusedVariables false
set_option linter.unusedSimpArgs false
def nuncioref10_Bits.l0 : Nat → Int → Int → ByteArray → Int → Option (ByteArray)
 | 0, _, _, _, _ => none
 | k + 1, x0, x1, x5, x6 => if x6 < x1 then ((some (([(IntKind.u64.wrap (48 + (Int.tmod x0 2))) % 256] : List Int) : List Int)).bind fun y284 => (if (strOfNums y284).size + x5.size ≤ 9223372036854775807 then (nuncioref10_Bits.l0 k (IntKind.u64.wrap (Int.tdiv x0 2)) x1 ((strOfNums y284) ++ x5) (wrap64 (x6 + 1))) else (none))) else (some x5)
def nuncioref10_Bits.f (k : Nat) (a0 : Int) (a1 : Int) : Option (ByteArray) := nuncioref10_Bits.l0 k a0 a1 (⟨#[]⟩ : ByteArray) 0
set_option maxHeartbeats 8000000 in
set_option maxRecDepth 100000 in
theorem nuncioref10_Bits.calls (k : Nat) (a0 : Int) (a1 : Int) (r : ByteArray) (w : World) (h : nuncioref10_Bits.f k a0 a1 = some r) :
  Calls Tryd.prog 84 #[.int .u64 a0, .int .i64 a1] w fun e w' => e = .returned (.string r) ∧ Below w.heap.size w w' := by
 have HB := Aside0.mk (Below.refl w.heap.size w)
 have H : (nuncioref10_Bits.l0 k a0 a1 (⟨#[]⟩ : ByteArray) 0) = some r := h
 clear h
 have H' := Aside0.mk H
 clear H
 go_enter Tryd.func84, Tryd.ntmps84
 go_wp2
 go_loopg [0, 5, 6] k (fun kq v0 v5 v6 w' => ∃ (x0_1 : Int) (x5_1 : ByteArray) (x6_1 : Int), v0 = .int .u64 x0_1 ∧ v5 = .string x5_1 ∧ v6 = .int .i64 x6_1 ∧ Aside0 (nuncioref10_Bits.l0 kq x0_1 a1 x5_1 x6_1 = some r) ∧ Aside0 (kq ≤ k) ∧ Aside0 (Below w.heap.size w w'))
 case atStart => exact ⟨(a0), ((⟨#[]⟩ : ByteArray)), (0), (by first | rfl | (simp; done) | (simp [*]; done)), (by first | rfl | (simp; done) | (simp [*]; done)), (by first | rfl | (simp; done) | (simp [*]; done)), H', ⟨Nat.le_refl _⟩, ⟨by repeat (first | (with_reducible first | exact HB.out | apply below_alloc | apply pw_below_drewN | apply below_drew1) | exact HB.out)⟩⟩
 case round =>
  clear H'
  try clear p2
  obtain ⟨x0_1, x5_1, x6_1, rfl, rfl, rfl, HA, HK1, HB⟩ := hrel
  cases gk with
  | zero => exact absurd HA.out (by simp [nuncioref10_Bits.l0])
  | succ k1 =>
   have H := HA.out
   clear HA
   simp only [nuncioref10_Bits.l0] at H
   by_cases c3 : x6_1 < a1
   ·
    rw [if_pos c3] at H
    have c3b0 : decide (x6_1 < a1) = true := decide_eq_true c3
    clear c3
    obtain ⟨y284, hy284⟩ : ∃ y_ : List Int, y_ = (([(IntKind.u64.wrap (48 + (Int.tmod x0_1 2))) % 256] : List Int)) := ⟨_, rfl⟩
    replace H : (if (strOfNums y284).size + x5_1.size ≤ 9223372036854775807 then (nuncioref10_Bits.l0 k1 (IntKind.u64.wrap (Int.tdiv x0_1 2)) a1 ((strOfNums y284) ++ x5_1) (wrap64 (x6_1 + 1))) else (none)) = some r := by first | (rw [hy284]; with_reducible exact H) | (have H2_ := (Option.bind_some _ _).symm.trans H; rw [hy284]; with_reducible exact H2_) | (have H2_ := (Option.bind_some _ _).symm.trans H; with_reducible exact H2_) | with_reducible exact H | (rw [hy284]; exact H) | exact H
    have Ny284 := Aside0.mk hy284
    clear hy284
    by_cases c4 : (strOfNums y284).size + x5_1.size ≤ 9223372036854775807
    ·
     rw [if_pos c4] at H
     have c4b0 := eq_true c4
     have c4b1 : decide ((strOfNums y284).size + x5_1.size ≤ 9223372036854775807) = true := decide_eq_true c4
     try have c4b2 : (9223372036854775807 < (strOfNums y284).size + x5_1.size) = False := eq_false (Nat.not_lt.2 c4)
     have H' := Aside0.mk H
     clear H
     go_wp2_with (first | ((with_reducible refine gate_dst (N := 16) rfl ?_); refine Kd.R_lit (Kd.int .u8) _ 5 ?hg (N := 16) ?hd (xs := ([(IntKind.u64.wrap (48 + (Int.tmod x0_1 2))) % 256] : List Int)) (inner := [.int .u8 ((IntKind.u64.wrap (48 + (Int.tmod x0_1 2))) % 256)]) (ok := fun _ => True) (okp := fun _ => True) ?hr ?hp (fun _ hk => hk) trivial (Below.refl _ _) (Nat.le_refl _) (by simp) ?_; (case hd => rfl); (case hg => rfl); (case hr => first | (go_simp; done) | (go_simp; rfl)); (case hp => exact (Reps.one (show Kd.M (Kd.int .u8) _ _ _ ((IntKind.u64.wrap (48 + (Int.tmod x0_1 2))) % 256) [.int .u8 ((IntKind.u64.wrap (48 + (Int.tmod x0_1 2))) % 256)] from rfl) (Reps.none _ _))); intro v285 w5 ho6 hb hg_ hnew_; clear hg_ hnew_; (first | rw [← Ny284.out] at ho6 | (simp only [Int.reduceToNat] at ho6; rw [← Ny284.out] at ho6)); have n0_ := Aside0.mk (Kd.R_lower ho6 (below_size (by repeat (first | (with_reducible first | exact HB.out | apply below_alloc | apply pw_below_drewN | apply below_drew1) | exact HB.out)))); have n1_ := Aside0.mk (below_step (by repeat (first | (with_reducible first | exact HB.out | apply below_alloc | apply pw_below_drewN | apply below_drew1) | exact HB.out)) hb); clear HB; have HO286 := n0_; have HB := n1_; clear n0_ n1_; clear hb ho6; have hcv7 := own_string (P := Tryd.prog) Tryd.underlying71 Tryd.underlying5 Tryd.underlying9 (Kd.own_of_R HO286.out)))
     go_roundg k1
     case measure => have := HK1.out; omega
     case rel => exact ⟨(IntKind.u64.wrap (Int.tdiv x0_1 2)), ((strOfNums y284) ++ x5_1), (wrap64 (x6_1 + 1)), (by first | rfl | (simp; done) | (simp [*]; done)), (by first | rfl | (simp; done) | (simp [*]; done)), (by first | rfl | (simp; done) | (simp [*]; done)), H', ⟨by have := HK1.out; omega⟩, ⟨by repeat (first | (with_reducible first | exact HB.out | apply below_alloc | apply pw_below_drewN | apply below_drew1) | exact HB.out)⟩⟩
    ·
     rw [if_neg c4] at H
     exact absurd H (by simp)
   ·
    rw [if_neg c3] at H
    have c3b0 : decide (x6_1 < a1) = false := decide_eq_false c3
    clear c3
    obtain rfl := Option.some.inj H
    go_wp2
    go_ret
    exact ⟨by first | rfl | (simp [errW_none, errW_some] <;> rfl) | (simp [*, errW_none, errW_some] <;> rfl), by repeat (first | (with_reducible first | exact HB.out | apply below_alloc | apply pw_below_drewN | apply below_drew1) | exact HB.out)⟩
end Go.Proofs.YtfkdocmhbmameaaDoor.Mine
