/- The walks and the plain laws that the rows come to: merged out of this repo's texts. -/
import Derived.Test.YtfkdocmhbmameaaDoorProg
import Derived.Below
import Derived.Deep.Draws
import Derived.Deep.AppendLies
import Derived.Maps.AppendAt
import Derived.OwnWalk
import Derived.Laws.BytesArg
import Derived.Laws.MakeOwn
import Derived.Laws.OwnMore
import Derived.Deep.OwnRows
import Derived.Tactics
import Derived.Lib.ConvBytes
import Derived.Laws.Slices
import Derived.WalkKit
import Derived.KernelRfl
import Derived.RowKit3
import Derived.Deep.LoopGhost
import Derived.Deep.QuietTactic
import Derived.BigQuiet
import Derived.WideLaws
import Derived.Deep.DeepCutAuto
import Derived.Deep.CutBlock
import Derived.Deep.RegionHeld3
import Derived.Laws.Rows
import Derived.Lib.AppendStr
import Derived.ArgAppend
import Derived.Laws.IdiomCopy
import Derived.RowKit
import Derived.OrdersHeld
import Derived.Laws.BitsLemmas
import Derived.Laws.StructEq
import Derived.Laws.CopyOwn
import Derived.SizedLaws
import Derived.ChangeSlices
import Derived.Deep.Slices
import Derived.Lib.SmallJoins
import Derived.Lib.OthersKept
import Derived.Lib.AppendZerosOnto
import Derived.WalkSpells
import Derived.Shelf.Utf8.RuneCount
import Derived.Shelf.Strings.Search1
import Derived.Shelf.Strings.Search2
import Derived.Shelf.Strings.Search3
import Derived.Shelf.Strings.Cut
import Derived.Shelf.Strings.Count
import Derived.Shelf.LaysM
import Derived.Shelf.Strings.Shaped
import Derived.Shelf.Strings.Split
import Derived.Shelf.Strings.SplitShaped
import Derived.Shelf.Unicode.Decode
import Derived.Shelf.Strings.RuneCount
import Derived.Shelf.Strings.Explode
import Derived.Shelf.Unicode.DecodeSlow
import Derived.Shelf.Unicode.DecodeAny
import Derived.Test.YtfkdocmhbmameaaDoorCA1
import Derived.Test.YtfkdocmhbmameaaDoorCA2
import Derived.Test.YtfkdocmhbmameaaDoorCA3
import Derived.Test.YtfkdocmhbmameaaDoorCA5
namespace Go.Proofs.YtfkdocmhbmameaaDoor.Mine
open Go.RowKit Go.Proofs.YtfkdocmhbmameaaDoorW.PrintWords Go.Proofs.YtfkdocmhbmameaaDoorW.PrintLast Go.Proofs.YtfkdocmhbmameaaDoorW.PrintMore
attribute [local go_sem] max2_int min2_int max_two min_two max_three min_three max_four min_four
set_option linter.unusedVariables false
set_option linter.unusedSimpArgs false
mutual
def prefix_Get.j0 : Nat → ByteArray → Int → Int → Bool → Option (Int × Int × Int)
 | 0, _, _, _, _ => none
 | k + 1, x0, x1, x2, x19 => if x19 = true then (some (0, 0, 2)) else ((prefix_full.f x2).bind fun t380 => (if 0 ≤ x1 then (if x1 < (x0.size : Int) then (if (Go.bits .and .u64 (IntKind.u64.wrap (bt x0 x1)) t380) < t380 then (some (Go.bits .and .u64 (IntKind.u64.wrap (bt x0 x1)) t380, wrap64 (x1 + 1), 0)) else (prefix_Get.l0 k x0 x1 (Go.bits .and .u64 (IntKind.u64.wrap (bt x0 x1)) t380) 0)) else (none)) else (none)))
def prefix_Get.l0 : Nat → ByteArray → Int → Int → Int → Option (Int × Int × Int)
 | 0, _, _, _, _ => none
 | k + 1, x0, x1, x6, x34 => if x34 < 5 then (if (wrap64 ((wrap64 (x1 + 1)) + x34)) ≥ (x0.size : Int) then (some (0, 0, 2)) else (if 0 ≤ (wrap64 ((wrap64 (x1 + 1)) + x34)) then (if (wrap64 ((wrap64 (x1 + 1)) + x34)) < (x0.size : Int) then (if 0 ≤ (wrap64 (7 * x34)) then (if (IntKind.u64.wrap (x6 + (shl .u64 (IntKind.u64.wrap (Go.bits .and .u8 (bt x0 (wrap64 ((wrap64 (x1 + 1)) + x34))) 127)) (wrap64 (7 * x34))))) > 4294967295 then (some (0, 0, 90)) else (if (bt x0 (wrap64 ((wrap64 (x1 + 1)) + x34))) < 128 then (some (IntKind.u64.wrap (x6 + (shl .u64 (IntKind.u64.wrap (Go.bits .and .u8 (bt x0 (wrap64 ((wrap64 (x1 + 1)) + x34))) 127)) (wrap64 (7 * x34)))), wrap64 ((wrap64 (x1 + 2)) + x34), 0)) else (prefix_Get.l0 k x0 x1 (IntKind.u64.wrap (x6 + (shl .u64 (IntKind.u64.wrap (Go.bits .and .u8 (bt x0 (wrap64 ((wrap64 (x1 + 1)) + x34))) 127)) (wrap64 (7 * x34))))) (wrap64 (x34 + 1))))) else (none)) else (none)) else (none))) else (some (0, 0, 90))
end
def prefix_Get.f (k : Nat) (a0 : ByteArray) (a1 : Int) (a2 : Int) : Option (Int × Int × Int) := if a1 < 0 then (prefix_Get.j0 k a0 a1 a2 true) else (prefix_Get.j0 k a0 a1 a2 (decide (a1 ≥ (a0.size : Int))))
theorem prefix_Get.mono_l : ∀ k, (∀ y0 y1 y2 y3, LeO (prefix_Get.j0 k y0 y1 y2 y3) (prefix_Get.j0 (k + 1) y0 y1 y2 y3)) ∧ (∀ y0 y1 y2 y3, LeO (prefix_Get.l0 k y0 y1 y2 y3) (prefix_Get.l0 (k + 1) y0 y1 y2 y3))
 | 0 => ⟨fun _ _ _ _ r h => by simp [prefix_Get.j0] at h, fun _ _ _ _ r h => by simp [prefix_Get.l0] at h⟩
 | k + 1 => by
  obtain ⟨ih0, ih1⟩ := prefix_Get.mono_l k
  refine ⟨?_, ?_⟩
  ·
   intro y0 y1 y2 y3
   unfold prefix_Get.j0
   repeat' first
   | (with_reducible exact ih0 _ _ _ _)
   | (with_reducible exact ih1 _ _ _ _)
   | (with_reducible exact LeO.refl _)
   | (with_reducible exact LeO.none _)
   | (with_reducible refine LeO.ite ?_ ?_)
   | (with_reducible refine LeO.bind ?_ (fun _ => ?_))
   | exact ih0 _ _ _ _
   | exact ih1 _ _ _ _
   | exact LeO.none _
   | refine LeO.ite ?_ ?_
   | refine LeO.bind ?_ (fun _ => ?_)
  ·
   intro y0 y1 y2 y3
   unfold prefix_Get.l0
   repeat' first
   | (with_reducible exact ih0 _ _ _ _)
   | (with_reducible exact ih1 _ _ _ _)
   | (with_reducible exact LeO.refl _)
   | (with_reducible exact LeO.none _)
   | (with_reducible refine LeO.ite ?_ ?_)
   | (with_reducible refine LeO.bind ?_ (fun _ => ?_))
   | exact ih0 _ _ _ _
   | exact ih1 _ _ _ _
   | exact LeO.none _
   | refine LeO.ite ?_ ?_
   | refine LeO.bind ?_ (fun _ => ?_)
theorem prefix_Get.mono : ∀ a0 a1 a2 k, LeO (prefix_Get.f k a0 a1 a2) (prefix_Get.f (k + 1) a0 a1 a2) := by
 intro a0 a1 a2 k
 obtain ⟨ih0, ih1⟩ := prefix_Get.mono_l k
 unfold prefix_Get.f
 repeat' first
   | (with_reducible exact ih0 _ _ _ _)
   | (with_reducible exact ih1 _ _ _ _)
   | (with_reducible exact LeO.refl _)
   | (with_reducible exact LeO.none _)
   | (with_reducible refine LeO.ite ?_ ?_)
   | (with_reducible refine LeO.bind ?_ (fun _ => ?_))
   | exact ih0 _ _ _ _
   | exact ih1 _ _ _ _
   | exact LeO.none _
   | refine LeO.ite ?_ ?_
   | refine LeO.bind ?_ (fun _ => ?_)
set_option maxHeartbeats 8000000 in
set_option maxRecDepth 100000 in
theorem prefix_Get.calls (k : Nat) (a0 : ByteArray) (a1 : Int) (a2 : Int) (r1 : Int) (r2 : Int) (r3 : Int) (w : World) (h : prefix_Get.f k a0 a1 a2 = some (r1, r2, r3)) :
  Calls Tryd.prog 75 #[.string a0, .int .i64 a1, .int .i64 a2] w fun e w' => e = .returned (.tuple #[.int .u64 r1, .int .i64 r2, .int .i64 r3]) ∧ Below w.heap.size w w' := by
 have HB := Aside0.mk (Below.refl w.heap.size w)
 have H : (if a1 < 0 then (prefix_Get.j0 k a0 a1 a2 true) else (prefix_Get.j0 k a0 a1 a2 (decide (a1 ≥ (a0.size : Int))))) = some (r1, r2, r3) := h
 clear h
 have HC4 := Aside0.mk H
 clear H
 go_enter Tryd.func75, Tryd.ntmps75
 go_upto_region 1 with (fail)
 go_cut [19] (fun v19 wc => ∃ (kq : Nat) (x19_3 : Bool), v19 = .bool x19_3 ∧ Aside0 (prefix_Get.j0 kq a0 a1 a2 x19_3 = some (r1, r2, r3)) ∧ Aside0 (kq ≤ k) ∧ Aside0 (Below w.heap.size w wc))
 case first =>
  have H := HC4.out
  clear HC4
  by_cases c5 : a1 < 0
  ·
   rw [if_pos c5] at H
   have c5b0 : decide (a1 < 0) = true := decide_eq_true c5
   clear c5
   (first | rw [c5b0] | rw [c5b1] | (simp only [i64_w, i32_w]; rw [c5b0]) | skip)
   have H' := Aside0.mk H
   clear H
   go_wp2
   go_meet
   case rel => exact ⟨_, (true), (by first | rfl | (simp; done) | (simp [*]; done)), H', ⟨by first | omega | exact Nat.le_refl _⟩, ⟨by repeat (first | (with_reducible first | exact HB.out | apply below_alloc | apply pw_below_drewN | apply below_drew1) | exact HB.out)⟩⟩
  ·
   rw [if_neg c5] at H
   have c5b0 : decide (a1 < 0) = false := decide_eq_false c5
   clear c5
   (first | rw [c5b0] | rw [c5b1] | (simp only [i64_w, i32_w]; rw [c5b0]) | skip)
   have H' := Aside0.mk H
   clear H
   go_wp2
   go_meet
   case rel => exact ⟨_, (decide (a1 ≥ (a0.size : Int))), (by first | rfl | (simp; done) | (simp [*]; done)), H', ⟨by first | omega | exact Nat.le_refl _⟩, ⟨by repeat (first | (with_reducible first | exact HB.out | apply below_alloc | apply pw_below_drewN | apply below_drew1) | exact HB.out)⟩⟩
 case rest =>
  clear HC4
  try clear p2
  try clear c5
  try clear c5b0
  try clear c5b1
  obtain ⟨kq, x19_3, rfl, HA, HJ3, HB⟩ := hcut
  cases kq with
  | zero => exact absurd HA.out (by simp [prefix_Get.j0])
  | succ kj3 =>
   have H := HA.out
   clear HA
   simp only [prefix_Get.j0] at H
   by_cases c6 : x19_3 = true
   ·
    subst c6
    have H1 : (some (0, 0, 2)) = some (r1, r2, r3) := by rw [if_pos rfl] at H; exact H
    clear H
    have H := H1
    clear H1
    simp only [Option.some.injEq, Prod.mk.injEq] at H
    obtain ⟨rfl, rfl, rfl⟩ := H
    go_wp2
    go_ret3
    exact ⟨by first | rfl | (simp [errW_none, errW_some] <;> rfl) | (simp [*, errW_none, errW_some] <;> rfl), by repeat (first | (with_reducible first | exact HB.out | apply below_alloc | apply pw_below_drewN | apply below_drew1) | exact HB.out)⟩
   ·
    replace c6 := Bool.eq_false_iff.mpr c6
    subst c6
    have H1 : ((prefix_full.f a2).bind fun t380 => (if 0 ≤ a1 then (if a1 < (a0.size : Int) then (if (Go.bits .and .u64 (IntKind.u64.wrap (bt a0 a1)) t380) < t380 then (some (Go.bits .and .u64 (IntKind.u64.wrap (bt a0 a1)) t380, wrap64 (a1 + 1), 0)) else (prefix_Get.l0 kj3 a0 a1 (Go.bits .and .u64 (IntKind.u64.wrap (bt a0 a1)) t380) 0)) else (none)) else (none))) = some (r1, r2, r3) := by rw [if_neg (show ¬ (false = true) by decide)] at H; exact H
    clear H
    have H := H1
    clear H1
    replace H := Option.bind_eq_some_iff.mp H
    obtain ⟨t380, A70, H⟩ := H
    replace H : (if 0 ≤ a1 then (if a1 < (a0.size : Int) then (if (Go.bits .and .u64 (IntKind.u64.wrap (bt a0 a1)) t380) < t380 then (some (Go.bits .and .u64 (IntKind.u64.wrap (bt a0 a1)) t380, wrap64 (a1 + 1), 0)) else (prefix_Get.l0 kj3 a0 a1 (Go.bits .and .u64 (IntKind.u64.wrap (bt a0 a1)) t380) 0)) else (none)) else (none)) = some (r1, r2, r3) := H
    have A7 := Aside0.mk A70
    clear A70
    by_cases c8 : 0 ≤ a1
    ·
     rw [if_pos c8] at H
     have c8b0 : decide (0 ≤ a1) = true := decide_eq_true c8
     clear c8
     by_cases c9 : a1 < (a0.size : Int)
     ·
      rw [if_pos c9] at H
      have c9b0 : decide (a1 < (a0.size : Int)) = true := decide_eq_true c9
      clear c9
      by_cases c11 : (Go.bits .and .u64 (IntKind.u64.wrap (bt a0 a1)) t380) < t380
      ·
       rw [if_pos c11] at H
       have c11b0 : decide ((Go.bits .and .u64 (IntKind.u64.wrap (bt a0 a1)) t380) < t380) = true := decide_eq_true c11
       clear c11
       simp only [Option.some.injEq, Prod.mk.injEq] at H
       obtain ⟨rfl, rfl, rfl⟩ := H
       go_wp2_with (first | ((with_reducible refine gate_callee (f := 52) rfl ?_); refine goesL_ (some 21) rfl rfl Tryd.func52 (by kernel_rfl) rfl #[.int .i64 a2] rfl (by (try simp only [List.map_toArray, List.map_cons, List.map_nil]); first | done | rfl | (simp only [List.length_drop, List.length_take]; rfl)) ?_; (with_reducible refine (prefix_full.calls a2 t380 _ A7.out).mono ?_); rintro e w12 ⟨rfl, hb⟩; refine ⟨_, rfl, ?_⟩; have n0_ := Aside0.mk (below_step (by repeat (first | (with_reducible first | exact HB.out | apply below_alloc | apply pw_below_drewN | apply below_drew1) | exact HB.out)) hb); clear HB; have HB := n0_; clear n0_; (try clear hb); (try clear hb2); (try clear hk); (try clear hi); have p10 : 0 ≤ (a1 : Int) := of_decide_eq_true (by first | (with_reducible assumption) | assumption); have q10 : a1 < (a0.size : Int) := of_decide_eq_true (by first | (with_reducible assumption) | assumption); have hx10 := bt_at a0 a1; replace p10 := eq_true p10; replace q10 := eq_true q10))
       go_ret3
       exact ⟨by first | rfl | (simp [errW_none, errW_some] <;> rfl) | (simp [*, errW_none, errW_some] <;> rfl), by repeat (first | (with_reducible first | exact HB.out | apply below_alloc | apply pw_below_drewN | apply below_drew1) | exact HB.out)⟩
      ·
       rw [if_neg c11] at H
       have c11b0 : decide ((Go.bits .and .u64 (IntKind.u64.wrap (bt a0 a1)) t380) < t380) = false := decide_eq_false c11
       clear c11
       have H' := Aside0.mk H
       clear H
       go_wp2_with (first | ((with_reducible refine gate_callee (f := 52) rfl ?_); refine goesL_ (some 21) rfl rfl Tryd.func52 (by kernel_rfl) rfl #[.int .i64 a2] rfl (by (try simp only [List.map_toArray, List.map_cons, List.map_nil]); first | done | rfl | (simp only [List.length_drop, List.length_take]; rfl)) ?_; (with_reducible refine (prefix_full.calls a2 t380 _ A7.out).mono ?_); rintro e w13 ⟨rfl, hb⟩; refine ⟨_, rfl, ?_⟩; have n0_ := Aside0.mk (below_step (by repeat (first | (with_reducible first | exact HB.out | apply below_alloc | apply pw_below_drewN | apply below_drew1) | exact HB.out)) hb); clear HB; have HB := n0_; clear n0_; (try clear hb); (try clear hb2); (try clear hk); (try clear hi); have p10 : 0 ≤ (a1 : Int) := of_decide_eq_true (by first | (with_reducible assumption) | assumption); have q10 : a1 < (a0.size : Int) := of_decide_eq_true (by first | (with_reducible assumption) | assumption); have hx10 := bt_at a0 a1; replace p10 := eq_true p10; replace q10 := eq_true q10))
       go_loopg [6, 34] kj3 (fun kq v6 v34 w' => ∃ (x6_2 : Int) (x34_2 : Int), v6 = .int .u64 x6_2 ∧ v34 = .int .i64 x34_2 ∧ Aside0 (prefix_Get.l0 kq a0 a1 x6_2 x34_2 = some (r1, r2, r3)) ∧ Aside0 (kq ≤ kj3) ∧ Aside0 (Below w.heap.size w w'))
       case atStart => exact ⟨(Go.bits .and .u64 (IntKind.u64.wrap (bt a0 a1)) t380), (0), (by first | rfl | (simp; done) | (simp [*]; done)), (by first | rfl | (simp; done) | (simp [*]; done)), H', ⟨Nat.le_refl _⟩, ⟨by repeat (first | (with_reducible first | exact HB.out | apply below_alloc | apply pw_below_drewN | apply below_drew1) | exact HB.out)⟩⟩
       case round =>
        clear H'
        try clear c1
        try clear p1
        try clear q1
        try clear hx1
        try clear p2
        try clear c5
        try clear c5b0
        try clear c5b1
        try clear c6
        try clear p6
        try clear c7
        try clear c8
        try clear c8b0
        try clear c9
        try clear c9b0
        try clear p10
        try clear q10
        try clear hx10
        try clear c11
        try clear c11b0
        try clear p10
        try clear p2
        try clear q10
        obtain ⟨x6_2, x34_2, rfl, rfl, HA, HK2, HB⟩ := hrel
        cases gk with
        | zero => exact absurd HA.out (by simp [prefix_Get.l0])
        | succ k2 =>
         have H := HA.out
         clear HA
         simp only [prefix_Get.l0] at H
         by_cases c14 : x34_2 < 5
         ·
          rw [if_pos c14] at H
          have c14b0 : decide (x34_2 < 5) = true := decide_eq_true c14
          clear c14
          by_cases c15 : (wrap64 ((wrap64 (a1 + 1)) + x34_2)) ≥ (a0.size : Int)
          ·
           rw [if_pos c15] at H
           have c15b0 : decide ((a0.size : Int) ≤ (wrap64 ((wrap64 (a1 + 1)) + x34_2))) = true := decide_eq_true c15
           clear c15
           simp only [Option.some.injEq, Prod.mk.injEq] at H
           obtain ⟨rfl, rfl, rfl⟩ := H
           go_wp2
           go_ret3
           exact ⟨by first | rfl | (simp [errW_none, errW_some] <;> rfl) | (simp [*, errW_none, errW_some] <;> rfl), by repeat (first | (with_reducible first | exact HB.out | apply below_alloc | apply pw_below_drewN | apply below_drew1) | exact HB.out)⟩
          ·
           rw [if_neg c15] at H
           have c15b0 : decide ((a0.size : Int) ≤ (wrap64 ((wrap64 (a1 + 1)) + x34_2))) = false := decide_eq_false c15
           clear c15
           obtain ⟨ji16, hji16⟩ : ∃ j_ : Int, (wrap64 ((wrap64 (a1 + 1)) + x34_2)) = j_ := ⟨_, rfl⟩
           replace H : (if 0 ≤ (ji16) then (if (ji16) < (a0.size : Int) then (if 0 ≤ (wrap64 (7 * x34_2)) then (if (IntKind.u64.wrap (x6_2 + (shl .u64 (IntKind.u64.wrap (Go.bits .and .u8 (bt a0 (ji16)) 127)) (wrap64 (7 * x34_2))))) > 4294967295 then (some (0, 0, 90)) else (if (bt a0 (ji16)) < 128 then (some (IntKind.u64.wrap (x6_2 + (shl .u64 (IntKind.u64.wrap (Go.bits .and .u8 (bt a0 (ji16)) 127)) (wrap64 (7 * x34_2)))), wrap64 ((wrap64 (a1 + 2)) + x34_2), 0)) else (prefix_Get.l0 k2 a0 a1 (IntKind.u64.wrap (x6_2 + (shl .u64 (IntKind.u64.wrap (Go.bits .and .u8 (bt a0 (ji16)) 127)) (wrap64 (7 * x34_2))))) (wrap64 (x34_2 + 1))))) else (none)) else (none)) else (none)) = some (r1, r2, r3) := by first | (rw [hji16] at H; exact H) | (simp only [hji16] at H ⊢; exact H)
           (try rw [hji16] at c15b0)
           have hji16w : (IntKind.i64.wrap ((wrap64 (a1 + 1)) + x34_2)) = ji16 := (i64_w _).trans hji16
           by_cases c17 : 0 ≤ (ji16)
           ·
            rw [if_pos c17] at H
            have c17b0 : decide (0 ≤ (ji16)) = true := decide_eq_true c17
            clear c17
            by_cases c18 : (ji16) < (a0.size : Int)
            ·
             rw [if_pos c18] at H
             have c18b0 : decide ((ji16) < (a0.size : Int)) = true := decide_eq_true c18
             clear c18
             obtain ⟨ji20, hji20⟩ : ∃ j_ : Int, (wrap64 (7 * x34_2)) = j_ := ⟨_, rfl⟩
             replace H : (if 0 ≤ (ji20) then (if (IntKind.u64.wrap (x6_2 + (shl .u64 (IntKind.u64.wrap (Go.bits .and .u8 (bt a0 (ji16)) 127)) (ji20)))) > 4294967295 then (some (0, 0, 90)) else (if (bt a0 (ji16)) < 128 then (some (IntKind.u64.wrap (x6_2 + (shl .u64 (IntKind.u64.wrap (Go.bits .and .u8 (bt a0 (ji16)) 127)) (ji20))), wrap64 ((wrap64 (a1 + 2)) + x34_2), 0)) else (prefix_Get.l0 k2 a0 a1 (IntKind.u64.wrap (x6_2 + (shl .u64 (IntKind.u64.wrap (Go.bits .and .u8 (bt a0 (ji16)) 127)) (ji20)))) (wrap64 (x34_2 + 1))))) else (none)) = some (r1, r2, r3) := by first | (rw [hji20] at H; exact H) | (simp only [hji20] at H ⊢; exact H)
             have hji20w : (IntKind.i64.wrap (7 * x34_2)) = ji20 := (i64_w _).trans hji20
             by_cases c21 : 0 ≤ (ji20)
             ·
              rw [if_pos c21] at H
              have c21b0 := eq_true c21
              have c21b1 : decide (0 ≤ (ji20)) = true := decide_eq_true c21
              clear c21
              obtain ⟨ji22, hji22⟩ : ∃ j_ : Int, (shl .u64 (IntKind.u64.wrap (Go.bits .and .u8 (bt a0 (ji16)) 127)) (ji20)) = j_ := ⟨_, rfl⟩
              replace H : (if (IntKind.u64.wrap (x6_2 + (ji22))) > 4294967295 then (some (0, 0, 90)) else (if (bt a0 (ji16)) < 128 then (some (IntKind.u64.wrap (x6_2 + (ji22)), wrap64 ((wrap64 (a1 + 2)) + x34_2), 0)) else (prefix_Get.l0 k2 a0 a1 (IntKind.u64.wrap (x6_2 + (ji22))) (wrap64 (x34_2 + 1))))) = some (r1, r2, r3) := by first | (rw [hji22] at H; exact H) | (simp only [hji22] at H ⊢; exact H)
              have hji22_ : (IntKind.u64.wrap ((IntKind.u64.wrap (Go.bits .and .u8 (bt a0 (ji16)) 127)) * 2 ^ min (ji20).toNat 64)) = ji22 := hji22
              have hji22z : (ji20) ≤ 64 → (IntKind.u64.wrap ((IntKind.u64.wrap (Go.bits .and .u8 (bt a0 (ji16)) 127)) * 2 ^ (ji20).toNat)) = ji22 := shl_small hji22
              by_cases c23 : (IntKind.u64.wrap (x6_2 + (ji22))) > 4294967295
              ·
               rw [if_pos c23] at H
               have c23b0 : decide (4294967295 < (IntKind.u64.wrap (x6_2 + (ji22)))) = true := decide_eq_true c23
               clear c23
               simp only [Option.some.injEq, Prod.mk.injEq] at H
               obtain ⟨rfl, rfl, rfl⟩ := H
               have p19 : 0 ≤ ((ji16) : Int) := of_decide_eq_true (by first | (with_reducible assumption) | assumption)
               have q19 : (ji16) < (a0.size : Int) := of_decide_eq_true (by first | (with_reducible assumption) | assumption)
               have hx19 := bt_at a0 (ji16)
               replace p19 := eq_true p19
               replace q19 := eq_true q19
               go_wp2
               go_ret3
               exact ⟨by first | rfl | (simp [errW_none, errW_some] <;> rfl) | (simp only [← hji16, ← hji20, ← hji22]; first | rfl | (simp [errW_none, errW_some] <;> rfl)) | (simp [*, errW_none, errW_some] <;> rfl), by repeat (first | (with_reducible first | exact HB.out | apply below_alloc | apply pw_below_drewN | apply below_drew1) | exact HB.out)⟩
              ·
               rw [if_neg c23] at H
               have c23b0 : decide (4294967295 < (IntKind.u64.wrap (x6_2 + (ji22)))) = false := decide_eq_false c23
               clear c23
               by_cases c24 : (bt a0 (ji16)) < 128
               ·
                rw [if_pos c24] at H
                have c24b0 : decide ((bt a0 (ji16)) < 128) = true := decide_eq_true c24
                clear c24
                simp only [Option.some.injEq, Prod.mk.injEq] at H
                obtain ⟨rfl, rfl, rfl⟩ := H
                have p19 : 0 ≤ ((ji16) : Int) := of_decide_eq_true (by first | (with_reducible assumption) | assumption)
                have q19 : (ji16) < (a0.size : Int) := of_decide_eq_true (by first | (with_reducible assumption) | assumption)
                have hx19 := bt_at a0 (ji16)
                replace p19 := eq_true p19
                replace q19 := eq_true q19
                go_wp2
                go_ret3
                exact ⟨by first | rfl | (simp [errW_none, errW_some] <;> rfl) | (simp only [← hji16, ← hji20, ← hji22]; first | rfl | (simp [errW_none, errW_some] <;> rfl)) | (simp [*, errW_none, errW_some] <;> rfl), by repeat (first | (with_reducible first | exact HB.out | apply below_alloc | apply pw_below_drewN | apply below_drew1) | exact HB.out)⟩
               ·
                rw [if_neg c24] at H
                have c24b0 : decide ((bt a0 (ji16)) < 128) = false := decide_eq_false c24
                clear c24
                have H' := Aside0.mk H
                clear H
                have p19 : 0 ≤ ((ji16) : Int) := of_decide_eq_true (by first | (with_reducible assumption) | assumption)
                have q19 : (ji16) < (a0.size : Int) := of_decide_eq_true (by first | (with_reducible assumption) | assumption)
                have hx19 := bt_at a0 (ji16)
                replace p19 := eq_true p19
                replace q19 := eq_true q19
                go_wp2
                go_roundg k2
                case measure => have := HJ3.out; have := HK2.out; omega
                case rel => exact ⟨(IntKind.u64.wrap (x6_2 + (ji22))), (wrap64 (x34_2 + 1)), (by first | rfl | (simp; done) | (simp only [← hji22] <;> (first | rfl | simp)) | (simp [*]; done)), (by first | rfl | (simp; done) | (simp [*]; done)), H', ⟨by have := HJ3.out; have := HK2.out; omega⟩, ⟨by repeat (first | (with_reducible first | exact HB.out | apply below_alloc | apply pw_below_drewN | apply below_drew1) | exact HB.out)⟩⟩
             ·
              rw [if_neg c21] at H
              exact absurd H (by simp)
            ·
             rw [if_neg c18] at H
             exact absurd H (by simp)
           ·
            rw [if_neg c17] at H
            exact absurd H (by simp)
         ·
          rw [if_neg c14] at H
          have c14b0 : decide (x34_2 < 5) = false := decide_eq_false c14
          clear c14
          simp only [Option.some.injEq, Prod.mk.injEq] at H
          obtain ⟨rfl, rfl, rfl⟩ := H
          go_wp2
          go_ret3
          exact ⟨by first | rfl | (simp [errW_none, errW_some] <;> rfl) | (simp [*, errW_none, errW_some] <;> rfl), by repeat (first | (with_reducible first | exact HB.out | apply below_alloc | apply pw_below_drewN | apply below_drew1) | exact HB.out)⟩
     ·
      rw [if_neg c9] at H
      exact absurd H (by simp)
    ·
     rw [if_neg c8] at H
     exact absurd H (by simp)
end Go.Proofs.YtfkdocmhbmameaaDoor.Mine
namespace Go.Proofs.YtfkdocmhbmameaaDoor.Mine
open Go.RowKit Go.Proofs Go.Proofs.YtfkdocmhbmameaaDoorW.PrintWords Go.Proofs.YtfkdocmhbmameaaDoorW.PrintLast Go.Proofs.YtfkdocmhbmameaaDoorW.PrintMore
attribute [local go_sem] max2_int min2_int max_two min_two max_three min_three max_four min_four
set_option linter.unusedVariables false
set_option linter.unusedSimpArgs false
set_option maxHeartbeats 4000000 in
set_option maxRecDepth 100000 in
theorem up_number_no (k g gt : Nat) (s : ByteArray) (at_ bits n next e : Int) (w0 w : World) (hI : IsB w g gt s at_) (hg : w0.heap.size ≤ g) (hB : Below w0.heap.size w0 w) (h : prefix_Get.f k s at_ bits = some (n, next, e)) (he : e ≠ 0) :
    Calls Tryd.prog 64 #[.pointer (some ⟨g, 0, none⟩), .int .i64 bits] w fun en w' => en = UP e ∧ IsB w' g gt s at_ ∧ Below w0.heap.size w0 w' ∧ KeepBut w w' g none := by
  have A3 := Aside0.mk h
  have HI := Aside0.mk hI
  have HB := Aside0.mk hB
  have q1 : (e != 0) = true := bne_iff_ne.mpr he
  have q2 : (e == 0) = false := beq_eq_false_iff_ne.mpr he
  clear h he
  have c1 := hI.c1
  have c2 := hI.c2
  clear hI hB
  go_enter Tryd.func64, Tryd.ntmps64
  go_upto_region 1 with fail
  go_region_with (first | (go_at_call 75; (with_reducible refine (prefix_Get.calls k s at_ bits n next e _ A3.out).mono ?_); rintro en w' ⟨rfl, hb⟩; have HD := Aside0.mk (below_step (below_drew1 (Below.refl w.heap.size w)) hb); have HJ := Aside0.mk (HI.out.below HD.out); clear hb))
  all_goals go_wp2
  all_goals exact ⟨rfl, rfl, HJ.out, below_then HB.out HB.out.size HD.out, tb_keep (KeepBut.refl w g none) HD.out⟩
set_option maxHeartbeats 4000000 in
set_option maxRecDepth 100000 in
theorem up_number_ok (k g gt : Nat) (s : ByteArray) (at_ bits n next : Int) (w0 w : World) (hI : IsB w g gt s at_) (hg : w0.heap.size ≤ g) (hB : Below w0.heap.size w0 w) (h : prefix_Get.f k s at_ bits = some (n, next, 0)) :
    Calls Tryd.prog 64 #[.pointer (some ⟨g, 0, none⟩), .int .i64 bits] w fun en w' => en = .returned (.int .u64 n) ∧ IsB w' g gt s next ∧ Below w0.heap.size w0 w' ∧ KeepBut w w' g none := by
  have A3 := Aside0.mk h
  have HI := Aside0.mk hI
  have HB := Aside0.mk hB
  clear h
  have c1 := hI.c1
  have c2 := hI.c2
  clear hI hB
  go_enter Tryd.func64, Tryd.ntmps64
  go_upto_region 1 with fail
  go_region_with (first | (go_at_call 75; (with_reducible refine (prefix_Get.calls k s at_ bits n next 0 _ A3.out).mono ?_); rintro en w' ⟨rfl, hb⟩; have HD := Aside0.mk (below_step (below_drew1 (Below.refl w.heap.size w)) hb); have HJ := Aside0.mk (HI.out.below HD.out); clear hb; have d2 := HJ.out.c2; have f2 := blk_frozen HJ.out 2))
  all_goals go_wp2
  all_goals go_ret
  all_goals exact ⟨rfl, HJ.out.set2 next, below_set (below_then HB.out HB.out.size HD.out) hg, tb_keeps (tb_keep (KeepBut.refl w g none) HD.out)⟩
end Go.Proofs.YtfkdocmhbmameaaDoor.Mine
namespace Go.Proofs.YtfkdocmhbmameaaDoor.Mine
open Go.RowKit Go.Proofs.YtfkdocmhbmameaaDoorW.PrintWords Go.Proofs.YtfkdocmhbmameaaDoorW.PrintLast Go.Proofs.YtfkdocmhbmameaaDoorW.PrintMore
attribute [local go_sem] max2_int min2_int max_two min_two max_three min_three max_four min_four
set_option linter.unusedVariables false
set_option linter.unusedSimpArgs false
def num_Part.f (a0 : ByteArray) (a1 : Int) (a2 : Int) : Option (ByteArray × Bool) := if a1 < 0 then (some ((⟨#[]⟩ : ByteArray), false)) else (if a2 < 0 then (some ((⟨#[]⟩ : ByteArray), false)) else (if a1 > (a0.size : Int) then (some ((⟨#[]⟩ : ByteArray), false)) else (if a2 > (wrap64 ((a0.size : Int) - a1)) then (some ((⟨#[]⟩ : ByteArray), false)) else (if 0 ≤ a1 then (if a1 ≤ (wrap64 (a1 + a2)) then (if (wrap64 (a1 + a2)) ≤ (a0.size : Int) then (some (a0.extract (a1 : Int).toNat ((wrap64 (a1 + a2)) : Int).toNat, true)) else (none)) else (none)) else (none)))))
set_option maxHeartbeats 8000000 in
set_option maxRecDepth 100000 in
theorem num_Part.calls (a0 : ByteArray) (a1 : Int) (a2 : Int) (r1 : ByteArray) (r2 : Bool) (w : World) (h : num_Part.f a0 a1 a2 = some (r1, r2)) :
  Calls Tryd.prog 86 #[.string a0, .int .i64 a1, .int .i64 a2] w fun e w' => e = .returned (.tuple #[.string r1, .bool r2]) ∧ Drawn0 w w' := by
 have H : (if a1 < 0 then (some ((⟨#[]⟩ : ByteArray), false)) else (if a2 < 0 then (some ((⟨#[]⟩ : ByteArray), false)) else (if a1 > (a0.size : Int) then (some ((⟨#[]⟩ : ByteArray), false)) else (if a2 > (wrap64 ((a0.size : Int) - a1)) then (some ((⟨#[]⟩ : ByteArray), false)) else (if 0 ≤ a1 then (if a1 ≤ (wrap64 (a1 + a2)) then (if (wrap64 (a1 + a2)) ≤ (a0.size : Int) then (some (a0.extract (a1 : Int).toNat ((wrap64 (a1 + a2)) : Int).toNat, true)) else (none)) else (none)) else (none)))))) = some (r1, r2) := h
 clear h
 by_cases c4 : a1 < 0
 ·
  rw [if_pos c4] at H
  have c4b0 : decide (a1 < 0) = true := decide_eq_true c4
  clear c4
  simp only [Option.some.injEq, Prod.mk.injEq] at H
  obtain ⟨rfl, rfl⟩ := H
  go_enter Tryd.func86, Tryd.ntmps86
  go_wp2
  go_ret2
  exact ⟨by first | rfl | (simp; done) | (simp [*]; done), by repeat (first | exact Drawn0.refl _ | apply Drawn0.step)⟩
 ·
  rw [if_neg c4] at H
  have c4b0 : decide (a1 < 0) = false := decide_eq_false c4
  clear c4
  by_cases c5 : a2 < 0
  ·
   rw [if_pos c5] at H
   have c5b0 : decide (a2 < 0) = true := decide_eq_true c5
   clear c5
   simp only [Option.some.injEq, Prod.mk.injEq] at H
   obtain ⟨rfl, rfl⟩ := H
   go_enter Tryd.func86, Tryd.ntmps86
   go_wp2
   go_ret2
   exact ⟨by first | rfl | (simp; done) | (simp [*]; done), by repeat (first | exact Drawn0.refl _ | apply Drawn0.step)⟩
  ·
   rw [if_neg c5] at H
   have c5b0 : decide (a2 < 0) = false := decide_eq_false c5
   clear c5
   by_cases c6 : a1 > (a0.size : Int)
   ·
    rw [if_pos c6] at H
    have c6b0 : decide ((a0.size : Int) < a1) = true := decide_eq_true c6
    clear c6
    simp only [Option.some.injEq, Prod.mk.injEq] at H
    obtain ⟨rfl, rfl⟩ := H
    go_enter Tryd.func86, Tryd.ntmps86
    go_wp2
    go_ret2
    exact ⟨by first | rfl | (simp; done) | (simp [*]; done), by repeat (first | exact Drawn0.refl _ | apply Drawn0.step)⟩
   ·
    rw [if_neg c6] at H
    have c6b0 : decide ((a0.size : Int) < a1) = false := decide_eq_false c6
    clear c6
    by_cases c7 : a2 > (wrap64 ((a0.size : Int) - a1))
    ·
     rw [if_pos c7] at H
     have c7b0 : decide ((wrap64 ((a0.size : Int) - a1)) < a2) = true := decide_eq_true c7
     clear c7
     simp only [Option.some.injEq, Prod.mk.injEq] at H
     obtain ⟨rfl, rfl⟩ := H
     go_enter Tryd.func86, Tryd.ntmps86
     go_wp2
     go_ret2
     exact ⟨by first | rfl | (simp; done) | (simp [*]; done), by repeat (first | exact Drawn0.refl _ | apply Drawn0.step)⟩
    ·
     rw [if_neg c7] at H
     have c7b0 : decide ((wrap64 ((a0.size : Int) - a1)) < a2) = false := decide_eq_false c7
     clear c7
     by_cases c8 : 0 ≤ a1
     ·
      rw [if_pos c8] at H
      have c8b0 := eq_true c8
      have c8b1 : decide (0 ≤ a1) = true := decide_eq_true c8
      clear c8
      by_cases c9 : a1 ≤ (wrap64 (a1 + a2))
      ·
       rw [if_pos c9] at H
       have c9b0 := eq_true c9
       have c9b1 : decide (a1 ≤ (wrap64 (a1 + a2))) = true := decide_eq_true c9
       by_cases c10 : (wrap64 (a1 + a2)) ≤ (a0.size : Int)
       ·
        rw [if_pos c10] at H
        have c10b0 := eq_true c10
        have c10b1 : decide ((wrap64 (a1 + a2)) ≤ (a0.size : Int)) = true := decide_eq_true c10
        simp only [Option.some.injEq, Prod.mk.injEq] at H
        obtain ⟨rfl, rfl⟩ := H
        go_enter Tryd.func86, Tryd.ntmps86
        go_wp2
        go_ret2
        exact ⟨by first | rfl | (simp; done) | (simp [*]; done), by repeat (first | exact Drawn0.refl _ | apply Drawn0.step)⟩
       ·
        rw [if_neg c10] at H
        exact absurd H (by simp)
      ·
       rw [if_neg c9] at H
       exact absurd H (by simp)
     ·
      rw [if_neg c8] at H
      exact absurd H (by simp)
end Go.Proofs.YtfkdocmhbmameaaDoor.Mine
