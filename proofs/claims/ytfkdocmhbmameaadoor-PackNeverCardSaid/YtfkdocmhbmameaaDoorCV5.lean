/- The walks and the plain laws that the rows come to: merged out of this repo's texts. -/
import Derived.Test.YtfkdocmhbmameaaDoorProg
import Derived.Below
import Derived.Deep.Draws
import Derived.Deep.AppendLies
import Derived.Maps.AppendAt
import Derived.OwnWalk
import Derived.Laws.BytesArg
import Derived.Laws.MakeOwn
import Derived.Laws.OwnMore
import Derived.Deep.OwnRows
import Derived.Tactics
import Derived.Lib.ConvBytes
import Derived.Laws.Slices
import Derived.WalkKit
import Derived.KernelRfl
import Derived.RowKit3
import Derived.Deep.LoopGhost
import Derived.Deep.QuietTactic
import Derived.BigQuiet
import Derived.WideLaws
import Derived.Deep.DeepCutAuto
import Derived.Deep.CutBlock
import Derived.Deep.RegionHeld3
import Derived.Laws.Rows
import Derived.Lib.AppendStr
import Derived.ArgAppend
import Derived.Laws.IdiomCopy
import Derived.RowKit
import Derived.OrdersHeld
import Derived.Laws.BitsLemmas
import Derived.Laws.StructEq
import Derived.Laws.CopyOwn
import Derived.SizedLaws
import Derived.ChangeSlices
import Derived.Deep.Slices
import Derived.Lib.SmallJoins
import Derived.Lib.OthersKept
import Derived.Lib.AppendZerosOnto
import Derived.WalkSpells
import Derived.Test.YtfkdocmhbmameaaDoorCV1
import Derived.Test.YtfkdocmhbmameaaDoorCV2
import Derived.Test.YtfkdocmhbmameaaDoorCV3
import Derived.Test.YtfkdocmhbmameaaDoorCV4
namespace Go.Proofs.YtfkdocmhbmameaaDoor.Mine
open Go.RowKit Go.Proofs.YtfkdocmhbmameaaDoorW.PrintWords Go.Proofs.YtfkdocmhbmameaaDoorW.PrintLast Go.Proofs.YtfkdocmhbmameaaDoorW.PrintMore
attribute [local go_sem] max2_int min2_int max_two min_two max_three min_three max_four min_four
set_option linter.unusedVariables false
set_option linter.unusedSimpArgs false
def nuncioref09_Put.l0 : Nat → ByteArray → Int → Option (ByteArray)
 | 0, _, _ => none
 | k + 1, x0, x3 => if x3 > 127 then ((some (([(IntKind.u64.wrap (128 + (Int.tmod x3 128))) % 256] : List Int) : List Int)).bind fun y259 => (if x0.size + (strOfNums y259).size ≤ 9223372036854775807 then (nuncioref09_Put.l0 k (x0 ++ (strOfNums y259)) (IntKind.u64.wrap (Int.tdiv x3 128))) else (none))) else ((some (([(x3) % 256] : List Int) : List Int)).bind fun y262 => (if x0.size + (strOfNums y262).size ≤ 9223372036854775807 then (some (x0 ++ (strOfNums y262))) else (none)))
def nuncioref09_Put.f (k : Nat) (a0 : ByteArray) (a1 : Int) (a2 : Int) (a3 : Int) : Option (ByteArray) := (nuncioref09_Full.f k a2).bind fun t252 => (if (IntKind.u64.wrap (t252 + 1)) = 0 then (none) else (if a3 < t252 then ((some (([(IntKind.u64.wrap ((IntKind.u64.wrap ((IntKind.u64.wrap (Int.tdiv (IntKind.u64.wrap (a1)) (IntKind.u64.wrap (t252 + 1)))) * (IntKind.u64.wrap (t252 + 1)))) + a3)) % 256] : List Int) : List Int)).bind fun y253 => (if a0.size + (strOfNums y253).size ≤ 9223372036854775807 then (some (a0 ++ (strOfNums y253))) else (none))) else ((some (([(IntKind.u64.wrap ((IntKind.u64.wrap ((IntKind.u64.wrap (Int.tdiv (IntKind.u64.wrap (a1)) (IntKind.u64.wrap (t252 + 1)))) * (IntKind.u64.wrap (t252 + 1)))) + t252)) % 256] : List Int) : List Int)).bind fun y256 => (if a0.size + (strOfNums y256).size ≤ 9223372036854775807 then (nuncioref09_Put.l0 k (a0 ++ (strOfNums y256)) (IntKind.u64.wrap (a3 - t252))) else (none)))))
set_option maxHeartbeats 8000000 in
set_option maxRecDepth 100000 in
theorem nuncioref09_Put.calls (k : Nat) (a0 : ByteArray) (a1 : Int) (a2 : Int) (a3 : Int) (r : ByteArray) (w : World) (h : nuncioref09_Put.f k a0 a1 a2 a3 = some r) :
  Calls Tryd.prog 41 #[.string a0, .int .u8 a1, .int .i64 a2, .int .u64 a3] w fun e w' => e = .returned (.string r) ∧ Below w.heap.size w w' := by
 have HB := Aside0.mk (Below.refl w.heap.size w)
 have H : ((nuncioref09_Full.f k a2).bind fun t252 => (if (IntKind.u64.wrap (t252 + 1)) = 0 then (none) else (if a3 < t252 then ((some (([(IntKind.u64.wrap ((IntKind.u64.wrap ((IntKind.u64.wrap (Int.tdiv (IntKind.u64.wrap (a1)) (IntKind.u64.wrap (t252 + 1)))) * (IntKind.u64.wrap (t252 + 1)))) + a3)) % 256] : List Int) : List Int)).bind fun y253 => (if a0.size + (strOfNums y253).size ≤ 9223372036854775807 then (some (a0 ++ (strOfNums y253))) else (none))) else ((some (([(IntKind.u64.wrap ((IntKind.u64.wrap ((IntKind.u64.wrap (Int.tdiv (IntKind.u64.wrap (a1)) (IntKind.u64.wrap (t252 + 1)))) * (IntKind.u64.wrap (t252 + 1)))) + t252)) % 256] : List Int) : List Int)).bind fun y256 => (if a0.size + (strOfNums y256).size ≤ 9223372036854775807 then (nuncioref09_Put.l0 k (a0 ++ (strOfNums y256)) (IntKind.u64.wrap (a3 - t252))) else (none)))))) = some r := h
 clear h
 replace H := Option.bind_eq_some_iff.mp H
 obtain ⟨t252, A50, H⟩ := H
 replace H : (if (IntKind.u64.wrap (t252 + 1)) = 0 then (none) else (if a3 < t252 then ((some (([(IntKind.u64.wrap ((IntKind.u64.wrap ((IntKind.u64.wrap (Int.tdiv (IntKind.u64.wrap (a1)) (IntKind.u64.wrap (t252 + 1)))) * (IntKind.u64.wrap (t252 + 1)))) + a3)) % 256] : List Int) : List Int)).bind fun y253 => (if a0.size + (strOfNums y253).size ≤ 9223372036854775807 then (some (a0 ++ (strOfNums y253))) else (none))) else ((some (([(IntKind.u64.wrap ((IntKind.u64.wrap ((IntKind.u64.wrap (Int.tdiv (IntKind.u64.wrap (a1)) (IntKind.u64.wrap (t252 + 1)))) * (IntKind.u64.wrap (t252 + 1)))) + t252)) % 256] : List Int) : List Int)).bind fun y256 => (if a0.size + (strOfNums y256).size ≤ 9223372036854775807 then (nuncioref09_Put.l0 k (a0 ++ (strOfNums y256)) (IntKind.u64.wrap (a3 - t252))) else (none))))) = some r := H
 have A5 := Aside0.mk A50
 clear A50
 by_cases c6 : (IntKind.u64.wrap (t252 + 1)) = 0
 ·
  rw [if_pos c6] at H
  exact absurd H (by simp)
 ·
  rw [if_neg c6] at H
  have c6b0 : ((IntKind.u64.wrap (t252 + 1)) == 0) = false := beq_eq_false_iff_ne.mpr c6
  have c6b1 : ((IntKind.u64.wrap (t252 + 1)) != 0) = true := bne_iff_ne.mpr c6
  by_cases c7 : a3 < t252
  ·
   rw [if_pos c7] at H
   have c7b0 : decide (a3 < t252) = true := decide_eq_true c7
   clear c7
   obtain ⟨y253, hy253⟩ : ∃ y_ : List Int, y_ = (([(IntKind.u64.wrap ((IntKind.u64.wrap ((IntKind.u64.wrap (Int.tdiv (IntKind.u64.wrap (a1)) (IntKind.u64.wrap (t252 + 1)))) * (IntKind.u64.wrap (t252 + 1)))) + a3)) % 256] : List Int)) := ⟨_, rfl⟩
   replace H : (if a0.size + (strOfNums y253).size ≤ 9223372036854775807 then (some (a0 ++ (strOfNums y253))) else (none)) = some r := by first | (rw [hy253]; with_reducible exact H) | (have H2_ := (Option.bind_some _ _).symm.trans H; rw [hy253]; with_reducible exact H2_) | (have H2_ := (Option.bind_some _ _).symm.trans H; with_reducible exact H2_) | with_reducible exact H | (rw [hy253]; exact H) | exact H
   have Ny253 := Aside0.mk hy253
   clear hy253
   by_cases c8 : a0.size + (strOfNums y253).size ≤ 9223372036854775807
   ·
    rw [if_pos c8] at H
    have c8b0 := eq_true c8
    have c8b1 : decide (a0.size + (strOfNums y253).size ≤ 9223372036854775807) = true := decide_eq_true c8
    try have c8b2 : (9223372036854775807 < a0.size + (strOfNums y253).size) = False := eq_false (Nat.not_lt.2 c8)
    obtain rfl := Option.some.inj H
    go_enter Tryd.func41, Tryd.ntmps41
    go_wp2_with (first | ((with_reducible refine gate_callee (f := 59) rfl ?_); refine goesL_ (some 12) rfl rfl Tryd.func59 (by kernel_rfl) rfl #[.int .i64 a2] rfl (by (try simp only [List.map_toArray, List.map_cons, List.map_nil]); first | done | rfl | (simp only [List.length_drop, List.length_take]; rfl)) ?_; (with_reducible refine (nuncioref09_Full.calls k a2 t252 _ A5.out).mono ?_); rintro e w' ⟨rfl, ⟨nd, rfl⟩⟩; refine ⟨_, rfl, ?_⟩) | ((with_reducible refine gate_dst (N := 29) rfl ?_); refine Kd.R_lit (Kd.int .u8) _ 5 ?hg (N := 29) ?hd (xs := ([(IntKind.u64.wrap ((IntKind.u64.wrap ((IntKind.u64.wrap (Int.tdiv (IntKind.u64.wrap (a1)) (IntKind.u64.wrap (t252 + 1)))) * (IntKind.u64.wrap (t252 + 1)))) + a3)) % 256] : List Int)) (inner := [.int .u8 ((IntKind.u64.wrap ((IntKind.u64.wrap ((IntKind.u64.wrap (Int.tdiv (IntKind.u64.wrap (a1)) (IntKind.u64.wrap (t252 + 1)))) * (IntKind.u64.wrap (t252 + 1)))) + a3)) % 256)]) (ok := fun _ => True) (okp := fun _ => True) ?hr ?hp (fun _ hk => hk) trivial (Below.refl _ _) (Nat.le_refl _) (by simp) ?_; (case hd => rfl); (case hg => rfl); (case hr => first | (go_simp; done) | (go_simp; rfl)); (case hp => exact (Reps.one (show Kd.M (Kd.int .u8) _ _ _ ((IntKind.u64.wrap ((IntKind.u64.wrap ((IntKind.u64.wrap (Int.tdiv (IntKind.u64.wrap (a1)) (IntKind.u64.wrap (t252 + 1)))) * (IntKind.u64.wrap (t252 + 1)))) + a3)) % 256) [.int .u8 ((IntKind.u64.wrap ((IntKind.u64.wrap ((IntKind.u64.wrap (Int.tdiv (IntKind.u64.wrap (a1)) (IntKind.u64.wrap (t252 + 1)))) * (IntKind.u64.wrap (t252 + 1)))) + a3)) % 256)] from rfl) (Reps.none _ _))); intro v254 w9 ho10 hb hg_ hnew_; clear hg_ hnew_; (first | rw [← Ny253.out] at ho10 | (simp only [Int.reduceToNat] at ho10; rw [← Ny253.out] at ho10)); have n0_ := Aside0.mk (Kd.R_lower ho10 (below_size (by repeat (first | (with_reducible first | exact HB.out | apply below_alloc | apply pw_below_drewN | apply below_drew1) | exact HB.out)))); have n1_ := Aside0.mk (below_step (by repeat (first | (with_reducible first | exact HB.out | apply below_alloc | apply pw_below_drewN | apply below_drew1) | exact HB.out)) hb); clear HB; have HO255 := n0_; have HB := n1_; clear n0_ n1_; clear hb ho10; have hcv11 := own_string (P := Tryd.prog) Tryd.underlying71 Tryd.underlying5 Tryd.underlying9 (Kd.own_of_R HO255.out)))
    go_ret
    exact ⟨by first | rfl | (simp [errW_none, errW_some] <;> rfl) | (simp [*, errW_none, errW_some] <;> rfl), by repeat (first | (with_reducible first | exact HB.out | apply below_alloc | apply pw_below_drewN | apply below_drew1) | exact HB.out)⟩
   ·
    rw [if_neg c8] at H
    exact absurd H (by simp)
  ·
   rw [if_neg c7] at H
   have c7b0 : decide (a3 < t252) = false := decide_eq_false c7
   clear c7
   obtain ⟨y256, hy256⟩ : ∃ y_ : List Int, y_ = (([(IntKind.u64.wrap ((IntKind.u64.wrap ((IntKind.u64.wrap (Int.tdiv (IntKind.u64.wrap (a1)) (IntKind.u64.wrap (t252 + 1)))) * (IntKind.u64.wrap (t252 + 1)))) + t252)) % 256] : List Int)) := ⟨_, rfl⟩
   replace H : (if a0.size + (strOfNums y256).size ≤ 9223372036854775807 then (nuncioref09_Put.l0 k (a0 ++ (strOfNums y256)) (IntKind.u64.wrap (a3 - t252))) else (none)) = some r := by first | (rw [hy256]; with_reducible exact H) | (have H2_ := (Option.bind_some _ _).symm.trans H; rw [hy256]; with_reducible exact H2_) | (have H2_ := (Option.bind_some _ _).symm.trans H; with_reducible exact H2_) | with_reducible exact H | (rw [hy256]; exact H) | exact H
   have Ny256 := Aside0.mk hy256
   clear hy256
   by_cases c12 : a0.size + (strOfNums y256).size ≤ 9223372036854775807
   ·
    rw [if_pos c12] at H
    have c12b0 := eq_true c12
    have c12b1 : decide (a0.size + (strOfNums y256).size ≤ 9223372036854775807) = true := decide_eq_true c12
    try have c12b2 : (9223372036854775807 < a0.size + (strOfNums y256).size) = False := eq_false (Nat.not_lt.2 c12)
    have H' := Aside0.mk H
    clear H
    go_enter Tryd.func41, Tryd.ntmps41
    go_wp2_with (first | ((with_reducible refine gate_callee (f := 59) rfl ?_); refine goesL_ (some 12) rfl rfl Tryd.func59 (by kernel_rfl) rfl #[.int .i64 a2] rfl (by (try simp only [List.map_toArray, List.map_cons, List.map_nil]); first | done | rfl | (simp only [List.length_drop, List.length_take]; rfl)) ?_; (with_reducible refine (nuncioref09_Full.calls k a2 t252 _ A5.out).mono ?_); rintro e w' ⟨rfl, ⟨nd, rfl⟩⟩; refine ⟨_, rfl, ?_⟩) | ((with_reducible refine gate_dst (N := 37) rfl ?_); refine Kd.R_lit (Kd.int .u8) _ 5 ?hg (N := 37) ?hd (xs := ([(IntKind.u64.wrap ((IntKind.u64.wrap ((IntKind.u64.wrap (Int.tdiv (IntKind.u64.wrap (a1)) (IntKind.u64.wrap (t252 + 1)))) * (IntKind.u64.wrap (t252 + 1)))) + t252)) % 256] : List Int)) (inner := [.int .u8 ((IntKind.u64.wrap ((IntKind.u64.wrap ((IntKind.u64.wrap (Int.tdiv (IntKind.u64.wrap (a1)) (IntKind.u64.wrap (t252 + 1)))) * (IntKind.u64.wrap (t252 + 1)))) + t252)) % 256)]) (ok := fun _ => True) (okp := fun _ => True) ?hr ?hp (fun _ hk => hk) trivial (Below.refl _ _) (Nat.le_refl _) (by simp) ?_; (case hd => rfl); (case hg => rfl); (case hr => first | (go_simp; done) | (go_simp; rfl)); (case hp => exact (Reps.one (show Kd.M (Kd.int .u8) _ _ _ ((IntKind.u64.wrap ((IntKind.u64.wrap ((IntKind.u64.wrap (Int.tdiv (IntKind.u64.wrap (a1)) (IntKind.u64.wrap (t252 + 1)))) * (IntKind.u64.wrap (t252 + 1)))) + t252)) % 256) [.int .u8 ((IntKind.u64.wrap ((IntKind.u64.wrap ((IntKind.u64.wrap (Int.tdiv (IntKind.u64.wrap (a1)) (IntKind.u64.wrap (t252 + 1)))) * (IntKind.u64.wrap (t252 + 1)))) + t252)) % 256)] from rfl) (Reps.none _ _))); intro v257 w13 ho14 hb hg_ hnew_; clear hg_ hnew_; (first | rw [← Ny256.out] at ho14 | (simp only [Int.reduceToNat] at ho14; rw [← Ny256.out] at ho14)); have n0_ := Aside0.mk (Kd.R_lower ho14 (below_size (by repeat (first | (with_reducible first | exact HB.out | apply below_alloc | apply pw_below_drewN | apply below_drew1) | exact HB.out)))); have n1_ := Aside0.mk (below_step (by repeat (first | (with_reducible first | exact HB.out | apply below_alloc | apply pw_below_drewN | apply below_drew1) | exact HB.out)) hb); clear HB; have HO258 := n0_; have HB := n1_; clear n0_ n1_; clear hb ho14; have hcv15 := own_string (P := Tryd.prog) Tryd.underlying71 Tryd.underlying5 Tryd.underlying9 (Kd.own_of_R HO258.out)))
    go_loopg [0, 3] k (fun kq v0 v3 w' => ∃ (x0_1 : ByteArray) (x3_1 : Int), v0 = .string x0_1 ∧ v3 = .int .u64 x3_1 ∧ Aside0 (nuncioref09_Put.l0 kq x0_1 x3_1 = some r) ∧ Aside0 (kq ≤ k) ∧ Aside0 (Below w.heap.size w w'))
    case atStart => exact ⟨(a0 ++ (strOfNums y256)), (IntKind.u64.wrap (a3 - t252)), (by first | rfl | (simp; done) | (simp [*]; done)), (by first | rfl | (simp; done) | (simp [*]; done)), H', ⟨Nat.le_refl _⟩, ⟨by repeat (first | (with_reducible first | exact HB.out | apply below_alloc | apply pw_below_drewN | apply below_drew1) | exact HB.out)⟩⟩
    case round =>
     clear H'
     try clear c1
     try clear hcv1
     try clear p2
     try clear c4
     try clear c5
     try clear c6
     try clear c6b0
     try clear c6b1
     try clear c7
     try clear c7b0
     try clear c8
     try clear c8b0
     try clear c8b1
     try clear c8b2
     try clear hcv11
     try clear c12
     try clear c12b0
     try clear c12b1
     try clear c12b2
     try clear hcv15
     obtain ⟨x0_1, x3_1, rfl, rfl, HA, HK1, HB⟩ := hrel
     cases gk with
     | zero => exact absurd HA.out (by simp [nuncioref09_Put.l0])
     | succ k1 =>
      have H := HA.out
      clear HA
      simp only [nuncioref09_Put.l0] at H
      by_cases c16 : x3_1 > 127
      ·
       rw [if_pos c16] at H
       have c16b0 : decide (127 < x3_1) = true := decide_eq_true c16
       clear c16
       obtain ⟨y259, hy259⟩ : ∃ y_ : List Int, y_ = (([(IntKind.u64.wrap (128 + (Int.tmod x3_1 128))) % 256] : List Int)) := ⟨_, rfl⟩
       replace H : (if x0_1.size + (strOfNums y259).size ≤ 9223372036854775807 then (nuncioref09_Put.l0 k1 (x0_1 ++ (strOfNums y259)) (IntKind.u64.wrap (Int.tdiv x3_1 128))) else (none)) = some r := by first | (rw [hy259]; with_reducible exact H) | (have H2_ := (Option.bind_some _ _).symm.trans H; rw [hy259]; with_reducible exact H2_) | (have H2_ := (Option.bind_some _ _).symm.trans H; with_reducible exact H2_) | with_reducible exact H | (rw [hy259]; exact H) | exact H
       have Ny259 := Aside0.mk hy259
       clear hy259
       by_cases c17 : x0_1.size + (strOfNums y259).size ≤ 9223372036854775807
       ·
        rw [if_pos c17] at H
        have c17b0 := eq_true c17
        have c17b1 : decide (x0_1.size + (strOfNums y259).size ≤ 9223372036854775807) = true := decide_eq_true c17
        try have c17b2 : (9223372036854775807 < x0_1.size + (strOfNums y259).size) = False := eq_false (Nat.not_lt.2 c17)
        have H' := Aside0.mk H
        clear H
        go_wp2_with (first | ((with_reducible refine gate_dst (N := 50) rfl ?_); refine Kd.R_lit (Kd.int .u8) _ 5 ?hg (N := 50) ?hd (xs := ([(IntKind.u64.wrap (128 + (Int.tmod x3_1 128))) % 256] : List Int)) (inner := [.int .u8 ((IntKind.u64.wrap (128 + (Int.tmod x3_1 128))) % 256)]) (ok := fun _ => True) (okp := fun _ => True) ?hr ?hp (fun _ hk => hk) trivial (Below.refl _ _) (Nat.le_refl _) (by simp) ?_; (case hd => rfl); (case hg => rfl); (case hr => first | (go_simp; done) | (go_simp; rfl)); (case hp => exact (Reps.one (show Kd.M (Kd.int .u8) _ _ _ ((IntKind.u64.wrap (128 + (Int.tmod x3_1 128))) % 256) [.int .u8 ((IntKind.u64.wrap (128 + (Int.tmod x3_1 128))) % 256)] from rfl) (Reps.none _ _))); intro v260 w18 ho19 hb hg_ hnew_; clear hg_ hnew_; (first | rw [← Ny259.out] at ho19 | (simp only [Int.reduceToNat] at ho19; rw [← Ny259.out] at ho19)); have n0_ := Aside0.mk (Kd.R_lower ho19 (below_size (by repeat (first | (with_reducible first | exact HB.out | apply below_alloc | apply pw_below_drewN | apply below_drew1) | exact HB.out)))); have n1_ := Aside0.mk (below_step (by repeat (first | (with_reducible first | exact HB.out | apply below_alloc | apply pw_below_drewN | apply below_drew1) | exact HB.out)) hb); clear HB; have HO261 := n0_; have HB := n1_; clear n0_ n1_; clear hb ho19; have hcv20 := own_string (P := Tryd.prog) Tryd.underlying71 Tryd.underlying5 Tryd.underlying9 (Kd.own_of_R HO261.out)))
        go_roundg k1
        case measure => have := HK1.out; omega
        case rel => exact ⟨(x0_1 ++ (strOfNums y259)), (IntKind.u64.wrap (Int.tdiv x3_1 128)), (by first | rfl | (simp; done) | (simp [*]; done)), (by first | rfl | (simp; done) | (simp [*]; done)), H', ⟨by have := HK1.out; omega⟩, ⟨by repeat (first | (with_reducible first | exact HB.out | apply below_alloc | apply pw_below_drewN | apply below_drew1) | exact HB.out)⟩⟩
       ·
        rw [if_neg c17] at H
        exact absurd H (by simp)
      ·
       rw [if_neg c16] at H
       have c16b0 : decide (127 < x3_1) = false := decide_eq_false c16
       clear c16
       obtain ⟨y262, hy262⟩ : ∃ y_ : List Int, y_ = (([(x3_1) % 256] : List Int)) := ⟨_, rfl⟩
       replace H : (if x0_1.size + (strOfNums y262).size ≤ 9223372036854775807 then (some (x0_1 ++ (strOfNums y262))) else (none)) = some r := by first | (rw [hy262]; with_reducible exact H) | (have H2_ := (Option.bind_some _ _).symm.trans H; rw [hy262]; with_reducible exact H2_) | (have H2_ := (Option.bind_some _ _).symm.trans H; with_reducible exact H2_) | with_reducible exact H | (rw [hy262]; exact H) | exact H
       have Ny262 := Aside0.mk hy262
       clear hy262
       by_cases c21 : x0_1.size + (strOfNums y262).size ≤ 9223372036854775807
       ·
        rw [if_pos c21] at H
        have c21b0 := eq_true c21
        have c21b1 : decide (x0_1.size + (strOfNums y262).size ≤ 9223372036854775807) = true := decide_eq_true c21
        try have c21b2 : (9223372036854775807 < x0_1.size + (strOfNums y262).size) = False := eq_false (Nat.not_lt.2 c21)
        obtain rfl := Option.some.inj H
        go_wp2_with (first | ((with_reducible refine gate_dst (N := 58) rfl ?_); refine Kd.R_lit (Kd.int .u8) _ 5 ?hg (N := 58) ?hd (xs := ([(x3_1) % 256] : List Int)) (inner := [.int .u8 ((x3_1) % 256)]) (ok := fun _ => True) (okp := fun _ => True) ?hr ?hp (fun _ hk => hk) trivial (Below.refl _ _) (Nat.le_refl _) (by simp) ?_; (case hd => rfl); (case hg => rfl); (case hr => first | (go_simp; done) | (go_simp; rfl)); (case hp => exact (Reps.one (show Kd.M (Kd.int .u8) _ _ _ ((x3_1) % 256) [.int .u8 ((x3_1) % 256)] from rfl) (Reps.none _ _))); intro v263 w22 ho23 hb hg_ hnew_; clear hg_ hnew_; (first | rw [← Ny262.out] at ho23 | (simp only [Int.reduceToNat] at ho23; rw [← Ny262.out] at ho23)); have n0_ := Aside0.mk (Kd.R_lower ho23 (below_size (by repeat (first | (with_reducible first | exact HB.out | apply below_alloc | apply pw_below_drewN | apply below_drew1) | exact HB.out)))); have n1_ := Aside0.mk (below_step (by repeat (first | (with_reducible first | exact HB.out | apply below_alloc | apply pw_below_drewN | apply below_drew1) | exact HB.out)) hb); clear HB; have HO264 := n0_; have HB := n1_; clear n0_ n1_; clear hb ho23; have hcv24 := own_string (P := Tryd.prog) Tryd.underlying71 Tryd.underlying5 Tryd.underlying9 (Kd.own_of_R HO264.out)))
        go_ret
        exact ⟨by first | rfl | (simp [errW_none, errW_some] <;> rfl) | (simp [*, errW_none, errW_some] <;> rfl), by repeat (first | (with_reducible first | exact HB.out | apply below_alloc | apply pw_below_drewN | apply below_drew1) | exact HB.out)⟩
       ·
        rw [if_neg c21] at H
        exact absurd H (by simp)
   ·
    rw [if_neg c12] at H
    exact absurd H (by simp)
end Go.Proofs.YtfkdocmhbmameaaDoor.Mine
