/- The walks and the plain laws that the rows come to: merged out of this repo's texts. -/
import Derived.Test.YtfkdocmhbmameaaDoorProg
import Derived.Below
import Derived.Deep.Draws
import Derived.Deep.AppendLies
import Derived.Maps.AppendAt
import Derived.OwnWalk
import Derived.Laws.BytesArg
import Derived.Laws.MakeOwn
import Derived.Laws.OwnMore
import Derived.Deep.OwnRows
import Derived.Tactics
import Derived.Lib.ConvBytes
import Derived.Laws.Slices
import Derived.WalkKit
import Derived.KernelRfl
import Derived.RowKit3
import Derived.Deep.LoopGhost
import Derived.Deep.QuietTactic
import Derived.BigQuiet
import Derived.WideLaws
import Derived.Deep.DeepCutAuto
import Derived.Deep.CutBlock
import Derived.Deep.RegionHeld3
import Derived.Laws.Rows
import Derived.Lib.AppendStr
import Derived.ArgAppend
import Derived.Laws.IdiomCopy
import Derived.RowKit
import Derived.OrdersHeld
import Derived.Laws.BitsLemmas
import Derived.Laws.StructEq
import Derived.Laws.CopyOwn
import Derived.SizedLaws
import Derived.ChangeSlices
import Derived.Deep.Slices
import Derived.Lib.SmallJoins
import Derived.Lib.OthersKept
import Derived.Lib.AppendZerosOnto
import Derived.WalkSpells
import Derived.Test.YtfkdocmhbmameaaDoorCV1
import Derived.Test.YtfkdocmhbmameaaDoorCV2
import Derived.Test.YtfkdocmhbmameaaDoorCV15
namespace Go.Proofs.YtfkdocmhbmameaaDoor.Mine
open Go.RowKit Go.Proofs.YtfkdocmhbmameaaDoorW.PrintWords Go.Proofs.YtfkdocmhbmameaaDoorW.PrintLast Go.Proofs.YtfkdocmhbmameaaDoorW.PrintMore
attribute [local go_sem] max2_int min2_int max_two min_two max_three min_three max_four min_four
set_option linter.unusedVariables false
set_option linter.unusedSimpArgs false
mutual
def huff_Encode.l0 : Nat → List Int → Int → Int → List Int → Int → Int → Option (ByteArray)
 | 0, _, _, _, _, _, _ => none
 | k + 1, x4, x5, x6, x15, x16, x17 => if x17 < x16 then (if 0 ≤ x17 then (if x17 < (x15.length : Int) then ((huff_bits.f (wrap64 (rd x15 x17))).bind fun t134 => (if 0 ≤ t134 then (if 0 ≤ (rd x15 x17) then (if (rd x15 x17) < 257 then (huff_Encode.l1 k x4 (Go.bits .or .u64 (shl .u64 x5 t134) (IntKind.u64.wrap (hb0 (rd x15 x17)))) (wrap64 (x6 + t134)) x15 x16 x17) else (none)) else (none)) else (none))) else (none)) else (none)) else (if x6 > 0 then (if 0 ≤ (wrap64 (8 - x6)) then (if x4.length < 140737488355328 then (some (strOfNums (x4 ++ [Go.bits .or .u8 ((shl .u64 x5 (wrap64 (8 - x6))) % 256) (((shl .u8 1 (wrap64 (8 - x6))) - 1) % 256)]))) else (none)) else (none)) else (some (strOfNums x4)))
def huff_Encode.l1 : Nat → List Int → Int → Int → List Int → Int → Int → Option (ByteArray)
 | 0, _, _, _, _, _, _ => none
 | k + 1, x4, x5, x6, x15, x16, x17 => if x6 ≥ 8 then (if 0 ≤ (wrap64 (x6 - 8)) then (if x4.length < 140737488355328 then (huff_Encode.l1 k (x4 ++ [(shr .u64 x5 (wrap64 (x6 - 8))) % 256]) x5 (wrap64 (x6 - 8)) x15 x16 x17) else (none)) else (none)) else (if 0 ≤ x6 then (huff_Encode.l0 k x4 (Go.bits .and .u64 x5 (IntKind.u64.wrap ((shl .u64 1 x6) - 1))) x6 x15 x16 (wrap64 (x17 + 1))) else (none))
end
def huff_Encode.f (k : Nat) (a0 : ByteArray) : Option (ByteArray) := (huff_made.f).bind fun _ => ((huff_Size.f k a0).bind fun t123 => (if 0 ≤ t123 then (if (t123 : Int).toNat ≤ 281474976710656 then (if (a0.size : Int) ≤ 9223372036854775807 then ((some (bytesOf a0 : List Int)).bind fun y127 => (huff_Encode.l0 k (List.replicate 0 0) 0 0 y127 (y127.length : Int) 0)) else (none)) else (none)) else (none)))
theorem huff_Encode.mono_l : ∀ k, (∀ y0 y1 y2 y3 y4 y5, LeO (huff_Encode.l0 k y0 y1 y2 y3 y4 y5) (huff_Encode.l0 (k + 1) y0 y1 y2 y3 y4 y5)) ∧ (∀ y0 y1 y2 y3 y4 y5, LeO (huff_Encode.l1 k y0 y1 y2 y3 y4 y5) (huff_Encode.l1 (k + 1) y0 y1 y2 y3 y4 y5))
 | 0 => ⟨fun _ _ _ _ _ _ r h => by simp [huff_Encode.l0] at h, fun _ _ _ _ _ _ r h => by simp [huff_Encode.l1] at h⟩
 | k + 1 => by
  obtain ⟨ih0, ih1⟩ := huff_Encode.mono_l k
  refine ⟨?_, ?_⟩
  ·
   intro y0 y1 y2 y3 y4 y5
   unfold huff_Encode.l0
   repeat' first
   | (with_reducible exact ih0 _ _ _ _ _ _)
   | (with_reducible exact ih1 _ _ _ _ _ _)
   | (with_reducible exact huff_Size.mono _ _)
   | (with_reducible exact LeO.refl _)
   | (with_reducible exact LeO.none _)
   | (with_reducible refine LeO.ite ?_ ?_)
   | (with_reducible refine LeO.bind ?_ (fun _ => ?_))
   | exact ih0 _ _ _ _ _ _
   | exact ih1 _ _ _ _ _ _
   | exact huff_Size.mono _ _
   | exact LeO.none _
   | refine LeO.ite ?_ ?_
   | refine LeO.bind ?_ (fun _ => ?_)
  ·
   intro y0 y1 y2 y3 y4 y5
   unfold huff_Encode.l1
   repeat' first
   | (with_reducible exact ih0 _ _ _ _ _ _)
   | (with_reducible exact ih1 _ _ _ _ _ _)
   | (with_reducible exact huff_Size.mono _ _)
   | (with_reducible exact LeO.refl _)
   | (with_reducible exact LeO.none _)
   | (with_reducible refine LeO.ite ?_ ?_)
   | (with_reducible refine LeO.bind ?_ (fun _ => ?_))
   | exact ih0 _ _ _ _ _ _
   | exact ih1 _ _ _ _ _ _
   | exact huff_Size.mono _ _
   | exact LeO.none _
   | refine LeO.ite ?_ ?_
   | refine LeO.bind ?_ (fun _ => ?_)
theorem huff_Encode.mono : ∀ a0 k, LeO (huff_Encode.f k a0) (huff_Encode.f (k + 1) a0) := by
 intro a0 k
 obtain ⟨ih0, ih1⟩ := huff_Encode.mono_l k
 unfold huff_Encode.f
 repeat' first
   | (with_reducible exact ih0 _ _ _ _ _ _)
   | (with_reducible exact ih1 _ _ _ _ _ _)
   | (with_reducible exact huff_Size.mono _ _)
   | (with_reducible exact LeO.refl _)
   | (with_reducible exact LeO.none _)
   | (with_reducible refine LeO.ite ?_ ?_)
   | (with_reducible refine LeO.bind ?_ (fun _ => ?_))
   | exact ih0 _ _ _ _ _ _
   | exact ih1 _ _ _ _ _ _
   | exact huff_Size.mono _ _
   | exact LeO.none _
   | refine LeO.ite ?_ ?_
   | refine LeO.bind ?_ (fun _ => ?_)
def huff_Encode.T8 : Bool × List (List Nat × List Nat) := (true, [([], []), ([], []), ([0, 1], [0, 1]), ([], []), ([], []), ([3], [3]), ([5], [5]), ([6, 4], [4, 6]), ([7], [7]), ([8], [8]), ([2, 9], [2, 9]), ([], []), ([], []), ([11, 12], [11, 12]), ([10, 0, 1, 2, 3, 4, 5, 6, 7, 8, 9, 10], [0, 10]), ([13, 14, 0, 1, 2, 3, 4, 5, 6, 7, 8, 9, 10, 11, 12, 13, 14], [11, 13])])
def huff_Encode.B8 : List Nat := [0, 0, 3, 0, 0, 8, 40, 120, 248, 504, 1023, 0, 0, 6144, 2047, 32767]
theorem huff_Encode.tab8 : rtab .any (opsOf Tryd.f82 8) = huff_Encode.T8 := by kernel_rfl
theorem huff_Encode.bits8 : waitsOk huff_Encode.T8.2 huff_Encode.B8 = true := by kernel_rfl
def huff_Encode.T15 : Bool × List (List Nat × List Nat) := (true, [([], []), ([], []), ([], []), ([2], [2]), ([1, 3], [1, 3]), ([4], [4]), ([], []), ([6], [6]), ([7], [7]), ([8], [8]), ([5, 9], [5, 9]), ([10], [10]), ([0, 11], [0, 11]), ([12, 12, 0, 1, 2, 3, 4, 5, 6, 7, 8, 9, 10, 11, 12], [0, 12])])
def huff_Encode.B15 : List Nat := [0, 0, 0, 4, 14, 30, 0, 64, 192, 448, 1022, 2046, 4095, 8191]
theorem huff_Encode.tab15 : rtab .any (opsOf Tryd.f82 15) = huff_Encode.T15 := by kernel_rfl
theorem huff_Encode.bits15 : waitsOk huff_Encode.T15.2 huff_Encode.B15 = true := by kernel_rfl
set_option maxHeartbeats 8000000 in
set_option maxRecDepth 100000 in
theorem huff_Encode.calls (k : Nat) (a0 : ByteArray) (r : ByteArray) (w : World) (h : huff_Encode.f k a0 = some r) :
  Calls Tryd.prog 82 #[.string a0] w fun e w' => e = .returned (.string r) ∧ Below w.heap.size w w' := by
 have HB := Aside0.mk (Below.refl w.heap.size w)
 have H : ((huff_made.f).bind fun _ => ((huff_Size.f k a0).bind fun t123 => (if 0 ≤ t123 then (if (t123 : Int).toNat ≤ 281474976710656 then (if (a0.size : Int) ≤ 9223372036854775807 then ((some (bytesOf a0 : List Int)).bind fun y127 => (huff_Encode.l0 k (List.replicate 0 0) 0 0 y127 (y127.length : Int) 0)) else (none)) else (none)) else (none)))) = some r := h
 clear h
 replace H := Option.bind_eq_some_iff.mp H
 obtain ⟨_, A20, H⟩ := H
 replace H : ((huff_Size.f k a0).bind fun t123 => (if 0 ≤ t123 then (if (t123 : Int).toNat ≤ 281474976710656 then (if (a0.size : Int) ≤ 9223372036854775807 then ((some (bytesOf a0 : List Int)).bind fun y127 => (huff_Encode.l0 k (List.replicate 0 0) 0 0 y127 (y127.length : Int) 0)) else (none)) else (none)) else (none))) = some r := H
 have A2 := Aside0.mk A20
 clear A20
 replace H := Option.bind_eq_some_iff.mp H
 obtain ⟨t123, A30, H⟩ := H
 replace H : (if 0 ≤ t123 then (if (t123 : Int).toNat ≤ 281474976710656 then (if (a0.size : Int) ≤ 9223372036854775807 then ((some (bytesOf a0 : List Int)).bind fun y127 => (huff_Encode.l0 k (List.replicate 0 0) 0 0 y127 (y127.length : Int) 0)) else (none)) else (none)) else (none)) = some r := H
 have A3 := Aside0.mk A30
 clear A30
 by_cases c4 : 0 ≤ t123
 ·
  rw [if_pos c4] at H
  have c4b0 := eq_true c4
  have c4b1 : decide (0 ≤ t123) = true := decide_eq_true c4
  clear c4
  by_cases c5 : (t123 : Int).toNat ≤ 281474976710656
  ·
   rw [if_pos c5] at H
   have c5b0 := eq_true c5
   have c5b1 : decide ((t123 : Int).toNat ≤ 281474976710656) = true := decide_eq_true c5
   clear c5
   obtain ⟨y124, hy124⟩ : ∃ y_ : List Int, y_ = (List.replicate 0 0) := ⟨_, rfl⟩
   replace H : (if (a0.size : Int) ≤ 9223372036854775807 then ((some (bytesOf a0 : List Int)).bind fun y127 => (huff_Encode.l0 k y124 0 0 y127 (y127.length : Int) 0)) else (none)) = some r := by first | (rw [hy124]; with_reducible exact H) | (have H2_ := (Option.bind_some _ _).symm.trans H; rw [hy124]; with_reducible exact H2_) | (have H2_ := (Option.bind_some _ _).symm.trans H; with_reducible exact H2_) | with_reducible exact H | (rw [hy124]; exact H) | exact H
   have Ny124 := Aside0.mk hy124
   clear hy124
   by_cases c6 : (a0.size : Int) ≤ 9223372036854775807
   ·
    rw [if_pos c6] at H
    have c6b0 := eq_true c6
    have c6b1 : decide ((a0.size : Int) ≤ 9223372036854775807) = true := decide_eq_true c6
    try have c6b2 : (9223372036854775807 < (a0.size : Int)) = False := eq_false (Nat.not_lt.2 c6)
    clear c6
    obtain ⟨y127, hy127⟩ : ∃ y_ : List Int, y_ = (bytesOf a0) := ⟨_, rfl⟩
    replace H : (huff_Encode.l0 k y124 0 0 y127 (y127.length : Int) 0) = some r := by first | (rw [hy127]; with_reducible exact H) | (have H2_ := (Option.bind_some _ _).symm.trans H; rw [hy127]; with_reducible exact H2_) | (have H2_ := (Option.bind_some _ _).symm.trans H; with_reducible exact H2_) | with_reducible exact H | (rw [hy127]; exact H) | exact H
    have Ny127 := Aside0.mk hy127
    clear hy127
    have H' := Aside0.mk H
    clear H
    go_enter Tryd.func82, Tryd.ntmps82
    go_wp2_with (first | ((with_reducible refine gate_callee (f := 93) rfl ?_); refine goesL_ (some 10) rfl rfl Tryd.func93 (by kernel_rfl) rfl #[] rfl (by (try simp only [List.map_toArray, List.map_cons, List.map_nil]); first | done | rfl | (simp only [List.length_drop, List.length_take]; rfl)) ?_; (with_reducible refine (huff_made.calls   w _ ?side1 A2.out).mono ?_); (case side1 => repeat (first | (with_reducible first | exact HB.out | apply below_alloc | apply pw_below_drewN | apply below_drew1) | exact HB.out)); rintro e w7 ⟨g122, rfl, hi, hb, hb2⟩; refine ⟨_, rfl, ?_⟩; have n0_ := Aside0.mk (hb); have n1_ := Aside0.mk (hi); clear HB; have HB := n0_; have HI122 := n1_; clear n0_ n1_; (try clear hb); (try clear hb2); (try clear hk); (try clear hi)) | ((with_reducible refine gate_callee (f := 81) rfl ?_); refine goesL_ (some 12) rfl rfl Tryd.func81 (by kernel_rfl) rfl #[.string a0] rfl (by (try simp only [List.map_toArray, List.map_cons, List.map_nil]); first | done | rfl | (simp only [List.length_drop, List.length_take]; rfl)) ?_; (with_reducible refine (huff_Size.calls k a0 t123 _ A3.out).mono ?_); rintro e w8 ⟨rfl, hb⟩; refine ⟨_, rfl, ?_⟩; have n0_ := Aside0.mk (IsS149.below (by repeat (first | (with_reducible first | exact HI122.out | apply IsS149.alloc | apply IsS149.drewN | apply IsS149.drew) | exact HI122.out)) hb); have n1_ := Aside0.mk (below_step (by repeat (first | (with_reducible first | exact HB.out | apply below_alloc | apply pw_below_drewN | apply below_drew1 | refine below_set ?_ (IsS149.ge HI122.out)) | exact HB.out)) hb); clear HI122; clear HB; have HI122 := n0_; have HB := n1_; clear n0_ n1_; (try clear hb); (try clear hb2); (try clear hk); (try clear hi)) | ((with_reducible refine gate_dst (N := 13) rfl ?_); refine Kd.R_makecap (Kd.int .u8) _ 5 rfl (N := 13) rfl 71 _ _ rfl 0 t123 rfl rfl Tryd.underlying71 (.int .u8 0) 1 info5 rfl (by decide) (by omega) 0 (ok := fun _ => True) (okp := fun _ => True) rfl (fun _ hk => hk) trivial (by omega) (of_decide_eq_true (by first | (with_reducible assumption) | assumption)) (Nat.le_trans (Nat.mul_le_mul_right _ (of_decide_eq_true (by first | (with_reducible assumption) | assumption) : (t123 : Int).toNat ≤ 281474976710656)) (by omega)) (Below.refl _ _) (Nat.le_refl _) ?_; intro v125 w9 ho10 hb hg_ hnew_; clear hg_ hnew_; (first | rw [← Ny124.out] at ho10 | (simp only [Int.reduceToNat] at ho10; rw [← Ny124.out] at ho10)); have n0_ := Aside0.mk (Kd.R_lower ho10 (below_size (by repeat (first | (with_reducible first | exact HB.out | apply below_alloc | apply pw_below_drewN | apply below_drew1 | refine below_set ?_ (IsS149.ge HI122.out)) | exact HB.out)))); have n1_ := Aside0.mk (IsS149.below (by repeat (first | (with_reducible first | exact HI122.out | apply IsS149.alloc | apply IsS149.drewN | apply IsS149.drew) | exact HI122.out)) hb); have n2_ := Aside0.mk (below_step (by repeat (first | (with_reducible first | exact HB.out | apply below_alloc | apply pw_below_drewN | apply below_drew1 | refine below_set ?_ (IsS149.ge HI122.out)) | exact HB.out)) hb); clear HI122; clear HB; have HO126 := n0_; have HI122 := n1_; have HB := n2_; clear n0_ n1_ n2_; clear hb ho10) | ((with_reducible refine gate_dst (N := 15) rfl ?_); refine Kd.V_conv _ 5 rfl (N' := 15) rfl 9 71 _ rfl a0 rfl Tryd.underlying9 Tryd.underlying71 Tryd.underlying5 (by have h_ : ((a0.size : Int) : Int) ≤ 9223372036854775807 := of_decide_eq_true (by first | (with_reducible assumption) | assumption); omega) (Below.refl _ _) (Nat.le_refl _) ?_; intro v128 w11 ho12 hb hg_ hnew_; clear hg_ hnew_; (first | rw [← Ny127.out] at ho12 | (simp only [Int.reduceToNat] at ho12; rw [← Ny127.out] at ho12)); have n0_ := Aside0.mk (Kd.R_below (by (with_reducible repeat (first | apply Kd.R_alloc | apply Kd.R_drewN | apply Kd.R_drew)); exact HO126.out) hb); have n1_ := Aside0.mk (Kd.V_lower (Kd.V_mono (ok' := fun k_ => some k_ ≠ (v125 : Value).ownBlock ∧ k_ ≠ g122) ho12 (fun k_ hk_ => ⟨(Kd.fresh' (Kd.R_lt (by (with_reducible repeat (first | apply Kd.R_alloc | apply Kd.R_drewN | apply Kd.R_drew)); exact HO126.out)) k_ hk_), (IsS149.fresh (by repeat (first | (with_reducible first | exact HI122.out | apply IsS149.alloc | apply IsS149.drewN | apply IsS149.drew) | exact HI122.out)) k_ hk_)⟩)) (below_size (by repeat (first | (with_reducible first | exact HB.out | apply below_alloc | apply pw_below_drewN | apply below_drew1 | refine below_set ?_ (IsS149.ge HI122.out)) | exact HB.out)))); have n2_ := Aside0.mk (IsS149.below (by repeat (first | (with_reducible first | exact HI122.out | apply IsS149.alloc | apply IsS149.drewN | apply IsS149.drew) | exact HI122.out)) hb); have n3_ := Aside0.mk (below_step (by repeat (first | (with_reducible first | exact HB.out | apply below_alloc | apply pw_below_drewN | apply below_drew1 | refine below_set ?_ (IsS149.ge HI122.out)) | exact HB.out)) hb); clear HO126; clear HI122; clear HB; have HO126 := n0_; have HO129 := n1_; have HI122 := n2_; have HB := n3_; clear n0_ n1_ n2_ n3_; clear hb ho12; obtain ⟨Ao13, co13, eo13⟩ := Kd.V_slice HO129.out; subst eo13))
    go_loopg [4, 5, 6, 17] k (fun kq v4 v5 v6 v17 w' => ∃ (x4_1 : List Int) (x5_1 : Int) (x6_1 : Int) (x17_1 : Int), v5 = .int .u64 x5_1 ∧ v6 = .int .i64 x6_1 ∧ v17 = .int .i64 x17_1 ∧ Aside0 (huff_Encode.l0 kq x4_1 x5_1 x6_1 y127 (y127.length : Int) x17_1 = some r) ∧ Aside0 (kq ≤ k) ∧ Aside0 (Kd.R (Kd.int .u8) 5 w' w.heap.size (fun _ => True) v4 x4_1) ∧ Aside0 (Kd.V (Kd.int .u8) 5 w' w.heap.size (fun k_ => some k_ ≠ (v4 : Value).ownBlock ∧ k_ ≠ g122) (.slice Ao13 y127.length co13) y127) ∧ Aside0 (IsS149 w w' g122 ) ∧ Aside0 (Below w.heap.size w w'))
    case atStart => exact ⟨(y124), (0), (0), (0), (by first | rfl | (simp; done) | (simp [*]; done)), (by first | rfl | (simp; done) | (simp [*]; done)), (by first | rfl | (simp; done) | (simp [*]; done)), H', ⟨Nat.le_refl _⟩, ⟨by (with_reducible repeat (first | apply Kd.R_alloc | apply Kd.R_drewN | apply Kd.R_drew)); exact HO126.out⟩, ⟨by (with_reducible repeat (first | apply Kd.V_alloc | apply Kd.V_drewN | apply Kd.V_drew)); exact HO129.out⟩, ⟨by repeat (first | (with_reducible first | exact HI122.out | apply IsS149.alloc | apply IsS149.drewN | apply IsS149.drew) | exact HI122.out)⟩, ⟨by repeat (first | (with_reducible first | exact HB.out | apply below_alloc | apply pw_below_drewN | apply below_drew1 | refine below_set ?_ (IsS149.ge HI122.out)) | exact HB.out)⟩⟩
    case round =>
     clear H'
     try clear p2
     try clear c4
     try clear c4b0
     try clear c4b1
     try clear c5
     try clear c5b0
     try clear c5b1
     try clear c6
     try clear c6b0
     try clear c6b1
     try clear c6b2
     try clear c8
     try clear c9
     obtain ⟨x4_1, x5_1, x6_1, x17_1, rfl, rfl, rfl, HA, HK1, HO_4, HO_15, HI122, HB⟩ := hrel
     cases gk with
     | zero => exact absurd HA.out (by simp [huff_Encode.l0])
     | succ k1 =>
      have H := HA.out
      clear HA
      simp only [huff_Encode.l0] at H
      by_cases c14 : x17_1 < (y127.length : Int)
      ·
       rw [if_pos c14] at H
       have c14b0 : decide (x17_1 < (y127.length : Int)) = true := decide_eq_true c14
       clear c14
       by_cases c15 : 0 ≤ x17_1
       ·
        rw [if_pos c15] at H
        have c15b0 : decide (0 ≤ x17_1) = true := decide_eq_true c15
        clear c15
        by_cases c16 : x17_1 < (y127.length : Int)
        ·
         rw [if_pos c16] at H
         have c16b0 : decide (x17_1 < (y127.length : Int)) = true := decide_eq_true c16
         clear c16
         replace H := Option.bind_eq_some_iff.mp H
         obtain ⟨t134, A170, H⟩ := H
         replace H : (if 0 ≤ t134 then (if 0 ≤ (rd y127 x17_1) then (if (rd y127 x17_1) < 257 then (huff_Encode.l1 k1 x4_1 (Go.bits .or .u64 (shl .u64 x5_1 t134) (IntKind.u64.wrap (hb0 (rd y127 x17_1)))) (wrap64 (x6_1 + t134)) y127 (y127.length : Int) x17_1) else (none)) else (none)) else (none)) = some r := H
         have A17 := Aside0.mk A170
         clear A170
         by_cases c18 : 0 ≤ t134
         ·
          rw [if_pos c18] at H
          have c18b0 := eq_true c18
          have c18b1 : decide (0 ≤ t134) = true := decide_eq_true c18
          clear c18
          obtain ⟨ji19, hji19⟩ : ∃ j_ : Int, (shl .u64 x5_1 t134) = j_ := ⟨_, rfl⟩
          replace H : (if 0 ≤ (rd y127 x17_1) then (if (rd y127 x17_1) < 257 then (huff_Encode.l1 k1 x4_1 (Go.bits .or .u64 (ji19) (IntKind.u64.wrap (hb0 (rd y127 x17_1)))) (wrap64 (x6_1 + t134)) y127 (y127.length : Int) x17_1) else (none)) else (none)) = some r := by first | (rw [hji19] at H; exact H) | (simp only [hji19] at H ⊢; exact H)
          (try rw [hji19] at A17)
          have hji19_ : (IntKind.u64.wrap (x5_1 * 2 ^ min t134.toNat 64)) = ji19 := hji19
          have hji19z : t134 ≤ 64 → (IntKind.u64.wrap (x5_1 * 2 ^ t134.toNat)) = ji19 := shl_small hji19
          by_cases c20 : 0 ≤ (rd y127 x17_1)
          ·
           rw [if_pos c20] at H
           have c20b0 : decide (0 ≤ (rd y127 x17_1)) = true := decide_eq_true c20
           clear c20
           by_cases c21 : (rd y127 x17_1) < 257
           ·
            rw [if_pos c21] at H
            have c21b0 : decide ((rd y127 x17_1) < 257) = true := decide_eq_true c21
            clear c21
            have H' := Aside0.mk H
            clear H
            have p133 : 0 ≤ (x17_1 : Int) := of_decide_eq_true (by first | (with_reducible assumption) | assumption)
            have q133 : x17_1 < (y127.length : Int) := of_decide_eq_true (by first | (with_reducible assumption) | assumption)
            obtain ⟨ad133, e133, hx133_0⟩ := Kd.at_int (Kd.V_reads' HO_15.out).2.2 x17_1 p133 q133
            cases e133
            replace p133 := eq_true p133
            replace q133 := eq_true q133
            try go_wp2_with (first | ((with_reducible refine gate_callee (f := 92) rfl ?_); refine goesL_ (some 23) rfl rfl Tryd.func92 (by kernel_rfl) rfl #[.int .i64 (wrap64 (rd y127 x17_1))] rfl (by (try simp only [List.map_toArray, List.map_cons, List.map_nil]); first | done | rfl | (simp only [List.length_drop, List.length_take]; rfl)) ?_; (with_reducible refine (huff_bits.calls (wrap64 (rd y127 x17_1)) t134 _ A17.out).mono ?_); rintro e w' ⟨rfl, ⟨nd, rfl⟩⟩; refine ⟨_, rfl, ?_⟩))
            (try (rw [drewN_self wr]; generalize hq_ : World.drewN wr _ = wr; have n0_ : Aside0 (Kd.V (Kd.int .u8) 5 wr w.heap.size (fun k_ => some k_ ≠ (u4 : Value).ownBlock ∧ k_ ≠ g122) (.slice (some ad133) y127.length co13) y127) := ⟨by rw [← hq_]; exact (by (with_reducible repeat (first | apply Kd.V_alloc | apply Kd.V_drewN | apply Kd.V_drew)); exact HO_15.out)⟩; have n1_ : Aside0 (Kd.R (Kd.int .u8) 5 wr w.heap.size (fun _ => True) u4 x4_1) := ⟨by rw [← hq_]; exact (by (with_reducible repeat (first | apply Kd.R_alloc | apply Kd.R_drewN | apply Kd.R_drew)); exact HO_4.out)⟩; have n2_ : Aside0 (IsS149 w wr g122 ) := ⟨by rw [← hq_]; exact (by repeat (first | (with_reducible first | exact HI122.out | apply IsS149.alloc | apply IsS149.drewN | apply IsS149.drew) | exact HI122.out))⟩; have n3_ : Aside0 (Below w.heap.size w wr) := ⟨by rw [← hq_]; exact (by repeat (first | (with_reducible first | exact HB.out | apply below_alloc | apply pw_below_drewN | apply below_drew1 | refine below_set ?_ (IsS149.ge HI122.out)) | exact HB.out))⟩; clear HO_15 HO_4 HI122 HB hq_; have HO_15 := n0_; have HO_4 := n1_; have HI122 := n2_; have HB := n3_; clear n0_ n1_ n2_ n3_))
            have n0_ := Aside0.mk (Kd.R_drew HO_4.out)
            have n1_ := Aside0.mk (Kd.V_drew HO_15.out)
            have n2_ := Aside0.mk (IsS149.drew HI122.out)
            have n3_ := Aside0.mk (below_drew1 HB.out)
            clear HO_4
            clear HO_15
            clear HI122
            clear HB
            have HO_4 := n0_
            have HO_15 := n1_
            have HI122 := n2_
            have HB := n3_
            clear n0_ n1_ n2_ n3_
            have p22 : 0 ≤ ((rd y127 x17_1) : Int) := (by first | omega | exact (of_decide_eq_true (by first | (with_reducible assumption) | assumption)))
            have q22 : ((rd y127 x17_1) : Int) < 257 := (by first | omega | exact (of_decide_eq_true (by first | (with_reducible assumption) | assumption)))
            have hx22_0 := hb0_at HI122.out (rd y127 x17_1) p22 q22
            replace p22 := eq_true p22
            replace q22 := eq_true q22
            refine start_ (n := 16) (S := fun w' => w'.cell? ⟨g122, ((rd y127 x17_1)).toNat, none⟩ = some (.int .u32 (hb0 (rd y127 x17_1)))) (ds := []) #[false, false, false, false, false, false, false, false, false, false, false, false, false, false, false, false] (by kernel_rfl) rfl rfl (hx22_0) (fun hHeld => ?_); refine with_tabW huff_Encode.tab8 huff_Encode.bits8 (fun HT_ HW_ => ?_)
            generalize wr.drew = w23 at HO_4 HO_15 HI122 HB hx22_0 hHeld ⊢
            refine pure_ (i := 0) (N := some 24) (v := ?_) (a' := ?_) #[true, false, false, false, false, false, false, false, false, false, false, false, false, false, false, false] rfl rfl (any_of HT_.out (by kernel_rfl)) (fun _ _ _ h => h) (Or.inl ⟨by rfl, ?_⟩) ?_ ?_
            rotate_left
            ·
             intro w'
             go_simp
             with_reducible rfl
            rotate_left
            ·
             simp only [Act.put, List.setIfInBounds_toArray, List.set_cons_zero, List.set_cons_succ, i64_w, i32_w]
             rfl
            refine pure_ (i := 1) (N := some 25) (v := ?_) (a' := ?_) #[true, true, false, false, false, false, false, false, false, false, false, false, false, false, false, false] rfl rfl (any_of HT_.out (by kernel_rfl)) (fun _ _ _ h => h) (Or.inl ⟨by rfl, ?_⟩) ?_ ?_
            rotate_left
            ·
             intro w'
             go_simp
             with_reducible rfl
            rotate_left
            ·
             simp only [Act.put, List.setIfInBounds_toArray, List.set_cons_zero, List.set_cons_succ, i64_w, i32_w]
             rfl
            refine pure_ (i := 2) (N := some 26) (v := ?_) (a' := ?_) #[true, true, true, false, false, false, false, false, false, false, false, false, false, false, false, false] rfl rfl (any_of HT_.out (by kernel_rfl)) (fun _ _ _ h => h) (Or.inl ⟨by rfl, ?_⟩) ?_ ?_
            rotate_left
            ·
             intro w'
             go_simp
             with_reducible rfl
            rotate_left
            ·
             simp only [Act.put, List.setIfInBounds_toArray, List.set_cons_zero, List.set_cons_succ, i64_w, i32_w]
             rfl
            refine pure_ (i := 3) (N := some 27) (v := ?_) (a' := ?_) #[true, true, true, true, false, false, false, false, false, false, false, false, false, false, false, false] rfl rfl (any_of HT_.out (by kernel_rfl)) (fun _ _ _ h => h) (Or.inl ⟨by rfl, ?_⟩) ?_ ?_
            rotate_left
            ·
             intro w'
             go_simp
             with_reducible rfl
            rotate_left
            ·
             simp only [Act.put, List.setIfInBounds_toArray, List.set_cons_zero, List.set_cons_succ, i64_w, i32_w]
             rfl
            refine pure_ (i := 4) (N := some 28) (v := ?_) (a' := ?_) #[true, true, true, true, true, false, false, false, false, false, false, false, false, false, false, false] rfl rfl (any_of HT_.out (by kernel_rfl)) (fun _ _ _ h => h) (Or.inl ⟨by rfl, ?_⟩) ?_ ?_
            rotate_left
            ·
             intro w'
             go_simp
             with_reducible rfl
            rotate_left
            ·
             simp only [Act.put, List.setIfInBounds_toArray, List.set_cons_zero, List.set_cons_succ, i64_w, i32_w]
             rfl
            refine pure_ (i := 5) (N := some 29) (v := ?_) (a' := ?_) #[true, true, true, true, true, true, false, false, false, false, false, false, false, false, false, false] rfl rfl (any_of HT_.out (by kernel_rfl)) (fun _ _ _ h => h) (Or.inl ⟨by rfl, ?_⟩) ?_ ?_
            rotate_left
            ·
             intro w'
             go_simp
             with_reducible rfl
            rotate_left
            ·
             simp only [Act.put, List.setIfInBounds_toArray, List.set_cons_zero, List.set_cons_succ, i64_w, i32_w]
             rfl
            refine pure_ (i := 6) (N := some 30) (v := ?_) (a' := ?_) #[true, true, true, true, true, true, true, false, false, false, false, false, false, false, false, false] rfl rfl (any_of HT_.out (by kernel_rfl)) (fun _ _ _ h => h) (Or.inl ⟨by rfl, ?_⟩) ?_ ?_
            rotate_left
            ·
             intro w'
             go_simp
             with_reducible rfl
            rotate_left
            ·
             simp only [Act.put, List.setIfInBounds_toArray, List.set_cons_zero, List.set_cons_succ, i64_w, i32_w]
             rfl
            refine pure_ (i := 7) (N := some 31) (v := ?_) (a' := ?_) #[true, true, true, true, true, true, true, true, false, false, false, false, false, false, false, false] rfl rfl (any_of HT_.out (by kernel_rfl)) (fun _ _ _ h => h) (Or.inl ⟨by rfl, ?_⟩) ?_ ?_
            rotate_left
            ·
             intro w'
             go_simp
             with_reducible rfl
            rotate_left
            ·
             simp only [Act.put, List.setIfInBounds_toArray, List.set_cons_zero, List.set_cons_succ, i64_w, i32_w]
             rfl
            refine pure_ (i := 11) (N := some 35) (v := ?_) (a' := ?_) #[true, true, true, true, true, true, true, true, false, false, false, true, false, false, false, false] rfl rfl (any_of HT_.out (by kernel_rfl)) (fun _ _ _ h => h) (Or.inl ⟨by rfl, ?_⟩) ?_ ?_
            rotate_left
            ·
             intro w'
             go_simp
             with_reducible rfl
            rotate_left
            ·
             simp only [Act.put, List.setIfInBounds_toArray, List.set_cons_zero, List.set_cons_succ, i64_w, i32_w]
             rfl
            refine pure_ (i := 12) (N := some 36) (v := ?_) (a' := ?_) #[true, true, true, true, true, true, true, true, false, false, false, true, true, false, false, false] rfl rfl (any_of HT_.out (by kernel_rfl)) (fun _ _ _ h => h) (Or.inl ⟨by rfl, ?_⟩) ?_ ?_
            rotate_left
            ·
             intro w'
             go_simp
             with_reducible rfl
            rotate_left
            ·
             simp only [Act.put, List.setIfInBounds_toArray, List.set_cons_zero, List.set_cons_succ, i64_w, i32_w]
             rfl
            refine pure_ (i := 13) (N := some 37) (v := ?_) (a' := ?_) #[true, true, true, true, true, true, true, true, false, false, false, true, true, true, false, false] rfl rfl (any_of HT_.out (by kernel_rfl)) (fun _ _ _ h => h) (Or.inl ⟨by rfl, ?_⟩) ?_ ?_
            rotate_left
            ·
             intro w'
             go_simp
             with_reducible rfl
            rotate_left
            ·
             simp only [Act.put, List.setIfInBounds_toArray, List.set_cons_zero, List.set_cons_succ, i64_w, i32_w]
             rfl
            refine take_ (i := 8) (N := some 32) (v := ?_) (a' := ?_) #[true, true, true, true, true, true, true, true, true, false, false, true, true, true, false, false] rfl rfl (take_ofW HT_.out HW_.out (by kernel_rfl)) (fun _ _ _ h => h) (Or.inl ⟨by rfl, ?_⟩) hHeld ?_ ?_
            rotate_left
            ·
             intro w' s0
             go_simp
             with_reducible rfl
            rotate_left
            ·
             simp only [Act.put, List.setIfInBounds_toArray, List.set_cons_zero, List.set_cons_succ, i64_w, i32_w]
             rfl
            refine pure_ (i := 9) (N := some 33) (v := ?_) (a' := ?_) #[true, true, true, true, true, true, true, true, true, true, false, true, true, true, false, false] rfl rfl (any_of HT_.out (by kernel_rfl)) (fun _ _ _ h => h) (Or.inl ⟨by rfl, ?_⟩) ?_ ?_
            rotate_left
            ·
             intro w'
             go_simp
             with_reducible rfl
            rotate_left
            ·
             simp only [Act.put, List.setIfInBounds_toArray, List.set_cons_zero, List.set_cons_succ, i64_w, i32_w]
             rfl
            refine pure_ (i := 10) (N := some 34) (v := ?_) (a' := ?_) #[true, true, true, true, true, true, true, true, true, true, true, true, true, true, false, false] rfl rfl (any_of HT_.out (by kernel_rfl)) (fun _ _ _ h => h) (Or.inl ⟨by rfl, ?_⟩) ?_ ?_
            rotate_left
            ·
             intro w'
             go_simp
             with_reducible rfl
            rotate_left
            ·
             simp only [Act.put, List.setIfInBounds_toArray, List.set_cons_zero, List.set_cons_succ, i64_w, i32_w]
             rfl
            refine pure_ (i := 14) (N := some 5) (v := ?_) (a' := ?_) #[true, true, true, true, true, true, true, true, true, true, true, true, true, true, true, false] rfl rfl (any_of HT_.out (by kernel_rfl)) (fun _ _ _ h => h) (Or.inl ⟨by rfl, ?_⟩) ?_ ?_
            rotate_left
            ·
             intro w'
             go_simp
             with_reducible rfl
            rotate_left
            ·
             simp only [Act.put, List.setIfInBounds_toArray, List.set_cons_zero, List.set_cons_succ, i64_w, i32_w]
             rfl
            refine pure_ (i := 15) (N := some 6) (v := ?_) (a' := ?_) #[true, true, true, true, true, true, true, true, true, true, true, true, true, true, true, true] rfl rfl (any_of HT_.out (by kernel_rfl)) (fun _ _ _ h => h) (Or.inl ⟨by rfl, ?_⟩) ?_ ?_
            rotate_left
            ·
             intro w'
             go_simp
             with_reducible rfl
            rotate_left
            ·
             simp only [Act.put, List.setIfInBounds_toArray, List.set_cons_zero, List.set_cons_succ, i64_w, i32_w]
             rfl
            refine done_ (done_of HT_.out (by kernel_rfl)) ?_
            try go_wp2
            go_loopg [4, 6] k1 (fun kq v4 v6 w' => ∃ (x4_2 : List Int) (x6_2 : Int), v6 = .int .i64 x6_2 ∧ Aside0 (huff_Encode.l1 kq x4_2 (Go.bits .or .u64 (ji19) (IntKind.u64.wrap (hb0 (rd y127 x17_1)))) x6_2 y127 (y127.length : Int) x17_1 = some r) ∧ Aside0 (kq ≤ k1) ∧ Aside0 (Kd.R (Kd.int .u8) 5 w' w.heap.size (fun _ => True) v4 x4_2) ∧ Aside0 (Kd.V (Kd.int .u8) 5 w' w.heap.size (fun k_ => some k_ ≠ (v4 : Value).ownBlock ∧ k_ ≠ g122) (.slice (some ad133) y127.length co13) y127) ∧ Aside0 (IsS149 w w' g122 ) ∧ Aside0 (Below w.heap.size w w'))
            case atStart => exact ⟨(x4_1), (wrap64 (x6_1 + t134)), (by first | rfl | (simp; done) | (simp [*]; done)), H', ⟨Nat.le_refl _⟩, ⟨by (with_reducible repeat (first | apply Kd.R_alloc | apply Kd.R_drewN | apply Kd.R_drew)); exact HO_4.out⟩, ⟨by (with_reducible repeat (first | apply Kd.V_alloc | apply Kd.V_drewN | apply Kd.V_drew)); exact HO_15.out⟩, ⟨by repeat (first | (with_reducible first | exact HI122.out | apply IsS149.alloc | apply IsS149.drewN | apply IsS149.drew) | exact HI122.out)⟩, ⟨by repeat (first | (with_reducible first | exact HB.out | apply below_alloc | apply pw_below_drewN | apply below_drew1 | refine below_set ?_ (IsS149.ge HI122.out)) | exact HB.out)⟩⟩
            case round =>
             clear H'
             try clear c1
             try clear p1
             try clear q1
             try clear hx1
             try clear c2
             try clear p2
             try clear q2
             try clear hx2
             try clear c4
             try clear c4b0
             try clear c4b1
             try clear c5
             try clear c5b0
             try clear c5b1
             try clear c6
             try clear c6b0
             try clear c6b1
             try clear c6b2
             try clear p6
             try clear c8
             try clear c9
             try clear p13
             try clear q13
             try clear hx13
             try clear c14
             try clear c14b0
             try clear c15
             try clear c15b0
             try clear c16
             try clear c16b0
             try clear c18
             try clear c18b0
             try clear c18b1
             try clear c20
             try clear c20b0
             try clear c21
             try clear c21b0
             try clear p22
             try clear q22
             try clear hx22
             try clear hx133_0
             try clear hx22_0
             try clear p133
             try clear p2
             try clear p22
             try clear q133
             try clear q22
             obtain ⟨x4_2, x6_2, rfl, HA, HK2, HO_4, HO_15, HI122, HB⟩ := hrel
             cases gk with
             | zero => exact absurd HA.out (by simp [huff_Encode.l1])
             | succ k2 =>
              have H := HA.out
              clear HA
              simp only [huff_Encode.l1] at H
              by_cases c24 : x6_2 ≥ 8
              ·
               rw [if_pos c24] at H
               have c24b0 : decide (8 ≤ x6_2) = true := decide_eq_true c24
               clear c24
               obtain ⟨ji25, hji25⟩ : ∃ j_ : Int, (wrap64 (x6_2 - 8)) = j_ := ⟨_, rfl⟩
               replace H : (if 0 ≤ (ji25) then (if x4_2.length < 140737488355328 then (huff_Encode.l1 k2 (x4_2 ++ [(shr .u64 (Go.bits .or .u64 (ji19) (IntKind.u64.wrap (hb0 (rd y127 x17_1)))) (ji25)) % 256]) (Go.bits .or .u64 (ji19) (IntKind.u64.wrap (hb0 (rd y127 x17_1)))) ji25 y127 (y127.length : Int) x17_1) else (none)) else (none)) = some r := by first | (rw [hji25] at H; exact H) | (simp only [hji25] at H ⊢; exact H)
               have hji25w : (IntKind.i64.wrap (x6_2 - 8)) = ji25 := (i64_w _).trans hji25
               by_cases c26 : 0 ≤ (ji25)
               ·
                rw [if_pos c26] at H
                have c26b0 := eq_true c26
                have c26b1 : decide (0 ≤ (ji25)) = true := decide_eq_true c26
                clear c26
                obtain ⟨ji27, hji27⟩ : ∃ j_ : Int, (shr .u64 (Go.bits .or .u64 (ji19) (IntKind.u64.wrap (hb0 (rd y127 x17_1)))) (ji25)) = j_ := ⟨_, rfl⟩
                replace H : (if x4_2.length < 140737488355328 then (huff_Encode.l1 k2 (x4_2 ++ [(ji27) % 256]) (Go.bits .or .u64 (ji19) (IntKind.u64.wrap (hb0 (rd y127 x17_1)))) ji25 y127 (y127.length : Int) x17_1) else (none)) = some r := by first | (rw [hji27] at H; exact H) | (simp only [hji27] at H ⊢; exact H)
                have hji27_ : ((Go.bits .or .u64 (ji19) (IntKind.u64.wrap (hb0 (rd y127 x17_1)))) / 2 ^ min (ji25).toNat 64) = ji27 := hji27
                have hji27z : (ji25) ≤ 64 → ((Go.bits .or .u64 (ji19) (IntKind.u64.wrap (hb0 (rd y127 x17_1)))) / 2 ^ (ji25).toNat) = ji27 := shr_small hji27
                by_cases c28 : x4_2.length < 140737488355328
                ·
                 rw [if_pos c28] at H
                 have LMc28 := Aside0.mk c28
                 clear c28
                 obtain ⟨y135, hy135⟩ : ∃ y_ : List Int, y_ = (x4_2 ++ [(ji27) % 256]) := ⟨_, rfl⟩
                 replace H : (huff_Encode.l1 k2 y135 (Go.bits .or .u64 (ji19) (IntKind.u64.wrap (hb0 (rd y127 x17_1)))) ji25 y127 (y127.length : Int) x17_1) = some r := by first | (rw [hy135]; with_reducible exact H) | (have H2_ := (Option.bind_some _ _).symm.trans H; rw [hy135]; with_reducible exact H2_) | (have H2_ := (Option.bind_some _ _).symm.trans H; with_reducible exact H2_) | with_reducible exact H | (rw [hy135]; exact H) | exact H
                 have Ny135 := Aside0.mk hy135
                 clear hy135
                 have H' := Aside0.mk H
                 clear H
                 go_wp2_with (first | ((with_reducible refine gate_builtin (b := .append) (xs := #[.tmp 42, .tmp 47]) rfl ?_); at_builtin; refine Kd.R_append (Kd.int .u8) (w0 := w) w.heap.size rfl (.tmp 42) (.tmp 47) 71 5 (.int .u8 0) 1 rfl Tryd.underlying71 info5 rfl (by decide) (by omega) u4 x4_2 ((ji27) % 256) [.int .u8 ((ji27) % 256)] (fun _ => True) (fun _ => False) rfl rfl ?aP (fun _ hk => hk.elim) ?aF ?aO ?aB ?aS ?aL ?_; (case aP => exact rfl); (case aB => exact (by repeat (first | (with_reducible first | exact HB.out | apply below_alloc | apply pw_below_drewN | apply below_drew1 | refine below_set ?_ (IsS149.ge HI122.out)) | exact HB.out))); (case aF => exact (fun _ _ => trivial)); (case aO => exact (by (with_reducible repeat (first | apply Kd.R_alloc | apply Kd.R_drewN | apply Kd.R_drew)); exact HO_4.out)); (case aS => exact (below_size (by repeat (first | (with_reducible first | exact HB.out | apply below_alloc | apply pw_below_drewN | apply below_drew1 | refine below_set ?_ (IsS149.ge HI122.out)) | exact HB.out)))); (case aL => have := LMc28.out; omega); intro v136 w29 ho hb hg hat; rw [← Ny135.out] at ho; have n0_ := Aside0.mk (Kd.V_afterv (ok := (fun k_ => k_ ≠ g122)) (by (with_reducible repeat (first | apply Kd.V_alloc | apply Kd.V_drewN | apply Kd.V_drew)); exact Kd.V_mono HO_15.out (fun _ hk => ⟨hk.2, hk.1⟩)) hg hat); have n1_ := Aside0.mk (IsS149.grown (w0 := w) (by repeat (first | (with_reducible first | exact HI122.out | apply IsS149.alloc | apply IsS149.drewN | apply IsS149.drew) | exact HI122.out)) hg (IsS149.own_ne HI122.out HO_4.out (by decide))); have n2_ := Aside0.mk (hb); have n3_ := Aside0.mk (ho); clear HO_15; clear HI122; clear HB; clear HO_4; have HO_15 := n0_; have HI122 := n1_; have HB := n2_; have HO137 := n3_; clear n0_ n1_ n2_ n3_; clear ho hb hg hat))
                 go_roundg k2
                 case measure => have := HK1.out; have := HK2.out; omega
                 case rel => exact ⟨(y135), (ji25), (by first | rfl | (simp; done) | (simp only [← hji25] <;> (first | rfl | simp)) | (simp [*]; done)), H', ⟨by have := HK1.out; have := HK2.out; omega⟩, ⟨by (with_reducible repeat (first | apply Kd.R_alloc | apply Kd.R_drewN | apply Kd.R_drew)); exact HO137.out⟩, ⟨by (with_reducible repeat (first | apply Kd.V_alloc | apply Kd.V_drewN | apply Kd.V_drew)); exact Kd.V_mono HO_15.out (fun _ hk => ⟨hk.2, hk.1⟩)⟩, ⟨by repeat (first | (with_reducible first | exact HI122.out | apply IsS149.alloc | apply IsS149.drewN | apply IsS149.drew) | exact HI122.out)⟩, ⟨by repeat (first | (with_reducible first | exact HB.out | apply below_alloc | apply pw_below_drewN | apply below_drew1 | refine below_set ?_ (IsS149.ge HI122.out)) | exact HB.out)⟩⟩
                ·
                 rw [if_neg c28] at H
                 exact absurd H (by simp)
               ·
                rw [if_neg c26] at H
                exact absurd H (by simp)
              ·
               rw [if_neg c24] at H
               have c24b0 : decide (8 ≤ x6_2) = false := decide_eq_false c24
               clear c24
               by_cases c30 : 0 ≤ x6_2
               ·
                rw [if_pos c30] at H
                have c30b0 := eq_true c30
                have c30b1 : decide (0 ≤ x6_2) = true := decide_eq_true c30
                clear c30
                obtain ⟨ji31, hji31⟩ : ∃ j_ : Int, (shl .u64 1 x6_2) = j_ := ⟨_, rfl⟩
                replace H : (huff_Encode.l0 k2 x4_2 (Go.bits .and .u64 (Go.bits .or .u64 (ji19) (IntKind.u64.wrap (hb0 (rd y127 x17_1)))) (IntKind.u64.wrap ((ji31) - 1))) x6_2 y127 (y127.length : Int) (wrap64 (x17_1 + 1))) = some r := by first | (rw [hji31] at H; exact H) | (simp only [hji31] at H ⊢; exact H)
                have hji31_ : (IntKind.u64.wrap (1 * 2 ^ min x6_2.toNat 64)) = ji31 := hji31
                have hji31z : x6_2 ≤ 64 → (IntKind.u64.wrap (1 * 2 ^ x6_2.toNat)) = ji31 := shl_small hji31
                have hji31u : (IntKind.u64.wrap (2 ^ min x6_2.toNat 64)) = ji31 := by have h_ := hji31_; rw [Int.one_mul] at h_; exact h_
                have hji31v : x6_2 ≤ 64 → (IntKind.u64.wrap (2 ^ x6_2.toNat)) = ji31 := fun hle_ => by have h_ := hji31z hle_; rw [Int.one_mul] at h_; exact h_
                have H' := Aside0.mk H
                clear H
                go_wp2
                go_roundg k2
                case measure => have := HK1.out; have := HK2.out; omega
                case rel => exact ⟨(x4_2), (Go.bits .and .u64 (Go.bits .or .u64 (ji19) (IntKind.u64.wrap (hb0 (rd y127 x17_1)))) (IntKind.u64.wrap ((ji31) - 1))), (x6_2), (wrap64 (x17_1 + 1)), (by first | rfl | (simp; done) | (simp only [← hji19, ← hji31] <;> (first | rfl | simp)) | (simp [*]; done)), (by first | rfl | (simp; done) | (simp [*]; done)), (by first | rfl | (simp; done) | (simp [*]; done)), H', ⟨by have := HK1.out; have := HK2.out; omega⟩, ⟨by (with_reducible repeat (first | apply Kd.R_alloc | apply Kd.R_drewN | apply Kd.R_drew)); exact HO_4.out⟩, ⟨by (with_reducible repeat (first | apply Kd.V_alloc | apply Kd.V_drewN | apply Kd.V_drew)); exact HO_15.out⟩, ⟨by repeat (first | (with_reducible first | exact HI122.out | apply IsS149.alloc | apply IsS149.drewN | apply IsS149.drew) | exact HI122.out)⟩, ⟨by repeat (first | (with_reducible first | exact HB.out | apply below_alloc | apply pw_below_drewN | apply below_drew1 | refine below_set ?_ (IsS149.ge HI122.out)) | exact HB.out)⟩⟩
               ·
                rw [if_neg c30] at H
                exact absurd H (by simp)
           ·
            rw [if_neg c21] at H
            exact absurd H (by simp)
          ·
           rw [if_neg c20] at H
           exact absurd H (by simp)
         ·
          rw [if_neg c18] at H
          exact absurd H (by simp)
        ·
         rw [if_neg c16] at H
         exact absurd H (by simp)
       ·
        rw [if_neg c15] at H
        exact absurd H (by simp)
      ·
       rw [if_neg c14] at H
       have c14b0 : decide (x17_1 < (y127.length : Int)) = false := decide_eq_false c14
       clear c14
       by_cases c32 : x6_1 > 0
       ·
        rw [if_pos c32] at H
        have c32b0 : decide (0 < x6_1) = true := decide_eq_true c32
        clear c32
        obtain ⟨ji33, hji33⟩ : ∃ j_ : Int, (wrap64 (8 - x6_1)) = j_ := ⟨_, rfl⟩
        replace H : (if 0 ≤ (ji33) then (if x4_1.length < 140737488355328 then (some (strOfNums (x4_1 ++ [Go.bits .or .u8 ((shl .u64 x5_1 (ji33)) % 256) (((shl .u8 1 (ji33)) - 1) % 256)]))) else (none)) else (none)) = some r := by first | (rw [hji33] at H; exact H) | (simp only [hji33] at H ⊢; exact H)
        have hji33w : (IntKind.i64.wrap (8 - x6_1)) = ji33 := (i64_w _).trans hji33
        by_cases c34 : 0 ≤ (ji33)
        ·
         rw [if_pos c34] at H
         have c34b0 := eq_true c34
         have c34b1 : decide (0 ≤ (ji33)) = true := decide_eq_true c34
         clear c34
         obtain ⟨ji35, hji35⟩ : ∃ j_ : Int, (shl .u64 x5_1 (ji33)) = j_ := ⟨_, rfl⟩
         replace H : (if x4_1.length < 140737488355328 then (some (strOfNums (x4_1 ++ [Go.bits .or .u8 ((ji35) % 256) (((shl .u8 1 (ji33)) - 1) % 256)]))) else (none)) = some r := by first | (rw [hji35] at H; exact H) | (simp only [hji35] at H ⊢; exact H)
         have hji35_ : (IntKind.u64.wrap (x5_1 * 2 ^ min (ji33).toNat 64)) = ji35 := hji35
         have hji35z : (ji33) ≤ 64 → (IntKind.u64.wrap (x5_1 * 2 ^ (ji33).toNat)) = ji35 := shl_small hji35
         have c36b0 := eq_true (of_decide_eq_true (by first | (with_reducible assumption) | assumption) : 0 ≤ (ji33))
         obtain ⟨ji37, hji37⟩ : ∃ j_ : Int, (shl .u8 1 (ji33)) = j_ := ⟨_, rfl⟩
         replace H : (if x4_1.length < 140737488355328 then (some (strOfNums (x4_1 ++ [Go.bits .or .u8 ((ji35) % 256) (((ji37) - 1) % 256)]))) else (none)) = some r := by first | (rw [hji37] at H; exact H) | (simp only [hji37] at H ⊢; exact H)
         have hji37_ : (IntKind.u8.wrap (1 * 2 ^ min (ji33).toNat 8)) = ji37 := hji37
         have hji37z : (ji33) ≤ 8 → (IntKind.u8.wrap (1 * 2 ^ (ji33).toNat)) = ji37 := shl_small hji37
         have hji37u : (IntKind.u8.wrap (2 ^ min (ji33).toNat 8)) = ji37 := by have h_ := hji37_; rw [Int.one_mul] at h_; exact h_
         have hji37v : (ji33) ≤ 8 → (IntKind.u8.wrap (2 ^ (ji33).toNat)) = ji37 := fun hle_ => by have h_ := hji37z hle_; rw [Int.one_mul] at h_; exact h_
         by_cases c38 : x4_1.length < 140737488355328
         ·
          rw [if_pos c38] at H
          have LMc38 := Aside0.mk c38
          clear c38
          obtain ⟨y130, hy130⟩ : ∃ y_ : List Int, y_ = (x4_1 ++ [Go.bits .or .u8 ((ji35) % 256) (((ji37) - 1) % 256)]) := ⟨_, rfl⟩
          replace H : (some (strOfNums y130)) = some r := by first | (rw [hy130]; with_reducible exact H) | (have H2_ := (Option.bind_some _ _).symm.trans H; rw [hy130]; with_reducible exact H2_) | (have H2_ := (Option.bind_some _ _).symm.trans H; with_reducible exact H2_) | with_reducible exact H | (rw [hy130]; exact H) | exact H
          have Ny130 := Aside0.mk hy130
          clear hy130
          obtain rfl := Option.some.inj H
          try go_wp2
          have n0_ := Aside0.mk (Kd.R_drew HO_4.out)
          have n1_ := Aside0.mk (Kd.V_drew HO_15.out)
          have n2_ := Aside0.mk (IsS149.drew HI122.out)
          have n3_ := Aside0.mk (below_drew1 HB.out)
          clear HO_4
          clear HO_15
          clear HI122
          clear HB
          have HO_4 := n0_
          have HO_15 := n1_
          have HI122 := n2_
          have HB := n3_
          clear n0_ n1_ n2_ n3_
          refine start_ (n := 14) (S := fun w' => True) (ds := []) #[false, false, false, false, false, false, false, false, false, false, false, false, false, false] (by kernel_rfl) rfl rfl trivial (fun hHeld => ?_); refine with_tabW huff_Encode.tab15 huff_Encode.bits15 (fun HT_ HW_ => ?_)
          generalize wr.drew = w39 at HO_4 HO_15 HI122 HB hHeld ⊢
          refine pure_ (i := 0) (N := some 57) (v := ?_) (a' := ?_) #[true, false, false, false, false, false, false, false, false, false, false, false, false, false] rfl rfl (any_of HT_.out (by kernel_rfl)) (fun _ _ _ h => h) (Or.inl ⟨by rfl, ?_⟩) ?_ ?_
          rotate_left
          ·
           intro w'
           go_simp
           with_reducible rfl
          rotate_left
          ·
           simp only [Act.put, List.setIfInBounds_toArray, List.set_cons_zero, List.set_cons_succ, i64_w, i32_w]
           rfl
          refine pure_ (i := 1) (N := some 58) (v := ?_) (a' := ?_) #[true, true, false, false, false, false, false, false, false, false, false, false, false, false] rfl rfl (any_of HT_.out (by kernel_rfl)) (fun _ _ _ h => h) (Or.inl ⟨by rfl, ?_⟩) ?_ ?_
          rotate_left
          ·
           intro w'
           go_simp
           with_reducible rfl
          rotate_left
          ·
           simp only [Act.put, List.setIfInBounds_toArray, List.set_cons_zero, List.set_cons_succ, i64_w, i32_w]
           rfl
          refine pure_ (i := 2) (N := some 59) (v := ?_) (a' := ?_) #[true, true, true, false, false, false, false, false, false, false, false, false, false, false] rfl rfl (any_of HT_.out (by kernel_rfl)) (fun _ _ _ h => h) (Or.inl ⟨by rfl, ?_⟩) ?_ ?_
          rotate_left
          ·
           intro w'
           go_simp
           with_reducible rfl
          rotate_left
          ·
           simp only [Act.put, List.setIfInBounds_toArray, List.set_cons_zero, List.set_cons_succ, i64_w, i32_w]
           rfl
          refine pure_ (i := 3) (N := some 60) (v := ?_) (a' := ?_) #[true, true, true, true, false, false, false, false, false, false, false, false, false, false] rfl rfl (any_of HT_.out (by kernel_rfl)) (fun _ _ _ h => h) (Or.inl ⟨by rfl, ?_⟩) ?_ ?_
          rotate_left
          ·
           intro w'
           go_simp
           with_reducible rfl
          rotate_left
          ·
           simp only [Act.put, List.setIfInBounds_toArray, List.set_cons_zero, List.set_cons_succ, i64_w, i32_w]
           rfl
          refine pure_ (i := 4) (N := some 61) (v := ?_) (a' := ?_) #[true, true, true, true, true, false, false, false, false, false, false, false, false, false] rfl rfl (any_of HT_.out (by kernel_rfl)) (fun _ _ _ h => h) (Or.inl ⟨by rfl, ?_⟩) ?_ ?_
          rotate_left
          ·
           intro w'
           go_simp
           with_reducible rfl
          rotate_left
          ·
           simp only [Act.put, List.setIfInBounds_toArray, List.set_cons_zero, List.set_cons_succ, i64_w, i32_w]
           rfl
          refine pure_ (i := 5) (N := some 62) (v := ?_) (a' := ?_) #[true, true, true, true, true, true, false, false, false, false, false, false, false, false] rfl rfl (any_of HT_.out (by kernel_rfl)) (fun _ _ _ h => h) (Or.inl ⟨by rfl, ?_⟩) ?_ ?_
          rotate_left
          ·
           intro w'
           go_simp
           with_reducible rfl
          rotate_left
          ·
           simp only [Act.put, List.setIfInBounds_toArray, List.set_cons_zero, List.set_cons_succ, i64_w, i32_w]
           rfl
          refine pure_ (i := 6) (N := some 63) (v := ?_) (a' := ?_) #[true, true, true, true, true, true, true, false, false, false, false, false, false, false] rfl rfl (any_of HT_.out (by kernel_rfl)) (fun _ _ _ h => h) (Or.inl ⟨by rfl, ?_⟩) ?_ ?_
          rotate_left
          ·
           intro w'
           go_simp
           with_reducible rfl
          rotate_left
          ·
           simp only [Act.put, List.setIfInBounds_toArray, List.set_cons_zero, List.set_cons_succ, i64_w, i32_w]
           rfl
          refine pure_ (i := 7) (N := some 64) (v := ?_) (a' := ?_) #[true, true, true, true, true, true, true, true, false, false, false, false, false, false] rfl rfl (any_of HT_.out (by kernel_rfl)) (fun _ _ _ h => h) (Or.inl ⟨by rfl, ?_⟩) ?_ ?_
          rotate_left
          ·
           intro w'
           go_simp
           with_reducible rfl
          rotate_left
          ·
           simp only [Act.put, List.setIfInBounds_toArray, List.set_cons_zero, List.set_cons_succ, i64_w, i32_w]
           rfl
          refine pure_ (i := 8) (N := some 65) (v := ?_) (a' := ?_) #[true, true, true, true, true, true, true, true, true, false, false, false, false, false] rfl rfl (any_of HT_.out (by kernel_rfl)) (fun _ _ _ h => h) (Or.inl ⟨by rfl, ?_⟩) ?_ ?_
          rotate_left
          ·
           intro w'
           go_simp
           with_reducible rfl
          rotate_left
          ·
           simp only [Act.put, List.setIfInBounds_toArray, List.set_cons_zero, List.set_cons_succ, i64_w, i32_w]
           rfl
          refine pure_ (i := 9) (N := some 66) (v := ?_) (a' := ?_) #[true, true, true, true, true, true, true, true, true, true, false, false, false, false] rfl rfl (any_of HT_.out (by kernel_rfl)) (fun _ _ _ h => h) (Or.inl ⟨by rfl, ?_⟩) ?_ ?_
          rotate_left
          ·
           intro w'
           go_simp
           with_reducible rfl
          rotate_left
          ·
           simp only [Act.put, List.setIfInBounds_toArray, List.set_cons_zero, List.set_cons_succ, i64_w, i32_w]
           rfl
          refine pure_ (i := 10) (N := some 67) (v := ?_) (a' := ?_) #[true, true, true, true, true, true, true, true, true, true, true, false, false, false] rfl rfl (any_of HT_.out (by kernel_rfl)) (fun _ _ _ h => h) (Or.inl ⟨by rfl, ?_⟩) ?_ ?_
          rotate_left
          ·
           intro w'
           go_simp
           with_reducible rfl
          rotate_left
          ·
           simp only [Act.put, List.setIfInBounds_toArray, List.set_cons_zero, List.set_cons_succ, i64_w, i32_w]
           rfl
          refine one_ (i := 11) (N := some 68) #[true, true, true, true, true, true, true, true, true, true, true, true, false, false] rfl rfl (one_of HT_.out (by kernel_rfl)) (by decide) (fun K hK => ?_)
          refine value_ (w1 := ?_) (v := ?_) (by rfl) rfl ?_ ?_
          rotate_left 2
          ·
           go_simp
           constructor
           · rfl
           · rfl
          refine hK.out _ _ trivial (fun hHeld => ?_)
          clear hK K
          refine norm_ (a' := ?_) ?_ ?_
          rotate_left
          ·
           show Act.put _ (some 68) _ = _
           simp only [Act.put, List.setIfInBounds_toArray, List.set_cons_zero, List.set_cons_succ, i64_w, i32_w]
           rfl
          refine one_ (i := 12) (N := some 69) #[true, true, true, true, true, true, true, true, true, true, true, true, true, false] rfl rfl (one_of HT_.out (by kernel_rfl)) (by decide) (fun K hK => ?_)
          refine Kd.R_append_step (Kd.int .u8) (w0 := w) w.heap.size (by rfl) (.tmp 57) (.tmp 68) 71 5 (.int .u8 0) 1 rfl Tryd.underlying71 info5 rfl (by decide) (by omega) u4 x4_1 (Go.bits .or .u8 ((ji35) % 256) (((ji37) - 1) % 256)) [.int .u8 (Go.bits .or .u8 ((ji35) % 256) (((ji37) - 1) % 256))] (fun _ => True) (fun _ => False) rfl rfl ?aP (fun _ hk => hk.elim) ?aF ?aO ?aB ?aS ?aL ?_
          (case aP => exact rfl)
          (case aB => exact (by repeat (first | (with_reducible first | exact HB.out | apply below_alloc | apply pw_below_drewN | apply below_drew1 | refine below_set ?_ (IsS149.ge HI122.out)) | exact HB.out)))
          (case aF => exact (fun _ _ => trivial))
          (case aO => exact (by (with_reducible repeat (first | apply Kd.R_alloc | apply Kd.R_drewN | apply Kd.R_drew)); exact HO_4.out))
          (case aS => exact (below_size (by repeat (first | (with_reducible first | exact HB.out | apply below_alloc | apply pw_below_drewN | apply below_drew1 | refine below_set ?_ (IsS149.ge HI122.out)) | exact HB.out))))
          (case aL => have := LMc38.out; omega)
          intro v131 w40 ho hb hg hat
          rw [← Ny130.out] at ho
          have n0_ := Aside0.mk (Kd.V_afterv (ok := (fun k_ => k_ ≠ g122)) (by (with_reducible repeat (first | apply Kd.V_alloc | apply Kd.V_drewN | apply Kd.V_drew)); exact Kd.V_mono HO_15.out (fun _ hk => ⟨hk.2, hk.1⟩)) hg hat)
          have n1_ := Aside0.mk (IsS149.grown (w0 := w) (by repeat (first | (with_reducible first | exact HI122.out | apply IsS149.alloc | apply IsS149.drewN | apply IsS149.drew) | exact HI122.out)) hg (IsS149.own_ne HI122.out HO_4.out (by decide)))
          have n2_ := Aside0.mk (hb)
          have n3_ := Aside0.mk (ho)
          clear HO_15
          clear HI122
          clear HB
          clear HO_4
          have HO_15 := n0_
          have HI122 := n1_
          have HB := n2_
          have HO132 := n3_
          clear n0_ n1_ n2_ n3_
          clear ho hb hg hat
          refine hK.out _ _ trivial (fun hHeld => ?_)
          clear hK K
          refine norm_ (a' := ?_) ?_ ?_
          rotate_left
          ·
           show Act.put _ (some 69) _ = _
           simp only [Act.put, List.setIfInBounds_toArray, List.set_cons_zero, List.set_cons_succ, i64_w, i32_w]
           rfl
          refine pure_ (i := 13) (N := some 4) (v := ?_) (a' := ?_) #[true, true, true, true, true, true, true, true, true, true, true, true, true, true] rfl rfl (any_of HT_.out (by kernel_rfl)) (fun _ _ _ h => h) (Or.inl ⟨by rfl, ?_⟩) ?_ ?_
          rotate_left
          ·
           intro w'
           go_simp
           with_reducible rfl
          rotate_left
          ·
           simp only [Act.put, List.setIfInBounds_toArray, List.set_cons_zero, List.set_cons_succ, i64_w, i32_w]
           rfl
          refine done_ (done_of HT_.out (by kernel_rfl)) ?_
          have hcv41 := own_string (P := Tryd.prog) Tryd.underlying71 Tryd.underlying5 Tryd.underlying9 (Kd.own_of_R HO132.out)
          try go_wp2
          go_ret
          exact ⟨by first | rfl | (simp [errW_none, errW_some] <;> rfl) | (simp only [← hji33, ← hji35, ← hji37]; first | rfl | (simp [errW_none, errW_some] <;> rfl)) | (simp [*, errW_none, errW_some] <;> rfl), by repeat (first | (with_reducible first | exact HB.out | apply below_alloc | apply pw_below_drewN | apply below_drew1 | refine below_set ?_ (IsS149.ge HI122.out)) | exact HB.out)⟩
         ·
          rw [if_neg c38] at H
          exact absurd H (by simp)
        ·
         rw [if_neg c34] at H
         exact absurd H (by simp)
       ·
        rw [if_neg c32] at H
        have c32b0 : decide (0 < x6_1) = false := decide_eq_false c32
        clear c32
        obtain rfl := Option.some.inj H
        have hcv42 := own_string (P := Tryd.prog) Tryd.underlying71 Tryd.underlying5 Tryd.underlying9 (Kd.own_of_R HO_4.out)
        go_wp2
        go_ret
        exact ⟨by first | rfl | (simp [errW_none, errW_some] <;> rfl) | (simp [*, errW_none, errW_some] <;> rfl), by repeat (first | (with_reducible first | exact HB.out | apply below_alloc | apply pw_below_drewN | apply below_drew1 | refine below_set ?_ (IsS149.ge HI122.out)) | exact HB.out)⟩
   ·
    rw [if_neg c6] at H
    exact absurd H (by simp)
  ·
   rw [if_neg c5] at H
   exact absurd H (by simp)
 ·
  rw [if_neg c4] at H
  exact absurd H (by simp)
end Go.Proofs.YtfkdocmhbmameaaDoor.Mine
