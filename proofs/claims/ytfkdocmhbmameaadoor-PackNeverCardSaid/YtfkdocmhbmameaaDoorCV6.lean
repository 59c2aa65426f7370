/- The walks and the plain laws that the rows come to: merged out of this repo's texts. -/
import Derived.Test.YtfkdocmhbmameaaDoorProg
import Derived.Below
import Derived.Deep.Draws
import Derived.Deep.AppendLies
import Derived.Maps.AppendAt
import Derived.OwnWalk
import Derived.Laws.BytesArg
import Derived.Laws.MakeOwn
import Derived.Laws.OwnMore
import Derived.Deep.OwnRows
import Derived.Tactics
import Derived.Lib.ConvBytes
import Derived.Laws.Slices
import Derived.WalkKit
import Derived.KernelRfl
import Derived.RowKit3
import Derived.Deep.LoopGhost
import Derived.Deep.QuietTactic
import Derived.BigQuiet
import Derived.WideLaws
import Derived.Deep.DeepCutAuto
import Derived.Deep.CutBlock
import Derived.Deep.RegionHeld3
import Derived.Laws.Rows
import Derived.Lib.AppendStr
import Derived.ArgAppend
import Derived.Laws.IdiomCopy
import Derived.RowKit
import Derived.OrdersHeld
import Derived.Laws.BitsLemmas
import Derived.Laws.StructEq
import Derived.Laws.CopyOwn
import Derived.SizedLaws
import Derived.ChangeSlices
import Derived.Deep.Slices
import Derived.Lib.SmallJoins
import Derived.Lib.OthersKept
import Derived.Lib.AppendZerosOnto
import Derived.WalkSpells
import Derived.Test.YtfkdocmhbmameaaDoorCV1
import Derived.Test.YtfkdocmhbmameaaDoorCV2
namespace Go.Proofs.YtfkdocmhbmameaaDoor.Mine
open Go.RowKit Go.Proofs.YtfkdocmhbmameaaDoorW.PrintWords Go.Proofs.YtfkdocmhbmameaaDoorW.PrintLast Go.Proofs.YtfkdocmhbmameaaDoorW.PrintMore
attribute [local go_sem] max2_int min2_int max_two min_two max_three min_three max_four min_four
set_option linter.unusedVariables false
set_option linter.unusedSimpArgs false
mutual
def nuncioref11_Fixed.l0 (tx : ByteArray) : Nat → List (S88) → Bool → Int → ByteArray → ByteArray → Option ((List (S88)))
 | 0, _, _, _, _, _ => none
 | k + 1, x1, x3, x4, x232000, x232001 => if x4 ≤ 758 then (if x4 = 758 then (nuncioref11_Fixed.j1 tx k x1 x3 x4 true x232000 x232001) else (if 0 ≤ x4 then (if x4 < 758 then (nuncioref11_Fixed.j1 tx k x1 x3 x4 ((bt tx x4) == 10) x232000 x232001) else (none)) else (none))) else (some x1)
def nuncioref11_Fixed.j1 (tx : ByteArray) : Nat → List (S88) → Bool → Int → Bool → ByteArray → ByteArray → Option ((List (S88)))
 | 0, _, _, _, _, _, _ => none
 | k + 1, x1, x3, x4, x18, x232000, x232001 => if x18 = true then (if x1.length < 4398046511104 then (nuncioref11_Fixed.l0 tx k (x1 ++ [(⟨x232000, x232001⟩ : S88)]) false (wrap64 (x4 + 1)) (⟨#[]⟩ : ByteArray) (⟨#[]⟩ : ByteArray)) else (none)) else (if 0 ≤ x4 then (if x4 < 758 then (if (bt tx x4) = 61 then (nuncioref11_Fixed.j2 tx k x1 x3 x4 (!x3) x232000 x232001) else (nuncioref11_Fixed.j2 tx k x1 x3 x4 false x232000 x232001)) else (none)) else (none))
def nuncioref11_Fixed.j2 (tx : ByteArray) : Nat → List (S88) → Bool → Int → Bool → ByteArray → ByteArray → Option ((List (S88)))
 | 0, _, _, _, _, _, _ => none
 | k + 1, x1, x3, x4, x31, x232000, x232001 => if x31 = true then (nuncioref11_Fixed.l0 tx k x1 true (wrap64 (x4 + 1)) x232000 x232001) else (if x3 = true then (if 0 ≤ x4 then (if x4 ≤ (wrap64 (x4 + 1)) then (if (wrap64 (x4 + 1)) ≤ 758 then (if x232001.size + (tx.extract (x4 : Int).toNat ((wrap64 (x4 + 1)) : Int).toNat).size ≤ 9223372036854775807 then (nuncioref11_Fixed.l0 tx k x1 x3 (wrap64 (x4 + 1)) x232000 (x232001 ++ (tx.extract (x4 : Int).toNat ((wrap64 (x4 + 1)) : Int).toNat))) else (none)) else (none)) else (none)) else (none)) else (if 0 ≤ x4 then (if x4 ≤ (wrap64 (x4 + 1)) then (if (wrap64 (x4 + 1)) ≤ 758 then (if x232000.size + (tx.extract (x4 : Int).toNat ((wrap64 (x4 + 1)) : Int).toNat).size ≤ 9223372036854775807 then (nuncioref11_Fixed.l0 tx k x1 x3 (wrap64 (x4 + 1)) (x232000 ++ (tx.extract (x4 : Int).toNat ((wrap64 (x4 + 1)) : Int).toNat)) x232001) else (none)) else (none)) else (none)) else (none)))
end
def tbRefText : ByteArray := (⟨(((([58, 97, 117, 116, 104, 111, 114, 105, 116, 121, 10, 58, 109, 101, 116, 104, 111, 100, 61, 71, 69, 84, 10, 58, 109, 101, 116, 104, 111, 100, 61, 80, 79, 83, 84, 10, 58, 112, 97, 116, 104, 61, 47, 10, 58, 112, 97].append [116, 104, 61, 47, 105, 110, 100, 101, 120, 46, 104, 116, 109, 108, 10, 58, 115, 99, 104, 101, 109, 101, 61, 104, 116, 116, 112, 10, 58, 115, 99, 104, 101, 109, 101, 61, 104, 116, 116, 112, 115, 10, 58, 115, 116, 97, 116]).append ([117, 115, 61, 50, 48, 48, 10, 58, 115, 116, 97, 116, 117, 115, 61, 50, 48, 52, 10, 58, 115, 116, 97, 116, 117, 115, 61, 50, 48, 54, 10, 58, 115, 116, 97, 116, 117, 115, 61, 51, 48, 52, 10, 58, 115, 116, 97].append [116, 117, 115, 61, 52, 48, 48, 10, 58, 115, 116, 97, 116, 117, 115, 61, 52, 48, 52, 10, 58, 115, 116, 97, 116, 117, 115, 61, 53, 48, 48, 10, 97, 99, 99, 101, 112, 116, 45, 99, 104, 97, 114, 115, 101, 116, 10, 97])).append (([99, 99, 101, 112, 116, 45, 101, 110, 99, 111, 100, 105, 110, 103, 61, 103, 122, 105, 112, 44, 32, 100, 101, 102, 108, 97, 116, 101, 10, 97, 99, 99, 101, 112, 116, 45, 108, 97, 110, 103, 117, 97, 103, 101, 10, 97, 99].append [99, 101, 112, 116, 45, 114, 97, 110, 103, 101, 115, 10, 97, 99, 99, 101, 112, 116, 10, 97, 99, 99, 101, 115, 115, 45, 99, 111, 110, 116, 114, 111, 108, 45, 97, 108, 108, 111, 119, 45, 111, 114, 105, 103, 105, 110, 10, 97]).append ([103, 101, 10, 97, 108, 108, 111, 119, 10, 97, 117, 116, 104, 111, 114, 105, 122, 97, 116, 105, 111, 110, 10, 99, 97, 99, 104, 101, 45, 99, 111, 110, 116, 114, 111, 108, 10, 99, 111, 110, 116, 101, 110, 116, 45, 100, 105].append [115, 112, 111, 115, 105, 116, 105, 111, 110, 10, 99, 111, 110, 116, 101, 110, 116, 45, 101, 110, 99, 111, 100, 105, 110, 103, 10, 99, 111, 110, 116, 101, 110, 116, 45, 108, 97, 110, 103, 117, 97, 103, 101, 10, 99, 111, 110, 116]))).append ((([101, 110, 116, 45, 108, 101, 110, 103, 116, 104, 10, 99, 111, 110, 116, 101, 110, 116, 45, 108, 111, 99, 97, 116, 105, 111, 110, 10, 99, 111, 110, 116, 101, 110, 116, 45, 114, 97, 110, 103, 101, 10, 99, 111, 110, 116, 101].append [110, 116, 45, 116, 121, 112, 101, 10, 99, 111, 111, 107, 105, 101, 10, 100, 97, 116, 101, 10, 101, 116, 97, 103, 10, 101, 120, 112, 101, 99, 116, 10, 101, 120, 112, 105, 114, 101, 115, 10, 102, 114, 111, 109, 10, 104, 111]).append ([115, 116, 10, 105, 102, 45, 109, 97, 116, 99, 104, 10, 105, 102, 45, 109, 111, 100, 105, 102, 105, 101, 100, 45, 115, 105, 110, 99, 101, 10, 105, 102, 45, 110, 111, 110, 101, 45, 109, 97, 116, 99, 104, 10, 105, 102, 45].append [114, 97, 110, 103, 101, 10, 105, 102, 45, 117, 110, 109, 111, 100, 105, 102, 105, 101, 100, 45, 115, 105, 110, 99, 101, 10, 108, 97, 115, 116, 45, 109, 111, 100, 105, 102, 105, 101, 100, 10, 108, 105, 110, 107, 10, 108, 111, 99])).append (([97, 116, 105, 111, 110, 10, 109, 97, 120, 45, 102, 111, 114, 119, 97, 114, 100, 115, 10, 112, 114, 111, 120, 121, 45, 97, 117, 116, 104, 101, 110, 116, 105, 99, 97, 116, 101, 10, 112, 114, 111, 120, 121, 45, 97, 117, 116].append [104, 111, 114, 105, 122, 97, 116, 105, 111, 110, 10, 114, 97, 110, 103, 101, 10, 114, 101, 102, 101, 114, 101, 114, 10, 114, 101, 102, 114, 101, 115, 104, 10, 114, 101, 116, 114, 121, 45, 97, 102, 116, 101, 114, 10, 115, 101, 114]).append ([118, 101, 114, 10, 115, 101, 116, 45, 99, 111, 111, 107, 105, 101, 10, 115, 116, 114, 105, 99, 116, 45, 116, 114, 97, 110, 115, 112, 111, 114, 116, 45, 115, 101, 99, 117, 114, 105, 116, 121, 10, 116, 114, 97, 110, 115, 102].append [101, 114, 45, 101, 110, 99, 111, 100, 105, 110, 103, 10, 117, 115, 101, 114, 45, 97, 103, 101, 110, 116, 10, 118, 97, 114, 121, 10, 118, 105, 97, 10, 119, 119, 119, 45, 97, 117, 116, 104, 101, 110, 116, 105, 99, 97, 116, 101])))).toArray⟩ : ByteArray)
def nuncioref11_Fixed.f (k : Nat) : Option ((List (S88))) := nuncioref11_Fixed.l0 tbRefText k ([] : List (S88)) false 0 (⟨#[]⟩ : ByteArray) (⟨#[]⟩ : ByteArray)
def nuncioref11_Fixed.T7 : Bool × List (List Nat × List Nat) := (true, [([], []), ([0], [0]), ([], []), ([], []), ([3], [3]), ([2, 4], [2, 4]), ([1, 5], [1, 5]), ([0, 1, 2, 3, 4, 5, 6], []), ([7, 6, 0, 1, 2, 3, 4, 5, 6], [6, 7])])
def nuncioref11_Fixed.B7 : List Nat := [0, 1, 0, 0, 8, 28, 63, 127, 255]
theorem nuncioref11_Fixed.tab7 : rtab .any (opsOf Tryd.f73 7) = nuncioref11_Fixed.T7 := by kernel_rfl
theorem nuncioref11_Fixed.bits7 : waitsOk nuncioref11_Fixed.T7.2 nuncioref11_Fixed.B7 = true := by kernel_rfl
def nuncioref11_Fixed.T15 : Bool × List (List Nat × List Nat) := (true, [([], []), ([0], [0]), ([], []), ([], []), ([3], [3]), ([2, 4], [2, 4]), ([1, 5], [1, 5]), ([0, 1, 2, 3, 4, 5, 6], []), ([7, 6, 0, 1, 2, 3, 4, 5, 6], [6, 7])])
def nuncioref11_Fixed.B15 : List Nat := [0, 1, 0, 0, 8, 28, 63, 127, 255]
theorem nuncioref11_Fixed.tab15 : rtab .any (opsOf Tryd.f73 15) = nuncioref11_Fixed.T15 := by kernel_rfl
theorem nuncioref11_Fixed.bits15 : waitsOk nuncioref11_Fixed.T15.2 nuncioref11_Fixed.B15 = true := by kernel_rfl
set_option maxHeartbeats 8000000 in
set_option maxRecDepth 100000 in
theorem nuncioref11_Fixed.calls (k : Nat)  (r : List (S88)) (w : World) (h : nuncioref11_Fixed.f k  = some r) :
  Calls Tryd.prog 73 #[] w fun e w' => ∃ v0_ : Value, e = .returned (v0_) ∧ Kd.R k88 88 w' w.heap.size (fun _ => True) v0_ r ∧ Below w.heap.size w w' := by
 have hu88 := Tryd.underlying88
 have HB := Aside0.mk (Below.refl w.heap.size w)
 obtain ⟨tx, htx⟩ : ∃ t : ByteArray, tbRefText = t := ⟨_, rfl⟩
 have H : (nuncioref11_Fixed.l0 tx k ([] : List (S88)) false 0 (⟨#[]⟩ : ByteArray) (⟨#[]⟩ : ByteArray)) = some r := by rw [← htx]; exact h
 have hsz : tx.size = 758 := by rw [← htx]; decide +kernel
 clear h
 have H' := Aside0.mk H
 clear H
 unfold tbRefText at htx
 go_enter Tryd.func73, Tryd.ntmps73
 rw [htx]
 have HX := Aside0.mk htx
 clear htx
 go_wp2_with (first | ((with_reducible refine gate_dst (N := 2) rfl ?_); refine box_event ?hg (N := 2) ?hd (cs := #[.string (⟨#[]⟩ : ByteArray), .string (⟨#[]⟩ : ByteArray)]) (t := 88) ?hr ?_; (case hd => rfl); (case hg => rfl); (case hr => first | (go_simp; done) | (go_simp; rfl)); intro gb231 hg w1 hbox hb; have n0_ := Aside0.mk (below_step (by repeat (first | (with_reducible first | exact HB.out | apply below_alloc | apply pw_below_drewN | apply below_drew1) | exact HB.out)) hb); have n1_ := Aside0.mk (hbox); have n2_ := Aside0.mk ((by rw [hg]; exact (below_size (by repeat (first | (with_reducible first | exact HB.out | apply below_alloc | apply pw_below_drewN | apply below_drew1) | exact HB.out))) : w.heap.size ≤ gb231)); have n3_ := Aside0.mk ((by rw [hg]; exact (below_size (by repeat (first | (with_reducible first | exact HB.out | apply below_alloc | apply pw_below_drewN | apply below_drew1) | exact HB.out))) : w.heap.size ≤ gb231)); clear HB; have HB := n0_; have BK231 := n1_; have GW231 := n2_; have GE231 := n3_; clear n0_ n1_ n2_ n3_; clear hb hbox hg; have hcz2_0 : w1.cell? ⟨gb231, 0, none⟩ = some (.string (⟨#[]⟩ : ByteArray)) := (blk_cell BK231.out 0).trans rfl; have hcz2_1 : w1.cell? ⟨gb231, 1, none⟩ = some (.string (⟨#[]⟩ : ByteArray)) := (blk_cell BK231.out 1).trans rfl; have hfz2_0 := blk_frozen BK231.out 0; have hfz2_1 := blk_frozen BK231.out 1))
 go_loopg [1, 3, 4] k (fun kq v1 v3 v4 w' => ∃ (x1_1 : List (S88)) (x3_1 : Bool) (x4_1 : Int) (x232000_1 : ByteArray) (x232001_1 : ByteArray), v3 = .bool x3_1 ∧ v4 = .int .i64 x4_1 ∧ Aside0 (nuncioref11_Fixed.l0 tx kq x1_1 x3_1 x4_1 x232000_1 x232001_1 = some r) ∧ Aside0 (kq ≤ k) ∧ Aside0 (Kd.R k88 88 w' w.heap.size (fun k_ => k_ ≠ gb231) v1 x1_1) ∧ Aside0 (w'.heap[gb231]? = some (.cells #[.string x232000_1, .string x232001_1] 88 (0, 0))) ∧ Aside0 (Below w.heap.size w w'))
 case atStart => exact ⟨(([] : List (S88))), (false), (0), ((⟨#[]⟩ : ByteArray)), ((⟨#[]⟩ : ByteArray)), (by first | rfl | (simp; done) | (simp [*]; done)), (by first | rfl | (simp; done) | (simp [*]; done)), H', ⟨Nat.le_refl _⟩, ⟨by first | exact Kd.R_nil _ _ _ _ _ | exact Kd.N_nil _ _ _ _ _ | exact Kd.V_nil _ _ _ _ _ | exact Kd.Q_nil _ _ _ _ _ | exact Kd.S_nil _ _ _ _ _⟩, ⟨by (with_reducible repeat (first | refine blk_drewN ?_ _ | refine blk_drew ?_ | refine blk_alloc ?_ _)); refine blk_put (cs := #[.string (⟨#[]⟩ : ByteArray), .string (⟨#[]⟩ : ByteArray)]) ?_ 1 _ rfl; (with_reducible repeat (first | refine blk_drewN ?_ _ | refine blk_drew ?_ | refine blk_alloc ?_ _)); refine blk_put (cs := #[.string (⟨#[]⟩ : ByteArray), .string (⟨#[]⟩ : ByteArray)]) ?_ 0 _ rfl; (with_reducible repeat (first | refine blk_drewN ?_ _ | refine blk_drew ?_ | refine blk_alloc ?_ _)); exact BK231.out⟩, ⟨by repeat (first | (with_reducible first | exact HB.out | apply below_alloc | apply pw_below_drewN | apply below_drew1 | refine below_set ?_ GE231.out) | exact HB.out)⟩⟩
 case round =>
  clear H'
  try clear p2
  try clear hcz2_0
  try clear hcz2_1
  try clear hfz2_0
  try clear hfz2_1
  obtain ⟨x1_1, x3_1, x4_1, x232000_1, x232001_1, rfl, rfl, HA, HK1, HO_1, BK231, HB⟩ := hrel
  cases gk with
  | zero => exact absurd HA.out (by simp [nuncioref11_Fixed.l0])
  | succ k1 =>
   have H := HA.out
   clear HA
   simp only [nuncioref11_Fixed.l0] at H
   by_cases c3 : x4_1 ≤ 758
   ·
    rw [if_pos c3] at H
    have c3b0 : decide (x4_1 ≤ 758) = true := decide_eq_true c3
    clear c3
    have HC4 := Aside0.mk H
    clear H
    go_upto_region 8 with (fail)
    go_cut [18] (fun v18 wc => ∃ (kq : Nat) (x18_3 : Bool), v18 = .bool x18_3 ∧ Aside0 (nuncioref11_Fixed.j1 tx kq x1_1 x3_1 x4_1 x18_3 x232000_1 x232001_1 = some r) ∧ Aside0 (kq ≤ k1) ∧ Aside0 (Kd.R k88 88 wc w.heap.size (fun k_ => k_ ≠ gb231) u1 x1_1) ∧ Aside0 (wc.heap[gb231]? = some (.cells #[.string x232000_1, .string x232001_1] 88 (0, 0))) ∧ Aside0 (Below w.heap.size w wc))
    case first =>
     have H := HC4.out
     clear HC4
     by_cases c5 : x4_1 = 758
     ·
      rw [if_pos c5] at H
      have c5b0 : (x4_1 == 758) = true := beq_iff_eq.mpr c5
      have c5b1 : (x4_1 != 758) = false := bne_eq_false_iff_eq.mpr c5
      clear c5
      (first | rw [c5b0] | rw [c5b1] | (simp only [i64_w, i32_w]; rw [c5b0]) | skip)
      have H' := Aside0.mk H
      clear H
      go_wp2
      go_meet
      case rel => exact ⟨_, (true), (by first | rfl | (simp; done) | (simp [*]; done)), H', ⟨by have := HK1.out; first | omega | exact Nat.le_refl _⟩, ⟨by (with_reducible repeat (first | apply Kd.R_alloc | apply Kd.R_drewN | apply Kd.R_drew)); exact HO_1.out⟩, ⟨by (with_reducible repeat (first | refine blk_drewN ?_ _ | refine blk_drew ?_ | refine blk_alloc ?_ _)); exact BK231.out⟩, ⟨by repeat (first | (with_reducible first | exact HB.out | apply below_alloc | apply pw_below_drewN | apply below_drew1 | refine below_set ?_ GE231.out) | exact HB.out)⟩⟩
     ·
      rw [if_neg c5] at H
      have c5b0 : (x4_1 == 758) = false := beq_eq_false_iff_ne.mpr c5
      have c5b1 : (x4_1 != 758) = true := bne_iff_ne.mpr c5
      (first | rw [c5b0] | rw [c5b1] | (simp only [i64_w, i32_w]; rw [c5b0]) | skip)
      by_cases c6 : 0 ≤ x4_1
      ·
       rw [if_pos c6] at H
       have c6b0 : decide (0 ≤ x4_1) = true := decide_eq_true c6
       clear c6
       by_cases c7 : x4_1 < 758
       ·
        rw [if_pos c7] at H
        have c7b0 : decide (x4_1 < 758) = true := decide_eq_true c7
        clear c7
        have H' := Aside0.mk H
        clear H
        have p8 : 0 ≤ (x4_1 : Int) := of_decide_eq_true (by first | (with_reducible assumption) | assumption)
        have q8 : x4_1 < (758 : Int) := of_decide_eq_true (by first | (with_reducible assumption) | assumption)
        have hx8 := bt_at tx x4_1
        replace p8 := eq_true p8
        replace q8 := eq_true q8
        go_wp2
        go_meet
        case rel => exact ⟨_, (((bt tx x4_1) == 10)), (by first | rfl | (simp; done) | (simp [*]; done)), H', ⟨by have := HK1.out; first | omega | exact Nat.le_refl _⟩, ⟨by (with_reducible repeat (first | apply Kd.R_alloc | apply Kd.R_drewN | apply Kd.R_drew)); exact HO_1.out⟩, ⟨by (with_reducible repeat (first | refine blk_drewN ?_ _ | refine blk_drew ?_ | refine blk_alloc ?_ _)); exact BK231.out⟩, ⟨by repeat (first | (with_reducible first | exact HB.out | apply below_alloc | apply pw_below_drewN | apply below_drew1 | refine below_set ?_ GE231.out) | exact HB.out)⟩⟩
       ·
        rw [if_neg c7] at H
        exact absurd H (by simp)
      ·
       rw [if_neg c6] at H
       exact absurd H (by simp)
    case rest =>
     clear HC4
     try clear p2
     try clear c3
     try clear c3b0
     try clear c5
     try clear c5b0
     try clear c5b1
     try clear c6
     try clear c6b0
     try clear c7
     try clear c7b0
     try clear p8
     try clear q8
     try clear hx8
     try clear hcz2_0
     try clear hcz2_1
     try clear hfz2_0
     try clear hfz2_1
     try clear p2
     try clear p8
     try clear q8
     obtain ⟨kq, x18_3, rfl, HA, HJ3, HO_1, BK231, HB⟩ := hcut
     cases kq with
     | zero => exact absurd HA.out (by simp [nuncioref11_Fixed.j1])
     | succ kj3 =>
      have H := HA.out
      clear HA
      simp only [nuncioref11_Fixed.j1] at H
      by_cases c9 : x18_3 = true
      ·
       subst c9
       have H1 : (if x1_1.length < 4398046511104 then (nuncioref11_Fixed.l0 tx kj3 (x1_1 ++ [(⟨x232000_1, x232001_1⟩ : S88)]) false (wrap64 (x4_1 + 1)) (⟨#[]⟩ : ByteArray) (⟨#[]⟩ : ByteArray)) else (none)) = some r := by rw [if_pos rfl] at H; exact H
       clear H
       have H := H1
       clear H1
       by_cases c10 : x1_1.length < 4398046511104
       ·
        rw [if_pos c10] at H
        have LMc10 := Aside0.mk c10
        clear c10
        obtain ⟨y232, hy232⟩ : ∃ y_ : List (S88), y_ = (x1_1 ++ [(⟨x232000_1, x232001_1⟩ : S88)]) := ⟨_, rfl⟩
        replace H : (nuncioref11_Fixed.l0 tx kj3 y232 false (wrap64 (x4_1 + 1)) (⟨#[]⟩ : ByteArray) (⟨#[]⟩ : ByteArray)) = some r := by first | (rw [hy232]; with_reducible exact H) | (have H2_ := (Option.bind_some _ _).symm.trans H; rw [hy232]; with_reducible exact H2_) | (have H2_ := (Option.bind_some _ _).symm.trans H; with_reducible exact H2_) | with_reducible exact H | (rw [hy232]; exact H) | exact H
        have Ny232 := Aside0.mk hy232
        clear hy232
        have H' := Aside0.mk H
        clear H
        have hcz11_0 : wc.cell? ⟨gb231, 0, none⟩ = some (.string x232000_1) := (blk_cell BK231.out 0).trans rfl
        have hcz11_1 : wc.cell? ⟨gb231, 1, none⟩ = some (.string x232001_1) := (blk_cell BK231.out 1).trans rfl
        have hfz11_0 := blk_frozen BK231.out 0
        have hfz11_1 := blk_frozen BK231.out 1
        go_wp2_with (first | ((with_reducible refine gate_builtin (b := .append) (xs := #[.tmp 26, .tmp 28]) rfl ?_); at_builtin; refine Kd.R_append k88 (w0 := w) w.heap.size rfl (.tmp 26) (.tmp 28) 35 88 (.agg #[(.string ⟨#[]⟩), (.string ⟨#[]⟩)]) 32 rfl Tryd.underlying35 info88 rfl (by decide) (by omega) u1 x1_1 (⟨x232000_1, x232001_1⟩ : S88) [.string x232000_1, .string x232001_1] (fun k_ => k_ ≠ gb231) (fun _ => False) rfl rfl ?aP (fun _ hk => hk.elim) ?aF ?aO ?aB ?aS ?aL ?_; (case aP => exact k88_mkM _ _ _ (⟨x232000_1, x232001_1⟩ : S88)); (case aB => exact (by repeat (first | (with_reducible first | exact HB.out | apply below_alloc | apply pw_below_drewN | apply below_drew1 | refine below_set ?_ GE231.out) | exact HB.out))); (case aF => exact (fun k_ hk => Kd.freshB (g := gb231) (o := .cells #[.string x232000_1, .string x232001_1] 88 (0, 0)) (by (with_reducible repeat (first | refine blk_drewN ?_ _ | refine blk_drew ?_ | refine blk_alloc ?_ _)); exact BK231.out) k_ hk)); (case aO => exact (by (with_reducible repeat (first | apply Kd.R_alloc | apply Kd.R_drewN | apply Kd.R_drew)); exact HO_1.out)); (case aS => exact (below_size (by repeat (first | (with_reducible first | exact HB.out | apply below_alloc | apply pw_below_drewN | apply below_drew1 | refine below_set ?_ GE231.out) | exact HB.out)))); (case aL => have := LMc10.out; omega); intro v233 w12 ho hb hg hat; rw [← Ny232.out] at ho; have n0_ := Aside0.mk (blk_grown (g := gb231) (o := .cells #[.string x232000_1, .string x232001_1] 88 (0, 0)) (by (with_reducible repeat (first | refine blk_drewN ?_ _ | refine blk_drew ?_ | refine blk_alloc ?_ _)); exact BK231.out) hg (Kd.R_away HO_1.out (fun _ hk => hk))); have n1_ := Aside0.mk (hb); have n2_ := Aside0.mk (ho); clear BK231; clear HB; clear HO_1; have BK231 := n0_; have HB := n1_; have HO234 := n2_; clear n0_ n1_ n2_; clear ho hb hg hat; have hcz13_0 : w12.cell? ⟨gb231, 0, none⟩ = some (.string x232000_1) := (blk_cell BK231.out 0).trans rfl; have hcz13_1 : w12.cell? ⟨gb231, 1, none⟩ = some (.string x232001_1) := (blk_cell BK231.out 1).trans rfl; have hfz13_0 := blk_frozen BK231.out 0; have hfz13_1 := blk_frozen BK231.out 1))
        go_roundg kj3
        case measure => have := HK1.out; have := HJ3.out; omega
        case rel => exact ⟨(y232), (false), (wrap64 (x4_1 + 1)), ((⟨#[]⟩ : ByteArray)), ((⟨#[]⟩ : ByteArray)), (by first | rfl | (simp; done) | (simp [*]; done)), (by first | rfl | (simp; done) | (simp [*]; done)), H', ⟨by have := HK1.out; have := HJ3.out; omega⟩, ⟨by (with_reducible repeat (first | apply Kd.R_alloc | apply Kd.R_drewN | apply Kd.R_drew)); exact Kd.R_mono (Kd.R_far (p := ⟨gb231, 1, none⟩) (Kd.R_far (p := ⟨gb231, 0, none⟩) (Kd.R_mono HO234.out (fun k_ hk => (⟨hk, hk⟩ : _ ∧ k_ ≠ gb231))) (fun _ hk => hk.2) (.string (⟨#[]⟩ : ByteArray))) (fun _ hk => hk.2) (.string (⟨#[]⟩ : ByteArray))) (fun _ hk => hk.1)⟩, ⟨by (with_reducible repeat (first | refine blk_drewN ?_ _ | refine blk_drew ?_ | refine blk_alloc ?_ _)); refine blk_put (cs := #[.string (⟨#[]⟩ : ByteArray), .string x232001_1]) ?_ 1 _ rfl; (with_reducible repeat (first | refine blk_drewN ?_ _ | refine blk_drew ?_ | refine blk_alloc ?_ _)); refine blk_put (cs := #[.string x232000_1, .string x232001_1]) ?_ 0 _ rfl; (with_reducible repeat (first | refine blk_drewN ?_ _ | refine blk_drew ?_ | refine blk_alloc ?_ _)); exact BK231.out⟩, ⟨by repeat (first | (with_reducible first | exact HB.out | apply below_alloc | apply pw_below_drewN | apply below_drew1 | refine below_set ?_ GE231.out) | exact HB.out)⟩⟩
       ·
        rw [if_neg c10] at H
        exact absurd H (by simp)
      ·
       replace c9 := Bool.eq_false_iff.mpr c9
       subst c9
       have H1 : (if 0 ≤ x4_1 then (if x4_1 < 758 then (if (bt tx x4_1) = 61 then (nuncioref11_Fixed.j2 tx kj3 x1_1 x3_1 x4_1 (!x3_1) x232000_1 x232001_1) else (nuncioref11_Fixed.j2 tx kj3 x1_1 x3_1 x4_1 false x232000_1 x232001_1)) else (none)) else (none)) = some r := by rw [if_neg (show ¬ (false = true) by decide)] at H; exact H
       clear H
       have H := H1
       clear H1
       have HC14 := Aside0.mk H
       clear H
       go_upto_region 12 with (fail)
       go_cut [31] (fun v31 wc => ∃ (kq : Nat) (x31_13 : Bool), v31 = .bool x31_13 ∧ Aside0 (nuncioref11_Fixed.j2 tx kq x1_1 x3_1 x4_1 x31_13 x232000_1 x232001_1 = some r) ∧ Aside0 (kq ≤ kj3) ∧ Aside0 (Kd.R k88 88 wc w.heap.size (fun k_ => k_ ≠ gb231) u1 x1_1) ∧ Aside0 (wc.heap[gb231]? = some (.cells #[.string x232000_1, .string x232001_1] 88 (0, 0))) ∧ Aside0 (Below w.heap.size w wc))
       case first =>
        have H := HC14.out
        clear HC14
        by_cases c15 : 0 ≤ x4_1
        ·
         rw [if_pos c15] at H
         have c15b0 : decide (0 ≤ x4_1) = true := decide_eq_true c15
         clear c15
         (first | rw [c15b0] | rw [c15b1] | (simp only [i64_w, i32_w]; rw [c15b0]) | skip)
         by_cases c16 : x4_1 < 758
         ·
          rw [if_pos c16] at H
          have c16b0 : decide (x4_1 < 758) = true := decide_eq_true c16
          clear c16
          by_cases c18 : (bt tx x4_1) = 61
          ·
           rw [if_pos c18] at H
           have c18b0 : ((bt tx x4_1) == 61) = true := beq_iff_eq.mpr c18
           have c18b1 : ((bt tx x4_1) != 61) = false := bne_eq_false_iff_eq.mpr c18
           clear c18
           have H' := Aside0.mk H
           clear H
           have p17 : 0 ≤ (x4_1 : Int) := of_decide_eq_true (by first | (with_reducible assumption) | assumption)
           have q17 : x4_1 < (758 : Int) := of_decide_eq_true (by first | (with_reducible assumption) | assumption)
           have hx17 := bt_at tx x4_1
           replace p17 := eq_true p17
           replace q17 := eq_true q17
           go_wp2
           go_meet
           case rel => exact ⟨_, (!x3_1), (by first | rfl | (simp; done) | (simp [*]; done)), H', ⟨by have := HK1.out; have := HJ3.out; first | omega | exact Nat.le_refl _⟩, ⟨by (with_reducible repeat (first | apply Kd.R_alloc | apply Kd.R_drewN | apply Kd.R_drew)); exact HO_1.out⟩, ⟨by (with_reducible repeat (first | refine blk_drewN ?_ _ | refine blk_drew ?_ | refine blk_alloc ?_ _)); exact BK231.out⟩, ⟨by repeat (first | (with_reducible first | exact HB.out | apply below_alloc | apply pw_below_drewN | apply below_drew1 | refine below_set ?_ GE231.out) | exact HB.out)⟩⟩
          ·
           rw [if_neg c18] at H
           have c18b0 : ((bt tx x4_1) == 61) = false := beq_eq_false_iff_ne.mpr c18
           have c18b1 : ((bt tx x4_1) != 61) = true := bne_iff_ne.mpr c18
           have H' := Aside0.mk H
           clear H
           have p17 : 0 ≤ (x4_1 : Int) := of_decide_eq_true (by first | (with_reducible assumption) | assumption)
           have q17 : x4_1 < (758 : Int) := of_decide_eq_true (by first | (with_reducible assumption) | assumption)
           have hx17 := bt_at tx x4_1
           replace p17 := eq_true p17
           replace q17 := eq_true q17
           go_wp2
           go_meet
           case rel => exact ⟨_, (false), (by first | rfl | (simp; done) | (simp [*]; done)), H', ⟨by have := HK1.out; have := HJ3.out; first | omega | exact Nat.le_refl _⟩, ⟨by (with_reducible repeat (first | apply Kd.R_alloc | apply Kd.R_drewN | apply Kd.R_drew)); exact HO_1.out⟩, ⟨by (with_reducible repeat (first | refine blk_drewN ?_ _ | refine blk_drew ?_ | refine blk_alloc ?_ _)); exact BK231.out⟩, ⟨by repeat (first | (with_reducible first | exact HB.out | apply below_alloc | apply pw_below_drewN | apply below_drew1 | refine below_set ?_ GE231.out) | exact HB.out)⟩⟩
         ·
          rw [if_neg c16] at H
          exact absurd H (by simp)
        ·
         rw [if_neg c15] at H
         exact absurd H (by simp)
       case rest =>
        clear HC14
        try clear c1
        try clear p1
        try clear q1
        try clear hx1
        try clear p2
        try clear c3
        try clear c3b0
        try clear c5
        try clear c5b0
        try clear c5b1
        try clear c6
        try clear c6b0
        try clear p6
        try clear c7
        try clear c7b0
        try clear p8
        try clear q8
        try clear hx8
        try clear c9
        try clear c10
        try clear c15
        try clear c15b0
        try clear c15b1
        try clear c16
        try clear c16b0
        try clear p17
        try clear q17
        try clear hx17
        try clear c18
        try clear c18b0
        try clear c18b1
        try clear hcz11_0
        try clear hcz11_1
        try clear hcz13_0
        try clear hcz13_1
        try clear hcz2_0
        try clear hcz2_1
        try clear hfz11_0
        try clear hfz11_1
        try clear hfz13_0
        try clear hfz13_1
        try clear hfz2_0
        try clear hfz2_1
        try clear p17
        try clear p2
        try clear p8
        try clear q17
        try clear q8
        obtain ⟨kq, x31_13, rfl, HA, HJ13, HO_1, BK231, HB⟩ := hcut
        cases kq with
        | zero => exact absurd HA.out (by simp [nuncioref11_Fixed.j2])
        | succ kj13 =>
         have H := HA.out
         clear HA
         simp only [nuncioref11_Fixed.j2] at H
         by_cases c19 : x31_13 = true
         ·
          subst c19
          have H1 : (nuncioref11_Fixed.l0 tx kj13 x1_1 true (wrap64 (x4_1 + 1)) x232000_1 x232001_1) = some r := by rw [if_pos rfl] at H; exact H
          clear H
          have H := H1
          clear H1
          have H' := Aside0.mk H
          clear H
          go_wp2
          go_roundg kj13
          case measure => have := HK1.out; have := HJ3.out; have := HJ13.out; omega
          case rel => exact ⟨(x1_1), (true), (wrap64 (x4_1 + 1)), (x232000_1), (x232001_1), (by first | rfl | (simp; done) | (simp [*]; done)), (by first | rfl | (simp; done) | (simp [*]; done)), H', ⟨by have := HK1.out; have := HJ3.out; have := HJ13.out; omega⟩, ⟨by (with_reducible repeat (first | apply Kd.R_alloc | apply Kd.R_drewN | apply Kd.R_drew)); exact HO_1.out⟩, ⟨by (with_reducible repeat (first | refine blk_drewN ?_ _ | refine blk_drew ?_ | refine blk_alloc ?_ _)); exact BK231.out⟩, ⟨by repeat (first | (with_reducible first | exact HB.out | apply below_alloc | apply pw_below_drewN | apply below_drew1 | refine below_set ?_ GE231.out) | exact HB.out)⟩⟩
         ·
          replace c19 := Bool.eq_false_iff.mpr c19
          subst c19
          have H1 : (if x3_1 = true then (if 0 ≤ x4_1 then (if x4_1 ≤ (wrap64 (x4_1 + 1)) then (if (wrap64 (x4_1 + 1)) ≤ 758 then (if x232001_1.size + (tx.extract (x4_1 : Int).toNat ((wrap64 (x4_1 + 1)) : Int).toNat).size ≤ 9223372036854775807 then (nuncioref11_Fixed.l0 tx kj13 x1_1 x3_1 (wrap64 (x4_1 + 1)) x232000_1 (x232001_1 ++ (tx.extract (x4_1 : Int).toNat ((wrap64 (x4_1 + 1)) : Int).toNat))) else (none)) else (none)) else (none)) else (none)) else (if 0 ≤ x4_1 then (if x4_1 ≤ (wrap64 (x4_1 + 1)) then (if (wrap64 (x4_1 + 1)) ≤ 758 then (if x232000_1.size + (tx.extract (x4_1 : Int).toNat ((wrap64 (x4_1 + 1)) : Int).toNat).size ≤ 9223372036854775807 then (nuncioref11_Fixed.l0 tx kj13 x1_1 x3_1 (wrap64 (x4_1 + 1)) (x232000_1 ++ (tx.extract (x4_1 : Int).toNat ((wrap64 (x4_1 + 1)) : Int).toNat)) x232001_1) else (none)) else (none)) else (none)) else (none))) = some r := by rw [if_neg (show ¬ (false = true) by decide)] at H; exact H
          clear H
          have H := H1
          clear H1
          by_cases c20 : x3_1 = true
          ·
           subst c20
           have H1 : (if 0 ≤ x4_1 then (if x4_1 ≤ (wrap64 (x4_1 + 1)) then (if (wrap64 (x4_1 + 1)) ≤ 758 then (if x232001_1.size + (tx.extract (x4_1 : Int).toNat ((wrap64 (x4_1 + 1)) : Int).toNat).size ≤ 9223372036854775807 then (nuncioref11_Fixed.l0 tx kj13 x1_1 true (wrap64 (x4_1 + 1)) x232000_1 (x232001_1 ++ (tx.extract (x4_1 : Int).toNat ((wrap64 (x4_1 + 1)) : Int).toNat))) else (none)) else (none)) else (none)) else (none)) = some r := by rw [if_pos rfl] at H; exact H
           clear H
           have H := H1
           clear H1
           by_cases c21 : 0 ≤ x4_1
           ·
            rw [if_pos c21] at H
            have c21b0 := eq_true c21
            have c21b1 : decide (0 ≤ x4_1) = true := decide_eq_true c21
            clear c21
            by_cases c22 : x4_1 ≤ (wrap64 (x4_1 + 1))
            ·
             rw [if_pos c22] at H
             have c22b0 := eq_true c22
             have c22b1 : decide (x4_1 ≤ (wrap64 (x4_1 + 1))) = true := decide_eq_true c22
             by_cases c23 : (wrap64 (x4_1 + 1)) ≤ 758
             ·
              rw [if_pos c23] at H
              have c23b0 := eq_true c23
              have c23b1 : decide ((wrap64 (x4_1 + 1)) ≤ 758) = true := decide_eq_true c23
              by_cases c24 : x232001_1.size + (tx.extract (x4_1 : Int).toNat ((wrap64 (x4_1 + 1)) : Int).toNat).size ≤ 9223372036854775807
              ·
               rw [if_pos c24] at H
               have c24b0 := eq_true c24
               have c24b1 : decide (x232001_1.size + (tx.extract (x4_1 : Int).toNat ((wrap64 (x4_1 + 1)) : Int).toNat).size ≤ 9223372036854775807) = true := decide_eq_true c24
               try have c24b2 : (9223372036854775807 < x232001_1.size + (tx.extract (x4_1 : Int).toNat ((wrap64 (x4_1 + 1)) : Int).toNat).size) = False := eq_false (Nat.not_lt.2 c24)
               have c24b3 : (9223372036854775807 < x232001_1.size + ((wrap64 (x4_1 + 1)).toNat - x4_1.toNat)) = False := eq_false (fun h_ => by have h2_ := c24; have h3_ : wrap64 (x4_1 + 1) ≤ 758 := of_decide_eq_true (by assumption); rw [ByteArray.size_extract, hsz] at h2_; generalize wrap64 (x4_1 + 1) = q_ at h_ h2_ h3_; omega)
               have H' := Aside0.mk H
               clear H
               try go_wp2
               have n0_ := Aside0.mk (Kd.R_drew HO_1.out)
               have n1_ := Aside0.mk (blk_drew BK231.out)
               have n2_ := Aside0.mk (below_drew1 HB.out)
               clear HO_1
               clear BK231
               clear HB
               have HO_1 := n0_
               have BK231 := n1_
               have HB := n2_
               clear n0_ n1_ n2_
               refine start_ (n := 9) (S := fun w' => w'.cell? ⟨gb231, 0, none⟩ = some (.string x232000_1) ∧ w'.cell? ⟨gb231, 1, none⟩ = some (.string x232001_1)) (ds := [8]) #[false, false, false, false, false, false, false, false, false] (by kernel_rfl) rfl rfl ⟨(blk_cell BK231.out 0).trans rfl, (blk_cell BK231.out 1).trans rfl⟩ (fun hHeld => ?_); refine with_tabW (by rw [← HX.out]; exact nuncioref11_Fixed.tab15) nuncioref11_Fixed.bits15 (fun HT_ HW_ => ?_)
               generalize wc.drew = w25 at HO_1 BK231 HB hHeld ⊢
               refine pure_ (i := 0) (N := some 41) (v := ?_) (a' := ?_) #[true, false, false, false, false, false, false, false, false] rfl rfl (any_of HT_.out (by kernel_rfl)) (fun _ _ _ h => h) (Or.inl ⟨by rfl, ?_⟩) ?_ ?_
               rotate_left
               ·
                intro w'
                go_simp
                with_reducible rfl
               rotate_left
               ·
                simp only [Act.put, List.setIfInBounds_toArray, List.set_cons_zero, List.set_cons_succ, i64_w, i32_w]
                rfl
               refine pure_ (i := 2) (N := some 43) (v := ?_) (a' := ?_) #[true, false, true, false, false, false, false, false, false] rfl rfl (any_of HT_.out (by kernel_rfl)) (fun _ _ _ h => h) (Or.inl ⟨by rfl, ?_⟩) ?_ ?_
               rotate_left
               ·
                intro w'
                go_simp
                with_reducible rfl
               rotate_left
               ·
                simp only [Act.put, List.setIfInBounds_toArray, List.set_cons_zero, List.set_cons_succ, i64_w, i32_w]
                rfl
               refine pure_ (i := 3) (N := some 44) (v := ?_) (a' := ?_) #[true, false, true, true, false, false, false, false, false] rfl rfl (any_of HT_.out (by kernel_rfl)) (fun _ _ _ h => h) (Or.inl ⟨by rfl, ?_⟩) ?_ ?_
               rotate_left
               ·
                intro w'
                go_simp
                with_reducible rfl
               rotate_left
               ·
                simp only [Act.put, List.setIfInBounds_toArray, List.set_cons_zero, List.set_cons_succ, i64_w, i32_w]
                rfl
               refine pure_ (i := 4) (N := some 45) (v := ?_) (a' := ?_) #[true, false, true, true, true, false, false, false, false] rfl rfl (any_of HT_.out (by kernel_rfl)) (fun _ _ _ h => h) (Or.inl ⟨by rfl, ?_⟩) ?_ ?_
               rotate_left
               ·
                intro w'
                go_simp
                with_reducible rfl
               rotate_left
               ·
                simp only [Act.put, List.setIfInBounds_toArray, List.set_cons_zero, List.set_cons_succ, i64_w, i32_w]
                rfl
               refine pure_ (i := 5) (N := some 46) (v := ?_) (a' := ?_) #[true, false, true, true, true, true, false, false, false] rfl rfl (any_of HT_.out (by kernel_rfl)) (fun _ _ _ h => h) (Or.inl ⟨by rfl, ?_⟩) ?_ ?_
               rotate_left
               ·
                intro w'
                go_simp
                with_reducible rfl
               rotate_left
               ·
                simp only [Act.put, List.setIfInBounds_toArray, List.set_cons_zero, List.set_cons_succ, i64_w, i32_w]
                rfl
               refine take_ (i := 1) (N := some 42) (v := ?_) (a' := ?_) #[true, true, true, true, true, true, false, false, false] rfl rfl (take_ofW HT_.out HW_.out (by kernel_rfl)) (fun _ _ _ h => h) (Or.inl ⟨by rfl, ?_⟩) hHeld ?_ ?_
               rotate_left
               ·
                rintro w' ⟨s0, s1⟩
                go_simp
                with_reducible rfl
               rotate_left
               ·
                simp only [Act.put, List.setIfInBounds_toArray, List.set_cons_zero, List.set_cons_succ, i64_w, i32_w]
                rfl
               refine pure_ (i := 6) (N := some 47) (v := ?_) (a' := ?_) #[true, true, true, true, true, true, true, false, false] rfl rfl (any_of HT_.out (by kernel_rfl)) (fun _ _ _ h => h) (Or.inl ⟨by rfl, ?_⟩) ?_ ?_
               rotate_left
               ·
                intro w'
                go_simp
                with_reducible rfl
               rotate_left
               ·
                simp only [Act.put, List.setIfInBounds_toArray, List.set_cons_zero, List.set_cons_succ, i64_w, i32_w]
                rfl
               refine pure_ (i := 7) (N := some 48) (v := ?_) (a' := ?_) #[true, true, true, true, true, true, true, true, false] rfl rfl (any_of HT_.out (by kernel_rfl)) (fun _ _ _ h => h) (Or.inl ⟨by rfl, ?_⟩) ?_ ?_
               rotate_left
               ·
                intro w'
                go_simp
                with_reducible rfl
               rotate_left
               ·
                simp only [Act.put, List.setIfInBounds_toArray, List.set_cons_zero, List.set_cons_succ, i64_w, i32_w]
                rfl
               refine last_ (i := 8) (N := none) #[true, true, true, true, true, true, true, true, true] rfl rfl (one_of HT_.out (by kernel_rfl)) (by decide) (fun K hK => ?_)
               have hs26 : w25.cell? ⟨gb231, 1, none⟩ = some (.string x232001_1) := (blk_cell BK231.out 1).trans rfl
               have hfs26 := blk_frozen BK231.out 1
               refine skip_ (w1 := ?_) (by rfl) rfl ?_ ?_
               rotate_left
               ·
                go_simp
                rfl
               refine hK.out _ _ ?_
               clear hK K
               refine done_ (done_of HT_.out (by kernel_rfl)) ?_
               try go_wp2
               go_roundg kj13
               case measure => have := HK1.out; have := HJ3.out; have := HJ13.out; omega
               case rel => exact ⟨(x1_1), (true), (wrap64 (x4_1 + 1)), (x232000_1), (x232001_1 ++ (tx.extract (x4_1 : Int).toNat ((wrap64 (x4_1 + 1)) : Int).toNat)), (by first | rfl | (simp; done) | (simp [*]; done)), (by first | rfl | (simp; done) | (simp [*]; done)), H', ⟨by have := HK1.out; have := HJ3.out; have := HJ13.out; omega⟩, ⟨by (with_reducible repeat (first | apply Kd.R_alloc | apply Kd.R_drewN | apply Kd.R_drew)); exact Kd.R_mono (Kd.R_far (p := ⟨gb231, 1, none⟩) (Kd.R_mono HO_1.out (fun k_ hk => (⟨hk, hk⟩ : _ ∧ k_ ≠ gb231))) (fun _ hk => hk.2) (.string (x232001_1 ++ (tx.extract (x4_1 : Int).toNat ((wrap64 (x4_1 + 1)) : Int).toNat)))) (fun _ hk => hk.1)⟩, ⟨by (with_reducible repeat (first | refine blk_drewN ?_ _ | refine blk_drew ?_ | refine blk_alloc ?_ _)); refine blk_put (cs := #[.string x232000_1, .string x232001_1]) ?_ 1 _ rfl; (with_reducible repeat (first | refine blk_drewN ?_ _ | refine blk_drew ?_ | refine blk_alloc ?_ _)); exact BK231.out⟩, ⟨by repeat (first | (with_reducible first | exact HB.out | apply below_alloc | apply pw_below_drewN | apply below_drew1 | refine below_set ?_ GE231.out) | exact HB.out)⟩⟩
              ·
               rw [if_neg c24] at H
               exact absurd H (by simp)
             ·
              rw [if_neg c23] at H
              exact absurd H (by simp)
            ·
             rw [if_neg c22] at H
             exact absurd H (by simp)
           ·
            rw [if_neg c21] at H
            exact absurd H (by simp)
          ·
           replace c20 := Bool.eq_false_iff.mpr c20
           subst c20
           have H1 : (if 0 ≤ x4_1 then (if x4_1 ≤ (wrap64 (x4_1 + 1)) then (if (wrap64 (x4_1 + 1)) ≤ 758 then (if x232000_1.size + (tx.extract (x4_1 : Int).toNat ((wrap64 (x4_1 + 1)) : Int).toNat).size ≤ 9223372036854775807 then (nuncioref11_Fixed.l0 tx kj13 x1_1 false (wrap64 (x4_1 + 1)) (x232000_1 ++ (tx.extract (x4_1 : Int).toNat ((wrap64 (x4_1 + 1)) : Int).toNat)) x232001_1) else (none)) else (none)) else (none)) else (none)) = some r := by rw [if_neg (show ¬ (false = true) by decide)] at H; exact H
           clear H
           have H := H1
           clear H1
           by_cases c27 : 0 ≤ x4_1
           ·
            rw [if_pos c27] at H
            have c27b0 := eq_true c27
            have c27b1 : decide (0 ≤ x4_1) = true := decide_eq_true c27
            clear c27
            by_cases c28 : x4_1 ≤ (wrap64 (x4_1 + 1))
            ·
             rw [if_pos c28] at H
             have c28b0 := eq_true c28
             have c28b1 : decide (x4_1 ≤ (wrap64 (x4_1 + 1))) = true := decide_eq_true c28
             by_cases c29 : (wrap64 (x4_1 + 1)) ≤ 758
             ·
              rw [if_pos c29] at H
              have c29b0 := eq_true c29
              have c29b1 : decide ((wrap64 (x4_1 + 1)) ≤ 758) = true := decide_eq_true c29
              by_cases c30 : x232000_1.size + (tx.extract (x4_1 : Int).toNat ((wrap64 (x4_1 + 1)) : Int).toNat).size ≤ 9223372036854775807
              ·
               rw [if_pos c30] at H
               have c30b0 := eq_true c30
               have c30b1 : decide (x232000_1.size + (tx.extract (x4_1 : Int).toNat ((wrap64 (x4_1 + 1)) : Int).toNat).size ≤ 9223372036854775807) = true := decide_eq_true c30
               try have c30b2 : (9223372036854775807 < x232000_1.size + (tx.extract (x4_1 : Int).toNat ((wrap64 (x4_1 + 1)) : Int).toNat).size) = False := eq_false (Nat.not_lt.2 c30)
               have c30b3 : (9223372036854775807 < x232000_1.size + ((wrap64 (x4_1 + 1)).toNat - x4_1.toNat)) = False := eq_false (fun h_ => by have h2_ := c30; have h3_ : wrap64 (x4_1 + 1) ≤ 758 := of_decide_eq_true (by assumption); rw [ByteArray.size_extract, hsz] at h2_; generalize wrap64 (x4_1 + 1) = q_ at h_ h2_ h3_; omega)
               have H' := Aside0.mk H
               clear H
               try go_wp2
               have n0_ := Aside0.mk (Kd.R_drew HO_1.out)
               have n1_ := Aside0.mk (blk_drew BK231.out)
               have n2_ := Aside0.mk (below_drew1 HB.out)
               clear HO_1
               clear BK231
               clear HB
               have HO_1 := n0_
               have BK231 := n1_
               have HB := n2_
               clear n0_ n1_ n2_
               refine start_ (n := 9) (S := fun w' => w'.cell? ⟨gb231, 0, none⟩ = some (.string x232000_1) ∧ w'.cell? ⟨gb231, 1, none⟩ = some (.string x232001_1)) (ds := [8]) #[false, false, false, false, false, false, false, false, false] (by kernel_rfl) rfl rfl ⟨(blk_cell BK231.out 0).trans rfl, (blk_cell BK231.out 1).trans rfl⟩ (fun hHeld => ?_); refine with_tabW (by rw [← HX.out]; exact nuncioref11_Fixed.tab7) nuncioref11_Fixed.bits7 (fun HT_ HW_ => ?_)
               generalize wc.drew = w31 at HO_1 BK231 HB hHeld ⊢
               refine pure_ (i := 0) (N := some 10) (v := ?_) (a' := ?_) #[true, false, false, false, false, false, false, false, false] rfl rfl (any_of HT_.out (by kernel_rfl)) (fun _ _ _ h => h) (Or.inl ⟨by rfl, ?_⟩) ?_ ?_
               rotate_left
               ·
                intro w'
                go_simp
                with_reducible rfl
               rotate_left
               ·
                simp only [Act.put, List.setIfInBounds_toArray, List.set_cons_zero, List.set_cons_succ, i64_w, i32_w]
                rfl
               refine pure_ (i := 2) (N := some 12) (v := ?_) (a' := ?_) #[true, false, true, false, false, false, false, false, false] rfl rfl (any_of HT_.out (by kernel_rfl)) (fun _ _ _ h => h) (Or.inl ⟨by rfl, ?_⟩) ?_ ?_
               rotate_left
               ·
                intro w'
                go_simp
                with_reducible rfl
               rotate_left
               ·
                simp only [Act.put, List.setIfInBounds_toArray, List.set_cons_zero, List.set_cons_succ, i64_w, i32_w]
                rfl
               refine pure_ (i := 3) (N := some 13) (v := ?_) (a' := ?_) #[true, false, true, true, false, false, false, false, false] rfl rfl (any_of HT_.out (by kernel_rfl)) (fun _ _ _ h => h) (Or.inl ⟨by rfl, ?_⟩) ?_ ?_
               rotate_left
               ·
                intro w'
                go_simp
                with_reducible rfl
               rotate_left
               ·
                simp only [Act.put, List.setIfInBounds_toArray, List.set_cons_zero, List.set_cons_succ, i64_w, i32_w]
                rfl
               refine pure_ (i := 4) (N := some 14) (v := ?_) (a' := ?_) #[true, false, true, true, true, false, false, false, false] rfl rfl (any_of HT_.out (by kernel_rfl)) (fun _ _ _ h => h) (Or.inl ⟨by rfl, ?_⟩) ?_ ?_
               rotate_left
               ·
                intro w'
                go_simp
                with_reducible rfl
               rotate_left
               ·
                simp only [Act.put, List.setIfInBounds_toArray, List.set_cons_zero, List.set_cons_succ, i64_w, i32_w]
                rfl
               refine pure_ (i := 5) (N := some 15) (v := ?_) (a' := ?_) #[true, false, true, true, true, true, false, false, false] rfl rfl (any_of HT_.out (by kernel_rfl)) (fun _ _ _ h => h) (Or.inl ⟨by rfl, ?_⟩) ?_ ?_
               rotate_left
               ·
                intro w'
                go_simp
                with_reducible rfl
               rotate_left
               ·
                simp only [Act.put, List.setIfInBounds_toArray, List.set_cons_zero, List.set_cons_succ, i64_w, i32_w]
                rfl
               refine take_ (i := 1) (N := some 11) (v := ?_) (a' := ?_) #[true, true, true, true, true, true, false, false, false] rfl rfl (take_ofW HT_.out HW_.out (by kernel_rfl)) (fun _ _ _ h => h) (Or.inl ⟨by rfl, ?_⟩) hHeld ?_ ?_
               rotate_left
               ·
                rintro w' ⟨s0, s1⟩
                go_simp
                with_reducible rfl
               rotate_left
               ·
                simp only [Act.put, List.setIfInBounds_toArray, List.set_cons_zero, List.set_cons_succ, i64_w, i32_w]
                rfl
               refine pure_ (i := 6) (N := some 16) (v := ?_) (a' := ?_) #[true, true, true, true, true, true, true, false, false] rfl rfl (any_of HT_.out (by kernel_rfl)) (fun _ _ _ h => h) (Or.inl ⟨by rfl, ?_⟩) ?_ ?_
               rotate_left
               ·
                intro w'
                go_simp
                with_reducible rfl
               rotate_left
               ·
                simp only [Act.put, List.setIfInBounds_toArray, List.set_cons_zero, List.set_cons_succ, i64_w, i32_w]
                rfl
               refine pure_ (i := 7) (N := some 17) (v := ?_) (a' := ?_) #[true, true, true, true, true, true, true, true, false] rfl rfl (any_of HT_.out (by kernel_rfl)) (fun _ _ _ h => h) (Or.inl ⟨by rfl, ?_⟩) ?_ ?_
               rotate_left
               ·
                intro w'
                go_simp
                with_reducible rfl
               rotate_left
               ·
                simp only [Act.put, List.setIfInBounds_toArray, List.set_cons_zero, List.set_cons_succ, i64_w, i32_w]
                rfl
               refine last_ (i := 8) (N := none) #[true, true, true, true, true, true, true, true, true] rfl rfl (one_of HT_.out (by kernel_rfl)) (by decide) (fun K hK => ?_)
               have hs32 : w31.cell? ⟨gb231, 0, none⟩ = some (.string x232000_1) := (blk_cell BK231.out 0).trans rfl
               have hfs32 := blk_frozen BK231.out 0
               refine skip_ (w1 := ?_) (by rfl) rfl ?_ ?_
               rotate_left
               ·
                go_simp
                rfl
               refine hK.out _ _ ?_
               clear hK K
               refine done_ (done_of HT_.out (by kernel_rfl)) ?_
               try go_wp2
               go_roundg kj13
               case measure => have := HK1.out; have := HJ3.out; have := HJ13.out; omega
               case rel => exact ⟨(x1_1), (false), (wrap64 (x4_1 + 1)), (x232000_1 ++ (tx.extract (x4_1 : Int).toNat ((wrap64 (x4_1 + 1)) : Int).toNat)), (x232001_1), (by first | rfl | (simp; done) | (simp [*]; done)), (by first | rfl | (simp; done) | (simp [*]; done)), H', ⟨by have := HK1.out; have := HJ3.out; have := HJ13.out; omega⟩, ⟨by (with_reducible repeat (first | apply Kd.R_alloc | apply Kd.R_drewN | apply Kd.R_drew)); exact Kd.R_mono (Kd.R_far (p := ⟨gb231, 0, none⟩) (Kd.R_mono HO_1.out (fun k_ hk => (⟨hk, hk⟩ : _ ∧ k_ ≠ gb231))) (fun _ hk => hk.2) (.string (x232000_1 ++ (tx.extract (x4_1 : Int).toNat ((wrap64 (x4_1 + 1)) : Int).toNat)))) (fun _ hk => hk.1)⟩, ⟨by (with_reducible repeat (first | refine blk_drewN ?_ _ | refine blk_drew ?_ | refine blk_alloc ?_ _)); refine blk_put (cs := #[.string x232000_1, .string x232001_1]) ?_ 0 _ rfl; (with_reducible repeat (first | refine blk_drewN ?_ _ | refine blk_drew ?_ | refine blk_alloc ?_ _)); exact BK231.out⟩, ⟨by repeat (first | (with_reducible first | exact HB.out | apply below_alloc | apply pw_below_drewN | apply below_drew1 | refine below_set ?_ GE231.out) | exact HB.out)⟩⟩
              ·
               rw [if_neg c30] at H
               exact absurd H (by simp)
             ·
              rw [if_neg c29] at H
              exact absurd H (by simp)
            ·
             rw [if_neg c28] at H
             exact absurd H (by simp)
           ·
            rw [if_neg c27] at H
            exact absurd H (by simp)
   ·
    rw [if_neg c3] at H
    have c3b0 : decide (x4_1 ≤ 758) = false := decide_eq_false c3
    clear c3
    obtain rfl := Option.some.inj H
    go_wp2
    go_ret
    exact ⟨_, by first | rfl | (simp [errW_none, errW_some] <;> rfl) | (simp [*, errW_none, errW_some] <;> rfl), by (with_reducible repeat (first | apply Kd.R_alloc | apply Kd.R_drewN | apply Kd.R_drew)); exact Kd.R_mono HO_1.out (fun _ hk => trivial), by repeat (first | (with_reducible first | exact HB.out | apply below_alloc | apply pw_below_drewN | apply below_drew1 | refine below_set ?_ GE231.out) | exact HB.out)⟩
end Go.Proofs.YtfkdocmhbmameaaDoor.Mine
namespace Go.Proofs.YtfkdocmhbmameaaDoor.Mine
open Go.RowKit Go.Proofs.YtfkdocmhbmameaaDoorW.PrintWords Go.Proofs.YtfkdocmhbmameaaDoorW.PrintLast Go.Proofs.YtfkdocmhbmameaaDoorW.PrintMore
attribute [local go_sem] max2_int min2_int max_two min_two max_three min_three max_four min_four
set_option linter.unusedVariables false
set_option linter.unusedSimpArgs false
def nuncioref11_All.f (k : Nat) (a0_0 : Int) (l0_1 : List (S88)) : Option ((List (S88))) := (nuncioref11_Fixed.f k).bind fun t266 => (if t266.length + l0_1.length < 4398046511104 then (some (t266 ++ l0_1)) else (none))
set_option maxHeartbeats 8000000 in
set_option maxRecDepth 100000 in
theorem nuncioref11_All.calls (k : Nat) (a0_0 : Int) (A0_1 : Option Addr) (c0_1 : Nat) (l0_1 : List (S88)) (r : List (S88)) (w : World) (hr0_1 : Kd.C k88 w A0_1 l0_1.length l0_1) (hc0_1 : l0_1.length ≤ c0_1) (h : nuncioref11_All.f k a0_0 l0_1 = some r) :
  Calls Tryd.prog 60 #[.agg #[.int .i64 a0_0, .slice A0_1 l0_1.length c0_1]] w fun e w' => ∃ v0_ : Value, e = .returned (v0_) ∧ Kd.R k88 88 w' w.heap.size (fun _ => True) v0_ r ∧ Below w.heap.size w w' := by
 have hu37 := Tryd.underlying37
 have HR0_1 := Aside0.mk hr0_1
 have HC0_1 := Aside0.mk hc0_1
 clear hr0_1 hc0_1
 have HB := Aside0.mk (Below.refl w.heap.size w)
 have H : ((nuncioref11_Fixed.f k).bind fun t266 => (if t266.length + l0_1.length < 4398046511104 then (some (t266 ++ l0_1)) else (none))) = some r := h
 clear h
 replace H := Option.bind_eq_some_iff.mp H
 obtain ⟨t266, A20, H⟩ := H
 replace H : (if t266.length + l0_1.length < 4398046511104 then (some (t266 ++ l0_1)) else (none)) = some r := H
 have A2 := Aside0.mk A20
 clear A20
 by_cases c3 : t266.length + l0_1.length < 4398046511104
 ·
  rw [if_pos c3] at H
  have LMc3 := Aside0.mk c3
  clear c3
  obtain ⟨y269, hy269⟩ : ∃ y_ : List (S88), y_ = (t266 ++ l0_1) := ⟨_, rfl⟩
  replace H : (some y269) = some r := by first | (rw [hy269]; with_reducible exact H) | (have H2_ := (Option.bind_some _ _).symm.trans H; rw [hy269]; with_reducible exact H2_) | (have H2_ := (Option.bind_some _ _).symm.trans H; with_reducible exact H2_) | with_reducible exact H | (rw [hy269]; exact H) | exact H
  have Ny269 := Aside0.mk hy269
  clear hy269
  obtain rfl := Option.some.inj H
  go_enter Tryd.func60, Tryd.ntmps60
  try go_wp2_with (first | ((with_reducible refine gate_dst (N := 1) rfl ?_); refine box_event ?hg (N := 1) ?hd (cs := #[.int .i64 a0_0, .slice A0_1 l0_1.length c0_1]) (t := 37) ?hr ?_; (case hd => rfl); (case hg => rfl); (case hr => first | (go_simp; done) | (go_simp; rfl)); intro gb265 hg w4 hbox hb; have n0_ := Aside0.mk (below_step (by repeat (first | (with_reducible first | exact HB.out | apply below_alloc | apply pw_below_drewN | apply below_drew1) | exact HB.out)) hb); have n1_ := Aside0.mk (hbox); have n2_ := Aside0.mk ((by rw [hg]; exact (below_size (by repeat (first | (with_reducible first | exact HB.out | apply below_alloc | apply pw_below_drewN | apply below_drew1) | exact HB.out))) : w.heap.size ≤ gb265)); have n3_ := Aside0.mk ((by rw [hg]; exact (below_size (by repeat (first | (with_reducible first | exact HB.out | apply below_alloc | apply pw_below_drewN | apply below_drew1) | exact HB.out))) : w.heap.size ≤ gb265)); clear HB; have HB := n0_; have BK265 := n1_; have GW265 := n2_; have GE265 := n3_; clear n0_ n1_ n2_ n3_; clear hb hbox hg))
  have n0_ := Aside0.mk (blk_drew BK265.out)
  have n1_ := Aside0.mk (below_drew1 HB.out)
  clear BK265
  clear HB
  have BK265 := n0_
  have HB := n1_
  clear n0_ n1_
  refine start_ (n := 5) (S := fun w' => w'.cell? ⟨gb265, 0, none⟩ = some (.int .i64 a0_0) ∧ w'.cell? ⟨gb265, 1, none⟩ = some (.slice A0_1 l0_1.length c0_1)) (ds := []) #[false, false, false, false, false] (by kernel_rfl) rfl rfl ⟨(blk_cell BK265.out 0).trans rfl, (blk_cell BK265.out 1).trans rfl⟩ (fun hHeld => ?_)
  generalize w4.drew = w5 at BK265 HB hHeld ⊢
  refine pure_ (i := 1) (N := some 4) (v := ?_) (a' := ?_) #[false, true, false, false, false] rfl rfl (by kernel_rfl) (fun _ _ _ h => h) (Or.inl ⟨by rfl, ?_⟩) ?_ ?_
  rotate_left
  ·
   intro w'
   go_simp
   with_reducible rfl
  rotate_left
  ·
   simp only [Act.put, List.setIfInBounds_toArray, List.set_cons_zero, List.set_cons_succ, i64_w, i32_w]
   rfl
  refine take_ (i := 2) (N := some 5) (v := ?_) (a' := ?_) #[false, true, true, false, false] rfl rfl (by kernel_rfl) (fun _ _ _ h => h) (Or.inl ⟨by rfl, ?_⟩) hHeld ?_ ?_
  rotate_left
  ·
   rintro w' ⟨s0, s1⟩
   go_simp
   with_reducible rfl
  rotate_left
  ·
   simp only [Act.put, List.setIfInBounds_toArray, List.set_cons_zero, List.set_cons_succ, i64_w, i32_w]
   rfl
  refine one_ (i := 0) (N := some 3) #[true, true, true, false, false] rfl rfl (by kernel_rfl) (by decide) (fun K hK => ?_)
  refine goes_ Tryd.func73 (by kernel_rfl) rfl #[] (by rfl) rfl rfl (by (try simp only [List.map_toArray, List.map_cons, List.map_nil]); first | done | rfl | (simp only [List.length_drop, List.length_take]; rfl)) ?_
  with_reducible refine (nuncioref11_Fixed.calls k  t266 _ A2.out).mono ?_
  rintro e w6 ⟨v267, rfl, ho0, hb⟩
  refine ⟨_, rfl, ?_⟩
  have n0_ := Aside0.mk (Kd.R_lower ho0 (below_size (by repeat (first | (with_reducible first | exact HB.out | apply below_alloc | apply pw_below_drewN | apply below_drew1 | refine below_set ?_ GE265.out) | exact HB.out))))
  have n1_ := Aside0.mk (blk_below (g := gb265) (o := .cells #[.int .i64 a0_0, .slice A0_1 l0_1.length c0_1] 37 (0, 0)) (by (with_reducible repeat (first | refine blk_drewN ?_ _ | refine blk_drew ?_ | refine blk_alloc ?_ _)); exact BK265.out) hb)
  have n2_ := Aside0.mk (below_step (by repeat (first | (with_reducible first | exact HB.out | apply below_alloc | apply pw_below_drewN | apply below_drew1 | refine below_set ?_ GE265.out) | exact HB.out)) hb)
  clear BK265
  clear HB
  have HO268 := n0_
  have BK265 := n1_
  have HB := n2_
  clear n0_ n1_ n2_
  (try clear hb)
  (try clear hb2)
  (try clear hk)
  (try clear hi)
  (try clear ho0)
  refine hK.out _ _ ⟨(blk_cell BK265.out 0).trans rfl, (blk_cell BK265.out 1).trans rfl⟩ (fun hHeld => ?_)
  clear hK K
  refine norm_ (a' := ?_) ?_ ?_
  rotate_left
  ·
   show Act.put _ (some 3) _ = _
   simp only [Act.put, List.setIfInBounds_toArray, List.set_cons_zero, List.set_cons_succ, i64_w, i32_w]
   rfl
  refine one_ (i := 3) (N := some 6) #[true, true, true, true, false] rfl rfl (by kernel_rfl) (by decide) (fun K hK => ?_)
  refine Kd.R_append_rows_step k88 (w0 := w) w.heap.size (by rfl) (.tmp 3) (.tmp 5) 35 88 (.agg #[(.string ⟨#[]⟩), (.string ⟨#[]⟩)]) 32 rfl Tryd.underlying35 info88 rfl (by decide) (by omega) v267 t266 l0_1 _ _ _ (fun _ => True) (fun _ => False) rfl rfl ?aO ?aR (fun _ _ h => h) (fun _ h => h.elim) ?aF ?aB ?aS ?aL ?_
  (case aR => repeat (first | exact (Kd.C_below HR0_1.out HB.out) | (with_reducible refine Kd.C_alloc ?_ _) | (with_reducible refine Kd.C_drewN ?_ _) | (with_reducible refine Kd.C_drew ?_)))
  (case aB => exact (by repeat (first | (with_reducible first | exact HB.out | apply below_alloc | apply pw_below_drewN | apply below_drew1 | refine below_set ?_ GE265.out) | exact HB.out)))
  (case aF => exact (fun _ _ => trivial))
  (case aO => exact (by (with_reducible repeat (first | apply Kd.R_alloc | apply Kd.R_drewN | apply Kd.R_drew)); exact HO268.out))
  (case aS => exact (below_size (by repeat (first | (with_reducible first | exact HB.out | apply below_alloc | apply pw_below_drewN | apply below_drew1 | refine below_set ?_ GE265.out) | exact HB.out))))
  (case aL => have := LMc3.out; omega)
  intro v270 w7 ho hb hg hat
  rw [← Ny269.out] at ho
  have n0_ := Aside0.mk (blk_grown (g := gb265) (o := .cells #[.int .i64 a0_0, .slice A0_1 l0_1.length c0_1] 37 (0, 0)) (by (with_reducible repeat (first | refine blk_drewN ?_ _ | refine blk_drew ?_ | refine blk_alloc ?_ _)); exact BK265.out) hg (Kd.R_ne HO268.out BK265.out (by decide)))
  have n1_ := Aside0.mk (hb)
  have n2_ := Aside0.mk (ho)
  clear BK265
  clear HB
  clear HO268
  have BK265 := n0_
  have HB := n1_
  have HO271 := n2_
  clear n0_ n1_ n2_
  clear ho hb hg hat
  refine hK.out _ _ ⟨(blk_cell BK265.out 0).trans rfl, (blk_cell BK265.out 1).trans rfl⟩ (fun hHeld => ?_)
  clear hK K
  refine norm_ (a' := ?_) ?_ ?_
  rotate_left
  ·
   show Act.put _ (some 6) _ = _
   simp only [Act.put, List.setIfInBounds_toArray, List.set_cons_zero, List.set_cons_succ, i64_w, i32_w]
   rfl
  refine pure_ (i := 4) (N := some 2) (v := ?_) (a' := ?_) #[true, true, true, true, true] rfl rfl (by kernel_rfl) (fun _ _ _ h => h) (Or.inl ⟨by rfl, ?_⟩) ?_ ?_
  rotate_left
  ·
   intro w'
   go_simp
   with_reducible rfl
  rotate_left
  ·
   simp only [Act.put, List.setIfInBounds_toArray, List.set_cons_zero, List.set_cons_succ, i64_w, i32_w]
   rfl
  refine done_ (by kernel_rfl) ?_
  try go_wp2
  go_ret
  exact ⟨_, by first | rfl | (simp [errW_none, errW_some] <;> rfl) | (simp [*, errW_none, errW_some] <;> rfl), by (with_reducible repeat (first | apply Kd.R_alloc | apply Kd.R_drewN | apply Kd.R_drew)); exact HO271.out, by repeat (first | (with_reducible first | exact HB.out | apply below_alloc | apply pw_below_drewN | apply below_drew1 | refine below_set ?_ GE265.out) | exact HB.out)⟩
 ·
  rw [if_neg c3] at H
  exact absurd H (by simp)
end Go.Proofs.YtfkdocmhbmameaaDoor.Mine
