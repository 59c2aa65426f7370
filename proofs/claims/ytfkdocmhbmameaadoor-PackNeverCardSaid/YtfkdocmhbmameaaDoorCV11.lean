/- The walks and the plain laws that the rows come to: merged out of this repo's texts. -/
import Derived.Test.YtfkdocmhbmameaaDoorProg
import Derived.Below
import Derived.Deep.Draws
import Derived.Deep.AppendLies
import Derived.Maps.AppendAt
import Derived.OwnWalk
import Derived.Laws.BytesArg
import Derived.Laws.MakeOwn
import Derived.Laws.OwnMore
import Derived.Deep.OwnRows
import Derived.Tactics
import Derived.Lib.ConvBytes
import Derived.Laws.Slices
import Derived.WalkKit
import Derived.KernelRfl
import Derived.RowKit3
import Derived.Deep.LoopGhost
import Derived.Deep.QuietTactic
import Derived.BigQuiet
import Derived.WideLaws
import Derived.Deep.DeepCutAuto
import Derived.Deep.CutBlock
import Derived.Deep.RegionHeld3
import Derived.Laws.Rows
import Derived.Lib.AppendStr
import Derived.ArgAppend
import Derived.Laws.IdiomCopy
import Derived.RowKit
import Derived.OrdersHeld
import Derived.Laws.BitsLemmas
import Derived.Laws.StructEq
import Derived.Laws.CopyOwn
import Derived.SizedLaws
import Derived.ChangeSlices
import Derived.Deep.Slices
import Derived.Lib.SmallJoins
import Derived.Lib.OthersKept
import Derived.Lib.AppendZerosOnto
import Derived.WalkSpells
import Derived.Test.YtfkdocmhbmameaaDoorCV1
import Derived.Test.YtfkdocmhbmameaaDoorCV2
import Derived.Test.YtfkdocmhbmameaaDoorCV3
import Derived.Test.YtfkdocmhbmameaaDoorCV4
import Derived.Test.YtfkdocmhbmameaaDoorCV5
import Derived.Test.YtfkdocmhbmameaaDoorCV6
import Derived.Test.YtfkdocmhbmameaaDoorCV7
import Derived.Test.YtfkdocmhbmameaaDoorCV8
import Derived.Test.YtfkdocmhbmameaaDoorCV9
import Derived.Test.YtfkdocmhbmameaaDoorCV10
namespace Go.Proofs.YtfkdocmhbmameaaDoor.Mine
open Go.RowKit Go.Proofs.YtfkdocmhbmameaaDoorW.PrintWords Go.Proofs.YtfkdocmhbmameaaDoorW.PrintLast Go.Proofs.YtfkdocmhbmameaaDoorW.PrintMore
attribute [local go_sem] max2_int min2_int max_two min_two max_three min_three max_four min_four
set_option linter.unusedVariables false
set_option linter.unusedSimpArgs false
mutual
def nuncioref13_Write.l0 : Nat → List (S26) → ByteArray → Int → Int → Int → List (S88) → List Int → Option (Int × (List (S88)) × List Int × ByteArray)
  | 0, _, _, _, _, _, _, _ => none
  | k + 1, x1, x6, x7, x8, x298000, x298001, x298002 => if x8 < (x298002.length : Int) then (if 0 ≤ x8 then (if (rd x298002 x8) < x7 then (nuncioref13_Write.l0 k x1 x6 (rd x298002 x8) (wrap64 (x8 + 1)) x298000 x298001 x298002) else (nuncioref13_Write.l0 k x1 x6 x7 (wrap64 (x8 + 1)) x298000 x298001 x298002)) else (none)) else (if x7 < x298000 then ((nuncioref09_Put.f k x6 32 5 (IntKind.u64.wrap (x7))).bind fun t301 => (nuncioref13_Write.j1 k x1 t301 x298000 x298001 x298002)) else (nuncioref13_Write.j1 k x1 x6 x298000 x298001 x298002))
def nuncioref13_Write.j1 : Nat → List (S26) → ByteArray → Int → List (S88) → List Int → Option (Int × (List (S88)) × List Int × ByteArray)
  | 0, _, _, _, _, _ => none
  | k + 1, x1, x6, x298000, x298001, x298002 => if (x298002.length : Int) > 0 then ((nuncioref09_Put.f k x6 32 5 (IntKind.u64.wrap (x298000))).bind fun t302 => (nuncioref13_Write.j2 k x1 t302 x298000 x298001 x298002)) else (nuncioref13_Write.j2 k x1 x6 x298000 x298001 x298002)
def nuncioref13_Write.j2 : Nat → List (S26) → ByteArray → Int → List (S88) → List Int → Option (Int × (List (S88)) × List Int × ByteArray)
  | 0, _, _, _, _, _ => none
  | k + 1, x1, x6, x298000, x298001, x298002 => nuncioref13_Write.l1 k x1 x6 0 x298000 x298001
def nuncioref13_Write.l1 : Nat → List (S26) → ByteArray → Int → Int → List (S88) → Option (Int × (List (S88)) × List Int × ByteArray)
  | 0, _, _, _, _, _ => none
  | k + 1, x1, x6, x9, x298000, x298001 => if x9 < (x1.length : Int) then (if 0 ≤ x9 then ((nuncioref11_Find.f k x298000 x298001 ((rd_T26 x1 x9).f0) ((rd_T26 x1 x9).f1)).bind fun bt305 => (if (rd_T26 x1 x9).f2 = true then ((nuncioref13_literal.f k x6 16 4 bt305.1 ((rd_T26 x1 x9).f0) ((rd_T26 x1 x9).f1) ((rd_T26 x1 x9).f2)).bind fun t307 => (nuncioref13_Write.l1 k x1 t307 (wrap64 (x9 + 1)) x298000 x298001)) else (if bt305.2 = true then ((nuncioref09_Put.f k x6 128 7 (IntKind.u64.wrap (bt305.1))).bind fun t308 => (nuncioref13_Write.l1 k x1 t308 (wrap64 (x9 + 1)) x298000 x298001)) else (if (((rd_T26 x1 x9).f0).size : Int) ≤ x298000 then (if (((rd_T26 x1 x9).f1).size : Int) ≤ x298000 then (nuncioref13_Write.j4 k x1 x6 x9 bt305.1 (decide ((wrap64 ((wrap64 ((((rd_T26 x1 x9).f0).size : Int) + (((rd_T26 x1 x9).f1).size : Int))) + 32)) ≤ x298000)) x298000 x298001 ((rd_T26 x1 x9).f0) ((rd_T26 x1 x9).f1) ((rd_T26 x1 x9).f2)) else (nuncioref13_Write.j4 k x1 x6 x9 bt305.1 false x298000 x298001 ((rd_T26 x1 x9).f0) ((rd_T26 x1 x9).f1) ((rd_T26 x1 x9).f2))) else (nuncioref13_Write.j4 k x1 x6 x9 bt305.1 false x298000 x298001 ((rd_T26 x1 x9).f0) ((rd_T26 x1 x9).f1) ((rd_T26 x1 x9).f2)))))) else (none)) else (some (x298000, x298001, ([] : List Int), x6))
def nuncioref13_Write.j4 : Nat → List (S26) → ByteArray → Int → Int → Bool → Int → List (S88) → ByteArray → ByteArray → Bool → Option (Int × (List (S88)) × List Int × ByteArray)
  | 0, _, _, _, _, _, _, _, _, _, _ => none
  | k + 1, x1, x6, x9, x11, x115, x298000, x298001, x305000, x305001, x305002 => if x115 = true then ((nuncioref13_literal.f k x6 64 6 x11 x305000 x305001 x305002).bind fun t309 => ((nuncioref11_Add.f k x298000 x298001 x305000 x305001).bind fun bt310 => (nuncioref13_Write.l1 k x1 t309 (wrap64 (x9 + 1)) bt310.1 bt310.2))) else ((nuncioref13_literal.f k x6 0 4 x11 x305000 x305001 x305002).bind fun t314 => (nuncioref13_Write.l1 k x1 t314 (wrap64 (x9 + 1)) x298000 x298001))
end
def nuncioref13_Write.f (k : Nat) (a0_0 : Int) (l0_1 : List (S88)) (l0_2 : List Int) (l1 : List (S26)) : Option (Int × (List (S88)) × List Int × ByteArray) := nuncioref13_Write.l0 k l1 (⟨#[]⟩ : ByteArray) a0_0 0 a0_0 l0_1 l0_2
set_option maxHeartbeats 8000000 in
set_option maxRecDepth 100000 in
theorem rf_write (k b0 : Nat) (a0_0 : Int) (P0_1_ : Nat → Prop) (A0_1 : Option Addr) (c0_1 : Nat) (l0_1 : List (S88)) (A0_2 : Option Addr) (c0_2 : Nat) (l0_2 : List Int) (A1 : Option Addr) (c1 : Nat) (l1 : List (S26)) (r1 : Int) (r2 : List (S88)) (r3 : List Int) (r4 : ByteArray) (w : World) (hb0 : b0 ≤ w.heap.size) (hs0_1 : Kd.R k88 88 w b0 (fun k_ => P0_1_ k_) (.slice A0_1 l0_1.length c0_1) l0_1) (hr0_2 : Kd.C (Kd.int .i64) w A0_2 l0_2.length l0_2) (hc0_2 : l0_2.length ≤ c0_2) (hr1 : Kd.C k26 w A1 l1.length l1) (hc1 : l1.length ≤ c1) (h : nuncioref13_Write.f k a0_0 l0_1 l0_2 l1 = some (r1, r2, r3, r4)) :
    Calls Tryd.prog 19 #[.agg #[.int .i64 a0_0, .slice A0_1 l0_1.length c0_1, .slice A0_2 l0_2.length c0_2], .slice A1 l1.length c1] w fun e w' => ∃ v1_ v2_ : Value, e = .returned (.tuple #[.agg #[.int .i64 r1, v1_, v2_], .string r4]) ∧ Kd.R k88 88 w' b0 (fun k_ => (P0_1_ k_ ∨ w.heap.size ≤ k_) ∧ some k_ ≠ (v2_ : Value).ownBlock) v1_ r2 ∧ Kd.R (Kd.int .i64) 3 w' w.heap.size (fun k_ => (w.heap.size ≤ k_)) v2_ r3 ∧ Below w.heap.size w w' := by
  have hb0_ := Aside0.mk hb0
  clear hb0
  have hu40 := Tryd.underlying40
  have hu26 := Tryd.underlying26
  have hu37 := Tryd.underlying37
  have HO0_1 := Aside0.mk (show Kd.R k88 88 w b0 (fun k_ => (P0_1_ k_ ∨ w.heap.size ≤ k_)) (.slice A0_1 l0_1.length c0_1) l0_1 from Kd.R_mono hs0_1 (fun k_ hk => .inl hk))
  have HR0_2 := Aside0.mk hr0_2
  have HC0_2 := Aside0.mk hc0_2
  clear hr0_2 hc0_2
  have HR1 := Aside0.mk hr1
  have HC1 := Aside0.mk hc1
  clear hr1 hc1
  have HB := Aside0.mk (Below.refl w.heap.size w)
  have H : (nuncioref13_Write.l0 k l1 (⟨#[]⟩ : ByteArray) a0_0 0 a0_0 l0_1 l0_2) = some (r1, r2, r3, r4) := h
  clear h
  have H' := Aside0.mk H
  clear H
  go_enter Tryd.func19, Tryd.ntmps19
  go_wp2_with (first | ((with_reducible refine gate_dst (N := 2) rfl ?_); (try (refine gate_guard (by rfl) ?_; dsimp only)); refine box_event ?hg (N := 2) ?hd (cs := #[.int .i64 a0_0, .slice A0_1 l0_1.length c0_1, .slice A0_2 l0_2.length c0_2]) (t := 40) ?hr ?_; (case hd => rfl); (case hg => rfl); (case hr => first | (go_simp; done) | (go_simp; rfl)); intro gb297 hg w3 hbox hb; have n0_ := Aside0.mk (Kd.R_below (Kd.R_elderB (by (with_reducible repeat (first | apply Kd.R_alloc | apply Kd.R_drewN | apply Kd.R_drew)); exact HO0_1.out) gb297 (Nat.le_of_eq hg.symm)) hb); have n1_ := Aside0.mk (below_step (by repeat (first | (with_reducible first | exact HB.out | apply below_alloc | apply pw_below_drewN | apply below_drew1) | exact HB.out)) hb); have n2_ := Aside0.mk (hbox); have n3_ := Aside0.mk ((by rw [hg]; exact (below_size (by repeat (first | (with_reducible first | exact HB.out | apply below_alloc | apply pw_below_drewN | apply below_drew1) | exact HB.out))) : w.heap.size ≤ gb297)); have n4_ := Aside0.mk ((by rw [hg]; exact (below_size (by repeat (first | (with_reducible first | exact HB.out | apply below_alloc | apply pw_below_drewN | apply below_drew1) | exact HB.out))) : w.heap.size ≤ gb297)); clear HO0_1; clear HB; have HO0_1 := n0_; have HB := n1_; have BK297 := n2_; have GW297 := n3_; have GE297 := n4_; clear n0_ n1_ n2_ n3_ n4_; clear hb hbox hg) | ((with_reducible refine gate_dst (N := 4) rfl ?_); (try (refine gate_guard (by rfl) ?_; dsimp only)); refine box_event ?hg (N := 4) ?hd (cs := #[.int .i64 0, .slice none 0 0, .slice none 0 0]) (t := 40) ?hr ?_; (case hd => rfl); (case hg => rfl); (case hr => first | (go_simp; done) | (go_simp; rfl)); intro gb298 hg w4 hbox hb; have n0_ := Aside0.mk (Kd.R_below (Kd.R_elderB (by (with_reducible repeat (first | apply Kd.R_alloc | apply Kd.R_drewN | apply Kd.R_drew)); exact HO0_1.out) gb298 (Nat.le_of_eq hg.symm)) hb); have n1_ := Aside0.mk (blk_below (g := gb297) (o := .cells #[.int .i64 a0_0, .slice A0_1 l0_1.length c0_1, .slice A0_2 l0_2.length c0_2] 40 (0, 0)) (by (with_reducible repeat (first | refine blk_drewN ?_ _ | refine blk_drew ?_ | refine blk_alloc ?_ _)); exact BK297.out) hb); have n2_ := Aside0.mk (below_step (by repeat (first | (with_reducible first | exact HB.out | apply below_alloc | apply pw_below_drewN | apply below_drew1 | refine below_set ?_ GE297.out) | exact HB.out)) hb); have n3_ := Aside0.mk (hbox); have n4_ := Aside0.mk ((by rw [hg]; exact (below_size (by repeat (first | (with_reducible first | exact HB.out | apply below_alloc | apply pw_below_drewN | apply below_drew1 | refine below_set ?_ GE297.out) | exact HB.out))) : w.heap.size ≤ gb298)); have n5_ := Aside0.mk ((by rw [hg]; exact (below_size (by repeat (first | (with_reducible first | exact HB.out | apply below_alloc | apply pw_below_drewN | apply below_drew1 | refine below_set ?_ GE297.out) | exact HB.out))) : w.heap.size ≤ gb298)); have n6_ := Aside0.mk ((by rw [hg]; exact Nat.ne_of_lt (blk_lt (g := gb297) (o := .cells #[.int .i64 a0_0, .slice A0_1 l0_1.length c0_1, .slice A0_2 l0_2.length c0_2] 40 (0, 0)) (by (with_reducible repeat (first | refine blk_drewN ?_ _ | refine blk_drew ?_ | refine blk_alloc ?_ _)); exact BK297.out)) : gb297 ≠ gb298)); have n7_ := Aside0.mk ((by rw [hg]; exact Nat.ne_of_gt (blk_lt (g := gb297) (o := .cells #[.int .i64 a0_0, .slice A0_1 l0_1.length c0_1, .slice A0_2 l0_2.length c0_2] 40 (0, 0)) (by (with_reducible repeat (first | refine blk_drewN ?_ _ | refine blk_drew ?_ | refine blk_alloc ?_ _)); exact BK297.out)) : gb298 ≠ gb297)); clear HO0_1; clear BK297; clear HB; have HO0_1 := n0_; have BK297 := n1_; have HB := n2_; have BK298 := n3_; have GW298 := n4_; have GE298 := n5_; have NB297_298 := n6_; have NB298_297 := n7_; clear n0_ n1_ n2_ n3_ n4_ n5_ n6_ n7_; clear hb hbox hg; have hnb5 := NB297_298.out; have hnc5 := NB298_297.out; have hcz6_0 : w4.cell? ⟨gb297, 0, none⟩ = some (.int .i64 a0_0) := (blk_cell BK297.out 0).trans rfl; have hcz6_1 : w4.cell? ⟨gb297, 1, none⟩ = some (.slice A0_1 l0_1.length c0_1) := (blk_cell BK297.out 1).trans rfl; have hcz6_2 : w4.cell? ⟨gb297, 2, none⟩ = some (.slice A0_2 l0_2.length c0_2) := (blk_cell BK297.out 2).trans rfl; have hfz6_0 := blk_frozen BK297.out 0; have hfz6_1 := blk_frozen BK297.out 1; have hfz6_2 := blk_frozen BK297.out 2))
  go_loopg [7, 8] k (fun kq v7 v8 w' => ∃ (x7_1 : Int) (x8_1 : Int), v7 = .int .i64 x7_1 ∧ v8 = .int .i64 x8_1 ∧ Aside0 (nuncioref13_Write.l0 kq l1 (⟨#[]⟩ : ByteArray) x7_1 x8_1 a0_0 l0_1 l0_2 = some (r1, r2, r3, r4)) ∧ Aside0 (kq ≤ k) ∧ Aside0 (Kd.R k88 88 w' b0 (fun k_ => (P0_1_ k_ ∨ w.heap.size ≤ k_) ∧ k_ ≠ gb297 ∧ k_ ≠ gb298) (.slice A0_1 l0_1.length c0_1) l0_1) ∧ Aside0 (w'.heap[gb297]? = some (.cells #[.int .i64 a0_0, (.slice A0_1 l0_1.length c0_1), (.slice A0_2 l0_2.length c0_2)] 40 (0, 0))) ∧ Aside0 (w'.heap[gb298]? = some (.cells #[.int .i64 0, (.slice none 0 0), (.slice none 0 0)] 40 (0, 0))) ∧ Aside0 (Below w.heap.size w w'))
  case atStart => exact ⟨(a0_0), (0), (by first | rfl | (simp; done) | (simp [*]; done)), (by first | rfl | (simp; done) | (simp [*]; done)), H', ⟨Nat.le_refl _⟩, ⟨by (with_reducible repeat (first | apply Kd.R_alloc | apply Kd.R_drewN | apply Kd.R_drew)); exact Kd.R_mono HO0_1.out (fun _ hk => ⟨hk.1.1, ⟨hk.1.2, hk.2⟩⟩)⟩, ⟨by (with_reducible repeat (first | refine blk_drewN ?_ _ | refine blk_drew ?_ | refine blk_alloc ?_ _)); exact BK297.out⟩, ⟨by (with_reducible repeat (first | refine blk_drewN ?_ _ | refine blk_drew ?_ | refine blk_alloc ?_ _)); exact BK298.out⟩, ⟨by repeat (first | (with_reducible first | exact HB.out | apply below_alloc | apply pw_below_drewN | apply below_drew1 | refine below_set ?_ GE297.out | refine below_set ?_ GE298.out) | exact HB.out)⟩⟩
  case round =>
    clear H'
    try clear c1
    try clear p2
    try clear c5
    try clear hcz6_0
    try clear hcz6_1
    try clear hcz6_2
    try clear hfz6_0
    try clear hfz6_1
    try clear hfz6_2
    obtain ⟨x7_1, x8_1, rfl, rfl, HA, HK1, HO_298001, BK297, BK298, HB⟩ := hrel
    cases gk with
    | zero => exact absurd HA.out (by simp [nuncioref13_Write.l0])
    | succ k1 =>
      have H := HA.out
      clear HA
      simp only [nuncioref13_Write.l0] at H
      by_cases c7 : x8_1 < (l0_2.length : Int)
      · rw [if_pos c7] at H
        have c7b0 : decide (x8_1 < (l0_2.length : Int)) = true := decide_eq_true c7
        clear c7
        by_cases c8 : 0 ≤ x8_1
        · rw [if_pos c8] at H
          have c8b0 : decide (0 ≤ x8_1) = true := decide_eq_true c8
          clear c8
          by_cases c9 : (rd l0_2 x8_1) < x7_1
          · rw [if_pos c9] at H
            have c9b0 : decide ((rd l0_2 x8_1) < x7_1) = true := decide_eq_true c9
            clear c9
            have H' := Aside0.mk H
            clear H
            have hnb10 := NB297_298.out
            have hnc10 := NB298_297.out
            have hcz11_0 : wr.cell? ⟨gb297, 0, none⟩ = some (.int .i64 a0_0) := (blk_cell BK297.out 0).trans rfl
            have hcz11_1 : wr.cell? ⟨gb297, 1, none⟩ = some (.slice A0_1 l0_1.length c0_1) := (blk_cell BK297.out 1).trans rfl
            have hcz11_2 : wr.cell? ⟨gb297, 2, none⟩ = some (.slice A0_2 l0_2.length c0_2) := (blk_cell BK297.out 2).trans rfl
            have hfz11_0 := blk_frozen BK297.out 0
            have hfz11_1 := blk_frozen BK297.out 1
            have hfz11_2 := blk_frozen BK297.out 2
            have p299 : 0 ≤ (x8_1 : Int) := of_decide_eq_true (by first | (with_reducible assumption) | assumption)
            have q299 : x8_1 < (l0_2.length : Int) := of_decide_eq_true (by first | (with_reducible assumption) | assumption)
            obtain ⟨ad299, e299, hx299_0⟩ := Kd.at_int HR0_2.out x8_1 p299 q299
            cases e299
            replace hx299_0 := (HB.out.cell (World.block_lt_of_cell? w _ hx299_0)).trans hx299_0
            replace p299 := eq_true p299
            replace q299 := eq_true q299
            have p300 : 0 ≤ (x8_1 : Int) := of_decide_eq_true (by first | (with_reducible assumption) | assumption)
            have q300 : x8_1 < (l0_2.length : Int) := of_decide_eq_true (by first | (with_reducible assumption) | assumption)
            obtain ⟨ad300, e300, hx300_0⟩ := Kd.at_int HR0_2.out x8_1 p300 q300
            obtain rfl : ad299 = ad300 := (by injection e300)
            replace hx300_0 := (HB.out.cell (World.block_lt_of_cell? w _ hx300_0)).trans hx300_0
            replace p300 := eq_true p300
            replace q300 := eq_true q300
            go_wp2
            go_roundg k1
            case measure => have := HK1.out; omega
            case rel => exact ⟨(rd l0_2 x8_1), (wrap64 (x8_1 + 1)), (by first | rfl | (simp; done) | (simp [*]; done)), (by first | rfl | (simp; done) | (simp [*]; done)), H', ⟨by have := HK1.out; omega⟩, ⟨by (with_reducible repeat (first | apply Kd.R_alloc | apply Kd.R_drewN | apply Kd.R_drew)); exact HO_298001.out⟩, ⟨by (with_reducible repeat (first | refine blk_drewN ?_ _ | refine blk_drew ?_ | refine blk_alloc ?_ _)); exact BK297.out⟩, ⟨by (with_reducible repeat (first | refine blk_drewN ?_ _ | refine blk_drew ?_ | refine blk_alloc ?_ _)); exact BK298.out⟩, ⟨by repeat (first | (with_reducible first | exact HB.out | apply below_alloc | apply pw_below_drewN | apply below_drew1 | refine below_set ?_ GE297.out | refine below_set ?_ GE298.out) | exact HB.out)⟩⟩
          · rw [if_neg c9] at H
            have c9b0 : decide ((rd l0_2 x8_1) < x7_1) = false := decide_eq_false c9
            clear c9
            have H' := Aside0.mk H
            clear H
            have hnb12 := NB297_298.out
            have hnc12 := NB298_297.out
            have hcz13_0 : wr.cell? ⟨gb297, 0, none⟩ = some (.int .i64 a0_0) := (blk_cell BK297.out 0).trans rfl
            have hcz13_1 : wr.cell? ⟨gb297, 1, none⟩ = some (.slice A0_1 l0_1.length c0_1) := (blk_cell BK297.out 1).trans rfl
            have hcz13_2 : wr.cell? ⟨gb297, 2, none⟩ = some (.slice A0_2 l0_2.length c0_2) := (blk_cell BK297.out 2).trans rfl
            have hfz13_0 := blk_frozen BK297.out 0
            have hfz13_1 := blk_frozen BK297.out 1
            have hfz13_2 := blk_frozen BK297.out 2
            have p299 : 0 ≤ (x8_1 : Int) := of_decide_eq_true (by first | (with_reducible assumption) | assumption)
            have q299 : x8_1 < (l0_2.length : Int) := of_decide_eq_true (by first | (with_reducible assumption) | assumption)
            obtain ⟨ad299, e299, hx299_0⟩ := Kd.at_int HR0_2.out x8_1 p299 q299
            cases e299
            replace hx299_0 := (HB.out.cell (World.block_lt_of_cell? w _ hx299_0)).trans hx299_0
            replace p299 := eq_true p299
            replace q299 := eq_true q299
            go_wp2
            go_roundg k1
            case measure => have := HK1.out; omega
            case rel => exact ⟨(x7_1), (wrap64 (x8_1 + 1)), (by first | rfl | (simp; done) | (simp [*]; done)), (by first | rfl | (simp; done) | (simp [*]; done)), H', ⟨by have := HK1.out; omega⟩, ⟨by (with_reducible repeat (first | apply Kd.R_alloc | apply Kd.R_drewN | apply Kd.R_drew)); exact HO_298001.out⟩, ⟨by (with_reducible repeat (first | refine blk_drewN ?_ _ | refine blk_drew ?_ | refine blk_alloc ?_ _)); exact BK297.out⟩, ⟨by (with_reducible repeat (first | refine blk_drewN ?_ _ | refine blk_drew ?_ | refine blk_alloc ?_ _)); exact BK298.out⟩, ⟨by repeat (first | (with_reducible first | exact HB.out | apply below_alloc | apply pw_below_drewN | apply below_drew1 | refine below_set ?_ GE297.out | refine below_set ?_ GE298.out) | exact HB.out)⟩⟩
        · rw [if_neg c8] at H
          exact absurd H (by simp)
      · rw [if_neg c7] at H
        have c7b0 : decide (x8_1 < (l0_2.length : Int)) = false := decide_eq_false c7
        clear c7
        have HC14 := Aside0.mk H
        clear H
        have hnb15 := NB297_298.out
        have hnc15 := NB298_297.out
        have hcz16_0 : wr.cell? ⟨gb297, 0, none⟩ = some (.int .i64 a0_0) := (blk_cell BK297.out 0).trans rfl
        have hcz16_1 : wr.cell? ⟨gb297, 1, none⟩ = some (.slice A0_1 l0_1.length c0_1) := (blk_cell BK297.out 1).trans rfl
        have hcz16_2 : wr.cell? ⟨gb297, 2, none⟩ = some (.slice A0_2 l0_2.length c0_2) := (blk_cell BK297.out 2).trans rfl
        have hfz16_0 := blk_frozen BK297.out 0
        have hfz16_1 := blk_frozen BK297.out 1
        have hfz16_2 := blk_frozen BK297.out 2
        go_upto_if 39 with (fail)
        go_cut [6] (fun v6 wc => ∃ (kq : Nat) (x6_13 : ByteArray), v6 = .string x6_13 ∧ Aside0 (nuncioref13_Write.j1 kq l1 x6_13 a0_0 l0_1 l0_2 = some (r1, r2, r3, r4)) ∧ Aside0 (kq ≤ k1) ∧ Aside0 (Kd.R k88 88 wc b0 (fun k_ => (P0_1_ k_ ∨ w.heap.size ≤ k_) ∧ k_ ≠ gb297 ∧ k_ ≠ gb298) (.slice A0_1 l0_1.length c0_1) l0_1) ∧ Aside0 (wc.heap[gb297]? = some (.cells #[.int .i64 a0_0, (.slice A0_1 l0_1.length c0_1), (.slice A0_2 l0_2.length c0_2)] 40 (0, 0))) ∧ Aside0 (wc.heap[gb298]? = some (.cells #[.int .i64 0, (.slice none 0 0), (.slice none 0 0)] 40 (0, 0))) ∧ Aside0 (Below w.heap.size w wc))
        case first =>
          have H := HC14.out
          clear HC14
          by_cases c17 : x7_1 < a0_0
          · rw [if_pos c17] at H
            have c17b0 : decide (x7_1 < a0_0) = true := decide_eq_true c17
            clear c17
            (first | rw [c17b0] | rw [c17b1] | (simp only [i64_w, i32_w]; rw [c17b0]) | skip)
            replace H := Option.bind_eq_some_iff.mp H
            obtain ⟨t301, A180, H⟩ := H
            replace H : (nuncioref13_Write.j1 k1 l1 t301 a0_0 l0_1 l0_2) = some (r1, r2, r3, r4) := H
            have A18 := Aside0.mk A180
            clear A180
            have H' := Aside0.mk H
            clear H
            go_wp2_with (first | ((with_reducible refine gate_callee (f := 41) rfl ?_); refine goesL_ (some 43) rfl rfl Tryd.func41 (by kernel_rfl) rfl #[.string (⟨#[]⟩ : ByteArray), .int .u8 32, .int .i64 5, .int .u64 (IntKind.u64.wrap (x7_1))] rfl (by (try simp only [List.map_toArray, List.map_cons, List.map_nil]); first | done | rfl | (simp only [List.length_drop, List.length_take]; rfl)) ?_; (with_reducible refine (nuncioref09_Put.calls k1 (⟨#[]⟩ : ByteArray) 32 5 (IntKind.u64.wrap (x7_1)) t301 _ A18.out).mono ?_); rintro e w19 ⟨rfl, hb⟩; refine ⟨_, rfl, ?_⟩; have n0_ := Aside0.mk (Kd.R_below (by (with_reducible repeat (first | apply Kd.R_alloc | apply Kd.R_drewN | apply Kd.R_drew)); exact HO_298001.out) hb); have n1_ := Aside0.mk (blk_below (g := gb297) (o := .cells #[.int .i64 a0_0, .slice A0_1 l0_1.length c0_1, .slice A0_2 l0_2.length c0_2] 40 (0, 0)) (by (with_reducible repeat (first | refine blk_drewN ?_ _ | refine blk_drew ?_ | refine blk_alloc ?_ _)); exact BK297.out) hb); have n2_ := Aside0.mk (blk_below (g := gb298) (o := .cells #[.int .i64 0, .slice none 0 0, .slice none 0 0] 40 (0, 0)) (by (with_reducible repeat (first | refine blk_drewN ?_ _ | refine blk_drew ?_ | refine blk_alloc ?_ _)); exact BK298.out) hb); have n3_ := Aside0.mk (below_step (by repeat (first | (with_reducible first | exact HB.out | apply below_alloc | apply pw_below_drewN | apply below_drew1 | refine below_set ?_ GE297.out | refine below_set ?_ GE298.out) | exact HB.out)) hb); clear HO_298001; clear BK297; clear BK298; clear HB; have HO_298001 := n0_; have BK297 := n1_; have BK298 := n2_; have HB := n3_; clear n0_ n1_ n2_ n3_; (try clear hb); (try clear hb2); (try clear hk); (try clear hi)))
            go_meet
            case rel => exact ⟨_, (t301), (by first | rfl | (simp; done) | (simp [*]; done)), H', ⟨by have := HK1.out; first | omega | exact Nat.le_refl _⟩, ⟨by (with_reducible repeat (first | apply Kd.R_alloc | apply Kd.R_drewN | apply Kd.R_drew)); exact HO_298001.out⟩, ⟨by (with_reducible repeat (first | refine blk_drewN ?_ _ | refine blk_drew ?_ | refine blk_alloc ?_ _)); exact BK297.out⟩, ⟨by (with_reducible repeat (first | refine blk_drewN ?_ _ | refine blk_drew ?_ | refine blk_alloc ?_ _)); exact BK298.out⟩, ⟨by repeat (first | (with_reducible first | exact HB.out | apply below_alloc | apply pw_below_drewN | apply below_drew1 | refine below_set ?_ GE297.out | refine below_set ?_ GE298.out) | exact HB.out)⟩⟩
          · rw [if_neg c17] at H
            have c17b0 : decide (x7_1 < a0_0) = false := decide_eq_false c17
            clear c17
            (first | rw [c17b0] | rw [c17b1] | (simp only [i64_w, i32_w]; rw [c17b0]) | skip)
            have H' := Aside0.mk H
            clear H
            go_wp2
            go_meet
            case rel => exact ⟨_, ((⟨#[]⟩ : ByteArray)), (by first | rfl | (simp; done) | (simp [*]; done)), H', ⟨by have := HK1.out; first | omega | exact Nat.le_refl _⟩, ⟨by (with_reducible repeat (first | apply Kd.R_alloc | apply Kd.R_drewN | apply Kd.R_drew)); exact HO_298001.out⟩, ⟨by (with_reducible repeat (first | refine blk_drewN ?_ _ | refine blk_drew ?_ | refine blk_alloc ?_ _)); exact BK297.out⟩, ⟨by (with_reducible repeat (first | refine blk_drewN ?_ _ | refine blk_drew ?_ | refine blk_alloc ?_ _)); exact BK298.out⟩, ⟨by repeat (first | (with_reducible first | exact HB.out | apply below_alloc | apply pw_below_drewN | apply below_drew1 | refine below_set ?_ GE297.out | refine below_set ?_ GE298.out) | exact HB.out)⟩⟩
        case rest =>
          clear HC14
          try clear c1
          try clear p2
          try clear q2
          try clear hx2
          try clear p3
          try clear q3
          try clear hx3
          try clear c4
          try clear c5
          try clear p6
          try clear c7
          try clear c7b0
          try clear c8
          try clear c8b0
          try clear c9
          try clear c9b0
          try clear c10
          try clear c12
          try clear c15
          try clear c17
          try clear c17b0
          try clear c17b1
          try clear c19
          try clear hcz11_0
          try clear hcz11_1
          try clear hcz11_2
          try clear hcz13_0
          try clear hcz13_1
          try clear hcz13_2
          try clear hcz16_0
          try clear hcz16_1
          try clear hcz16_2
          try clear hcz6_0
          try clear hcz6_1
          try clear hcz6_2
          try clear hfz11_0
          try clear hfz11_1
          try clear hfz11_2
          try clear hfz13_0
          try clear hfz13_1
          try clear hfz13_2
          try clear hfz16_0
          try clear hfz16_1
          try clear hfz16_2
          try clear hfz6_0
          try clear hfz6_1
          try clear hfz6_2
          try clear hx299_0
          try clear hx300_0
          try clear p2
          try clear p299
          try clear p300
          try clear q299
          try clear q300
          obtain ⟨kq, x6_13, rfl, HA, HJ13, HO_298001, BK297, BK298, HB⟩ := hcut
          cases kq with
          | zero => exact absurd HA.out (by simp [nuncioref13_Write.j1])
          | succ kj13 =>
            have H := HA.out
            clear HA
            simp only [nuncioref13_Write.j1] at H
            have HC20 := Aside0.mk H
            clear H
            have hnb21 := NB297_298.out
            have hnc21 := NB298_297.out
            have hcz22_0 : wc.cell? ⟨gb297, 0, none⟩ = some (.int .i64 a0_0) := (blk_cell BK297.out 0).trans rfl
            have hcz22_1 : wc.cell? ⟨gb297, 1, none⟩ = some (.slice A0_1 l0_1.length c0_1) := (blk_cell BK297.out 1).trans rfl
            have hcz22_2 : wc.cell? ⟨gb297, 2, none⟩ = some (.slice A0_2 l0_2.length c0_2) := (blk_cell BK297.out 2).trans rfl
            have hfz22_0 := blk_frozen BK297.out 0
            have hfz22_1 := blk_frozen BK297.out 1
            have hfz22_2 := blk_frozen BK297.out 2
            go_upto_if 47 with (fail)
            go_cut [6] (fun v6 wc => ∃ (kq : Nat) (x6_19 : ByteArray), v6 = .string x6_19 ∧ Aside0 (nuncioref13_Write.j2 kq l1 x6_19 a0_0 l0_1 l0_2 = some (r1, r2, r3, r4)) ∧ Aside0 (kq ≤ kj13) ∧ Aside0 (Kd.R k88 88 wc b0 (fun k_ => (P0_1_ k_ ∨ w.heap.size ≤ k_) ∧ k_ ≠ gb297 ∧ k_ ≠ gb298) (.slice A0_1 l0_1.length c0_1) l0_1) ∧ Aside0 (wc.heap[gb297]? = some (.cells #[.int .i64 a0_0, (.slice A0_1 l0_1.length c0_1), (.slice A0_2 l0_2.length c0_2)] 40 (0, 0))) ∧ Aside0 (wc.heap[gb298]? = some (.cells #[.int .i64 0, (.slice none 0 0), (.slice none 0 0)] 40 (0, 0))) ∧ Aside0 (Below w.heap.size w wc))
            case first =>
              have H := HC20.out
              clear HC20
              by_cases c23 : (l0_2.length : Int) > 0
              · rw [if_pos c23] at H
                have c23b0 : decide (0 < (l0_2.length : Int)) = true := decide_eq_true c23
                have c23b1 : decide (0 < l0_2.length) = true := decide_eq_true (by omega)
                clear c23
                (first | rw [c23b0] | rw [c23b1] | (simp only [i64_w, i32_w]; rw [c23b0]) | skip)
                replace H := Option.bind_eq_some_iff.mp H
                obtain ⟨t302, A240, H⟩ := H
                replace H : (nuncioref13_Write.j2 kj13 l1 t302 a0_0 l0_1 l0_2) = some (r1, r2, r3, r4) := H
                have A24 := Aside0.mk A240
                clear A240
                have H' := Aside0.mk H
                clear H
                have hnb25 := NB297_298.out
                have hnc25 := NB298_297.out
                have hcz26_0 : wc.cell? ⟨gb297, 0, none⟩ = some (.int .i64 a0_0) := (blk_cell BK297.out 0).trans rfl
                have hcz26_1 : wc.cell? ⟨gb297, 1, none⟩ = some (.slice A0_1 l0_1.length c0_1) := (blk_cell BK297.out 1).trans rfl
                have hcz26_2 : wc.cell? ⟨gb297, 2, none⟩ = some (.slice A0_2 l0_2.length c0_2) := (blk_cell BK297.out 2).trans rfl
                have hfz26_0 := blk_frozen BK297.out 0
                have hfz26_1 := blk_frozen BK297.out 1
                have hfz26_2 := blk_frozen BK297.out 2
                go_wp2_with (first | ((with_reducible refine gate_callee (f := 41) rfl ?_); refine goesL_ (some 53) rfl rfl Tryd.func41 (by kernel_rfl) rfl #[.string x6_13, .int .u8 32, .int .i64 5, .int .u64 (IntKind.u64.wrap (a0_0))] rfl (by (try simp only [List.map_toArray, List.map_cons, List.map_nil]); first | done | rfl | (simp only [List.length_drop, List.length_take]; rfl)) ?_; (with_reducible refine (nuncioref09_Put.calls kj13 x6_13 32 5 (IntKind.u64.wrap (a0_0)) t302 _ A24.out).mono ?_); rintro e w27 ⟨rfl, hb⟩; refine ⟨_, rfl, ?_⟩; have n0_ := Aside0.mk (Kd.R_below (by (with_reducible repeat (first | apply Kd.R_alloc | apply Kd.R_drewN | apply Kd.R_drew)); exact HO_298001.out) hb); have n1_ := Aside0.mk (blk_below (g := gb297) (o := .cells #[.int .i64 a0_0, .slice A0_1 l0_1.length c0_1, .slice A0_2 l0_2.length c0_2] 40 (0, 0)) (by (with_reducible repeat (first | refine blk_drewN ?_ _ | refine blk_drew ?_ | refine blk_alloc ?_ _)); exact BK297.out) hb); have n2_ := Aside0.mk (blk_below (g := gb298) (o := .cells #[.int .i64 0, .slice none 0 0, .slice none 0 0] 40 (0, 0)) (by (with_reducible repeat (first | refine blk_drewN ?_ _ | refine blk_drew ?_ | refine blk_alloc ?_ _)); exact BK298.out) hb); have n3_ := Aside0.mk (below_step (by repeat (first | (with_reducible first | exact HB.out | apply below_alloc | apply pw_below_drewN | apply below_drew1 | refine below_set ?_ GE297.out | refine below_set ?_ GE298.out) | exact HB.out)) hb); clear HO_298001; clear BK297; clear BK298; clear HB; have HO_298001 := n0_; have BK297 := n1_; have BK298 := n2_; have HB := n3_; clear n0_ n1_ n2_ n3_; (try clear hb); (try clear hb2); (try clear hk); (try clear hi)))
                go_meet
                case rel => exact ⟨_, (t302), (by first | rfl | (simp; done) | (simp [*]; done)), H', ⟨by have := HK1.out; have := HJ13.out; first | omega | exact Nat.le_refl _⟩, ⟨by (with_reducible repeat (first | apply Kd.R_alloc | apply Kd.R_drewN | apply Kd.R_drew)); exact HO_298001.out⟩, ⟨by (with_reducible repeat (first | refine blk_drewN ?_ _ | refine blk_drew ?_ | refine blk_alloc ?_ _)); exact BK297.out⟩, ⟨by (with_reducible repeat (first | refine blk_drewN ?_ _ | refine blk_drew ?_ | refine blk_alloc ?_ _)); exact BK298.out⟩, ⟨by repeat (first | (with_reducible first | exact HB.out | apply below_alloc | apply pw_below_drewN | apply below_drew1 | refine below_set ?_ GE297.out | refine below_set ?_ GE298.out) | exact HB.out)⟩⟩
              · rw [if_neg c23] at H
                have c23b0 : decide (0 < (l0_2.length : Int)) = false := decide_eq_false c23
                have c23b1 : decide (0 < l0_2.length) = false := decide_eq_false (by omega)
                clear c23
                (first | rw [c23b0] | rw [c23b1] | (simp only [i64_w, i32_w]; rw [c23b0]) | skip)
                have H' := Aside0.mk H
                clear H
                go_wp2
                go_meet
                case rel => exact ⟨_, (x6_13), (by first | rfl | (simp; done) | (simp [*]; done)), H', ⟨by have := HK1.out; have := HJ13.out; first | omega | exact Nat.le_refl _⟩, ⟨by (with_reducible repeat (first | apply Kd.R_alloc | apply Kd.R_drewN | apply Kd.R_drew)); exact HO_298001.out⟩, ⟨by (with_reducible repeat (first | refine blk_drewN ?_ _ | refine blk_drew ?_ | refine blk_alloc ?_ _)); exact BK297.out⟩, ⟨by (with_reducible repeat (first | refine blk_drewN ?_ _ | refine blk_drew ?_ | refine blk_alloc ?_ _)); exact BK298.out⟩, ⟨by repeat (first | (with_reducible first | exact HB.out | apply below_alloc | apply pw_below_drewN | apply below_drew1 | refine below_set ?_ GE297.out | refine below_set ?_ GE298.out) | exact HB.out)⟩⟩
            case rest =>
              clear HC20
              try clear c1
              try clear c2
              try clear p2
              try clear q2
              try clear hx2
              try clear p3
              try clear q3
              try clear hx3
              try clear c4
              try clear c5
              try clear p6
              try clear c7
              try clear c7b0
              try clear c8
              try clear c8b0
              try clear c9
              try clear c9b0
              try clear c10
              try clear c12
              try clear c15
              try clear c17
              try clear c17b0
              try clear c17b1
              try clear c19
              try clear c21
              try clear c23
              try clear c23b0
              try clear c23b1
              try clear c25
              try clear hcz11_0
              try clear hcz11_1
              try clear hcz11_2
              try clear hcz13_0
              try clear hcz13_1
              try clear hcz13_2
              try clear hcz16_0
              try clear hcz16_1
              try clear hcz16_2
              try clear hcz22_0
              try clear hcz22_1
              try clear hcz22_2
              try clear hcz26_0
              try clear hcz26_1
              try clear hcz26_2
              try clear hcz6_0
              try clear hcz6_1
              try clear hcz6_2
              try clear hfz11_0
              try clear hfz11_1
              try clear hfz11_2
              try clear hfz13_0
              try clear hfz13_1
              try clear hfz13_2
              try clear hfz16_0
              try clear hfz16_1
              try clear hfz16_2
              try clear hfz22_0
              try clear hfz22_1
              try clear hfz22_2
              try clear hfz26_0
              try clear hfz26_1
              try clear hfz26_2
              try clear hfz6_0
              try clear hfz6_1
              try clear hfz6_2
              try clear hx299_0
              try clear hx300_0
              try clear p2
              try clear p299
              try clear p3
              try clear p300
              try clear p6
              try clear q2
              try clear q299
              try clear q3
              try clear q300
              obtain ⟨kq, x6_19, rfl, HA, HJ19, HO_298001, BK297, BK298, HB⟩ := hcut
              cases kq with
              | zero => exact absurd HA.out (by simp [nuncioref13_Write.j2])
              | succ kj19 =>
                have H := HA.out
                clear HA
                simp only [nuncioref13_Write.j2] at H
                have H' := Aside0.mk H
                clear H
                have hnb28 := NB297_298.out
                have hnc28 := NB298_297.out
                have hcz29_0 : wc.cell? ⟨gb297, 0, none⟩ = some (.int .i64 a0_0) := (blk_cell BK297.out 0).trans rfl
                have hcz29_1 : wc.cell? ⟨gb297, 1, none⟩ = some (.slice A0_1 l0_1.length c0_1) := (blk_cell BK297.out 1).trans rfl
                have hcz29_2 : wc.cell? ⟨gb297, 2, none⟩ = some (.slice A0_2 l0_2.length c0_2) := (blk_cell BK297.out 2).trans rfl
                have hfz29_0 := blk_frozen BK297.out 0
                have hfz29_1 := blk_frozen BK297.out 1
                have hfz29_2 := blk_frozen BK297.out 2
                go_wp2
                go_loopg [6, 9] kj19 (fun kq v6 v9 w' => ∃ (x6_4 : ByteArray) (x9_4 : Int) (x298000_4 : Int) (x298001_4 : List (S88)) (u298001 : Value), v6 = .string x6_4 ∧ v9 = .int .i64 x9_4 ∧ Aside0 (nuncioref13_Write.l1 kq l1 x6_4 x9_4 x298000_4 x298001_4 = some (r1, r2, r3, r4)) ∧ Aside0 (kq ≤ kj19) ∧ Aside0 (Kd.R k88 88 w' b0 (fun k_ => (P0_1_ k_ ∨ w.heap.size ≤ k_) ∧ k_ ≠ gb297 ∧ k_ ≠ gb298) u298001 x298001_4) ∧ Aside0 (w'.heap[gb297]? = some (.cells #[.int .i64 x298000_4, u298001, (.slice none 0 0)] 40 (0, 0))) ∧ Aside0 (w'.heap[gb298]? = some (.cells #[.int .i64 0, (.slice none 0 0), (.slice none 0 0)] 40 (0, 0))) ∧ Aside0 (Below w.heap.size w w'))
                case atStart => exact ⟨(x6_19), (0), (a0_0), (l0_1), (.slice A0_1 l0_1.length c0_1), (by first | rfl | (simp; done) | (simp [*]; done)), (by first | rfl | (simp; done) | (simp [*]; done)), H', ⟨Nat.le_refl _⟩, ⟨by (with_reducible repeat (first | apply Kd.R_alloc | apply Kd.R_drewN | apply Kd.R_drew)); exact Kd.R_mono (Kd.R_far (p := ⟨gb297, 2, none⟩) (Kd.R_mono HO_298001.out (fun k_ hk => (⟨hk, hk.2.1⟩ : _ ∧ k_ ≠ gb297))) (fun _ hk => hk.2) (.slice none 0 0)) (fun _ hk => ⟨hk.1.1, ⟨hk.1.2.1, hk.1.2.2⟩⟩)⟩, ⟨by (with_reducible repeat (first | refine blk_drewN ?_ _ | refine blk_drew ?_ | refine blk_alloc ?_ _)); refine blk_put (cs := #[.int .i64 a0_0, .slice A0_1 l0_1.length c0_1, .slice A0_2 l0_2.length c0_2]) ?_ 2 _ rfl; (with_reducible repeat (first | refine blk_drewN ?_ _ | refine blk_drew ?_ | refine blk_alloc ?_ _)); exact BK297.out⟩, ⟨by (with_reducible repeat (first | refine blk_drewN ?_ _ | refine blk_drew ?_ | refine blk_alloc ?_ _)); refine blk_far ?_ NB298_297.out _; (with_reducible repeat (first | refine blk_drewN ?_ _ | refine blk_drew ?_ | refine blk_alloc ?_ _)); exact BK298.out⟩, ⟨by repeat (first | (with_reducible first | exact HB.out | apply below_alloc | apply pw_below_drewN | apply below_drew1 | refine below_set ?_ GE297.out | refine below_set ?_ GE298.out) | exact HB.out)⟩⟩
                case round =>
                  clear H'
                  try clear c1
                  try clear c2
                  try clear p2
                  try clear q2
                  try clear hx2
                  try clear p3
                  try clear q3
                  try clear hx3
                  try clear c4
                  try clear c5
                  try clear p6
                  try clear c7
                  try clear c7b0
                  try clear c8
                  try clear c8b0
                  try clear c9
                  try clear c9b0
                  try clear c10
                  try clear c12
                  try clear c15
                  try clear c17
                  try clear c17b0
                  try clear c17b1
                  try clear c19
                  try clear c21
                  try clear c23
                  try clear c23b0
                  try clear c23b1
                  try clear c25
                  try clear c28
                  try clear p29
                  try clear q29
                  try clear hx29
                  try clear hcz11_0
                  try clear hcz11_1
                  try clear hcz11_2
                  try clear hcz13_0
                  try clear hcz13_1
                  try clear hcz13_2
                  try clear hcz16_0
                  try clear hcz16_1
                  try clear hcz16_2
                  try clear hcz22_0
                  try clear hcz22_1
                  try clear hcz22_2
                  try clear hcz26_0
                  try clear hcz26_1
                  try clear hcz26_2
                  try clear hcz29_0
                  try clear hcz29_1
                  try clear hcz29_2
                  try clear hcz6_0
                  try clear hcz6_1
                  try clear hcz6_2
                  try clear hfz11_0
                  try clear hfz11_1
                  try clear hfz11_2
                  try clear hfz13_0
                  try clear hfz13_1
                  try clear hfz13_2
                  try clear hfz16_0
                  try clear hfz16_1
                  try clear hfz16_2
                  try clear hfz22_0
                  try clear hfz22_1
                  try clear hfz22_2
                  try clear hfz26_0
                  try clear hfz26_1
                  try clear hfz26_2
                  try clear hfz29_0
                  try clear hfz29_1
                  try clear hfz29_2
                  try clear hfz6_0
                  try clear hfz6_1
                  try clear hfz6_2
                  try clear hx299_0
                  try clear hx300_0
                  try clear p2
                  try clear p299
                  try clear p3
                  try clear p300
                  try clear p6
                  try clear q2
                  try clear q299
                  try clear q3
                  try clear q300
                  obtain ⟨x6_4, x9_4, x298000_4, x298001_4, u298001, rfl, rfl, HA, HK4, HO_298001, BK297, BK298, HB⟩ := hrel
                  cases gk with
                  | zero => exact absurd HA.out (by simp [nuncioref13_Write.l1])
                  | succ k4 =>
                    have H := HA.out
                    clear HA
                    simp only [nuncioref13_Write.l1] at H
                    by_cases c30 : x9_4 < (l1.length : Int)
                    · rw [if_pos c30] at H
                      have c30b0 : decide (x9_4 < (l1.length : Int)) = true := decide_eq_true c30
                      clear c30
                      by_cases c31 : 0 ≤ x9_4
                      · rw [if_pos c31] at H
                        have c31b0 : decide (0 ≤ x9_4) = true := decide_eq_true c31
                        clear c31
                        replace H := Option.bind_eq_some_iff.mp H
                        obtain ⟨⟨t305, t306⟩, A320, H⟩ := H
                        replace H : (if (rd_T26 l1 x9_4).f2 = true then ((nuncioref13_literal.f k4 x6_4 16 4 t305 ((rd_T26 l1 x9_4).f0) ((rd_T26 l1 x9_4).f1) ((rd_T26 l1 x9_4).f2)).bind fun t307 => (nuncioref13_Write.l1 k4 l1 t307 (wrap64 (x9_4 + 1)) x298000_4 x298001_4)) else (if t306 = true then ((nuncioref09_Put.f k4 x6_4 128 7 (IntKind.u64.wrap (t305))).bind fun t308 => (nuncioref13_Write.l1 k4 l1 t308 (wrap64 (x9_4 + 1)) x298000_4 x298001_4)) else (if (((rd_T26 l1 x9_4).f0).size : Int) ≤ x298000_4 then (if (((rd_T26 l1 x9_4).f1).size : Int) ≤ x298000_4 then (nuncioref13_Write.j4 k4 l1 x6_4 x9_4 t305 (decide ((wrap64 ((wrap64 ((((rd_T26 l1 x9_4).f0).size : Int) + (((rd_T26 l1 x9_4).f1).size : Int))) + 32)) ≤ x298000_4)) x298000_4 x298001_4 ((rd_T26 l1 x9_4).f0) ((rd_T26 l1 x9_4).f1) ((rd_T26 l1 x9_4).f2)) else (nuncioref13_Write.j4 k4 l1 x6_4 x9_4 t305 false x298000_4 x298001_4 ((rd_T26 l1 x9_4).f0) ((rd_T26 l1 x9_4).f1) ((rd_T26 l1 x9_4).f2))) else (nuncioref13_Write.j4 k4 l1 x6_4 x9_4 t305 false x298000_4 x298001_4 ((rd_T26 l1 x9_4).f0) ((rd_T26 l1 x9_4).f1) ((rd_T26 l1 x9_4).f2))))) = some (r1, r2, r3, r4) := H
                        have A32 := Aside0.mk A320
                        clear A320
                        obtain ⟨bq33, hbq33⟩ : ∃ b_ : Bool, b_ = ((rd_T26 l1 x9_4).f2) := ⟨_, rfl⟩
                        replace H : (if bq33 = true then ((nuncioref13_literal.f k4 x6_4 16 4 t305 ((rd_T26 l1 x9_4).f0) ((rd_T26 l1 x9_4).f1) (bq33)).bind fun t307 => (nuncioref13_Write.l1 k4 l1 t307 (wrap64 (x9_4 + 1)) x298000_4 x298001_4)) else (if t306 = true then ((nuncioref09_Put.f k4 x6_4 128 7 (IntKind.u64.wrap (t305))).bind fun t308 => (nuncioref13_Write.l1 k4 l1 t308 (wrap64 (x9_4 + 1)) x298000_4 x298001_4)) else (if (((rd_T26 l1 x9_4).f0).size : Int) ≤ x298000_4 then (if (((rd_T26 l1 x9_4).f1).size : Int) ≤ x298000_4 then (nuncioref13_Write.j4 k4 l1 x6_4 x9_4 t305 (decide ((wrap64 ((wrap64 ((((rd_T26 l1 x9_4).f0).size : Int) + (((rd_T26 l1 x9_4).f1).size : Int))) + 32)) ≤ x298000_4)) x298000_4 x298001_4 ((rd_T26 l1 x9_4).f0) ((rd_T26 l1 x9_4).f1) bq33) else (nuncioref13_Write.j4 k4 l1 x6_4 x9_4 t305 false x298000_4 x298001_4 ((rd_T26 l1 x9_4).f0) ((rd_T26 l1 x9_4).f1) bq33)) else (nuncioref13_Write.j4 k4 l1 x6_4 x9_4 t305 false x298000_4 x298001_4 ((rd_T26 l1 x9_4).f0) ((rd_T26 l1 x9_4).f1) bq33)))) = some (r1, r2, r3, r4) := by rw [← hbq33] at H; exact H
                        have Nbq33 := Aside0.mk hbq33
                        clear hbq33
                        by_cases c34 : bq33 = true
                        · subst c34
                          have H1 : ((nuncioref13_literal.f k4 x6_4 16 4 t305 ((rd_T26 l1 x9_4).f0) ((rd_T26 l1 x9_4).f1) (true)).bind fun t307 => (nuncioref13_Write.l1 k4 l1 t307 (wrap64 (x9_4 + 1)) x298000_4 x298001_4)) = some (r1, r2, r3, r4) := by rw [if_pos rfl] at H; exact H
                          clear H
                          have H := H1
                          clear H1
                          replace H := Option.bind_eq_some_iff.mp H
                          obtain ⟨t307, A350, H⟩ := H
                          replace H : (nuncioref13_Write.l1 k4 l1 t307 (wrap64 (x9_4 + 1)) x298000_4 x298001_4) = some (r1, r2, r3, r4) := H
                          have A35 := Aside0.mk A350
                          clear A350
                          have H' := Aside0.mk H
                          clear H
                          have p303 : 0 ≤ (x9_4 : Int) := of_decide_eq_true (by first | (with_reducible assumption) | assumption)
                          have q303 : x9_4 < (l1.length : Int) := of_decide_eq_true (by first | (with_reducible assumption) | assumption)
                          obtain ⟨ad303, e303, hx303_0, hx303_1, hx303_2⟩ := at_T26 HR1.out x9_4 p303 q303
                          (try rw [← Nbq33.out] at hx303_2)
                          cases e303
                          replace hx303_0 := (HB.out.cell (World.block_lt_of_cell? w _ hx303_0)).trans hx303_0
                          replace hx303_1 := (HB.out.cell (World.block_lt_of_cell? w _ hx303_1)).trans hx303_1
                          replace hx303_2 := (HB.out.cell (World.block_lt_of_cell? w _ hx303_2)).trans hx303_2
                          replace p303 := eq_true p303
                          replace q303 := eq_true q303
                          go_wp2_with (first | ((with_reducible refine gate_dst (N := 10) rfl ?_); (try (refine gate_guard (by rfl) ?_; dsimp only)); refine box_event ?hg (N := 10) ?hd (cs := #[.string (⟨#[]⟩ : ByteArray), .string (⟨#[]⟩ : ByteArray), .bool false]) (t := 26) ?hr ?_; (case hd => rfl); (case hg => rfl); (case hr => first | (go_simp; done) | (go_simp; rfl)); intro gb304 hg w36 hbox hb; have n0_ := Aside0.mk (Kd.R_below (Kd.R_elderB (by (with_reducible repeat (first | apply Kd.R_alloc | apply Kd.R_drewN | apply Kd.R_drew)); exact HO_298001.out) gb304 (Nat.le_of_eq hg.symm)) hb); have n1_ := Aside0.mk (blk_below (g := gb297) (o := .cells #[.int .i64 x298000_4, u298001, .slice none 0 0] 40 (0, 0)) (by (with_reducible repeat (first | refine blk_drewN ?_ _ | refine blk_drew ?_ | refine blk_alloc ?_ _)); exact BK297.out) hb); have n2_ := Aside0.mk (blk_below (g := gb298) (o := .cells #[.int .i64 0, .slice none 0 0, .slice none 0 0] 40 (0, 0)) (by (with_reducible repeat (first | refine blk_drewN ?_ _ | refine blk_drew ?_ | refine blk_alloc ?_ _)); exact BK298.out) hb); have n3_ := Aside0.mk (below_step (by repeat (first | (with_reducible first | exact HB.out | apply below_alloc | apply pw_below_drewN | apply below_drew1 | refine below_set ?_ GE297.out | refine below_set ?_ GE298.out) | exact HB.out)) hb); have n4_ := Aside0.mk (hbox); have n5_ := Aside0.mk ((by rw [hg]; exact (below_size (by repeat (first | (with_reducible first | exact HB.out | apply below_alloc | apply pw_below_drewN | apply below_drew1 | refine below_set ?_ GE297.out | refine below_set ?_ GE298.out) | exact HB.out))) : w.heap.size ≤ gb304)); have n6_ := Aside0.mk ((by rw [hg]; exact (below_size (by repeat (first | (with_reducible first | exact HB.out | apply below_alloc | apply pw_below_drewN | apply below_drew1 | refine below_set ?_ GE297.out | refine below_set ?_ GE298.out) | exact HB.out))) : w.heap.size ≤ gb304)); have n7_ := Aside0.mk ((by rw [hg]; exact Nat.ne_of_lt (blk_lt (g := gb297) (o := .cells #[.int .i64 x298000_4, u298001, .slice none 0 0] 40 (0, 0)) (by (with_reducible repeat (first | refine blk_drewN ?_ _ | refine blk_drew ?_ | refine blk_alloc ?_ _)); exact BK297.out)) : gb297 ≠ gb304)); have n8_ := Aside0.mk ((by rw [hg]; exact Nat.ne_of_gt (blk_lt (g := gb297) (o := .cells #[.int .i64 x298000_4, u298001, .slice none 0 0] 40 (0, 0)) (by (with_reducible repeat (first | refine blk_drewN ?_ _ | refine blk_drew ?_ | refine blk_alloc ?_ _)); exact BK297.out)) : gb304 ≠ gb297)); have n9_ := Aside0.mk ((by rw [hg]; exact Nat.ne_of_lt (blk_lt (g := gb298) (o := .cells #[.int .i64 0, .slice none 0 0, .slice none 0 0] 40 (0, 0)) (by (with_reducible repeat (first | refine blk_drewN ?_ _ | refine blk_drew ?_ | refine blk_alloc ?_ _)); exact BK298.out)) : gb298 ≠ gb304)); have n10_ := Aside0.mk ((by rw [hg]; exact Nat.ne_of_gt (blk_lt (g := gb298) (o := .cells #[.int .i64 0, .slice none 0 0, .slice none 0 0] 40 (0, 0)) (by (with_reducible repeat (first | refine blk_drewN ?_ _ | refine blk_drew ?_ | refine blk_alloc ?_ _)); exact BK298.out)) : gb304 ≠ gb298)); clear HO_298001; clear BK297; clear BK298; clear HB; have HO_298001 := n0_; have BK297 := n1_; have BK298 := n2_; have HB := n3_; have BK304 := n4_; have GW304 := n5_; have GE304 := n6_; have NB297_304 := n7_; have NB304_297 := n8_; have NB298_304 := n9_; have NB304_298 := n10_; clear n0_ n1_ n2_ n3_ n4_ n5_ n6_ n7_ n8_ n9_ n10_; clear hb hbox hg; have hnb37 := NB304_297.out; have hnc37 := NB297_304.out; have hnb38 := NB304_298.out; have hnc38 := NB298_304.out; have hcz39_0 : w36.cell? ⟨gb304, 0, none⟩ = some (.string (⟨#[]⟩ : ByteArray)) := (blk_cell BK304.out 0).trans rfl; have hcz39_1 : w36.cell? ⟨gb304, 1, none⟩ = some (.string (⟨#[]⟩ : ByteArray)) := (blk_cell BK304.out 1).trans rfl; have hcz39_2 : w36.cell? ⟨gb304, 2, none⟩ = some (.bool false) := (blk_cell BK304.out 2).trans rfl; have hfz39_0 := blk_frozen BK304.out 0; have hfz39_1 := blk_frozen BK304.out 1; have hfz39_2 := blk_frozen BK304.out 2; have hnb40 := NB297_298.out; have hnc40 := NB298_297.out; have hcz41_0 : w36.cell? ⟨gb297, 0, none⟩ = some (.int .i64 x298000_4) := (blk_cell BK297.out 0).trans rfl; have hcz41_1 : w36.cell? ⟨gb297, 1, none⟩ = some (u298001) := (blk_cell BK297.out 1).trans rfl; have hcz41_2 : w36.cell? ⟨gb297, 2, none⟩ = some (.slice none 0 0) := (blk_cell BK297.out 2).trans rfl; have hfz41_0 := blk_frozen BK297.out 0; have hfz41_1 := blk_frozen BK297.out 1; have hfz41_2 := blk_frozen BK297.out 2; obtain ⟨Ao42, co42, eo42⟩ := Kd.R_slice HO_298001.out; subst eo42) | ((with_reducible refine gate_callee (f := 42) rfl ?_); refine goesL_ (some 72) rfl rfl Tryd.func42 (by kernel_rfl) rfl #[.agg #[.int .i64 x298000_4, .slice Ao42 x298001_4.length co42], .string ((rd_T26 l1 x9_4).f0), .string ((rd_T26 l1 x9_4).f1)] rfl (by (try simp only [List.map_toArray, List.map_cons, List.map_nil]); first | done | rfl | (simp only [List.length_drop, List.length_take]; rfl)) ?_; (with_reducible refine (nuncioref11_Find.calls k4 x298000_4 _ _ x298001_4 ((rd_T26 l1 x9_4).f0) ((rd_T26 l1 x9_4).f1) t305 t306 _ ?side1 ?side2 A32.out).mono ?_); (case side1 => refine (Kd.R_reads' (e := 88) (base := b0) (ok := fun k_ => (((P0_1_ k_ ∨ w.heap.size ≤ k_) ∧ (k_ ≠ gb297 ∧ k_ ≠ gb298)) ∧ k_ ≠ gb304)) (n := x298001_4.length) (c := co42) ?_).2.2; exact (by (with_reducible repeat (first | apply Kd.R_alloc | apply Kd.R_drewN | apply Kd.R_drew)); exact (Kd.R_mono (Kd.R_far (p := ⟨gb304, 2, none⟩) (Kd.R_far (p := ⟨gb304, 1, none⟩) (Kd.R_far (p := ⟨gb304, 0, none⟩) (Kd.R_mono HO_298001.out (fun k_ hk => (⟨hk, hk.2⟩ : _ ∧ k_ ≠ gb304))) (fun _ hk => hk.2) (.string ((rd_T26 l1 x9_4).f0))) (fun _ hk => hk.2) (.string ((rd_T26 l1 x9_4).f1))) (fun _ hk => hk.2) (.bool true)) (fun _ h_ => h_.1)))); (case side2 => exact (Kd.R_reads' HO_298001.out).2.1); rintro e w43 ⟨rfl, hb⟩; refine ⟨_, rfl, ?_⟩; have n0_ := Aside0.mk (Kd.R_below (by (with_reducible repeat (first | apply Kd.R_alloc | apply Kd.R_drewN | apply Kd.R_drew)); exact (Kd.R_mono (Kd.R_far (p := ⟨gb304, 2, none⟩) (Kd.R_far (p := ⟨gb304, 1, none⟩) (Kd.R_far (p := ⟨gb304, 0, none⟩) (Kd.R_mono HO_298001.out (fun k_ hk => (⟨hk, hk.2⟩ : _ ∧ k_ ≠ gb304))) (fun _ hk => hk.2) (.string ((rd_T26 l1 x9_4).f0))) (fun _ hk => hk.2) (.string ((rd_T26 l1 x9_4).f1))) (fun _ hk => hk.2) (.bool true)) (fun _ h_ => h_.1))) hb); have n1_ := Aside0.mk (blk_below (g := gb297) (o := .cells #[.int .i64 x298000_4, .slice Ao42 x298001_4.length co42, .slice none 0 0] 40 (0, 0)) (by (with_reducible repeat (first | refine blk_drewN ?_ _ | refine blk_drew ?_ | refine blk_alloc ?_ _)); refine blk_far ?_ NB297_304.out _; (with_reducible repeat (first | refine blk_drewN ?_ _ | refine blk_drew ?_ | refine blk_alloc ?_ _)); refine blk_far ?_ NB297_304.out _; (with_reducible repeat (first | refine blk_drewN ?_ _ | refine blk_drew ?_ | refine blk_alloc ?_ _)); refine blk_far ?_ NB297_304.out _; (with_reducible repeat (first | refine blk_drewN ?_ _ | refine blk_drew ?_ | refine blk_alloc ?_ _)); exact BK297.out) hb); have n2_ := Aside0.mk (blk_below (g := gb298) (o := .cells #[.int .i64 0, .slice none 0 0, .slice none 0 0] 40 (0, 0)) (by (with_reducible repeat (first | refine blk_drewN ?_ _ | refine blk_drew ?_ | refine blk_alloc ?_ _)); refine blk_far ?_ NB298_304.out _; (with_reducible repeat (first | refine blk_drewN ?_ _ | refine blk_drew ?_ | refine blk_alloc ?_ _)); refine blk_far ?_ NB298_304.out _; (with_reducible repeat (first | refine blk_drewN ?_ _ | refine blk_drew ?_ | refine blk_alloc ?_ _)); refine blk_far ?_ NB298_304.out _; (with_reducible repeat (first | refine blk_drewN ?_ _ | refine blk_drew ?_ | refine blk_alloc ?_ _)); exact BK298.out) hb); have n3_ := Aside0.mk (blk_below (g := gb304) (o := .cells #[.string ((rd_T26 l1 x9_4).f0), .string ((rd_T26 l1 x9_4).f1), .bool true] 26 (0, 0)) (by (with_reducible repeat (first | refine blk_drewN ?_ _ | refine blk_drew ?_ | refine blk_alloc ?_ _)); refine blk_put (cs := #[.string ((rd_T26 l1 x9_4).f0), .string ((rd_T26 l1 x9_4).f1), .bool false]) ?_ 2 _ rfl; (with_reducible repeat (first | refine blk_drewN ?_ _ | refine blk_drew ?_ | refine blk_alloc ?_ _)); refine blk_put (cs := #[.string ((rd_T26 l1 x9_4).f0), .string (⟨#[]⟩ : ByteArray), .bool false]) ?_ 1 _ rfl; (with_reducible repeat (first | refine blk_drewN ?_ _ | refine blk_drew ?_ | refine blk_alloc ?_ _)); refine blk_put (cs := #[.string (⟨#[]⟩ : ByteArray), .string (⟨#[]⟩ : ByteArray), .bool false]) ?_ 0 _ rfl; (with_reducible repeat (first | refine blk_drewN ?_ _ | refine blk_drew ?_ | refine blk_alloc ?_ _)); exact BK304.out) hb); have n4_ := Aside0.mk (below_step (by repeat (first | (with_reducible first | exact HB.out | apply below_alloc | apply pw_below_drewN | apply below_drew1 | refine below_set ?_ GE297.out | refine below_set ?_ GE298.out | refine below_set ?_ GE304.out) | exact HB.out)) hb); clear HO_298001; clear BK297; clear BK298; clear BK304; clear HB; have HO_298001 := n0_; have BK297 := n1_; have BK298 := n2_; have BK304 := n3_; have HB := n4_; clear n0_ n1_ n2_ n3_ n4_; (try clear hb); (try clear hb2); (try clear hk); (try clear hi); have hcz44_0 : w43.cell? ⟨gb304, 0, none⟩ = some (.string ((rd_T26 l1 x9_4).f0)) := (blk_cell BK304.out 0).trans rfl; have hcz44_1 : w43.cell? ⟨gb304, 1, none⟩ = some (.string ((rd_T26 l1 x9_4).f1)) := (blk_cell BK304.out 1).trans rfl; have hcz44_2 : w43.cell? ⟨gb304, 2, none⟩ = some (.bool true) := (blk_cell BK304.out 2).trans rfl; have hfz44_0 := blk_frozen BK304.out 0; have hfz44_1 := blk_frozen BK304.out 1; have hfz44_2 := blk_frozen BK304.out 2) | ((with_reducible refine gate_callee (f := 43) rfl ?_); refine goesL_ (some 80) rfl rfl Tryd.func43 (by kernel_rfl) rfl #[.string x6_4, .int .u8 16, .int .i64 4, .int .i64 t305, .agg #[.string ((rd_T26 l1 x9_4).f0), .string ((rd_T26 l1 x9_4).f1), .bool true]] rfl (by (try simp only [List.map_toArray, List.map_cons, List.map_nil]); first | done | rfl | (simp only [List.length_drop, List.length_take]; rfl)) ?_; (with_reducible refine (nuncioref13_literal.calls k4 x6_4 16 4 t305 ((rd_T26 l1 x9_4).f0) ((rd_T26 l1 x9_4).f1) true t307 _ A35.out).mono ?_); rintro e w45 ⟨rfl, hb⟩; refine ⟨_, rfl, ?_⟩; have n0_ := Aside0.mk (Kd.R_below (by (with_reducible repeat (first | apply Kd.R_alloc | apply Kd.R_drewN | apply Kd.R_drew)); exact HO_298001.out) hb); have n1_ := Aside0.mk (blk_below (g := gb297) (o := .cells #[.int .i64 x298000_4, .slice Ao42 x298001_4.length co42, .slice none 0 0] 40 (0, 0)) (by (with_reducible repeat (first | refine blk_drewN ?_ _ | refine blk_drew ?_ | refine blk_alloc ?_ _)); exact BK297.out) hb); have n2_ := Aside0.mk (blk_below (g := gb298) (o := .cells #[.int .i64 0, .slice none 0 0, .slice none 0 0] 40 (0, 0)) (by (with_reducible repeat (first | refine blk_drewN ?_ _ | refine blk_drew ?_ | refine blk_alloc ?_ _)); exact BK298.out) hb); have n3_ := Aside0.mk (blk_below (g := gb304) (o := .cells #[.string ((rd_T26 l1 x9_4).f0), .string ((rd_T26 l1 x9_4).f1), .bool true] 26 (0, 0)) (by (with_reducible repeat (first | refine blk_drewN ?_ _ | refine blk_drew ?_ | refine blk_alloc ?_ _)); exact BK304.out) hb); have n4_ := Aside0.mk (below_step (by repeat (first | (with_reducible first | exact HB.out | apply below_alloc | apply pw_below_drewN | apply below_drew1 | refine below_set ?_ GE297.out | refine below_set ?_ GE298.out | refine below_set ?_ GE304.out) | exact HB.out)) hb); clear HO_298001; clear BK297; clear BK298; clear BK304; clear HB; have HO_298001 := n0_; have BK297 := n1_; have BK298 := n2_; have BK304 := n3_; have HB := n4_; clear n0_ n1_ n2_ n3_ n4_; (try clear hb); (try clear hb2); (try clear hk); (try clear hi)))
                          go_roundg k4
                          case measure => have := HK1.out; have := HJ13.out; have := HJ19.out; have := HK4.out; omega
                          case rel => exact ⟨(t307), (wrap64 (x9_4 + 1)), (x298000_4), (x298001_4), (.slice Ao42 x298001_4.length co42), (by first | rfl | (simp; done) | (simp [*]; done)), (by first | rfl | (simp; done) | (simp [*]; done)), H', ⟨by have := HK1.out; have := HJ13.out; have := HJ19.out; have := HK4.out; omega⟩, ⟨by (with_reducible repeat (first | apply Kd.R_alloc | apply Kd.R_drewN | apply Kd.R_drew)); exact Kd.R_mono HO_298001.out (fun _ hk => ⟨hk.1.1, ⟨hk.1.2.1, hk.1.2.2⟩⟩)⟩, ⟨by (with_reducible repeat (first | refine blk_drewN ?_ _ | refine blk_drew ?_ | refine blk_alloc ?_ _)); exact BK297.out⟩, ⟨by (with_reducible repeat (first | refine blk_drewN ?_ _ | refine blk_drew ?_ | refine blk_alloc ?_ _)); exact BK298.out⟩, ⟨by repeat (first | (with_reducible first | exact HB.out | apply below_alloc | apply pw_below_drewN | apply below_drew1 | refine below_set ?_ GE297.out | refine below_set ?_ GE298.out | refine below_set ?_ GE304.out) | exact HB.out)⟩⟩
                        · replace c34 := Bool.eq_false_iff.mpr c34
                          subst c34
                          have H1 : (if t306 = true then ((nuncioref09_Put.f k4 x6_4 128 7 (IntKind.u64.wrap (t305))).bind fun t308 => (nuncioref13_Write.l1 k4 l1 t308 (wrap64 (x9_4 + 1)) x298000_4 x298001_4)) else (if (((rd_T26 l1 x9_4).f0).size : Int) ≤ x298000_4 then (if (((rd_T26 l1 x9_4).f1).size : Int) ≤ x298000_4 then (nuncioref13_Write.j4 k4 l1 x6_4 x9_4 t305 (decide ((wrap64 ((wrap64 ((((rd_T26 l1 x9_4).f0).size : Int) + (((rd_T26 l1 x9_4).f1).size : Int))) + 32)) ≤ x298000_4)) x298000_4 x298001_4 ((rd_T26 l1 x9_4).f0) ((rd_T26 l1 x9_4).f1) false) else (nuncioref13_Write.j4 k4 l1 x6_4 x9_4 t305 false x298000_4 x298001_4 ((rd_T26 l1 x9_4).f0) ((rd_T26 l1 x9_4).f1) false)) else (nuncioref13_Write.j4 k4 l1 x6_4 x9_4 t305 false x298000_4 x298001_4 ((rd_T26 l1 x9_4).f0) ((rd_T26 l1 x9_4).f1) false))) = some (r1, r2, r3, r4) := by rw [if_neg (show ¬ (false = true) by decide)] at H; exact H
                          clear H
                          have H := H1
                          clear H1
                          by_cases c46 : t306 = true
                          · subst c46
                            have H1 : ((nuncioref09_Put.f k4 x6_4 128 7 (IntKind.u64.wrap (t305))).bind fun t308 => (nuncioref13_Write.l1 k4 l1 t308 (wrap64 (x9_4 + 1)) x298000_4 x298001_4)) = some (r1, r2, r3, r4) := by rw [if_pos rfl] at H; exact H
                            clear H
                            have H := H1
                            clear H1
                            replace H := Option.bind_eq_some_iff.mp H
                            obtain ⟨t308, A470, H⟩ := H
                            replace H : (nuncioref13_Write.l1 k4 l1 t308 (wrap64 (x9_4 + 1)) x298000_4 x298001_4) = some (r1, r2, r3, r4) := H
                            have A47 := Aside0.mk A470
                            clear A470
                            have H' := Aside0.mk H
                            clear H
                            have p303 : 0 ≤ (x9_4 : Int) := of_decide_eq_true (by first | (with_reducible assumption) | assumption)
                            have q303 : x9_4 < (l1.length : Int) := of_decide_eq_true (by first | (with_reducible assumption) | assumption)
                            obtain ⟨ad303, e303, hx303_0, hx303_1, hx303_2⟩ := at_T26 HR1.out x9_4 p303 q303
                            (try rw [← Nbq33.out] at hx303_2)
                            cases e303
                            replace hx303_0 := (HB.out.cell (World.block_lt_of_cell? w _ hx303_0)).trans hx303_0
                            replace hx303_1 := (HB.out.cell (World.block_lt_of_cell? w _ hx303_1)).trans hx303_1
                            replace hx303_2 := (HB.out.cell (World.block_lt_of_cell? w _ hx303_2)).trans hx303_2
                            replace p303 := eq_true p303
                            replace q303 := eq_true q303
                            go_wp2_with (first | ((with_reducible refine gate_dst (N := 10) rfl ?_); (try (refine gate_guard (by rfl) ?_; dsimp only)); refine box_event ?hg (N := 10) ?hd (cs := #[.string (⟨#[]⟩ : ByteArray), .string (⟨#[]⟩ : ByteArray), .bool false]) (t := 26) ?hr ?_; (case hd => rfl); (case hg => rfl); (case hr => first | (go_simp; done) | (go_simp; rfl)); intro gb304 hg w48 hbox hb; have n0_ := Aside0.mk (Kd.R_below (Kd.R_elderB (by (with_reducible repeat (first | apply Kd.R_alloc | apply Kd.R_drewN | apply Kd.R_drew)); exact HO_298001.out) gb304 (Nat.le_of_eq hg.symm)) hb); have n1_ := Aside0.mk (blk_below (g := gb297) (o := .cells #[.int .i64 x298000_4, u298001, .slice none 0 0] 40 (0, 0)) (by (with_reducible repeat (first | refine blk_drewN ?_ _ | refine blk_drew ?_ | refine blk_alloc ?_ _)); exact BK297.out) hb); have n2_ := Aside0.mk (blk_below (g := gb298) (o := .cells #[.int .i64 0, .slice none 0 0, .slice none 0 0] 40 (0, 0)) (by (with_reducible repeat (first | refine blk_drewN ?_ _ | refine blk_drew ?_ | refine blk_alloc ?_ _)); exact BK298.out) hb); have n3_ := Aside0.mk (below_step (by repeat (first | (with_reducible first | exact HB.out | apply below_alloc | apply pw_below_drewN | apply below_drew1 | refine below_set ?_ GE297.out | refine below_set ?_ GE298.out) | exact HB.out)) hb); have n4_ := Aside0.mk (hbox); have n5_ := Aside0.mk ((by rw [hg]; exact (below_size (by repeat (first | (with_reducible first | exact HB.out | apply below_alloc | apply pw_below_drewN | apply below_drew1 | refine below_set ?_ GE297.out | refine below_set ?_ GE298.out) | exact HB.out))) : w.heap.size ≤ gb304)); have n6_ := Aside0.mk ((by rw [hg]; exact (below_size (by repeat (first | (with_reducible first | exact HB.out | apply below_alloc | apply pw_below_drewN | apply below_drew1 | refine below_set ?_ GE297.out | refine below_set ?_ GE298.out) | exact HB.out))) : w.heap.size ≤ gb304)); have n7_ := Aside0.mk ((by rw [hg]; exact Nat.ne_of_lt (blk_lt (g := gb297) (o := .cells #[.int .i64 x298000_4, u298001, .slice none 0 0] 40 (0, 0)) (by (with_reducible repeat (first | refine blk_drewN ?_ _ | refine blk_drew ?_ | refine blk_alloc ?_ _)); exact BK297.out)) : gb297 ≠ gb304)); have n8_ := Aside0.mk ((by rw [hg]; exact Nat.ne_of_gt (blk_lt (g := gb297) (o := .cells #[.int .i64 x298000_4, u298001, .slice none 0 0] 40 (0, 0)) (by (with_reducible repeat (first | refine blk_drewN ?_ _ | refine blk_drew ?_ | refine blk_alloc ?_ _)); exact BK297.out)) : gb304 ≠ gb297)); have n9_ := Aside0.mk ((by rw [hg]; exact Nat.ne_of_lt (blk_lt (g := gb298) (o := .cells #[.int .i64 0, .slice none 0 0, .slice none 0 0] 40 (0, 0)) (by (with_reducible repeat (first | refine blk_drewN ?_ _ | refine blk_drew ?_ | refine blk_alloc ?_ _)); exact BK298.out)) : gb298 ≠ gb304)); have n10_ := Aside0.mk ((by rw [hg]; exact Nat.ne_of_gt (blk_lt (g := gb298) (o := .cells #[.int .i64 0, .slice none 0 0, .slice none 0 0] 40 (0, 0)) (by (with_reducible repeat (first | refine blk_drewN ?_ _ | refine blk_drew ?_ | refine blk_alloc ?_ _)); exact BK298.out)) : gb304 ≠ gb298)); clear HO_298001; clear BK297; clear BK298; clear HB; have HO_298001 := n0_; have BK297 := n1_; have BK298 := n2_; have HB := n3_; have BK304 := n4_; have GW304 := n5_; have GE304 := n6_; have NB297_304 := n7_; have NB304_297 := n8_; have NB298_304 := n9_; have NB304_298 := n10_; clear n0_ n1_ n2_ n3_ n4_ n5_ n6_ n7_ n8_ n9_ n10_; clear hb hbox hg; have hnb49 := NB304_297.out; have hnc49 := NB297_304.out; have hnb50 := NB304_298.out; have hnc50 := NB298_304.out; have hcz51_0 : w48.cell? ⟨gb304, 0, none⟩ = some (.string (⟨#[]⟩ : ByteArray)) := (blk_cell BK304.out 0).trans rfl; have hcz51_1 : w48.cell? ⟨gb304, 1, none⟩ = some (.string (⟨#[]⟩ : ByteArray)) := (blk_cell BK304.out 1).trans rfl; have hcz51_2 : w48.cell? ⟨gb304, 2, none⟩ = some (.bool false) := (blk_cell BK304.out 2).trans rfl; have hfz51_0 := blk_frozen BK304.out 0; have hfz51_1 := blk_frozen BK304.out 1; have hfz51_2 := blk_frozen BK304.out 2; have hnb52 := NB297_298.out; have hnc52 := NB298_297.out; have hcz53_0 : w48.cell? ⟨gb297, 0, none⟩ = some (.int .i64 x298000_4) := (blk_cell BK297.out 0).trans rfl; have hcz53_1 : w48.cell? ⟨gb297, 1, none⟩ = some (u298001) := (blk_cell BK297.out 1).trans rfl; have hcz53_2 : w48.cell? ⟨gb297, 2, none⟩ = some (.slice none 0 0) := (blk_cell BK297.out 2).trans rfl; have hfz53_0 := blk_frozen BK297.out 0; have hfz53_1 := blk_frozen BK297.out 1; have hfz53_2 := blk_frozen BK297.out 2; obtain ⟨Ao54, co54, eo54⟩ := Kd.R_slice HO_298001.out; subst eo54) | ((with_reducible refine gate_callee (f := 42) rfl ?_); refine goesL_ (some 72) rfl rfl Tryd.func42 (by kernel_rfl) rfl #[.agg #[.int .i64 x298000_4, .slice Ao54 x298001_4.length co54], .string ((rd_T26 l1 x9_4).f0), .string ((rd_T26 l1 x9_4).f1)] rfl (by (try simp only [List.map_toArray, List.map_cons, List.map_nil]); first | done | rfl | (simp only [List.length_drop, List.length_take]; rfl)) ?_; (with_reducible refine (nuncioref11_Find.calls k4 x298000_4 _ _ x298001_4 ((rd_T26 l1 x9_4).f0) ((rd_T26 l1 x9_4).f1) t305 true _ ?side1 ?side2 A32.out).mono ?_); (case side1 => refine (Kd.R_reads' (e := 88) (base := b0) (ok := fun k_ => (((P0_1_ k_ ∨ w.heap.size ≤ k_) ∧ (k_ ≠ gb297 ∧ k_ ≠ gb298)) ∧ k_ ≠ gb304)) (n := x298001_4.length) (c := co54) ?_).2.2; exact (by (with_reducible repeat (first | apply Kd.R_alloc | apply Kd.R_drewN | apply Kd.R_drew)); exact (Kd.R_mono (Kd.R_far (p := ⟨gb304, 2, none⟩) (Kd.R_far (p := ⟨gb304, 1, none⟩) (Kd.R_far (p := ⟨gb304, 0, none⟩) (Kd.R_mono HO_298001.out (fun k_ hk => (⟨hk, hk.2⟩ : _ ∧ k_ ≠ gb304))) (fun _ hk => hk.2) (.string ((rd_T26 l1 x9_4).f0))) (fun _ hk => hk.2) (.string ((rd_T26 l1 x9_4).f1))) (fun _ hk => hk.2) (.bool false)) (fun _ h_ => h_.1)))); (case side2 => exact (Kd.R_reads' HO_298001.out).2.1); rintro e w55 ⟨rfl, hb⟩; refine ⟨_, rfl, ?_⟩; have n0_ := Aside0.mk (Kd.R_below (by (with_reducible repeat (first | apply Kd.R_alloc | apply Kd.R_drewN | apply Kd.R_drew)); exact (Kd.R_mono (Kd.R_far (p := ⟨gb304, 2, none⟩) (Kd.R_far (p := ⟨gb304, 1, none⟩) (Kd.R_far (p := ⟨gb304, 0, none⟩) (Kd.R_mono HO_298001.out (fun k_ hk => (⟨hk, hk.2⟩ : _ ∧ k_ ≠ gb304))) (fun _ hk => hk.2) (.string ((rd_T26 l1 x9_4).f0))) (fun _ hk => hk.2) (.string ((rd_T26 l1 x9_4).f1))) (fun _ hk => hk.2) (.bool false)) (fun _ h_ => h_.1))) hb); have n1_ := Aside0.mk (blk_below (g := gb297) (o := .cells #[.int .i64 x298000_4, .slice Ao54 x298001_4.length co54, .slice none 0 0] 40 (0, 0)) (by (with_reducible repeat (first | refine blk_drewN ?_ _ | refine blk_drew ?_ | refine blk_alloc ?_ _)); refine blk_far ?_ NB297_304.out _; (with_reducible repeat (first | refine blk_drewN ?_ _ | refine blk_drew ?_ | refine blk_alloc ?_ _)); refine blk_far ?_ NB297_304.out _; (with_reducible repeat (first | refine blk_drewN ?_ _ | refine blk_drew ?_ | refine blk_alloc ?_ _)); refine blk_far ?_ NB297_304.out _; (with_reducible repeat (first | refine blk_drewN ?_ _ | refine blk_drew ?_ | refine blk_alloc ?_ _)); exact BK297.out) hb); have n2_ := Aside0.mk (blk_below (g := gb298) (o := .cells #[.int .i64 0, .slice none 0 0, .slice none 0 0] 40 (0, 0)) (by (with_reducible repeat (first | refine blk_drewN ?_ _ | refine blk_drew ?_ | refine blk_alloc ?_ _)); refine blk_far ?_ NB298_304.out _; (with_reducible repeat (first | refine blk_drewN ?_ _ | refine blk_drew ?_ | refine blk_alloc ?_ _)); refine blk_far ?_ NB298_304.out _; (with_reducible repeat (first | refine blk_drewN ?_ _ | refine blk_drew ?_ | refine blk_alloc ?_ _)); refine blk_far ?_ NB298_304.out _; (with_reducible repeat (first | refine blk_drewN ?_ _ | refine blk_drew ?_ | refine blk_alloc ?_ _)); exact BK298.out) hb); have n3_ := Aside0.mk (blk_below (g := gb304) (o := .cells #[.string ((rd_T26 l1 x9_4).f0), .string ((rd_T26 l1 x9_4).f1), .bool false] 26 (0, 0)) (by (with_reducible repeat (first | refine blk_drewN ?_ _ | refine blk_drew ?_ | refine blk_alloc ?_ _)); refine blk_put (cs := #[.string ((rd_T26 l1 x9_4).f0), .string ((rd_T26 l1 x9_4).f1), .bool false]) ?_ 2 _ rfl; (with_reducible repeat (first | refine blk_drewN ?_ _ | refine blk_drew ?_ | refine blk_alloc ?_ _)); refine blk_put (cs := #[.string ((rd_T26 l1 x9_4).f0), .string (⟨#[]⟩ : ByteArray), .bool false]) ?_ 1 _ rfl; (with_reducible repeat (first | refine blk_drewN ?_ _ | refine blk_drew ?_ | refine blk_alloc ?_ _)); refine blk_put (cs := #[.string (⟨#[]⟩ : ByteArray), .string (⟨#[]⟩ : ByteArray), .bool false]) ?_ 0 _ rfl; (with_reducible repeat (first | refine blk_drewN ?_ _ | refine blk_drew ?_ | refine blk_alloc ?_ _)); exact BK304.out) hb); have n4_ := Aside0.mk (below_step (by repeat (first | (with_reducible first | exact HB.out | apply below_alloc | apply pw_below_drewN | apply below_drew1 | refine below_set ?_ GE297.out | refine below_set ?_ GE298.out | refine below_set ?_ GE304.out) | exact HB.out)) hb); clear HO_298001; clear BK297; clear BK298; clear BK304; clear HB; have HO_298001 := n0_; have BK297 := n1_; have BK298 := n2_; have BK304 := n3_; have HB := n4_; clear n0_ n1_ n2_ n3_ n4_; (try clear hb); (try clear hb2); (try clear hk); (try clear hi); have hcz56_0 : w55.cell? ⟨gb304, 0, none⟩ = some (.string ((rd_T26 l1 x9_4).f0)) := (blk_cell BK304.out 0).trans rfl; have hcz56_1 : w55.cell? ⟨gb304, 1, none⟩ = some (.string ((rd_T26 l1 x9_4).f1)) := (blk_cell BK304.out 1).trans rfl; have hcz56_2 : w55.cell? ⟨gb304, 2, none⟩ = some (.bool false) := (blk_cell BK304.out 2).trans rfl; have hfz56_0 := blk_frozen BK304.out 0; have hfz56_1 := blk_frozen BK304.out 1; have hfz56_2 := blk_frozen BK304.out 2) | ((with_reducible refine gate_callee (f := 41) rfl ?_); refine goesL_ (some 85) rfl rfl Tryd.func41 (by kernel_rfl) rfl #[.string x6_4, .int .u8 128, .int .i64 7, .int .u64 (IntKind.u64.wrap (t305))] rfl (by (try simp only [List.map_toArray, List.map_cons, List.map_nil]); first | done | rfl | (simp only [List.length_drop, List.length_take]; rfl)) ?_; (with_reducible refine (nuncioref09_Put.calls k4 x6_4 128 7 (IntKind.u64.wrap (t305)) t308 _ A47.out).mono ?_); rintro e w57 ⟨rfl, hb⟩; refine ⟨_, rfl, ?_⟩; have n0_ := Aside0.mk (Kd.R_below (by (with_reducible repeat (first | apply Kd.R_alloc | apply Kd.R_drewN | apply Kd.R_drew)); exact HO_298001.out) hb); have n1_ := Aside0.mk (blk_below (g := gb297) (o := .cells #[.int .i64 x298000_4, .slice Ao54 x298001_4.length co54, .slice none 0 0] 40 (0, 0)) (by (with_reducible repeat (first | refine blk_drewN ?_ _ | refine blk_drew ?_ | refine blk_alloc ?_ _)); exact BK297.out) hb); have n2_ := Aside0.mk (blk_below (g := gb298) (o := .cells #[.int .i64 0, .slice none 0 0, .slice none 0 0] 40 (0, 0)) (by (with_reducible repeat (first | refine blk_drewN ?_ _ | refine blk_drew ?_ | refine blk_alloc ?_ _)); exact BK298.out) hb); have n3_ := Aside0.mk (blk_below (g := gb304) (o := .cells #[.string ((rd_T26 l1 x9_4).f0), .string ((rd_T26 l1 x9_4).f1), .bool false] 26 (0, 0)) (by (with_reducible repeat (first | refine blk_drewN ?_ _ | refine blk_drew ?_ | refine blk_alloc ?_ _)); exact BK304.out) hb); have n4_ := Aside0.mk (below_step (by repeat (first | (with_reducible first | exact HB.out | apply below_alloc | apply pw_below_drewN | apply below_drew1 | refine below_set ?_ GE297.out | refine below_set ?_ GE298.out | refine below_set ?_ GE304.out) | exact HB.out)) hb); clear HO_298001; clear BK297; clear BK298; clear BK304; clear HB; have HO_298001 := n0_; have BK297 := n1_; have BK298 := n2_; have BK304 := n3_; have HB := n4_; clear n0_ n1_ n2_ n3_ n4_; (try clear hb); (try clear hb2); (try clear hk); (try clear hi)))
                            go_roundg k4
                            case measure => have := HK1.out; have := HJ13.out; have := HJ19.out; have := HK4.out; omega
                            case rel => exact ⟨(t308), (wrap64 (x9_4 + 1)), (x298000_4), (x298001_4), (.slice Ao54 x298001_4.length co54), (by first | rfl | (simp; done) | (simp [*]; done)), (by first | rfl | (simp; done) | (simp [*]; done)), H', ⟨by have := HK1.out; have := HJ13.out; have := HJ19.out; have := HK4.out; omega⟩, ⟨by (with_reducible repeat (first | apply Kd.R_alloc | apply Kd.R_drewN | apply Kd.R_drew)); exact Kd.R_mono HO_298001.out (fun _ hk => ⟨hk.1.1, ⟨hk.1.2.1, hk.1.2.2⟩⟩)⟩, ⟨by (with_reducible repeat (first | refine blk_drewN ?_ _ | refine blk_drew ?_ | refine blk_alloc ?_ _)); exact BK297.out⟩, ⟨by (with_reducible repeat (first | refine blk_drewN ?_ _ | refine blk_drew ?_ | refine blk_alloc ?_ _)); exact BK298.out⟩, ⟨by repeat (first | (with_reducible first | exact HB.out | apply below_alloc | apply pw_below_drewN | apply below_drew1 | refine below_set ?_ GE297.out | refine below_set ?_ GE298.out | refine below_set ?_ GE304.out) | exact HB.out)⟩⟩
                          · replace c46 := Bool.eq_false_iff.mpr c46
                            subst c46
                            have H1 : (if (((rd_T26 l1 x9_4).f0).size : Int) ≤ x298000_4 then (if (((rd_T26 l1 x9_4).f1).size : Int) ≤ x298000_4 then (nuncioref13_Write.j4 k4 l1 x6_4 x9_4 t305 (decide ((wrap64 ((wrap64 ((((rd_T26 l1 x9_4).f0).size : Int) + (((rd_T26 l1 x9_4).f1).size : Int))) + 32)) ≤ x298000_4)) x298000_4 x298001_4 ((rd_T26 l1 x9_4).f0) ((rd_T26 l1 x9_4).f1) false) else (nuncioref13_Write.j4 k4 l1 x6_4 x9_4 t305 false x298000_4 x298001_4 ((rd_T26 l1 x9_4).f0) ((rd_T26 l1 x9_4).f1) false)) else (nuncioref13_Write.j4 k4 l1 x6_4 x9_4 t305 false x298000_4 x298001_4 ((rd_T26 l1 x9_4).f0) ((rd_T26 l1 x9_4).f1) false)) = some (r1, r2, r3, r4) := by rw [if_neg (show ¬ (false = true) by decide)] at H; exact H
                            clear H
                            have H := H1
                            clear H1
                            have HC58 := Aside0.mk H
                            clear H
                            have p303 : 0 ≤ (x9_4 : Int) := of_decide_eq_true (by first | (with_reducible assumption) | assumption)
                            have q303 : x9_4 < (l1.length : Int) := of_decide_eq_true (by first | (with_reducible assumption) | assumption)
                            obtain ⟨ad303, e303, hx303_0, hx303_1, hx303_2⟩ := at_T26 HR1.out x9_4 p303 q303
                            (try rw [← Nbq33.out] at hx303_2)
                            cases e303
                            replace hx303_0 := (HB.out.cell (World.block_lt_of_cell? w _ hx303_0)).trans hx303_0
                            replace hx303_1 := (HB.out.cell (World.block_lt_of_cell? w _ hx303_1)).trans hx303_1
                            replace hx303_2 := (HB.out.cell (World.block_lt_of_cell? w _ hx303_2)).trans hx303_2
                            replace p303 := eq_true p303
                            replace q303 := eq_true q303
                            go_upto_region 22 with (first | ((with_reducible refine gate_dst (N := 10) rfl ?_); (try (refine gate_guard (by rfl) ?_; dsimp only)); refine box_event ?hg (N := 10) ?hd (cs := #[.string (⟨#[]⟩ : ByteArray), .string (⟨#[]⟩ : ByteArray), .bool false]) (t := 26) ?hr ?_; (case hd => rfl); (case hg => rfl); (case hr => first | (go_simp; done) | (go_simp; rfl)); intro gb304 hg w59 hbox hb; have n0_ := Aside0.mk (Kd.R_below (Kd.R_elderB (by (with_reducible repeat (first | apply Kd.R_alloc | apply Kd.R_drewN | apply Kd.R_drew)); exact HO_298001.out) gb304 (Nat.le_of_eq hg.symm)) hb); have n1_ := Aside0.mk (blk_below (g := gb297) (o := .cells #[.int .i64 x298000_4, u298001, .slice none 0 0] 40 (0, 0)) (by (with_reducible repeat (first | refine blk_drewN ?_ _ | refine blk_drew ?_ | refine blk_alloc ?_ _)); exact BK297.out) hb); have n2_ := Aside0.mk (blk_below (g := gb298) (o := .cells #[.int .i64 0, .slice none 0 0, .slice none 0 0] 40 (0, 0)) (by (with_reducible repeat (first | refine blk_drewN ?_ _ | refine blk_drew ?_ | refine blk_alloc ?_ _)); exact BK298.out) hb); have n3_ := Aside0.mk (below_step (by repeat (first | (with_reducible first | exact HB.out | apply below_alloc | apply pw_below_drewN | apply below_drew1 | refine below_set ?_ GE297.out | refine below_set ?_ GE298.out) | exact HB.out)) hb); have n4_ := Aside0.mk (hbox); have n5_ := Aside0.mk ((by rw [hg]; exact (below_size (by repeat (first | (with_reducible first | exact HB.out | apply below_alloc | apply pw_below_drewN | apply below_drew1 | refine below_set ?_ GE297.out | refine below_set ?_ GE298.out) | exact HB.out))) : w.heap.size ≤ gb304)); have n6_ := Aside0.mk ((by rw [hg]; exact (below_size (by repeat (first | (with_reducible first | exact HB.out | apply below_alloc | apply pw_below_drewN | apply below_drew1 | refine below_set ?_ GE297.out | refine below_set ?_ GE298.out) | exact HB.out))) : w.heap.size ≤ gb304)); have n7_ := Aside0.mk ((by rw [hg]; exact Nat.ne_of_lt (blk_lt (g := gb297) (o := .cells #[.int .i64 x298000_4, u298001, .slice none 0 0] 40 (0, 0)) (by (with_reducible repeat (first | refine blk_drewN ?_ _ | refine blk_drew ?_ | refine blk_alloc ?_ _)); exact BK297.out)) : gb297 ≠ gb304)); have n8_ := Aside0.mk ((by rw [hg]; exact Nat.ne_of_gt (blk_lt (g := gb297) (o := .cells #[.int .i64 x298000_4, u298001, .slice none 0 0] 40 (0, 0)) (by (with_reducible repeat (first | refine blk_drewN ?_ _ | refine blk_drew ?_ | refine blk_alloc ?_ _)); exact BK297.out)) : gb304 ≠ gb297)); have n9_ := Aside0.mk ((by rw [hg]; exact Nat.ne_of_lt (blk_lt (g := gb298) (o := .cells #[.int .i64 0, .slice none 0 0, .slice none 0 0] 40 (0, 0)) (by (with_reducible repeat (first | refine blk_drewN ?_ _ | refine blk_drew ?_ | refine blk_alloc ?_ _)); exact BK298.out)) : gb298 ≠ gb304)); have n10_ := Aside0.mk ((by rw [hg]; exact Nat.ne_of_gt (blk_lt (g := gb298) (o := .cells #[.int .i64 0, .slice none 0 0, .slice none 0 0] 40 (0, 0)) (by (with_reducible repeat (first | refine blk_drewN ?_ _ | refine blk_drew ?_ | refine blk_alloc ?_ _)); exact BK298.out)) : gb304 ≠ gb298)); clear HO_298001; clear BK297; clear BK298; clear HB; have HO_298001 := n0_; have BK297 := n1_; have BK298 := n2_; have HB := n3_; have BK304 := n4_; have GW304 := n5_; have GE304 := n6_; have NB297_304 := n7_; have NB304_297 := n8_; have NB298_304 := n9_; have NB304_298 := n10_; clear n0_ n1_ n2_ n3_ n4_ n5_ n6_ n7_ n8_ n9_ n10_; clear hb hbox hg; have hnb60 := NB304_297.out; have hnc60 := NB297_304.out; have hnb61 := NB304_298.out; have hnc61 := NB298_304.out; have hcz62_0 : w59.cell? ⟨gb304, 0, none⟩ = some (.string (⟨#[]⟩ : ByteArray)) := (blk_cell BK304.out 0).trans rfl; have hcz62_1 : w59.cell? ⟨gb304, 1, none⟩ = some (.string (⟨#[]⟩ : ByteArray)) := (blk_cell BK304.out 1).trans rfl; have hcz62_2 : w59.cell? ⟨gb304, 2, none⟩ = some (.bool false) := (blk_cell BK304.out 2).trans rfl; have hfz62_0 := blk_frozen BK304.out 0; have hfz62_1 := blk_frozen BK304.out 1; have hfz62_2 := blk_frozen BK304.out 2; have hnb63 := NB297_298.out; have hnc63 := NB298_297.out; have hcz64_0 : w59.cell? ⟨gb297, 0, none⟩ = some (.int .i64 x298000_4) := (blk_cell BK297.out 0).trans rfl; have hcz64_1 : w59.cell? ⟨gb297, 1, none⟩ = some (u298001) := (blk_cell BK297.out 1).trans rfl; have hcz64_2 : w59.cell? ⟨gb297, 2, none⟩ = some (.slice none 0 0) := (blk_cell BK297.out 2).trans rfl; have hfz64_0 := blk_frozen BK297.out 0; have hfz64_1 := blk_frozen BK297.out 1; have hfz64_2 := blk_frozen BK297.out 2; obtain ⟨Ao65, co65, eo65⟩ := Kd.R_slice HO_298001.out; subst eo65) | ((with_reducible refine gate_callee (f := 42) rfl ?_); refine goesL_ (some 72) rfl rfl Tryd.func42 (by kernel_rfl) rfl #[.agg #[.int .i64 x298000_4, .slice Ao65 x298001_4.length co65], .string ((rd_T26 l1 x9_4).f0), .string ((rd_T26 l1 x9_4).f1)] rfl (by (try simp only [List.map_toArray, List.map_cons, List.map_nil]); first | done | rfl | (simp only [List.length_drop, List.length_take]; rfl)) ?_; (with_reducible refine (nuncioref11_Find.calls k4 x298000_4 _ _ x298001_4 ((rd_T26 l1 x9_4).f0) ((rd_T26 l1 x9_4).f1) t305 false _ ?side1 ?side2 A32.out).mono ?_); (case side1 => refine (Kd.R_reads' (e := 88) (base := b0) (ok := fun k_ => (((P0_1_ k_ ∨ w.heap.size ≤ k_) ∧ (k_ ≠ gb297 ∧ k_ ≠ gb298)) ∧ k_ ≠ gb304)) (n := x298001_4.length) (c := co65) ?_).2.2; exact (by (with_reducible repeat (first | apply Kd.R_alloc | apply Kd.R_drewN | apply Kd.R_drew)); exact (Kd.R_mono (Kd.R_far (p := ⟨gb304, 2, none⟩) (Kd.R_far (p := ⟨gb304, 1, none⟩) (Kd.R_far (p := ⟨gb304, 0, none⟩) (Kd.R_mono HO_298001.out (fun k_ hk => (⟨hk, hk.2⟩ : _ ∧ k_ ≠ gb304))) (fun _ hk => hk.2) (.string ((rd_T26 l1 x9_4).f0))) (fun _ hk => hk.2) (.string ((rd_T26 l1 x9_4).f1))) (fun _ hk => hk.2) (.bool false)) (fun _ h_ => h_.1)))); (case side2 => exact (Kd.R_reads' HO_298001.out).2.1); rintro e w66 ⟨rfl, hb⟩; refine ⟨_, rfl, ?_⟩; have n0_ := Aside0.mk (Kd.R_below (by (with_reducible repeat (first | apply Kd.R_alloc | apply Kd.R_drewN | apply Kd.R_drew)); exact (Kd.R_mono (Kd.R_far (p := ⟨gb304, 2, none⟩) (Kd.R_far (p := ⟨gb304, 1, none⟩) (Kd.R_far (p := ⟨gb304, 0, none⟩) (Kd.R_mono HO_298001.out (fun k_ hk => (⟨hk, hk.2⟩ : _ ∧ k_ ≠ gb304))) (fun _ hk => hk.2) (.string ((rd_T26 l1 x9_4).f0))) (fun _ hk => hk.2) (.string ((rd_T26 l1 x9_4).f1))) (fun _ hk => hk.2) (.bool false)) (fun _ h_ => h_.1))) hb); have n1_ := Aside0.mk (blk_below (g := gb297) (o := .cells #[.int .i64 x298000_4, .slice Ao65 x298001_4.length co65, .slice none 0 0] 40 (0, 0)) (by (with_reducible repeat (first | refine blk_drewN ?_ _ | refine blk_drew ?_ | refine blk_alloc ?_ _)); refine blk_far ?_ NB297_304.out _; (with_reducible repeat (first | refine blk_drewN ?_ _ | refine blk_drew ?_ | refine blk_alloc ?_ _)); refine blk_far ?_ NB297_304.out _; (with_reducible repeat (first | refine blk_drewN ?_ _ | refine blk_drew ?_ | refine blk_alloc ?_ _)); refine blk_far ?_ NB297_304.out _; (with_reducible repeat (first | refine blk_drewN ?_ _ | refine blk_drew ?_ | refine blk_alloc ?_ _)); exact BK297.out) hb); have n2_ := Aside0.mk (blk_below (g := gb298) (o := .cells #[.int .i64 0, .slice none 0 0, .slice none 0 0] 40 (0, 0)) (by (with_reducible repeat (first | refine blk_drewN ?_ _ | refine blk_drew ?_ | refine blk_alloc ?_ _)); refine blk_far ?_ NB298_304.out _; (with_reducible repeat (first | refine blk_drewN ?_ _ | refine blk_drew ?_ | refine blk_alloc ?_ _)); refine blk_far ?_ NB298_304.out _; (with_reducible repeat (first | refine blk_drewN ?_ _ | refine blk_drew ?_ | refine blk_alloc ?_ _)); refine blk_far ?_ NB298_304.out _; (with_reducible repeat (first | refine blk_drewN ?_ _ | refine blk_drew ?_ | refine blk_alloc ?_ _)); exact BK298.out) hb); have n3_ := Aside0.mk (blk_below (g := gb304) (o := .cells #[.string ((rd_T26 l1 x9_4).f0), .string ((rd_T26 l1 x9_4).f1), .bool false] 26 (0, 0)) (by (with_reducible repeat (first | refine blk_drewN ?_ _ | refine blk_drew ?_ | refine blk_alloc ?_ _)); refine blk_put (cs := #[.string ((rd_T26 l1 x9_4).f0), .string ((rd_T26 l1 x9_4).f1), .bool false]) ?_ 2 _ rfl; (with_reducible repeat (first | refine blk_drewN ?_ _ | refine blk_drew ?_ | refine blk_alloc ?_ _)); refine blk_put (cs := #[.string ((rd_T26 l1 x9_4).f0), .string (⟨#[]⟩ : ByteArray), .bool false]) ?_ 1 _ rfl; (with_reducible repeat (first | refine blk_drewN ?_ _ | refine blk_drew ?_ | refine blk_alloc ?_ _)); refine blk_put (cs := #[.string (⟨#[]⟩ : ByteArray), .string (⟨#[]⟩ : ByteArray), .bool false]) ?_ 0 _ rfl; (with_reducible repeat (first | refine blk_drewN ?_ _ | refine blk_drew ?_ | refine blk_alloc ?_ _)); exact BK304.out) hb); have n4_ := Aside0.mk (below_step (by repeat (first | (with_reducible first | exact HB.out | apply below_alloc | apply pw_below_drewN | apply below_drew1 | refine below_set ?_ GE297.out | refine below_set ?_ GE298.out | refine below_set ?_ GE304.out) | exact HB.out)) hb); clear HO_298001; clear BK297; clear BK298; clear BK304; clear HB; have HO_298001 := n0_; have BK297 := n1_; have BK298 := n2_; have BK304 := n3_; have HB := n4_; clear n0_ n1_ n2_ n3_ n4_; (try clear hb); (try clear hb2); (try clear hk); (try clear hi); have hcz67_0 : w66.cell? ⟨gb304, 0, none⟩ = some (.string ((rd_T26 l1 x9_4).f0)) := (blk_cell BK304.out 0).trans rfl; have hcz67_1 : w66.cell? ⟨gb304, 1, none⟩ = some (.string ((rd_T26 l1 x9_4).f1)) := (blk_cell BK304.out 1).trans rfl; have hcz67_2 : w66.cell? ⟨gb304, 2, none⟩ = some (.bool false) := (blk_cell BK304.out 2).trans rfl; have hfz67_0 := blk_frozen BK304.out 0; have hfz67_1 := blk_frozen BK304.out 1; have hfz67_2 := blk_frozen BK304.out 2))
                            (try simp only [Act.put, List.setIfInBounds_toArray, List.set_cons_zero, List.set_cons_succ])
                            go_cut [115] (fun v115 wc => ∃ (kq : Nat) (x115_57 : Bool), v115 = .bool x115_57 ∧ Aside0 (nuncioref13_Write.j4 kq l1 x6_4 x9_4 t305 x115_57 x298000_4 x298001_4 ((rd_T26 l1 x9_4).f0) ((rd_T26 l1 x9_4).f1) false = some (r1, r2, r3, r4)) ∧ Aside0 (kq ≤ k4) ∧ Aside0 (Kd.R k88 88 wc b0 (fun k_ => (P0_1_ k_ ∨ w.heap.size ≤ k_) ∧ k_ ≠ gb297 ∧ k_ ≠ gb298 ∧ k_ ≠ gb304) (.slice Ao65 x298001_4.length co65) x298001_4) ∧ Aside0 (wc.heap[gb297]? = some (.cells #[.int .i64 x298000_4, (.slice Ao65 x298001_4.length co65), (.slice none 0 0)] 40 (0, 0))) ∧ Aside0 (wc.heap[gb298]? = some (.cells #[.int .i64 0, (.slice none 0 0), (.slice none 0 0)] 40 (0, 0))) ∧ Aside0 (wc.heap[gb304]? = some (.cells #[.string ((rd_T26 l1 x9_4).f0), .string ((rd_T26 l1 x9_4).f1), .bool false] 26 (0, 0))) ∧ Aside0 (Below w.heap.size w wc))
                            case first =>
                              have H := HC58.out
                              clear HC58
                              by_cases c68 : (((rd_T26 l1 x9_4).f0).size : Int) ≤ x298000_4
                              · rw [if_pos c68] at H
                                have c68b0 : decide ((((rd_T26 l1 x9_4).f0).size : Int) ≤ x298000_4) = true := decide_eq_true c68
                                clear c68
                                (first | rw [c68b0] | rw [c68b1] | (simp only [i64_w, i32_w]; rw [c68b0]) | skip)
                                by_cases c69 : (((rd_T26 l1 x9_4).f1).size : Int) ≤ x298000_4
                                · rw [if_pos c69] at H
                                  have c69b0 : decide ((((rd_T26 l1 x9_4).f1).size : Int) ≤ x298000_4) = true := decide_eq_true c69
                                  clear c69
                                  have H' := Aside0.mk H
                                  clear H
                                  have hnb70 := NB304_297.out
                                  have hnc70 := NB297_304.out
                                  have hnb71 := NB304_298.out
                                  have hnc71 := NB298_304.out
                                  have hcz72_0 : w66.cell? ⟨gb304, 0, none⟩ = some (.string ((rd_T26 l1 x9_4).f0)) := (blk_cell BK304.out 0).trans rfl
                                  have hcz72_1 : w66.cell? ⟨gb304, 1, none⟩ = some (.string ((rd_T26 l1 x9_4).f1)) := (blk_cell BK304.out 1).trans rfl
                                  have hcz72_2 : w66.cell? ⟨gb304, 2, none⟩ = some (.bool false) := (blk_cell BK304.out 2).trans rfl
                                  have hfz72_0 := blk_frozen BK304.out 0
                                  have hfz72_1 := blk_frozen BK304.out 1
                                  have hfz72_2 := blk_frozen BK304.out 2
                                  have hnb73 := NB297_298.out
                                  have hnc73 := NB298_297.out
                                  have hcz74_0 : w66.cell? ⟨gb297, 0, none⟩ = some (.int .i64 x298000_4) := (blk_cell BK297.out 0).trans rfl
                                  have hcz74_1 : w66.cell? ⟨gb297, 1, none⟩ = some (.slice Ao65 x298001_4.length co65) := (blk_cell BK297.out 1).trans rfl
                                  have hcz74_2 : w66.cell? ⟨gb297, 2, none⟩ = some (.slice none 0 0) := (blk_cell BK297.out 2).trans rfl
                                  have hfz74_0 := blk_frozen BK297.out 0
                                  have hfz74_1 := blk_frozen BK297.out 1
                                  have hfz74_2 := blk_frozen BK297.out 2
                                  go_wp2
                                  go_meet
                                  case rel => exact ⟨_, (decide ((wrap64 ((wrap64 ((((rd_T26 l1 x9_4).f0).size : Int) + (((rd_T26 l1 x9_4).f1).size : Int))) + 32)) ≤ x298000_4)), (by first | rfl | (simp; done) | (simp [*]; done)), H', ⟨by have := HK1.out; have := HJ13.out; have := HJ19.out; have := HK4.out; first | omega | exact Nat.le_refl _⟩, ⟨by (with_reducible repeat (first | apply Kd.R_alloc | apply Kd.R_drewN | apply Kd.R_drew)); exact Kd.R_mono HO_298001.out (fun _ hk => ⟨hk.1.1, ⟨hk.1.2.1, ⟨hk.1.2.2, hk.2⟩⟩⟩)⟩, ⟨by (with_reducible repeat (first | refine blk_drewN ?_ _ | refine blk_drew ?_ | refine blk_alloc ?_ _)); exact BK297.out⟩, ⟨by (with_reducible repeat (first | refine blk_drewN ?_ _ | refine blk_drew ?_ | refine blk_alloc ?_ _)); exact BK298.out⟩, ⟨by (with_reducible repeat (first | refine blk_drewN ?_ _ | refine blk_drew ?_ | refine blk_alloc ?_ _)); exact BK304.out⟩, ⟨by repeat (first | (with_reducible first | exact HB.out | apply below_alloc | apply pw_below_drewN | apply below_drew1 | refine below_set ?_ GE297.out | refine below_set ?_ GE298.out | refine below_set ?_ GE304.out) | exact HB.out)⟩⟩
                                · rw [if_neg c69] at H
                                  have c69b0 : decide ((((rd_T26 l1 x9_4).f1).size : Int) ≤ x298000_4) = false := decide_eq_false c69
                                  clear c69
                                  have H' := Aside0.mk H
                                  clear H
                                  have hnb75 := NB304_297.out
                                  have hnc75 := NB297_304.out
                                  have hnb76 := NB304_298.out
                                  have hnc76 := NB298_304.out
                                  have hcz77_0 : w66.cell? ⟨gb304, 0, none⟩ = some (.string ((rd_T26 l1 x9_4).f0)) := (blk_cell BK304.out 0).trans rfl
                                  have hcz77_1 : w66.cell? ⟨gb304, 1, none⟩ = some (.string ((rd_T26 l1 x9_4).f1)) := (blk_cell BK304.out 1).trans rfl
                                  have hcz77_2 : w66.cell? ⟨gb304, 2, none⟩ = some (.bool false) := (blk_cell BK304.out 2).trans rfl
                                  have hfz77_0 := blk_frozen BK304.out 0
                                  have hfz77_1 := blk_frozen BK304.out 1
                                  have hfz77_2 := blk_frozen BK304.out 2
                                  have hnb78 := NB297_298.out
                                  have hnc78 := NB298_297.out
                                  have hcz79_0 : w66.cell? ⟨gb297, 0, none⟩ = some (.int .i64 x298000_4) := (blk_cell BK297.out 0).trans rfl
                                  have hcz79_1 : w66.cell? ⟨gb297, 1, none⟩ = some (.slice Ao65 x298001_4.length co65) := (blk_cell BK297.out 1).trans rfl
                                  have hcz79_2 : w66.cell? ⟨gb297, 2, none⟩ = some (.slice none 0 0) := (blk_cell BK297.out 2).trans rfl
                                  have hfz79_0 := blk_frozen BK297.out 0
                                  have hfz79_1 := blk_frozen BK297.out 1
                                  have hfz79_2 := blk_frozen BK297.out 2
                                  go_wp2
                                  go_meet
                                  case rel => exact ⟨_, (false), (by first | rfl | (simp; done) | (simp [*]; done)), H', ⟨by have := HK1.out; have := HJ13.out; have := HJ19.out; have := HK4.out; first | omega | exact Nat.le_refl _⟩, ⟨by (with_reducible repeat (first | apply Kd.R_alloc | apply Kd.R_drewN | apply Kd.R_drew)); exact Kd.R_mono HO_298001.out (fun _ hk => ⟨hk.1.1, ⟨hk.1.2.1, ⟨hk.1.2.2, hk.2⟩⟩⟩)⟩, ⟨by (with_reducible repeat (first | refine blk_drewN ?_ _ | refine blk_drew ?_ | refine blk_alloc ?_ _)); exact BK297.out⟩, ⟨by (with_reducible repeat (first | refine blk_drewN ?_ _ | refine blk_drew ?_ | refine blk_alloc ?_ _)); exact BK298.out⟩, ⟨by (with_reducible repeat (first | refine blk_drewN ?_ _ | refine blk_drew ?_ | refine blk_alloc ?_ _)); exact BK304.out⟩, ⟨by repeat (first | (with_reducible first | exact HB.out | apply below_alloc | apply pw_below_drewN | apply below_drew1 | refine below_set ?_ GE297.out | refine below_set ?_ GE298.out | refine below_set ?_ GE304.out) | exact HB.out)⟩⟩
                              · rw [if_neg c68] at H
                                have c68b0 : decide ((((rd_T26 l1 x9_4).f0).size : Int) ≤ x298000_4) = false := decide_eq_false c68
                                clear c68
                                (first | rw [c68b0] | rw [c68b1] | (simp only [i64_w, i32_w]; rw [c68b0]) | skip)
                                have H' := Aside0.mk H
                                clear H
                                have hnb80 := NB304_297.out
                                have hnc80 := NB297_304.out
                                have hnb81 := NB304_298.out
                                have hnc81 := NB298_304.out
                                have hcz82_0 : w66.cell? ⟨gb304, 0, none⟩ = some (.string ((rd_T26 l1 x9_4).f0)) := (blk_cell BK304.out 0).trans rfl
                                have hcz82_1 : w66.cell? ⟨gb304, 1, none⟩ = some (.string ((rd_T26 l1 x9_4).f1)) := (blk_cell BK304.out 1).trans rfl
                                have hcz82_2 : w66.cell? ⟨gb304, 2, none⟩ = some (.bool false) := (blk_cell BK304.out 2).trans rfl
                                have hfz82_0 := blk_frozen BK304.out 0
                                have hfz82_1 := blk_frozen BK304.out 1
                                have hfz82_2 := blk_frozen BK304.out 2
                                have hnb83 := NB297_298.out
                                have hnc83 := NB298_297.out
                                have hcz84_0 : w66.cell? ⟨gb297, 0, none⟩ = some (.int .i64 x298000_4) := (blk_cell BK297.out 0).trans rfl
                                have hcz84_1 : w66.cell? ⟨gb297, 1, none⟩ = some (.slice Ao65 x298001_4.length co65) := (blk_cell BK297.out 1).trans rfl
                                have hcz84_2 : w66.cell? ⟨gb297, 2, none⟩ = some (.slice none 0 0) := (blk_cell BK297.out 2).trans rfl
                                have hfz84_0 := blk_frozen BK297.out 0
                                have hfz84_1 := blk_frozen BK297.out 1
                                have hfz84_2 := blk_frozen BK297.out 2
                                go_wp2
                                go_meet
                                case rel => exact ⟨_, (false), (by first | rfl | (simp; done) | (simp [*]; done)), H', ⟨by have := HK1.out; have := HJ13.out; have := HJ19.out; have := HK4.out; first | omega | exact Nat.le_refl _⟩, ⟨by (with_reducible repeat (first | apply Kd.R_alloc | apply Kd.R_drewN | apply Kd.R_drew)); exact Kd.R_mono HO_298001.out (fun _ hk => ⟨hk.1.1, ⟨hk.1.2.1, ⟨hk.1.2.2, hk.2⟩⟩⟩)⟩, ⟨by (with_reducible repeat (first | refine blk_drewN ?_ _ | refine blk_drew ?_ | refine blk_alloc ?_ _)); exact BK297.out⟩, ⟨by (with_reducible repeat (first | refine blk_drewN ?_ _ | refine blk_drew ?_ | refine blk_alloc ?_ _)); exact BK298.out⟩, ⟨by (with_reducible repeat (first | refine blk_drewN ?_ _ | refine blk_drew ?_ | refine blk_alloc ?_ _)); exact BK304.out⟩, ⟨by repeat (first | (with_reducible first | exact HB.out | apply below_alloc | apply pw_below_drewN | apply below_drew1 | refine below_set ?_ GE297.out | refine below_set ?_ GE298.out | refine below_set ?_ GE304.out) | exact HB.out)⟩⟩
                            case rest =>
                              clear HC58
                              try clear c1
                              try clear c2
                              try clear p2
                              try clear q2
                              try clear hx2
                              try clear c3
                              try clear p3
                              try clear q3
                              try clear hx3
                              try clear c4
                              try clear c5
                              try clear c6
                              try clear p6
                              try clear c7
                              try clear c7b0
                              try clear c8
                              try clear c8b0
                              try clear c9
                              try clear c9b0
                              try clear c10
                              try clear c12
                              try clear c15
                              try clear c17
                              try clear c17b0
                              try clear c17b1
                              try clear c19
                              try clear c21
                              try clear c23
                              try clear c23b0
                              try clear c23b1
                              try clear c25
                              try clear c28
                              try clear p29
                              try clear q29
                              try clear hx29
                              try clear c30
                              try clear c30b0
                              try clear p30
                              try clear q30
                              try clear hx30
                              try clear c31
                              try clear c31b0
                              try clear q33
                              try clear c34
                              try clear c37
                              try clear c38
                              try clear c40
                              try clear c41
                              try clear c42
                              try clear c43
                              try clear c46
                              try clear c49
                              try clear c50
                              try clear c52
                              try clear c60
                              try clear c61
                              try clear c63
                              try clear p64
                              try clear c68
                              try clear c68b0
                              try clear c68b1
                              try clear c69
                              try clear c69b0
                              try clear c70
                              try clear c71
                              try clear c73
                              try clear c75
                              try clear c76
                              try clear c78
                              try clear c80
                              try clear c81
                              try clear c83
                              try clear hcz11_0
                              try clear hcz11_1
                              try clear hcz11_2
                              try clear hcz13_0
                              try clear hcz13_1
                              try clear hcz13_2
                              try clear hcz16_0
                              try clear hcz16_1
                              try clear hcz16_2
                              try clear hcz22_0
                              try clear hcz22_1
                              try clear hcz22_2
                              try clear hcz26_0
                              try clear hcz26_1
                              try clear hcz26_2
                              try clear hcz29_0
                              try clear hcz29_1
                              try clear hcz29_2
                              try clear hcz39_0
                              try clear hcz39_1
                              try clear hcz39_2
                              try clear hcz41_0
                              try clear hcz41_1
                              try clear hcz41_2
                              try clear hcz44_0
                              try clear hcz44_1
                              try clear hcz44_2
                              try clear hcz51_0
                              try clear hcz51_1
                              try clear hcz51_2
                              try clear hcz53_0
                              try clear hcz53_1
                              try clear hcz53_2
                              try clear hcz56_0
                              try clear hcz56_1
                              try clear hcz56_2
                              try clear hcz62_0
                              try clear hcz62_1
                              try clear hcz62_2
                              try clear hcz64_0
                              try clear hcz64_1
                              try clear hcz64_2
                              try clear hcz67_0
                              try clear hcz67_1
                              try clear hcz67_2
                              try clear hcz6_0
                              try clear hcz6_1
                              try clear hcz6_2
                              try clear hcz72_0
                              try clear hcz72_1
                              try clear hcz72_2
                              try clear hcz74_0
                              try clear hcz74_1
                              try clear hcz74_2
                              try clear hcz77_0
                              try clear hcz77_1
                              try clear hcz77_2
                              try clear hcz79_0
                              try clear hcz79_1
                              try clear hcz79_2
                              try clear hcz82_0
                              try clear hcz82_1
                              try clear hcz82_2
                              try clear hcz84_0
                              try clear hcz84_1
                              try clear hcz84_2
                              try clear hfz11_0
                              try clear hfz11_1
                              try clear hfz11_2
                              try clear hfz13_0
                              try clear hfz13_1
                              try clear hfz13_2
                              try clear hfz16_0
                              try clear hfz16_1
                              try clear hfz16_2
                              try clear hfz22_0
                              try clear hfz22_1
                              try clear hfz22_2
                              try clear hfz26_0
                              try clear hfz26_1
                              try clear hfz26_2
                              try clear hfz29_0
                              try clear hfz29_1
                              try clear hfz29_2
                              try clear hfz39_0
                              try clear hfz39_1
                              try clear hfz39_2
                              try clear hfz41_0
                              try clear hfz41_1
                              try clear hfz41_2
                              try clear hfz44_0
                              try clear hfz44_1
                              try clear hfz44_2
                              try clear hfz51_0
                              try clear hfz51_1
                              try clear hfz51_2
                              try clear hfz53_0
                              try clear hfz53_1
                              try clear hfz53_2
                              try clear hfz56_0
                              try clear hfz56_1
                              try clear hfz56_2
                              try clear hfz62_0
                              try clear hfz62_1
                              try clear hfz62_2
                              try clear hfz64_0
                              try clear hfz64_1
                              try clear hfz64_2
                              try clear hfz67_0
                              try clear hfz67_1
                              try clear hfz67_2
                              try clear hfz6_0
                              try clear hfz6_1
                              try clear hfz6_2
                              try clear hfz72_0
                              try clear hfz72_1
                              try clear hfz72_2
                              try clear hfz74_0
                              try clear hfz74_1
                              try clear hfz74_2
                              try clear hfz77_0
                              try clear hfz77_1
                              try clear hfz77_2
                              try clear hfz79_0
                              try clear hfz79_1
                              try clear hfz79_2
                              try clear hfz82_0
                              try clear hfz82_1
                              try clear hfz82_2
                              try clear hfz84_0
                              try clear hfz84_1
                              try clear hfz84_2
                              try clear hx299_0
                              try clear hx300_0
                              try clear hx303_0
                              try clear hx303_1
                              try clear hx303_2
                              try clear p2
                              try clear p29
                              try clear p299
                              try clear p3
                              try clear p300
                              try clear p303
                              try clear p6
                              try clear q2
                              try clear q29
                              try clear q299
                              try clear q3
                              try clear q300
                              try clear q303
                              obtain ⟨kq, x115_57, rfl, HA, HJ57, HO_298001, BK297, BK298, BK304, HB⟩ := hcut
                              cases kq with
                              | zero => exact absurd HA.out (by simp [nuncioref13_Write.j4])
                              | succ kj57 =>
                                have H := HA.out
                                clear HA
                                simp only [nuncioref13_Write.j4] at H
                                by_cases c85 : x115_57 = true
                                · subst c85
                                  have H1 : ((nuncioref13_literal.f kj57 x6_4 64 6 t305 ((rd_T26 l1 x9_4).f0) ((rd_T26 l1 x9_4).f1) false).bind fun t309 => ((nuncioref11_Add.f kj57 x298000_4 x298001_4 ((rd_T26 l1 x9_4).f0) ((rd_T26 l1 x9_4).f1)).bind fun bt310 => (nuncioref13_Write.l1 kj57 l1 t309 (wrap64 (x9_4 + 1)) bt310.1 bt310.2))) = some (r1, r2, r3, r4) := by rw [if_pos rfl] at H; exact H
                                  clear H
                                  have H := H1
                                  clear H1
                                  replace H := Option.bind_eq_some_iff.mp H
                                  obtain ⟨t309, A860, H⟩ := H
                                  replace H : ((nuncioref11_Add.f kj57 x298000_4 x298001_4 ((rd_T26 l1 x9_4).f0) ((rd_T26 l1 x9_4).f1)).bind fun bt310 => (nuncioref13_Write.l1 kj57 l1 t309 (wrap64 (x9_4 + 1)) bt310.1 bt310.2)) = some (r1, r2, r3, r4) := H
                                  have A86 := Aside0.mk A860
                                  clear A860
                                  replace H := Option.bind_eq_some_iff.mp H
                                  obtain ⟨⟨t310, t311⟩, A870, H⟩ := H
                                  replace H : (nuncioref13_Write.l1 kj57 l1 t309 (wrap64 (x9_4 + 1)) t310 t311) = some (r1, r2, r3, r4) := H
                                  have A87 := Aside0.mk A870
                                  clear A870
                                  have H' := Aside0.mk H
                                  clear H
                                  have hnb88 := NB304_297.out
                                  have hnc88 := NB297_304.out
                                  have hnb89 := NB304_298.out
                                  have hnc89 := NB298_304.out
                                  have hcz90_0 : wc.cell? ⟨gb304, 0, none⟩ = some (.string ((rd_T26 l1 x9_4).f0)) := (blk_cell BK304.out 0).trans rfl
                                  have hcz90_1 : wc.cell? ⟨gb304, 1, none⟩ = some (.string ((rd_T26 l1 x9_4).f1)) := (blk_cell BK304.out 1).trans rfl
                                  have hcz90_2 : wc.cell? ⟨gb304, 2, none⟩ = some (.bool false) := (blk_cell BK304.out 2).trans rfl
                                  have hfz90_0 := blk_frozen BK304.out 0
                                  have hfz90_1 := blk_frozen BK304.out 1
                                  have hfz90_2 := blk_frozen BK304.out 2
                                  go_wp2_with (first | ((with_reducible refine gate_callee (f := 43) rfl ?_); refine goesL_ (some 119) rfl rfl Tryd.func43 (by kernel_rfl) rfl #[.string x6_4, .int .u8 64, .int .i64 6, .int .i64 t305, .agg #[.string ((rd_T26 l1 x9_4).f0), .string ((rd_T26 l1 x9_4).f1), .bool false]] rfl (by (try simp only [List.map_toArray, List.map_cons, List.map_nil]); first | done | rfl | (simp only [List.length_drop, List.length_take]; rfl)) ?_; (with_reducible refine (nuncioref13_literal.calls kj57 x6_4 64 6 t305 ((rd_T26 l1 x9_4).f0) ((rd_T26 l1 x9_4).f1) false t309 _ A86.out).mono ?_); rintro e w91 ⟨rfl, hb⟩; refine ⟨_, rfl, ?_⟩; have n0_ := Aside0.mk (Kd.R_below (by (with_reducible repeat (first | apply Kd.R_alloc | apply Kd.R_drewN | apply Kd.R_drew)); exact HO_298001.out) hb); have n1_ := Aside0.mk (blk_below (g := gb297) (o := .cells #[.int .i64 x298000_4, .slice Ao65 x298001_4.length co65, .slice none 0 0] 40 (0, 0)) (by (with_reducible repeat (first | refine blk_drewN ?_ _ | refine blk_drew ?_ | refine blk_alloc ?_ _)); exact BK297.out) hb); have n2_ := Aside0.mk (blk_below (g := gb298) (o := .cells #[.int .i64 0, .slice none 0 0, .slice none 0 0] 40 (0, 0)) (by (with_reducible repeat (first | refine blk_drewN ?_ _ | refine blk_drew ?_ | refine blk_alloc ?_ _)); exact BK298.out) hb); have n3_ := Aside0.mk (blk_below (g := gb304) (o := .cells #[.string ((rd_T26 l1 x9_4).f0), .string ((rd_T26 l1 x9_4).f1), .bool false] 26 (0, 0)) (by (with_reducible repeat (first | refine blk_drewN ?_ _ | refine blk_drew ?_ | refine blk_alloc ?_ _)); exact BK304.out) hb); have n4_ := Aside0.mk (below_step (by repeat (first | (with_reducible first | exact HB.out | apply below_alloc | apply pw_below_drewN | apply below_drew1 | refine below_set ?_ GE297.out | refine below_set ?_ GE298.out | refine below_set ?_ GE304.out) | exact HB.out)) hb); clear HO_298001; clear BK297; clear BK298; clear BK304; clear HB; have HO_298001 := n0_; have BK297 := n1_; have BK298 := n2_; have BK304 := n3_; have HB := n4_; clear n0_ n1_ n2_ n3_ n4_; (try clear hb); (try clear hb2); (try clear hk); (try clear hi); have hnb92 := NB297_298.out; have hnc92 := NB298_297.out; have hcz93_0 : w91.cell? ⟨gb297, 0, none⟩ = some (.int .i64 x298000_4) := (blk_cell BK297.out 0).trans rfl; have hcz93_1 : w91.cell? ⟨gb297, 1, none⟩ = some (.slice Ao65 x298001_4.length co65) := (blk_cell BK297.out 1).trans rfl; have hcz93_2 : w91.cell? ⟨gb297, 2, none⟩ = some (.slice none 0 0) := (blk_cell BK297.out 2).trans rfl; have hfz93_0 := blk_frozen BK297.out 0; have hfz93_1 := blk_frozen BK297.out 1; have hfz93_2 := blk_frozen BK297.out 2; have hcz94_0 : w91.cell? ⟨gb304, 0, none⟩ = some (.string ((rd_T26 l1 x9_4).f0)) := (blk_cell BK304.out 0).trans rfl; have hcz94_1 : w91.cell? ⟨gb304, 1, none⟩ = some (.string ((rd_T26 l1 x9_4).f1)) := (blk_cell BK304.out 1).trans rfl; have hcz94_2 : w91.cell? ⟨gb304, 2, none⟩ = some (.bool false) := (blk_cell BK304.out 2).trans rfl; have hfz94_0 := blk_frozen BK304.out 0; have hfz94_1 := blk_frozen BK304.out 1; have hfz94_2 := blk_frozen BK304.out 2) | ((with_reducible refine gate_callee (f := 44) rfl ?_); refine goesL_ (some 126) rfl rfl Tryd.func44 (by kernel_rfl) rfl #[.agg #[.int .i64 x298000_4, .slice Ao65 x298001_4.length co65], .string ((rd_T26 l1 x9_4).f0), .string ((rd_T26 l1 x9_4).f1)] rfl (by (try simp only [List.map_toArray, List.map_cons, List.map_nil]); first | done | rfl | (simp only [List.length_drop, List.length_take]; rfl)) ?_; (with_reducible refine (nuncioref11_Add.calls kj57 x298000_4 _ _ x298001_4 ((rd_T26 l1 x9_4).f0) ((rd_T26 l1 x9_4).f1) t310 t311 _ ?side1 ?side2 A87.out).mono ?_); (case side1 => repeat (first | exact (Kd.R_reads' HO_298001.out).2.2 | (with_reducible refine Kd.C_alloc ?_ _) | (with_reducible refine Kd.C_drewN ?_ _) | (with_reducible refine Kd.C_drew ?_))); (case side2 => exact (Kd.R_reads' HO_298001.out).2.1); rintro e w95 ⟨v312, rfl, ho0, hb⟩; refine ⟨_, rfl, ?_⟩; have n0_ := Aside0.mk (Kd.R_elder' (by (with_reducible repeat (first | apply Kd.R_alloc | apply Kd.R_drewN | apply Kd.R_drew)); exact HO_298001.out) (Kd.R_base ho0) hb); have n1_ := Aside0.mk (Kd.R_lower (Kd.R_newM (M := fun k_ => (w.heap.size ≤ k_)) ho0 (below_size (by repeat (first | (with_reducible first | exact HB.out | apply below_alloc | apply pw_below_drewN | apply below_drew1 | refine below_set ?_ GE297.out | refine below_set ?_ GE298.out | refine below_set ?_ GE304.out) | exact HB.out))) (fun k_ h_ => h_)) (below_size (by repeat (first | (with_reducible first | exact HB.out | apply below_alloc | apply pw_below_drewN | apply below_drew1 | refine below_set ?_ GE297.out | refine below_set ?_ GE298.out | refine below_set ?_ GE304.out) | exact HB.out)))); have n2_ := Aside0.mk (blk_below (g := gb297) (o := .cells #[.int .i64 x298000_4, .slice Ao65 x298001_4.length co65, .slice none 0 0] 40 (0, 0)) (by (with_reducible repeat (first | refine blk_drewN ?_ _ | refine blk_drew ?_ | refine blk_alloc ?_ _)); exact BK297.out) hb); have n3_ := Aside0.mk (blk_below (g := gb298) (o := .cells #[.int .i64 0, .slice none 0 0, .slice none 0 0] 40 (0, 0)) (by (with_reducible repeat (first | refine blk_drewN ?_ _ | refine blk_drew ?_ | refine blk_alloc ?_ _)); exact BK298.out) hb); have n4_ := Aside0.mk (blk_below (g := gb304) (o := .cells #[.string ((rd_T26 l1 x9_4).f0), .string ((rd_T26 l1 x9_4).f1), .bool false] 26 (0, 0)) (by (with_reducible repeat (first | refine blk_drewN ?_ _ | refine blk_drew ?_ | refine blk_alloc ?_ _)); exact BK304.out) hb); have n5_ := Aside0.mk (below_step (by repeat (first | (with_reducible first | exact HB.out | apply below_alloc | apply pw_below_drewN | apply below_drew1 | refine below_set ?_ GE297.out | refine below_set ?_ GE298.out | refine below_set ?_ GE304.out) | exact HB.out)) hb); clear HO_298001; clear BK297; clear BK298; clear BK304; clear HB; have HO_298001 := n0_; have HO313 := n1_; have BK297 := n2_; have BK298 := n3_; have BK304 := n4_; have HB := n5_; clear n0_ n1_ n2_ n3_ n4_ n5_; (try clear hb); (try clear hb2); (try clear hk); (try clear hi); (try clear ho0); have hcz96_0 : w95.cell? ⟨gb297, 0, none⟩ = some (.int .i64 x298000_4) := (blk_cell BK297.out 0).trans rfl; have hcz96_1 : w95.cell? ⟨gb297, 1, none⟩ = some (.slice Ao65 x298001_4.length co65) := (blk_cell BK297.out 1).trans rfl; have hcz96_2 : w95.cell? ⟨gb297, 2, none⟩ = some (.slice none 0 0) := (blk_cell BK297.out 2).trans rfl; have hfz96_0 := blk_frozen BK297.out 0; have hfz96_1 := blk_frozen BK297.out 1; have hfz96_2 := blk_frozen BK297.out 2; obtain ⟨Ao97, co97, eo97⟩ := Kd.R_slice HO313.out; subst eo97))
                                  go_roundg kj57
                                  case measure => have := HK1.out; have := HJ13.out; have := HJ19.out; have := HK4.out; have := HJ57.out; omega
                                  case rel => exact ⟨(t309), (wrap64 (x9_4 + 1)), (t310), (t311), (.slice Ao97 t311.length co97), (by first | rfl | (simp; done) | (simp [*]; done)), (by first | rfl | (simp; done) | (simp [*]; done)), H', ⟨by have := HK1.out; have := HJ13.out; have := HJ19.out; have := HK4.out; have := HJ57.out; omega⟩, ⟨by have z1_ := Kd.R_types (Kd.R_types HO313.out BK297.out (by decide)) BK298.out (by decide); have z2_ := Kd.R_far (p := ⟨gb297, 1, none⟩) (Kd.R_far (p := ⟨gb297, 0, none⟩) z1_ (fun _ hk => hk.1.2) (.int .i64 t310)) (fun _ hk => hk.1.2) (.slice Ao97 t311.length co97); have z3_ := Kd.R_lower z2_ hb0_.out; (with_reducible repeat (first | apply Kd.R_alloc | apply Kd.R_drewN | apply Kd.R_drew)); exact Kd.R_mono z3_ (fun k_ hk => ⟨.inr hk.1.1.1, hk.1.2, hk.2⟩)⟩, ⟨by (with_reducible repeat (first | refine blk_drewN ?_ _ | refine blk_drew ?_ | refine blk_alloc ?_ _)); refine blk_put (cs := #[.int .i64 t310, .slice Ao65 x298001_4.length co65, .slice none 0 0]) ?_ 1 _ rfl; (with_reducible repeat (first | refine blk_drewN ?_ _ | refine blk_drew ?_ | refine blk_alloc ?_ _)); refine blk_put (cs := #[.int .i64 x298000_4, .slice Ao65 x298001_4.length co65, .slice none 0 0]) ?_ 0 _ rfl; (with_reducible repeat (first | refine blk_drewN ?_ _ | refine blk_drew ?_ | refine blk_alloc ?_ _)); exact BK297.out⟩, ⟨by (with_reducible repeat (first | refine blk_drewN ?_ _ | refine blk_drew ?_ | refine blk_alloc ?_ _)); refine blk_far ?_ NB298_297.out _; (with_reducible repeat (first | refine blk_drewN ?_ _ | refine blk_drew ?_ | refine blk_alloc ?_ _)); refine blk_far ?_ NB298_297.out _; (with_reducible repeat (first | refine blk_drewN ?_ _ | refine blk_drew ?_ | refine blk_alloc ?_ _)); exact BK298.out⟩, ⟨by repeat (first | (with_reducible first | exact HB.out | apply below_alloc | apply pw_below_drewN | apply below_drew1 | refine below_set ?_ GE297.out | refine below_set ?_ GE298.out | refine below_set ?_ GE304.out) | exact HB.out)⟩⟩
                                · replace c85 := Bool.eq_false_iff.mpr c85
                                  subst c85
                                  have H1 : ((nuncioref13_literal.f kj57 x6_4 0 4 t305 ((rd_T26 l1 x9_4).f0) ((rd_T26 l1 x9_4).f1) false).bind fun t314 => (nuncioref13_Write.l1 kj57 l1 t314 (wrap64 (x9_4 + 1)) x298000_4 x298001_4)) = some (r1, r2, r3, r4) := by rw [if_neg (show ¬ (false = true) by decide)] at H; exact H
                                  clear H
                                  have H := H1
                                  clear H1
                                  replace H := Option.bind_eq_some_iff.mp H
                                  obtain ⟨t314, A980, H⟩ := H
                                  replace H : (nuncioref13_Write.l1 kj57 l1 t314 (wrap64 (x9_4 + 1)) x298000_4 x298001_4) = some (r1, r2, r3, r4) := H
                                  have A98 := Aside0.mk A980
                                  clear A980
                                  have H' := Aside0.mk H
                                  clear H
                                  have hnb99 := NB304_297.out
                                  have hnc99 := NB297_304.out
                                  have hnb100 := NB304_298.out
                                  have hnc100 := NB298_304.out
                                  have hcz101_0 : wc.cell? ⟨gb304, 0, none⟩ = some (.string ((rd_T26 l1 x9_4).f0)) := (blk_cell BK304.out 0).trans rfl
                                  have hcz101_1 : wc.cell? ⟨gb304, 1, none⟩ = some (.string ((rd_T26 l1 x9_4).f1)) := (blk_cell BK304.out 1).trans rfl
                                  have hcz101_2 : wc.cell? ⟨gb304, 2, none⟩ = some (.bool false) := (blk_cell BK304.out 2).trans rfl
                                  have hfz101_0 := blk_frozen BK304.out 0
                                  have hfz101_1 := blk_frozen BK304.out 1
                                  have hfz101_2 := blk_frozen BK304.out 2
                                  go_wp2_with (first | ((with_reducible refine gate_callee (f := 43) rfl ?_); refine goesL_ (some 131) rfl rfl Tryd.func43 (by kernel_rfl) rfl #[.string x6_4, .int .u8 0, .int .i64 4, .int .i64 t305, .agg #[.string ((rd_T26 l1 x9_4).f0), .string ((rd_T26 l1 x9_4).f1), .bool false]] rfl (by (try simp only [List.map_toArray, List.map_cons, List.map_nil]); first | done | rfl | (simp only [List.length_drop, List.length_take]; rfl)) ?_; (with_reducible refine (nuncioref13_literal.calls kj57 x6_4 0 4 t305 ((rd_T26 l1 x9_4).f0) ((rd_T26 l1 x9_4).f1) false t314 _ A98.out).mono ?_); rintro e w102 ⟨rfl, hb⟩; refine ⟨_, rfl, ?_⟩; have n0_ := Aside0.mk (Kd.R_below (by (with_reducible repeat (first | apply Kd.R_alloc | apply Kd.R_drewN | apply Kd.R_drew)); exact HO_298001.out) hb); have n1_ := Aside0.mk (blk_below (g := gb297) (o := .cells #[.int .i64 x298000_4, .slice Ao65 x298001_4.length co65, .slice none 0 0] 40 (0, 0)) (by (with_reducible repeat (first | refine blk_drewN ?_ _ | refine blk_drew ?_ | refine blk_alloc ?_ _)); exact BK297.out) hb); have n2_ := Aside0.mk (blk_below (g := gb298) (o := .cells #[.int .i64 0, .slice none 0 0, .slice none 0 0] 40 (0, 0)) (by (with_reducible repeat (first | refine blk_drewN ?_ _ | refine blk_drew ?_ | refine blk_alloc ?_ _)); exact BK298.out) hb); have n3_ := Aside0.mk (blk_below (g := gb304) (o := .cells #[.string ((rd_T26 l1 x9_4).f0), .string ((rd_T26 l1 x9_4).f1), .bool false] 26 (0, 0)) (by (with_reducible repeat (first | refine blk_drewN ?_ _ | refine blk_drew ?_ | refine blk_alloc ?_ _)); exact BK304.out) hb); have n4_ := Aside0.mk (below_step (by repeat (first | (with_reducible first | exact HB.out | apply below_alloc | apply pw_below_drewN | apply below_drew1 | refine below_set ?_ GE297.out | refine below_set ?_ GE298.out | refine below_set ?_ GE304.out) | exact HB.out)) hb); clear HO_298001; clear BK297; clear BK298; clear BK304; clear HB; have HO_298001 := n0_; have BK297 := n1_; have BK298 := n2_; have BK304 := n3_; have HB := n4_; clear n0_ n1_ n2_ n3_ n4_; (try clear hb); (try clear hb2); (try clear hk); (try clear hi)))
                                  go_roundg kj57
                                  case measure => have := HK1.out; have := HJ13.out; have := HJ19.out; have := HK4.out; have := HJ57.out; omega
                                  case rel => exact ⟨(t314), (wrap64 (x9_4 + 1)), (x298000_4), (x298001_4), (.slice Ao65 x298001_4.length co65), (by first | rfl | (simp; done) | (simp [*]; done)), (by first | rfl | (simp; done) | (simp [*]; done)), H', ⟨by have := HK1.out; have := HJ13.out; have := HJ19.out; have := HK4.out; have := HJ57.out; omega⟩, ⟨by (with_reducible repeat (first | apply Kd.R_alloc | apply Kd.R_drewN | apply Kd.R_drew)); exact Kd.R_mono HO_298001.out (fun _ hk => ⟨hk.1, ⟨hk.2.1, hk.2.2.1⟩⟩)⟩, ⟨by (with_reducible repeat (first | refine blk_drewN ?_ _ | refine blk_drew ?_ | refine blk_alloc ?_ _)); exact BK297.out⟩, ⟨by (with_reducible repeat (first | refine blk_drewN ?_ _ | refine blk_drew ?_ | refine blk_alloc ?_ _)); exact BK298.out⟩, ⟨by repeat (first | (with_reducible first | exact HB.out | apply below_alloc | apply pw_below_drewN | apply below_drew1 | refine below_set ?_ GE297.out | refine below_set ?_ GE298.out | refine below_set ?_ GE304.out) | exact HB.out)⟩⟩
                      · rw [if_neg c31] at H
                        exact absurd H (by simp)
                    · rw [if_neg c30] at H
                      have c30b0 : decide (x9_4 < (l1.length : Int)) = false := decide_eq_false c30
                      clear c30
                      simp only [Option.some.injEq, Prod.mk.injEq] at H
                      obtain ⟨rfl, rfl, rfl, rfl⟩ := H
                      have hnb103 := NB297_298.out
                      have hnc103 := NB298_297.out
                      have hcz104_0 : wr.cell? ⟨gb297, 0, none⟩ = some (.int .i64 x298000_4) := (blk_cell BK297.out 0).trans rfl
                      have hcz104_1 : wr.cell? ⟨gb297, 1, none⟩ = some (u298001) := (blk_cell BK297.out 1).trans rfl
                      have hcz104_2 : wr.cell? ⟨gb297, 2, none⟩ = some (.slice none 0 0) := (blk_cell BK297.out 2).trans rfl
                      have hfz104_0 := blk_frozen BK297.out 0
                      have hfz104_1 := blk_frozen BK297.out 1
                      have hfz104_2 := blk_frozen BK297.out 2
                      have hcz105_0 : wr.cell? ⟨gb298, 0, none⟩ = some (.int .i64 0) := (blk_cell BK298.out 0).trans rfl
                      have hcz105_1 : wr.cell? ⟨gb298, 1, none⟩ = some (.slice none 0 0) := (blk_cell BK298.out 1).trans rfl
                      have hcz105_2 : wr.cell? ⟨gb298, 2, none⟩ = some (.slice none 0 0) := (blk_cell BK298.out 2).trans rfl
                      have hfz105_0 := blk_frozen BK298.out 0
                      have hfz105_1 := blk_frozen BK298.out 1
                      have hfz105_2 := blk_frozen BK298.out 2
                      obtain ⟨Ao106, co106, eo106⟩ := Kd.R_slice HO_298001.out
                      subst eo106
                      go_wp2
                      refine bodyPost_ret (results_ct rfl _ _ gb298 40 #[.int .i64 x298000_4, .slice Ao106 x298001_4.length co106, .slice none 0 0] (0, 0) _ rfl (by (with_reducible repeat (first | refine blk_drewN ?_ _ | refine blk_drew ?_ | refine blk_alloc ?_ _)); refine blk_put (cs := #[.int .i64 x298000_4, .slice Ao106 x298001_4.length co106, .slice none 0 0]) ?_ 2 _ rfl; (with_reducible repeat (first | refine blk_drewN ?_ _ | refine blk_drew ?_ | refine blk_alloc ?_ _)); refine blk_put (cs := #[.int .i64 x298000_4, .slice none 0 0, .slice none 0 0]) ?_ 1 _ rfl; (with_reducible repeat (first | refine blk_drewN ?_ _ | refine blk_drew ?_ | refine blk_alloc ?_ _)); refine blk_put (cs := #[.int .i64 0, .slice none 0 0, .slice none 0 0]) ?_ 0 _ rfl; (with_reducible repeat (first | refine blk_drewN ?_ _ | refine blk_drew ?_ | refine blk_alloc ?_ _)); exact BK298.out) Tryd.underlying40 rfl (by kernel_rfl)) rfl ?_
                      exact ⟨_, _, by first | rfl | (simp [errW_none, errW_some] <;> rfl) | (simp [*, errW_none, errW_some] <;> rfl), by (with_reducible repeat (first | apply Kd.R_alloc | apply Kd.R_drewN | apply Kd.R_drew)); exact Kd.R_mono (Kd.R_far (p := ⟨gb298, 2, none⟩) (Kd.R_far (p := ⟨gb298, 1, none⟩) (Kd.R_far (p := ⟨gb298, 0, none⟩) (Kd.R_mono HO_298001.out (fun k_ hk => (⟨hk, hk.2.2⟩ : _ ∧ k_ ≠ gb298))) (fun _ hk => hk.2) (.int .i64 x298000_4)) (fun _ hk => hk.2) (.slice Ao106 x298001_4.length co106)) (fun _ hk => hk.2) (.slice none 0 0)) (fun _ hk => ⟨hk.1.1, (by simp [Value.ownBlock])⟩), by first | exact Kd.R_nil _ _ _ _ _ | exact Kd.N_nil _ _ _ _ _ | exact Kd.R_nil _ _ _ _ _ | exact Kd.Q_nil _ _ _ _ _ | exact Kd.S_nil _ _ _ _ _, by repeat (first | (with_reducible first | exact HB.out | apply below_alloc | apply pw_below_drewN | apply below_drew1 | refine below_set ?_ GE297.out | refine below_set ?_ GE298.out) | exact HB.out)⟩
theorem nuncioref13_Write.calls (k : Nat) (a0_0 : Int) (P0_1_ : Nat → Prop) (u9000_ : Value) (l0_1 : List (S88)) (P0_2_ : Nat → Prop) (u9001_ : Value) (l0_2 : List Int) (A1 : Option Addr) (c1 : Nat) (l1 : List (S26)) (r1 : Int) (r2 : List (S88)) (r3 : List Int) (r4 : ByteArray) (w0 w : World) (hB : Below w0.heap.size w0 w) (ho0_1 : Kd.R k88 88 w w0.heap.size P0_1_ u9000_ l0_1) (ho0_2 : Kd.R (Kd.int .i64) 3 w w0.heap.size P0_2_ u9001_ l0_2) (hr1 : ∀ W', Kept w W' (fun k_ => P0_1_ k_ ∨ P0_2_ k_) → Kd.C k26 W' A1 l1.length l1) (hc1 : l1.length ≤ c1) (h : nuncioref13_Write.f k a0_0 l0_1 l0_2 l1 = some (r1, r2, r3, r4)) :
    Calls Tryd.prog 19 #[.agg #[.int .i64 a0_0, u9000_, u9001_], .slice A1 l1.length c1] w fun e w' => ∃ v1_ v2_ : Value, e = .returned (.tuple #[.agg #[.int .i64 r1, v1_, v2_], .string r4]) ∧ Kd.R k88 88 w' w0.heap.size (fun k_ => ((P0_1_ k_ ∨ P0_2_ k_) ∨ w.heap.size ≤ k_)) v1_ r2 ∧ Kd.R (Kd.int .i64) 3 w' w0.heap.size (fun k_ => ((P0_1_ k_ ∨ P0_2_ k_) ∨ w.heap.size ≤ k_)) v2_ r3 ∧ Below w0.heap.size w0 w' ∧ Kept w w' (fun k_ => P0_1_ k_ ∨ P0_2_ k_) := by
  obtain ⟨A, c, rfl⟩ := Kd.R_slice ho0_1
  obtain ⟨A', c', rfl⟩ := Kd.R_slice ho0_2
  have e2 := Kd.R_reads' ho0_2
  refine (rf_write k w0.heap.size a0_0 P0_1_ A c l0_1 A' c' l0_2 A1 c1 l1 r1 r2 r3 r4 w hB.size ho0_1 e2.2.2 e2.2.1 (hr1 w ⟨Nat.le_refl _, fun _ _ _ => rfl⟩) hc1 h).mono ?_
  rintro e w' ⟨v1, v2, rfl, h1, h2, h3⟩
  exact ⟨v1, v2, rfl, Kd.R_mono h1 (fun k_ hk => hk.1.elim (fun z => .inl (.inl z)) .inr), Kd.R_lower (Kd.R_mono h2 (fun k_ hk => .inr hk)) hB.size, hB.trans ⟨h3.os, h3.tape, h3.output, h3.size, fun k_ hk => h3.block k_ (Nat.lt_of_lt_of_le hk hB.size)⟩, h3.size, fun i hi _ => h3.block i hi⟩
end Go.Proofs.YtfkdocmhbmameaaDoor.Mine
