-- Written by this repo's own printer (wip/print), which builds on the kit's.
import Derived.Test.YtebnbjnkameicaaMinex0
import Derived.Test.YtebnbjnkameicaaMinex16
import Derived.Test.YtebnbjnkameicaaMinex17
import Derived.Test.YtebnbjnkameicaaMinex19
namespace Go.Proofs.Ytebnbjnkameicaa.Mine
open Go.RowKit Go.Proofs.YtebnbjnkameicaaW.PrintWords Go.Proofs.YtebnbjnkameicaaW.PrintLast Go.Proofs.YtebnbjnkameicaaW.PrintMore
attribute [local go_sem] max2_int min2_int max_two min_two max_three min_three max_four min_four   -- for this text's walks alone
set_option linter.unusedVariables false
set_option linter.unusedSimpArgs false

/-! ### nuncioref05_Check: function 12 -/
def nuncioref05_Check.l0 : Nat → Int → ByteArray → Int → Int → Int → List ByteArray → List Int → List ByteArray → Option (Int)
 | 0, _, _, _, _, _, _, _, _ => none
 | k + 1, x3, x258000, x258001, x258002, x258003, x258004, x258005, x258006 => if x3 < (x258004.length : Int) then (if 0 ≤ x3 then ((nuncioref04_Is.f k (rdOf ByteArray.empty x258004 x3)).bind fun t260 => (if t260 = true then (nuncioref05_Check.l0 k (wrap64 (x3 + 1)) x258000 x258001 x258002 x258003 x258004 x258005 x258006) else (some 40))) else (none)) else ((nuncioref05_shaped.f k x258000 x258001 x258002 x258003 x258004 x258005 x258006).bind fun t261 => (if t261 = true then ((nuncioref05_plain.f k x258000 x258001 x258002 x258003 x258004 x258005 x258006).bind fun bt262 => (if bt262.2 = true then (if x258003 > 2147483647 then (if x258001 = 41 then (some 0) else (some 1)) else (some 0)) else (some 50))) else (some 50)))
def nuncioref05_Check.f (k : Nat) (a0_0 : ByteArray) (a0_1 : Int) (a0_2 : Int) (a0_3 : Int) (l0_4 : List ByteArray) (l0_5 : List Int) (l0_6 : List ByteArray) : Option (Int) := (nuncioref04_Is.f k a0_0).bind fun t258 => (if t258 = true then (nuncioref05_Check.l0 k 0 a0_0 a0_1 a0_2 a0_3 l0_4 l0_5 l0_6) else (some 40))
theorem nuncioref05_Check.mono_l : ∀ k, (∀ y0 y1 y2 y3 y4 y5 y6 y7, LeO (nuncioref05_Check.l0 k y0 y1 y2 y3 y4 y5 y6 y7) (nuncioref05_Check.l0 (k + 1) y0 y1 y2 y3 y4 y5 y6 y7))
 | 0 => fun _ _ _ _ _ _ _ _ r h => by simp [nuncioref05_Check.l0] at h
 | k + 1 => by
  have ih0 := nuncioref05_Check.mono_l k
  ·
   intro y0 y1 y2 y3 y4 y5 y6 y7
   unfold nuncioref05_Check.l0
   repeat' first
   | (with_reducible exact ih0 _ _ _ _ _ _ _ _)
   | (with_reducible exact nuncioref04_Is.mono _ _)
   | (with_reducible exact nuncioref05_plain.mono _ _ _ _ _ _ _ _)
   | (with_reducible exact nuncioref05_shaped.mono _ _ _ _ _ _ _ _)
   | (with_reducible exact LeO.refl _)
   | (with_reducible exact LeO.none _)
   | (with_reducible refine LeO.ite ?_ ?_)
   | (with_reducible refine LeO.bind ?_ (fun _ => ?_))
   | exact ih0 _ _ _ _ _ _ _ _
   | exact nuncioref04_Is.mono _ _
   | exact nuncioref05_plain.mono _ _ _ _ _ _ _ _
   | exact nuncioref05_shaped.mono _ _ _ _ _ _ _ _
   | exact LeO.none _
   | refine LeO.ite ?_ ?_
   | refine LeO.bind ?_ (fun _ => ?_)
theorem nuncioref05_Check.mono : ∀ a0 a1 a2 a3 a4 a5 a6 k, LeO (nuncioref05_Check.f k a0 a1 a2 a3 a4 a5 a6) (nuncioref05_Check.f (k + 1) a0 a1 a2 a3 a4 a5 a6) := by
 intro a0 a1 a2 a3 a4 a5 a6 k
 have ih0 := nuncioref05_Check.mono_l k
 unfold nuncioref05_Check.f
 repeat' first
   | (with_reducible exact ih0 _ _ _ _ _ _ _ _)
   | (with_reducible exact nuncioref04_Is.mono _ _)
   | (with_reducible exact nuncioref05_plain.mono _ _ _ _ _ _ _ _)
   | (with_reducible exact nuncioref05_shaped.mono _ _ _ _ _ _ _ _)
   | (with_reducible exact LeO.refl _)
   | (with_reducible exact LeO.none _)
   | (with_reducible refine LeO.ite ?_ ?_)
   | (with_reducible refine LeO.bind ?_ (fun _ => ?_))
   | exact ih0 _ _ _ _ _ _ _ _
   | exact nuncioref04_Is.mono _ _
   | exact nuncioref05_plain.mono _ _ _ _ _ _ _ _
   | exact nuncioref05_shaped.mono _ _ _ _ _ _ _ _
   | exact LeO.none _
   | refine LeO.ite ?_ ?_
   | refine LeO.bind ?_ (fun _ => ?_)
set_option maxHeartbeats 8000000 in
set_option maxRecDepth 100000 in
theorem nuncioref05_Check.calls (k : Nat) (a0_0 : ByteArray) (a0_1 : Int) (a0_2 : Int) (a0_3 : Int) (A0_4 : Option Addr) (c0_4 : Nat) (l0_4 : List ByteArray) (A0_5 : Option Addr) (c0_5 : Nat) (l0_5 : List Int) (A0_6 : Option Addr) (c0_6 : Nat) (l0_6 : List ByteArray) (r : Int) (w : World) (hr0_4 : Kd.C Kd.string w A0_4 l0_4.length l0_4) (hc0_4 : l0_4.length ≤ c0_4) (hr0_5 : Kd.C (Kd.int .u32) w A0_5 l0_5.length l0_5) (hc0_5 : l0_5.length ≤ c0_5) (hr0_6 : Kd.C Kd.string w A0_6 l0_6.length l0_6) (hc0_6 : l0_6.length ≤ c0_6) (h : nuncioref05_Check.f k a0_0 a0_1 a0_2 a0_3 l0_4 l0_5 l0_6 = some r) :
  Calls Try.prog 12 #[.agg #[.string a0_0, .int .u16 a0_1, .int .u16 a0_2, .int .u32 a0_3, .slice A0_4 l0_4.length c0_4, .slice A0_5 l0_5.length c0_5, .slice A0_6 l0_6.length c0_6]] w fun e w' => e = .returned (.int .i64 r) ∧ Below w.heap.size w w' := by
 have hu27 := Try.underlying27
 have HR0_4 := Aside0.mk hr0_4
 have HC0_4 := Aside0.mk hc0_4
 clear hr0_4 hc0_4
 have HR0_5 := Aside0.mk hr0_5
 have HC0_5 := Aside0.mk hc0_5
 clear hr0_5 hc0_5
 have HR0_6 := Aside0.mk hr0_6
 have HC0_6 := Aside0.mk hc0_6
 clear hr0_6 hc0_6
 have HB := Aside0.mk (Below.refl w.heap.size w)
 have H : ((nuncioref04_Is.f k a0_0).bind fun t258 => (if t258 = true then (nuncioref05_Check.l0 k 0 a0_0 a0_1 a0_2 a0_3 l0_4 l0_5 l0_6) else (some 40))) = some r := h
 clear h
 replace H := Option.bind_eq_some_iff.mp H
 obtain ⟨t258, A20, H⟩ := H
 replace H : (if t258 = true then (nuncioref05_Check.l0 k 0 a0_0 a0_1 a0_2 a0_3 l0_4 l0_5 l0_6) else (some 40)) = some r := H
 have A2 := Aside0.mk A20
 clear A20
 by_cases c3 : t258 = true
 ·
  subst c3
  have H1 : (nuncioref05_Check.l0 k 0 a0_0 a0_1 a0_2 a0_3 l0_4 l0_5 l0_6) = some r := by rw [if_pos rfl] at H; exact H
  clear H
  have H := H1
  clear H1
  have H' := Aside0.mk H
  clear H
  go_enter Try.func12, Try.ntmps12
  go_wp2_with (first | ((with_reducible refine gate_dst (N := 1) rfl ?_); refine box_event ?hg (N := 1) ?hd (cs := #[.string a0_0, .int .u16 a0_1, .int .u16 a0_2, .int .u32 a0_3, .slice A0_4 l0_4.length c0_4, .slice A0_5 l0_5.length c0_5, .slice A0_6 l0_6.length c0_6]) (t := 27) ?hr ?_; (case hd => rfl); (case hg => rfl); (case hr => first | (go_simp; done) | (go_simp; rfl)); intro gb257 hg w4 hbox hb; have n0_ := Aside0.mk (below_step (by repeat (first | (with_reducible first | exact HB.out | apply below_alloc | apply pw_below_drewN | apply below_drew1) | exact HB.out)) hb); have n1_ := Aside0.mk (hbox); have n2_ := Aside0.mk ((by rw [hg]; exact (below_size (by repeat (first | (with_reducible first | exact HB.out | apply below_alloc | apply pw_below_drewN | apply below_drew1) | exact HB.out))) : w.heap.size ≤ gb257)); have n3_ := Aside0.mk ((by rw [hg]; exact (below_size (by repeat (first | (with_reducible first | exact HB.out | apply below_alloc | apply pw_below_drewN | apply below_drew1) | exact HB.out))) : w.heap.size ≤ gb257)); clear HB; have HB := n0_; have BK257 := n1_; have GW257 := n2_; have GE257 := n3_; clear n0_ n1_ n2_ n3_; clear hb hbox hg; have hcz5_0 : w4.cell? ⟨gb257, 0, none⟩ = some (.string a0_0) := (blk_cell BK257.out 0).trans rfl; have hcz5_1 : w4.cell? ⟨gb257, 1, none⟩ = some (.int .u16 a0_1) := (blk_cell BK257.out 1).trans rfl; have hcz5_2 : w4.cell? ⟨gb257, 2, none⟩ = some (.int .u16 a0_2) := (blk_cell BK257.out 2).trans rfl; have hcz5_3 : w4.cell? ⟨gb257, 3, none⟩ = some (.int .u32 a0_3) := (blk_cell BK257.out 3).trans rfl; have hcz5_4 : w4.cell? ⟨gb257, 4, none⟩ = some (.slice A0_4 l0_4.length c0_4) := (blk_cell BK257.out 4).trans rfl; have hcz5_5 : w4.cell? ⟨gb257, 5, none⟩ = some (.slice A0_5 l0_5.length c0_5) := (blk_cell BK257.out 5).trans rfl; have hcz5_6 : w4.cell? ⟨gb257, 6, none⟩ = some (.slice A0_6 l0_6.length c0_6) := (blk_cell BK257.out 6).trans rfl; have hfz5_0 := blk_frozen BK257.out 0; have hfz5_1 := blk_frozen BK257.out 1; have hfz5_2 := blk_frozen BK257.out 2; have hfz5_3 := blk_frozen BK257.out 3; have hfz5_4 := blk_frozen BK257.out 4; have hfz5_5 := blk_frozen BK257.out 5; have hfz5_6 := blk_frozen BK257.out 6) | ((with_reducible refine gate_callee (f := 27) rfl ?_); refine goesL_ (some 8) rfl rfl Try.func27 (by kernel_rfl) rfl #[.string a0_0] rfl (by (try simp only [List.map_toArray, List.map_cons, List.map_nil]); first | done | rfl | (simp only [List.length_drop, List.length_take]; rfl)) ?_; (with_reducible refine (nuncioref04_Is.calls k a0_0 true _ A2.out).mono ?_); rintro e w6 ⟨rfl, hb⟩; refine ⟨_, rfl, ?_⟩; have n0_ := Aside0.mk (blk_below (g := gb257) (o := .cells #[.string a0_0, .int .u16 a0_1, .int .u16 a0_2, .int .u32 a0_3, .slice A0_4 l0_4.length c0_4, .slice A0_5 l0_5.length c0_5, .slice A0_6 l0_6.length c0_6] 27 (0, 0)) (by (with_reducible repeat (first | refine blk_drewN ?_ _ | refine blk_drew ?_ | refine blk_alloc ?_ _)); exact BK257.out) hb); have n1_ := Aside0.mk (below_step (by repeat (first | (with_reducible first | exact HB.out | apply below_alloc | apply pw_below_drewN | apply below_drew1 | refine below_set ?_ GE257.out) | exact HB.out)) hb); clear BK257; clear HB; have BK257 := n0_; have HB := n1_; clear n0_ n1_; (try clear hb); (try clear hb2); (try clear hk); (try clear hi)))
  go_loopg [3] k (fun kq v3 w' => ∃ (x3_1 : Int), v3 = .int .i64 x3_1 ∧ Aside0 (nuncioref05_Check.l0 kq x3_1 a0_0 a0_1 a0_2 a0_3 l0_4 l0_5 l0_6 = some r) ∧ Aside0 (kq ≤ k) ∧ Aside0 (w'.heap[gb257]? = some (.cells #[.string a0_0, .int .u16 a0_1, .int .u16 a0_2, .int .u32 a0_3, (.slice A0_4 l0_4.length c0_4), (.slice A0_5 l0_5.length c0_5), (.slice A0_6 l0_6.length c0_6)] 27 (0, 0))) ∧ Aside0 (Below w.heap.size w w'))
  case atStart => exact ⟨(0), (by first | rfl | (simp; done) | (simp [*]; done)), H', ⟨Nat.le_refl _⟩, ⟨by (with_reducible repeat (first | refine blk_drewN ?_ _ | refine blk_drew ?_ | refine blk_alloc ?_ _)); exact BK257.out⟩, ⟨by repeat (first | (with_reducible first | exact HB.out | apply below_alloc | apply pw_below_drewN | apply below_drew1 | refine below_set ?_ GE257.out) | exact HB.out)⟩⟩
  case round =>
   clear H'
   try clear c1
   try clear c2
   try clear p2
   try clear c3
   try clear hcz5_0
   try clear hcz5_1
   try clear hcz5_2
   try clear hcz5_3
   try clear hcz5_4
   try clear hcz5_5
   try clear hcz5_6
   try clear hfz5_0
   try clear hfz5_1
   try clear hfz5_2
   try clear hfz5_3
   try clear hfz5_4
   try clear hfz5_5
   try clear hfz5_6
   obtain ⟨x3_1, rfl, HA, HK1, BK257, HB⟩ := hrel
   cases gk with
   | zero => exact absurd HA.out (by simp [nuncioref05_Check.l0])
   | succ k1 =>
    have H := HA.out
    clear HA
    simp only [nuncioref05_Check.l0] at H
    by_cases c7 : x3_1 < (l0_4.length : Int)
    ·
     rw [if_pos c7] at H
     have c7b0 : decide (x3_1 < (l0_4.length : Int)) = true := decide_eq_true c7
     clear c7
     by_cases c8 : 0 ≤ x3_1
     ·
      rw [if_pos c8] at H
      have c8b0 : decide (0 ≤ x3_1) = true := decide_eq_true c8
      clear c8
      replace H := Option.bind_eq_some_iff.mp H
      obtain ⟨t260, A90, H⟩ := H
      replace H : (if t260 = true then (nuncioref05_Check.l0 k1 (wrap64 (x3_1 + 1)) a0_0 a0_1 a0_2 a0_3 l0_4 l0_5 l0_6) else (some 40)) = some r := H
      have A9 := Aside0.mk A90
      clear A90
      by_cases c10 : t260 = true
      ·
       subst c10
       have H1 : (nuncioref05_Check.l0 k1 (wrap64 (x3_1 + 1)) a0_0 a0_1 a0_2 a0_3 l0_4 l0_5 l0_6) = some r := by rw [if_pos rfl] at H; exact H
       clear H
       have H := H1
       clear H1
       have H' := Aside0.mk H
       clear H
       have hcz11_0 : wr.cell? ⟨gb257, 0, none⟩ = some (.string a0_0) := (blk_cell BK257.out 0).trans rfl
       have hcz11_1 : wr.cell? ⟨gb257, 1, none⟩ = some (.int .u16 a0_1) := (blk_cell BK257.out 1).trans rfl
       have hcz11_2 : wr.cell? ⟨gb257, 2, none⟩ = some (.int .u16 a0_2) := (blk_cell BK257.out 2).trans rfl
       have hcz11_3 : wr.cell? ⟨gb257, 3, none⟩ = some (.int .u32 a0_3) := (blk_cell BK257.out 3).trans rfl
       have hcz11_4 : wr.cell? ⟨gb257, 4, none⟩ = some (.slice A0_4 l0_4.length c0_4) := (blk_cell BK257.out 4).trans rfl
       have hcz11_5 : wr.cell? ⟨gb257, 5, none⟩ = some (.slice A0_5 l0_5.length c0_5) := (blk_cell BK257.out 5).trans rfl
       have hcz11_6 : wr.cell? ⟨gb257, 6, none⟩ = some (.slice A0_6 l0_6.length c0_6) := (blk_cell BK257.out 6).trans rfl
       have hfz11_0 := blk_frozen BK257.out 0
       have hfz11_1 := blk_frozen BK257.out 1
       have hfz11_2 := blk_frozen BK257.out 2
       have hfz11_3 := blk_frozen BK257.out 3
       have hfz11_4 := blk_frozen BK257.out 4
       have hfz11_5 := blk_frozen BK257.out 5
       have hfz11_6 := blk_frozen BK257.out 6
       have p259 : 0 ≤ (x3_1 : Int) := of_decide_eq_true (by first | (with_reducible assumption) | assumption)
       have q259 : x3_1 < (l0_4.length : Int) := of_decide_eq_true (by first | (with_reducible assumption) | assumption)
       obtain ⟨ad259, e259, hx259_0⟩ := Kd.at_string HR0_4.out x3_1 p259 q259
       cases e259
       replace hx259_0 := (HB.out.cell (World.block_lt_of_cell? w _ hx259_0)).trans hx259_0
       replace p259 := eq_true p259
       replace q259 := eq_true q259
       go_wp2_with (first | ((with_reducible refine gate_callee (f := 27) rfl ?_); refine goesL_ (some 22) rfl rfl Try.func27 (by kernel_rfl) rfl #[.string (rdOf ByteArray.empty l0_4 x3_1)] rfl (by (try simp only [List.map_toArray, List.map_cons, List.map_nil]); first | done | rfl | (simp only [List.length_drop, List.length_take]; rfl)) ?_; (with_reducible refine (nuncioref04_Is.calls k1 (rdOf ByteArray.empty l0_4 x3_1) true _ A9.out).mono ?_); rintro e w12 ⟨rfl, hb⟩; refine ⟨_, rfl, ?_⟩; have n0_ := Aside0.mk (blk_below (g := gb257) (o := .cells #[.string a0_0, .int .u16 a0_1, .int .u16 a0_2, .int .u32 a0_3, .slice (some ad259) l0_4.length c0_4, .slice A0_5 l0_5.length c0_5, .slice A0_6 l0_6.length c0_6] 27 (0, 0)) (by (with_reducible repeat (first | refine blk_drewN ?_ _ | refine blk_drew ?_ | refine blk_alloc ?_ _)); exact BK257.out) hb); have n1_ := Aside0.mk (below_step (by repeat (first | (with_reducible first | exact HB.out | apply below_alloc | apply pw_below_drewN | apply below_drew1 | refine below_set ?_ GE257.out) | exact HB.out)) hb); clear BK257; clear HB; have BK257 := n0_; have HB := n1_; clear n0_ n1_; (try clear hb); (try clear hb2); (try clear hk); (try clear hi)))
       go_roundg k1
       case measure => have := HK1.out; omega
       case rel => exact ⟨(wrap64 (x3_1 + 1)), (by first | rfl | (simp; done) | (simp [*]; done)), H', ⟨by have := HK1.out; omega⟩, ⟨by (with_reducible repeat (first | refine blk_drewN ?_ _ | refine blk_drew ?_ | refine blk_alloc ?_ _)); exact BK257.out⟩, ⟨by repeat (first | (with_reducible first | exact HB.out | apply below_alloc | apply pw_below_drewN | apply below_drew1 | refine below_set ?_ GE257.out) | exact HB.out)⟩⟩
      ·
       replace c10 := Bool.eq_false_iff.mpr c10
       subst c10
       have H1 : (some 40) = some r := by rw [if_neg (show ¬ (false = true) by decide)] at H; exact H
       clear H
       have H := H1
       clear H1
       obtain rfl := Option.some.inj H
       have hcz13_0 : wr.cell? ⟨gb257, 0, none⟩ = some (.string a0_0) := (blk_cell BK257.out 0).trans rfl
       have hcz13_1 : wr.cell? ⟨gb257, 1, none⟩ = some (.int .u16 a0_1) := (blk_cell BK257.out 1).trans rfl
       have hcz13_2 : wr.cell? ⟨gb257, 2, none⟩ = some (.int .u16 a0_2) := (blk_cell BK257.out 2).trans rfl
       have hcz13_3 : wr.cell? ⟨gb257, 3, none⟩ = some (.int .u32 a0_3) := (blk_cell BK257.out 3).trans rfl
       have hcz13_4 : wr.cell? ⟨gb257, 4, none⟩ = some (.slice A0_4 l0_4.length c0_4) := (blk_cell BK257.out 4).trans rfl
       have hcz13_5 : wr.cell? ⟨gb257, 5, none⟩ = some (.slice A0_5 l0_5.length c0_5) := (blk_cell BK257.out 5).trans rfl
       have hcz13_6 : wr.cell? ⟨gb257, 6, none⟩ = some (.slice A0_6 l0_6.length c0_6) := (blk_cell BK257.out 6).trans rfl
       have hfz13_0 := blk_frozen BK257.out 0
       have hfz13_1 := blk_frozen BK257.out 1
       have hfz13_2 := blk_frozen BK257.out 2
       have hfz13_3 := blk_frozen BK257.out 3
       have hfz13_4 := blk_frozen BK257.out 4
       have hfz13_5 := blk_frozen BK257.out 5
       have hfz13_6 := blk_frozen BK257.out 6
       have p259 : 0 ≤ (x3_1 : Int) := of_decide_eq_true (by first | (with_reducible assumption) | assumption)
       have q259 : x3_1 < (l0_4.length : Int) := of_decide_eq_true (by first | (with_reducible assumption) | assumption)
       obtain ⟨ad259, e259, hx259_0⟩ := Kd.at_string HR0_4.out x3_1 p259 q259
       cases e259
       replace hx259_0 := (HB.out.cell (World.block_lt_of_cell? w _ hx259_0)).trans hx259_0
       replace p259 := eq_true p259
       replace q259 := eq_true q259
       go_wp2_with (first | ((with_reducible refine gate_callee (f := 27) rfl ?_); refine goesL_ (some 22) rfl rfl Try.func27 (by kernel_rfl) rfl #[.string (rdOf ByteArray.empty l0_4 x3_1)] rfl (by (try simp only [List.map_toArray, List.map_cons, List.map_nil]); first | done | rfl | (simp only [List.length_drop, List.length_take]; rfl)) ?_; (with_reducible refine (nuncioref04_Is.calls k1 (rdOf ByteArray.empty l0_4 x3_1) false _ A9.out).mono ?_); rintro e w14 ⟨rfl, hb⟩; refine ⟨_, rfl, ?_⟩; have n0_ := Aside0.mk (blk_below (g := gb257) (o := .cells #[.string a0_0, .int .u16 a0_1, .int .u16 a0_2, .int .u32 a0_3, .slice (some ad259) l0_4.length c0_4, .slice A0_5 l0_5.length c0_5, .slice A0_6 l0_6.length c0_6] 27 (0, 0)) (by (with_reducible repeat (first | refine blk_drewN ?_ _ | refine blk_drew ?_ | refine blk_alloc ?_ _)); exact BK257.out) hb); have n1_ := Aside0.mk (below_step (by repeat (first | (with_reducible first | exact HB.out | apply below_alloc | apply pw_below_drewN | apply below_drew1 | refine below_set ?_ GE257.out) | exact HB.out)) hb); clear BK257; clear HB; have BK257 := n0_; have HB := n1_; clear n0_ n1_; (try clear hb); (try clear hb2); (try clear hk); (try clear hi)))
       go_ret
       exact ⟨by first | rfl | (simp [errW_none, errW_some] <;> rfl) | (simp [*, errW_none, errW_some] <;> rfl), by repeat (first | (with_reducible first | exact HB.out | apply below_alloc | apply pw_below_drewN | apply below_drew1 | refine below_set ?_ GE257.out) | exact HB.out)⟩
     ·
      rw [if_neg c8] at H
      exact absurd H (by simp)
    ·
     rw [if_neg c7] at H
     have c7b0 : decide (x3_1 < (l0_4.length : Int)) = false := decide_eq_false c7
     clear c7
     replace H := Option.bind_eq_some_iff.mp H
     obtain ⟨t261, A150, H⟩ := H
     replace H : (if t261 = true then ((nuncioref05_plain.f k1 a0_0 a0_1 a0_2 a0_3 l0_4 l0_5 l0_6).bind fun bt262 => (if bt262.2 = true then (if a0_3 > 2147483647 then (if a0_1 = 41 then (some 0) else (some 1)) else (some 0)) else (some 50))) else (some 50)) = some r := H
     have A15 := Aside0.mk A150
     clear A150
     by_cases c16 : t261 = true
     ·
      subst c16
      have H1 : ((nuncioref05_plain.f k1 a0_0 a0_1 a0_2 a0_3 l0_4 l0_5 l0_6).bind fun bt262 => (if bt262.2 = true then (if a0_3 > 2147483647 then (if a0_1 = 41 then (some 0) else (some 1)) else (some 0)) else (some 50))) = some r := by rw [if_pos rfl] at H; exact H
      clear H
      have H := H1
      clear H1
      replace H := Option.bind_eq_some_iff.mp H
      obtain ⟨⟨t262, t263⟩, A170, H⟩ := H
      replace H : (if t263 = true then (if a0_3 > 2147483647 then (if a0_1 = 41 then (some 0) else (some 1)) else (some 0)) else (some 50)) = some r := H
      have A17 := Aside0.mk A170
      clear A170
      by_cases c18 : t263 = true
      ·
       subst c18
       have H1 : (if a0_3 > 2147483647 then (if a0_1 = 41 then (some 0) else (some 1)) else (some 0)) = some r := by rw [if_pos rfl] at H; exact H
       clear H
       have H := H1
       clear H1
       by_cases c19 : a0_3 > 2147483647
       ·
        rw [if_pos c19] at H
        have c19b0 : decide (2147483647 < a0_3) = true := decide_eq_true c19
        clear c19
        by_cases c20 : a0_1 = 41
        ·
         rw [if_pos c20] at H
         have c20b0 : (a0_1 == 41) = true := beq_iff_eq.mpr c20
         have c20b1 : (a0_1 != 41) = false := bne_eq_false_iff_eq.mpr c20
         clear c20
         obtain rfl := Option.some.inj H
         have hcz21_0 : wr.cell? ⟨gb257, 0, none⟩ = some (.string a0_0) := (blk_cell BK257.out 0).trans rfl
         have hcz21_1 : wr.cell? ⟨gb257, 1, none⟩ = some (.int .u16 a0_1) := (blk_cell BK257.out 1).trans rfl
         have hcz21_2 : wr.cell? ⟨gb257, 2, none⟩ = some (.int .u16 a0_2) := (blk_cell BK257.out 2).trans rfl
         have hcz21_3 : wr.cell? ⟨gb257, 3, none⟩ = some (.int .u32 a0_3) := (blk_cell BK257.out 3).trans rfl
         have hcz21_4 : wr.cell? ⟨gb257, 4, none⟩ = some (.slice A0_4 l0_4.length c0_4) := (blk_cell BK257.out 4).trans rfl
         have hcz21_5 : wr.cell? ⟨gb257, 5, none⟩ = some (.slice A0_5 l0_5.length c0_5) := (blk_cell BK257.out 5).trans rfl
         have hcz21_6 : wr.cell? ⟨gb257, 6, none⟩ = some (.slice A0_6 l0_6.length c0_6) := (blk_cell BK257.out 6).trans rfl
         have hfz21_0 := blk_frozen BK257.out 0
         have hfz21_1 := blk_frozen BK257.out 1
         have hfz21_2 := blk_frozen BK257.out 2
         have hfz21_3 := blk_frozen BK257.out 3
         have hfz21_4 := blk_frozen BK257.out 4
         have hfz21_5 := blk_frozen BK257.out 5
         have hfz21_6 := blk_frozen BK257.out 6
         go_wp2_with (first | ((with_reducible refine gate_callee (f := 28) rfl ?_); refine goesL_ (some 25) rfl rfl Try.func28 (by kernel_rfl) rfl #[.agg #[.string a0_0, .int .u16 a0_1, .int .u16 a0_2, .int .u32 a0_3, .slice A0_4 l0_4.length c0_4, .slice A0_5 l0_5.length c0_5, .slice A0_6 l0_6.length c0_6]] rfl (by (try simp only [List.map_toArray, List.map_cons, List.map_nil]); first | done | rfl | (simp only [List.length_drop, List.length_take]; rfl)) ?_; (with_reducible refine (nuncioref05_shaped.calls k1 a0_0 a0_1 a0_2 a0_3 _ _ l0_4 _ _ l0_5 _ _ l0_6 true _ ?side1 ?side2 ?side3 ?side4 ?side5 ?side6 A15.out).mono ?_); (case side1 => repeat (first | exact (Kd.C_below HR0_4.out HB.out) | (with_reducible refine Kd.C_alloc ?_ _) | (with_reducible refine Kd.C_drewN ?_ _) | (with_reducible refine Kd.C_drew ?_))); (case side2 => exact HC0_4.out); (case side3 => repeat (first | exact (Kd.C_below HR0_5.out HB.out) | (with_reducible refine Kd.C_alloc ?_ _) | (with_reducible refine Kd.C_drewN ?_ _) | (with_reducible refine Kd.C_drew ?_))); (case side4 => exact HC0_5.out); (case side5 => repeat (first | exact (Kd.C_below HR0_6.out HB.out) | (with_reducible refine Kd.C_alloc ?_ _) | (with_reducible refine Kd.C_drewN ?_ _) | (with_reducible refine Kd.C_drew ?_))); (case side6 => exact HC0_6.out); rintro e w22 ⟨rfl, hb⟩; refine ⟨_, rfl, ?_⟩; have n0_ := Aside0.mk (blk_below (g := gb257) (o := .cells #[.string a0_0, .int .u16 a0_1, .int .u16 a0_2, .int .u32 a0_3, .slice A0_4 l0_4.length c0_4, .slice A0_5 l0_5.length c0_5, .slice A0_6 l0_6.length c0_6] 27 (0, 0)) (by (with_reducible repeat (first | refine blk_drewN ?_ _ | refine blk_drew ?_ | refine blk_alloc ?_ _)); exact BK257.out) hb); have n1_ := Aside0.mk (below_step (by repeat (first | (with_reducible first | exact HB.out | apply below_alloc | apply pw_below_drewN | apply below_drew1 | refine below_set ?_ GE257.out) | exact HB.out)) hb); clear BK257; clear HB; have BK257 := n0_; have HB := n1_; clear n0_ n1_; (try clear hb); (try clear hb2); (try clear hk); (try clear hi); have hcz23_0 : w22.cell? ⟨gb257, 0, none⟩ = some (.string a0_0) := (blk_cell BK257.out 0).trans rfl; have hcz23_1 : w22.cell? ⟨gb257, 1, none⟩ = some (.int .u16 a0_1) := (blk_cell BK257.out 1).trans rfl; have hcz23_2 : w22.cell? ⟨gb257, 2, none⟩ = some (.int .u16 a0_2) := (blk_cell BK257.out 2).trans rfl; have hcz23_3 : w22.cell? ⟨gb257, 3, none⟩ = some (.int .u32 a0_3) := (blk_cell BK257.out 3).trans rfl; have hcz23_4 : w22.cell? ⟨gb257, 4, none⟩ = some (.slice A0_4 l0_4.length c0_4) := (blk_cell BK257.out 4).trans rfl; have hcz23_5 : w22.cell? ⟨gb257, 5, none⟩ = some (.slice A0_5 l0_5.length c0_5) := (blk_cell BK257.out 5).trans rfl; have hcz23_6 : w22.cell? ⟨gb257, 6, none⟩ = some (.slice A0_6 l0_6.length c0_6) := (blk_cell BK257.out 6).trans rfl; have hfz23_0 := blk_frozen BK257.out 0; have hfz23_1 := blk_frozen BK257.out 1; have hfz23_2 := blk_frozen BK257.out 2; have hfz23_3 := blk_frozen BK257.out 3; have hfz23_4 := blk_frozen BK257.out 4; have hfz23_5 := blk_frozen BK257.out 5; have hfz23_6 := blk_frozen BK257.out 6) | ((with_reducible refine gate_callee (f := 29) rfl ?_); refine goesL_ (some 29) rfl rfl Try.func29 (by kernel_rfl) rfl #[.agg #[.string a0_0, .int .u16 a0_1, .int .u16 a0_2, .int .u32 a0_3, .slice A0_4 l0_4.length c0_4, .slice A0_5 l0_5.length c0_5, .slice A0_6 l0_6.length c0_6]] rfl (by (try simp only [List.map_toArray, List.map_cons, List.map_nil]); first | done | rfl | (simp only [List.length_drop, List.length_take]; rfl)) ?_; (with_reducible refine (nuncioref05_plain.calls k1 a0_0 a0_1 a0_2 a0_3 _ _ l0_4 _ _ l0_5 _ _ l0_6 t262 true _ ?side1 ?side2 ?side3 ?side4 ?side5 ?side6 A17.out).mono ?_); (case side1 => repeat (first | exact (Kd.C_below HR0_4.out HB.out) | (with_reducible refine Kd.C_alloc ?_ _) | (with_reducible refine Kd.C_drewN ?_ _) | (with_reducible refine Kd.C_drew ?_))); (case side2 => exact HC0_4.out); (case side3 => repeat (first | exact (Kd.C_below HR0_5.out HB.out) | (with_reducible refine Kd.C_alloc ?_ _) | (with_reducible refine Kd.C_drewN ?_ _) | (with_reducible refine Kd.C_drew ?_))); (case side4 => exact HC0_5.out); (case side5 => repeat (first | exact (Kd.C_below HR0_6.out HB.out) | (with_reducible refine Kd.C_alloc ?_ _) | (with_reducible refine Kd.C_drewN ?_ _) | (with_reducible refine Kd.C_drew ?_))); (case side6 => exact HC0_6.out); rintro e w24 ⟨rfl, hb⟩; refine ⟨_, rfl, ?_⟩; have n0_ := Aside0.mk (blk_below (g := gb257) (o := .cells #[.string a0_0, .int .u16 a0_1, .int .u16 a0_2, .int .u32 a0_3, .slice A0_4 l0_4.length c0_4, .slice A0_5 l0_5.length c0_5, .slice A0_6 l0_6.length c0_6] 27 (0, 0)) (by (with_reducible repeat (first | refine blk_drewN ?_ _ | refine blk_drew ?_ | refine blk_alloc ?_ _)); exact BK257.out) hb); have n1_ := Aside0.mk (below_step (by repeat (first | (with_reducible first | exact HB.out | apply below_alloc | apply pw_below_drewN | apply below_drew1 | refine below_set ?_ GE257.out) | exact HB.out)) hb); clear BK257; clear HB; have BK257 := n0_; have HB := n1_; clear n0_ n1_; (try clear hb); (try clear hb2); (try clear hk); (try clear hi); have hcz25_0 : w24.cell? ⟨gb257, 0, none⟩ = some (.string a0_0) := (blk_cell BK257.out 0).trans rfl; have hcz25_1 : w24.cell? ⟨gb257, 1, none⟩ = some (.int .u16 a0_1) := (blk_cell BK257.out 1).trans rfl; have hcz25_2 : w24.cell? ⟨gb257, 2, none⟩ = some (.int .u16 a0_2) := (blk_cell BK257.out 2).trans rfl; have hcz25_3 : w24.cell? ⟨gb257, 3, none⟩ = some (.int .u32 a0_3) := (blk_cell BK257.out 3).trans rfl; have hcz25_4 : w24.cell? ⟨gb257, 4, none⟩ = some (.slice A0_4 l0_4.length c0_4) := (blk_cell BK257.out 4).trans rfl; have hcz25_5 : w24.cell? ⟨gb257, 5, none⟩ = some (.slice A0_5 l0_5.length c0_5) := (blk_cell BK257.out 5).trans rfl; have hcz25_6 : w24.cell? ⟨gb257, 6, none⟩ = some (.slice A0_6 l0_6.length c0_6) := (blk_cell BK257.out 6).trans rfl; have hfz25_0 := blk_frozen BK257.out 0; have hfz25_1 := blk_frozen BK257.out 1; have hfz25_2 := blk_frozen BK257.out 2; have hfz25_3 := blk_frozen BK257.out 3; have hfz25_4 := blk_frozen BK257.out 4; have hfz25_5 := blk_frozen BK257.out 5; have hfz25_6 := blk_frozen BK257.out 6))
         go_ret
         exact ⟨by first | rfl | (simp [errW_none, errW_some] <;> rfl) | (simp [*, errW_none, errW_some] <;> rfl), by repeat (first | (with_reducible first | exact HB.out | apply below_alloc | apply pw_below_drewN | apply below_drew1 | refine below_set ?_ GE257.out) | exact HB.out)⟩
        ·
         rw [if_neg c20] at H
         have c20b0 : (a0_1 == 41) = false := beq_eq_false_iff_ne.mpr c20
         have c20b1 : (a0_1 != 41) = true := bne_iff_ne.mpr c20
         obtain rfl := Option.some.inj H
         have hcz26_0 : wr.cell? ⟨gb257, 0, none⟩ = some (.string a0_0) := (blk_cell BK257.out 0).trans rfl
         have hcz26_1 : wr.cell? ⟨gb257, 1, none⟩ = some (.int .u16 a0_1) := (blk_cell BK257.out 1).trans rfl
         have hcz26_2 : wr.cell? ⟨gb257, 2, none⟩ = some (.int .u16 a0_2) := (blk_cell BK257.out 2).trans rfl
         have hcz26_3 : wr.cell? ⟨gb257, 3, none⟩ = some (.int .u32 a0_3) := (blk_cell BK257.out 3).trans rfl
         have hcz26_4 : wr.cell? ⟨gb257, 4, none⟩ = some (.slice A0_4 l0_4.length c0_4) := (blk_cell BK257.out 4).trans rfl
         have hcz26_5 : wr.cell? ⟨gb257, 5, none⟩ = some (.slice A0_5 l0_5.length c0_5) := (blk_cell BK257.out 5).trans rfl
         have hcz26_6 : wr.cell? ⟨gb257, 6, none⟩ = some (.slice A0_6 l0_6.length c0_6) := (blk_cell BK257.out 6).trans rfl
         have hfz26_0 := blk_frozen BK257.out 0
         have hfz26_1 := blk_frozen BK257.out 1
         have hfz26_2 := blk_frozen BK257.out 2
         have hfz26_3 := blk_frozen BK257.out 3
         have hfz26_4 := blk_frozen BK257.out 4
         have hfz26_5 := blk_frozen BK257.out 5
         have hfz26_6 := blk_frozen BK257.out 6
         go_wp2_with (first | ((with_reducible refine gate_callee (f := 28) rfl ?_); refine goesL_ (some 25) rfl rfl Try.func28 (by kernel_rfl) rfl #[.agg #[.string a0_0, .int .u16 a0_1, .int .u16 a0_2, .int .u32 a0_3, .slice A0_4 l0_4.length c0_4, .slice A0_5 l0_5.length c0_5, .slice A0_6 l0_6.length c0_6]] rfl (by (try simp only [List.map_toArray, List.map_cons, List.map_nil]); first | done | rfl | (simp only [List.length_drop, List.length_take]; rfl)) ?_; (with_reducible refine (nuncioref05_shaped.calls k1 a0_0 a0_1 a0_2 a0_3 _ _ l0_4 _ _ l0_5 _ _ l0_6 true _ ?side1 ?side2 ?side3 ?side4 ?side5 ?side6 A15.out).mono ?_); (case side1 => repeat (first | exact (Kd.C_below HR0_4.out HB.out) | (with_reducible refine Kd.C_alloc ?_ _) | (with_reducible refine Kd.C_drewN ?_ _) | (with_reducible refine Kd.C_drew ?_))); (case side2 => exact HC0_4.out); (case side3 => repeat (first | exact (Kd.C_below HR0_5.out HB.out) | (with_reducible refine Kd.C_alloc ?_ _) | (with_reducible refine Kd.C_drewN ?_ _) | (with_reducible refine Kd.C_drew ?_))); (case side4 => exact HC0_5.out); (case side5 => repeat (first | exact (Kd.C_below HR0_6.out HB.out) | (with_reducible refine Kd.C_alloc ?_ _) | (with_reducible refine Kd.C_drewN ?_ _) | (with_reducible refine Kd.C_drew ?_))); (case side6 => exact HC0_6.out); rintro e w27 ⟨rfl, hb⟩; refine ⟨_, rfl, ?_⟩; have n0_ := Aside0.mk (blk_below (g := gb257) (o := .cells #[.string a0_0, .int .u16 a0_1, .int .u16 a0_2, .int .u32 a0_3, .slice A0_4 l0_4.length c0_4, .slice A0_5 l0_5.length c0_5, .slice A0_6 l0_6.length c0_6] 27 (0, 0)) (by (with_reducible repeat (first | refine blk_drewN ?_ _ | refine blk_drew ?_ | refine blk_alloc ?_ _)); exact BK257.out) hb); have n1_ := Aside0.mk (below_step (by repeat (first | (with_reducible first | exact HB.out | apply below_alloc | apply pw_below_drewN | apply below_drew1 | refine below_set ?_ GE257.out) | exact HB.out)) hb); clear BK257; clear HB; have BK257 := n0_; have HB := n1_; clear n0_ n1_; (try clear hb); (try clear hb2); (try clear hk); (try clear hi); have hcz28_0 : w27.cell? ⟨gb257, 0, none⟩ = some (.string a0_0) := (blk_cell BK257.out 0).trans rfl; have hcz28_1 : w27.cell? ⟨gb257, 1, none⟩ = some (.int .u16 a0_1) := (blk_cell BK257.out 1).trans rfl; have hcz28_2 : w27.cell? ⟨gb257, 2, none⟩ = some (.int .u16 a0_2) := (blk_cell BK257.out 2).trans rfl; have hcz28_3 : w27.cell? ⟨gb257, 3, none⟩ = some (.int .u32 a0_3) := (blk_cell BK257.out 3).trans rfl; have hcz28_4 : w27.cell? ⟨gb257, 4, none⟩ = some (.slice A0_4 l0_4.length c0_4) := (blk_cell BK257.out 4).trans rfl; have hcz28_5 : w27.cell? ⟨gb257, 5, none⟩ = some (.slice A0_5 l0_5.length c0_5) := (blk_cell BK257.out 5).trans rfl; have hcz28_6 : w27.cell? ⟨gb257, 6, none⟩ = some (.slice A0_6 l0_6.length c0_6) := (blk_cell BK257.out 6).trans rfl; have hfz28_0 := blk_frozen BK257.out 0; have hfz28_1 := blk_frozen BK257.out 1; have hfz28_2 := blk_frozen BK257.out 2; have hfz28_3 := blk_frozen BK257.out 3; have hfz28_4 := blk_frozen BK257.out 4; have hfz28_5 := blk_frozen BK257.out 5; have hfz28_6 := blk_frozen BK257.out 6) | ((with_reducible refine gate_callee (f := 29) rfl ?_); refine goesL_ (some 29) rfl rfl Try.func29 (by kernel_rfl) rfl #[.agg #[.string a0_0, .int .u16 a0_1, .int .u16 a0_2, .int .u32 a0_3, .slice A0_4 l0_4.length c0_4, .slice A0_5 l0_5.length c0_5, .slice A0_6 l0_6.length c0_6]] rfl (by (try simp only [List.map_toArray, List.map_cons, List.map_nil]); first | done | rfl | (simp only [List.length_drop, List.length_take]; rfl)) ?_; (with_reducible refine (nuncioref05_plain.calls k1 a0_0 a0_1 a0_2 a0_3 _ _ l0_4 _ _ l0_5 _ _ l0_6 t262 true _ ?side1 ?side2 ?side3 ?side4 ?side5 ?side6 A17.out).mono ?_); (case side1 => repeat (first | exact (Kd.C_below HR0_4.out HB.out) | (with_reducible refine Kd.C_alloc ?_ _) | (with_reducible refine Kd.C_drewN ?_ _) | (with_reducible refine Kd.C_drew ?_))); (case side2 => exact HC0_4.out); (case side3 => repeat (first | exact (Kd.C_below HR0_5.out HB.out) | (with_reducible refine Kd.C_alloc ?_ _) | (with_reducible refine Kd.C_drewN ?_ _) | (with_reducible refine Kd.C_drew ?_))); (case side4 => exact HC0_5.out); (case side5 => repeat (first | exact (Kd.C_below HR0_6.out HB.out) | (with_reducible refine Kd.C_alloc ?_ _) | (with_reducible refine Kd.C_drewN ?_ _) | (with_reducible refine Kd.C_drew ?_))); (case side6 => exact HC0_6.out); rintro e w29 ⟨rfl, hb⟩; refine ⟨_, rfl, ?_⟩; have n0_ := Aside0.mk (blk_below (g := gb257) (o := .cells #[.string a0_0, .int .u16 a0_1, .int .u16 a0_2, .int .u32 a0_3, .slice A0_4 l0_4.length c0_4, .slice A0_5 l0_5.length c0_5, .slice A0_6 l0_6.length c0_6] 27 (0, 0)) (by (with_reducible repeat (first | refine blk_drewN ?_ _ | refine blk_drew ?_ | refine blk_alloc ?_ _)); exact BK257.out) hb); have n1_ := Aside0.mk (below_step (by repeat (first | (with_reducible first | exact HB.out | apply below_alloc | apply pw_below_drewN | apply below_drew1 | refine below_set ?_ GE257.out) | exact HB.out)) hb); clear BK257; clear HB; have BK257 := n0_; have HB := n1_; clear n0_ n1_; (try clear hb); (try clear hb2); (try clear hk); (try clear hi); have hcz30_0 : w29.cell? ⟨gb257, 0, none⟩ = some (.string a0_0) := (blk_cell BK257.out 0).trans rfl; have hcz30_1 : w29.cell? ⟨gb257, 1, none⟩ = some (.int .u16 a0_1) := (blk_cell BK257.out 1).trans rfl; have hcz30_2 : w29.cell? ⟨gb257, 2, none⟩ = some (.int .u16 a0_2) := (blk_cell BK257.out 2).trans rfl; have hcz30_3 : w29.cell? ⟨gb257, 3, none⟩ = some (.int .u32 a0_3) := (blk_cell BK257.out 3).trans rfl; have hcz30_4 : w29.cell? ⟨gb257, 4, none⟩ = some (.slice A0_4 l0_4.length c0_4) := (blk_cell BK257.out 4).trans rfl; have hcz30_5 : w29.cell? ⟨gb257, 5, none⟩ = some (.slice A0_5 l0_5.length c0_5) := (blk_cell BK257.out 5).trans rfl; have hcz30_6 : w29.cell? ⟨gb257, 6, none⟩ = some (.slice A0_6 l0_6.length c0_6) := (blk_cell BK257.out 6).trans rfl; have hfz30_0 := blk_frozen BK257.out 0; have hfz30_1 := blk_frozen BK257.out 1; have hfz30_2 := blk_frozen BK257.out 2; have hfz30_3 := blk_frozen BK257.out 3; have hfz30_4 := blk_frozen BK257.out 4; have hfz30_5 := blk_frozen BK257.out 5; have hfz30_6 := blk_frozen BK257.out 6))
         go_ret
         exact ⟨by first | rfl | (simp [errW_none, errW_some] <;> rfl) | (simp [*, errW_none, errW_some] <;> rfl), by repeat (first | (with_reducible first | exact HB.out | apply below_alloc | apply pw_below_drewN | apply below_drew1 | refine below_set ?_ GE257.out) | exact HB.out)⟩
       ·
        rw [if_neg c19] at H
        have c19b0 : decide (2147483647 < a0_3) = false := decide_eq_false c19
        clear c19
        obtain rfl := Option.some.inj H
        have hcz31_0 : wr.cell? ⟨gb257, 0, none⟩ = some (.string a0_0) := (blk_cell BK257.out 0).trans rfl
        have hcz31_1 : wr.cell? ⟨gb257, 1, none⟩ = some (.int .u16 a0_1) := (blk_cell BK257.out 1).trans rfl
        have hcz31_2 : wr.cell? ⟨gb257, 2, none⟩ = some (.int .u16 a0_2) := (blk_cell BK257.out 2).trans rfl
        have hcz31_3 : wr.cell? ⟨gb257, 3, none⟩ = some (.int .u32 a0_3) := (blk_cell BK257.out 3).trans rfl
        have hcz31_4 : wr.cell? ⟨gb257, 4, none⟩ = some (.slice A0_4 l0_4.length c0_4) := (blk_cell BK257.out 4).trans rfl
        have hcz31_5 : wr.cell? ⟨gb257, 5, none⟩ = some (.slice A0_5 l0_5.length c0_5) := (blk_cell BK257.out 5).trans rfl
        have hcz31_6 : wr.cell? ⟨gb257, 6, none⟩ = some (.slice A0_6 l0_6.length c0_6) := (blk_cell BK257.out 6).trans rfl
        have hfz31_0 := blk_frozen BK257.out 0
        have hfz31_1 := blk_frozen BK257.out 1
        have hfz31_2 := blk_frozen BK257.out 2
        have hfz31_3 := blk_frozen BK257.out 3
        have hfz31_4 := blk_frozen BK257.out 4
        have hfz31_5 := blk_frozen BK257.out 5
        have hfz31_6 := blk_frozen BK257.out 6
        go_wp2_with (first | ((with_reducible refine gate_callee (f := 28) rfl ?_); refine goesL_ (some 25) rfl rfl Try.func28 (by kernel_rfl) rfl #[.agg #[.string a0_0, .int .u16 a0_1, .int .u16 a0_2, .int .u32 a0_3, .slice A0_4 l0_4.length c0_4, .slice A0_5 l0_5.length c0_5, .slice A0_6 l0_6.length c0_6]] rfl (by (try simp only [List.map_toArray, List.map_cons, List.map_nil]); first | done | rfl | (simp only [List.length_drop, List.length_take]; rfl)) ?_; (with_reducible refine (nuncioref05_shaped.calls k1 a0_0 a0_1 a0_2 a0_3 _ _ l0_4 _ _ l0_5 _ _ l0_6 true _ ?side1 ?side2 ?side3 ?side4 ?side5 ?side6 A15.out).mono ?_); (case side1 => repeat (first | exact (Kd.C_below HR0_4.out HB.out) | (with_reducible refine Kd.C_alloc ?_ _) | (with_reducible refine Kd.C_drewN ?_ _) | (with_reducible refine Kd.C_drew ?_))); (case side2 => exact HC0_4.out); (case side3 => repeat (first | exact (Kd.C_below HR0_5.out HB.out) | (with_reducible refine Kd.C_alloc ?_ _) | (with_reducible refine Kd.C_drewN ?_ _) | (with_reducible refine Kd.C_drew ?_))); (case side4 => exact HC0_5.out); (case side5 => repeat (first | exact (Kd.C_below HR0_6.out HB.out) | (with_reducible refine Kd.C_alloc ?_ _) | (with_reducible refine Kd.C_drewN ?_ _) | (with_reducible refine Kd.C_drew ?_))); (case side6 => exact HC0_6.out); rintro e w32 ⟨rfl, hb⟩; refine ⟨_, rfl, ?_⟩; have n0_ := Aside0.mk (blk_below (g := gb257) (o := .cells #[.string a0_0, .int .u16 a0_1, .int .u16 a0_2, .int .u32 a0_3, .slice A0_4 l0_4.length c0_4, .slice A0_5 l0_5.length c0_5, .slice A0_6 l0_6.length c0_6] 27 (0, 0)) (by (with_reducible repeat (first | refine blk_drewN ?_ _ | refine blk_drew ?_ | refine blk_alloc ?_ _)); exact BK257.out) hb); have n1_ := Aside0.mk (below_step (by repeat (first | (with_reducible first | exact HB.out | apply below_alloc | apply pw_below_drewN | apply below_drew1 | refine below_set ?_ GE257.out) | exact HB.out)) hb); clear BK257; clear HB; have BK257 := n0_; have HB := n1_; clear n0_ n1_; (try clear hb); (try clear hb2); (try clear hk); (try clear hi); have hcz33_0 : w32.cell? ⟨gb257, 0, none⟩ = some (.string a0_0) := (blk_cell BK257.out 0).trans rfl; have hcz33_1 : w32.cell? ⟨gb257, 1, none⟩ = some (.int .u16 a0_1) := (blk_cell BK257.out 1).trans rfl; have hcz33_2 : w32.cell? ⟨gb257, 2, none⟩ = some (.int .u16 a0_2) := (blk_cell BK257.out 2).trans rfl; have hcz33_3 : w32.cell? ⟨gb257, 3, none⟩ = some (.int .u32 a0_3) := (blk_cell BK257.out 3).trans rfl; have hcz33_4 : w32.cell? ⟨gb257, 4, none⟩ = some (.slice A0_4 l0_4.length c0_4) := (blk_cell BK257.out 4).trans rfl; have hcz33_5 : w32.cell? ⟨gb257, 5, none⟩ = some (.slice A0_5 l0_5.length c0_5) := (blk_cell BK257.out 5).trans rfl; have hcz33_6 : w32.cell? ⟨gb257, 6, none⟩ = some (.slice A0_6 l0_6.length c0_6) := (blk_cell BK257.out 6).trans rfl; have hfz33_0 := blk_frozen BK257.out 0; have hfz33_1 := blk_frozen BK257.out 1; have hfz33_2 := blk_frozen BK257.out 2; have hfz33_3 := blk_frozen BK257.out 3; have hfz33_4 := blk_frozen BK257.out 4; have hfz33_5 := blk_frozen BK257.out 5; have hfz33_6 := blk_frozen BK257.out 6) | ((with_reducible refine gate_callee (f := 29) rfl ?_); refine goesL_ (some 29) rfl rfl Try.func29 (by kernel_rfl) rfl #[.agg #[.string a0_0, .int .u16 a0_1, .int .u16 a0_2, .int .u32 a0_3, .slice A0_4 l0_4.length c0_4, .slice A0_5 l0_5.length c0_5, .slice A0_6 l0_6.length c0_6]] rfl (by (try simp only [List.map_toArray, List.map_cons, List.map_nil]); first | done | rfl | (simp only [List.length_drop, List.length_take]; rfl)) ?_; (with_reducible refine (nuncioref05_plain.calls k1 a0_0 a0_1 a0_2 a0_3 _ _ l0_4 _ _ l0_5 _ _ l0_6 t262 true _ ?side1 ?side2 ?side3 ?side4 ?side5 ?side6 A17.out).mono ?_); (case side1 => repeat (first | exact (Kd.C_below HR0_4.out HB.out) | (with_reducible refine Kd.C_alloc ?_ _) | (with_reducible refine Kd.C_drewN ?_ _) | (with_reducible refine Kd.C_drew ?_))); (case side2 => exact HC0_4.out); (case side3 => repeat (first | exact (Kd.C_below HR0_5.out HB.out) | (with_reducible refine Kd.C_alloc ?_ _) | (with_reducible refine Kd.C_drewN ?_ _) | (with_reducible refine Kd.C_drew ?_))); (case side4 => exact HC0_5.out); (case side5 => repeat (first | exact (Kd.C_below HR0_6.out HB.out) | (with_reducible refine Kd.C_alloc ?_ _) | (with_reducible refine Kd.C_drewN ?_ _) | (with_reducible refine Kd.C_drew ?_))); (case side6 => exact HC0_6.out); rintro e w34 ⟨rfl, hb⟩; refine ⟨_, rfl, ?_⟩; have n0_ := Aside0.mk (blk_below (g := gb257) (o := .cells #[.string a0_0, .int .u16 a0_1, .int .u16 a0_2, .int .u32 a0_3, .slice A0_4 l0_4.length c0_4, .slice A0_5 l0_5.length c0_5, .slice A0_6 l0_6.length c0_6] 27 (0, 0)) (by (with_reducible repeat (first | refine blk_drewN ?_ _ | refine blk_drew ?_ | refine blk_alloc ?_ _)); exact BK257.out) hb); have n1_ := Aside0.mk (below_step (by repeat (first | (with_reducible first | exact HB.out | apply below_alloc | apply pw_below_drewN | apply below_drew1 | refine below_set ?_ GE257.out) | exact HB.out)) hb); clear BK257; clear HB; have BK257 := n0_; have HB := n1_; clear n0_ n1_; (try clear hb); (try clear hb2); (try clear hk); (try clear hi); have hcz35_0 : w34.cell? ⟨gb257, 0, none⟩ = some (.string a0_0) := (blk_cell BK257.out 0).trans rfl; have hcz35_1 : w34.cell? ⟨gb257, 1, none⟩ = some (.int .u16 a0_1) := (blk_cell BK257.out 1).trans rfl; have hcz35_2 : w34.cell? ⟨gb257, 2, none⟩ = some (.int .u16 a0_2) := (blk_cell BK257.out 2).trans rfl; have hcz35_3 : w34.cell? ⟨gb257, 3, none⟩ = some (.int .u32 a0_3) := (blk_cell BK257.out 3).trans rfl; have hcz35_4 : w34.cell? ⟨gb257, 4, none⟩ = some (.slice A0_4 l0_4.length c0_4) := (blk_cell BK257.out 4).trans rfl; have hcz35_5 : w34.cell? ⟨gb257, 5, none⟩ = some (.slice A0_5 l0_5.length c0_5) := (blk_cell BK257.out 5).trans rfl; have hcz35_6 : w34.cell? ⟨gb257, 6, none⟩ = some (.slice A0_6 l0_6.length c0_6) := (blk_cell BK257.out 6).trans rfl; have hfz35_0 := blk_frozen BK257.out 0; have hfz35_1 := blk_frozen BK257.out 1; have hfz35_2 := blk_frozen BK257.out 2; have hfz35_3 := blk_frozen BK257.out 3; have hfz35_4 := blk_frozen BK257.out 4; have hfz35_5 := blk_frozen BK257.out 5; have hfz35_6 := blk_frozen BK257.out 6))
        go_ret
        exact ⟨by first | rfl | (simp [errW_none, errW_some] <;> rfl) | (simp [*, errW_none, errW_some] <;> rfl), by repeat (first | (with_reducible first | exact HB.out | apply below_alloc | apply pw_below_drewN | apply below_drew1 | refine below_set ?_ GE257.out) | exact HB.out)⟩
      ·
       replace c18 := Bool.eq_false_iff.mpr c18
       subst c18
       have H1 : (some 50) = some r := by rw [if_neg (show ¬ (false = true) by decide)] at H; exact H
       clear H
       have H := H1
       clear H1
       obtain rfl := Option.some.inj H
       have hcz36_0 : wr.cell? ⟨gb257, 0, none⟩ = some (.string a0_0) := (blk_cell BK257.out 0).trans rfl
       have hcz36_1 : wr.cell? ⟨gb257, 1, none⟩ = some (.int .u16 a0_1) := (blk_cell BK257.out 1).trans rfl
       have hcz36_2 : wr.cell? ⟨gb257, 2, none⟩ = some (.int .u16 a0_2) := (blk_cell BK257.out 2).trans rfl
       have hcz36_3 : wr.cell? ⟨gb257, 3, none⟩ = some (.int .u32 a0_3) := (blk_cell BK257.out 3).trans rfl
       have hcz36_4 : wr.cell? ⟨gb257, 4, none⟩ = some (.slice A0_4 l0_4.length c0_4) := (blk_cell BK257.out 4).trans rfl
       have hcz36_5 : wr.cell? ⟨gb257, 5, none⟩ = some (.slice A0_5 l0_5.length c0_5) := (blk_cell BK257.out 5).trans rfl
       have hcz36_6 : wr.cell? ⟨gb257, 6, none⟩ = some (.slice A0_6 l0_6.length c0_6) := (blk_cell BK257.out 6).trans rfl
       have hfz36_0 := blk_frozen BK257.out 0
       have hfz36_1 := blk_frozen BK257.out 1
       have hfz36_2 := blk_frozen BK257.out 2
       have hfz36_3 := blk_frozen BK257.out 3
       have hfz36_4 := blk_frozen BK257.out 4
       have hfz36_5 := blk_frozen BK257.out 5
       have hfz36_6 := blk_frozen BK257.out 6
       go_wp2_with (first | ((with_reducible refine gate_callee (f := 28) rfl ?_); refine goesL_ (some 25) rfl rfl Try.func28 (by kernel_rfl) rfl #[.agg #[.string a0_0, .int .u16 a0_1, .int .u16 a0_2, .int .u32 a0_3, .slice A0_4 l0_4.length c0_4, .slice A0_5 l0_5.length c0_5, .slice A0_6 l0_6.length c0_6]] rfl (by (try simp only [List.map_toArray, List.map_cons, List.map_nil]); first | done | rfl | (simp only [List.length_drop, List.length_take]; rfl)) ?_; (with_reducible refine (nuncioref05_shaped.calls k1 a0_0 a0_1 a0_2 a0_3 _ _ l0_4 _ _ l0_5 _ _ l0_6 true _ ?side1 ?side2 ?side3 ?side4 ?side5 ?side6 A15.out).mono ?_); (case side1 => repeat (first | exact (Kd.C_below HR0_4.out HB.out) | (with_reducible refine Kd.C_alloc ?_ _) | (with_reducible refine Kd.C_drewN ?_ _) | (with_reducible refine Kd.C_drew ?_))); (case side2 => exact HC0_4.out); (case side3 => repeat (first | exact (Kd.C_below HR0_5.out HB.out) | (with_reducible refine Kd.C_alloc ?_ _) | (with_reducible refine Kd.C_drewN ?_ _) | (with_reducible refine Kd.C_drew ?_))); (case side4 => exact HC0_5.out); (case side5 => repeat (first | exact (Kd.C_below HR0_6.out HB.out) | (with_reducible refine Kd.C_alloc ?_ _) | (with_reducible refine Kd.C_drewN ?_ _) | (with_reducible refine Kd.C_drew ?_))); (case side6 => exact HC0_6.out); rintro e w37 ⟨rfl, hb⟩; refine ⟨_, rfl, ?_⟩; have n0_ := Aside0.mk (blk_below (g := gb257) (o := .cells #[.string a0_0, .int .u16 a0_1, .int .u16 a0_2, .int .u32 a0_3, .slice A0_4 l0_4.length c0_4, .slice A0_5 l0_5.length c0_5, .slice A0_6 l0_6.length c0_6] 27 (0, 0)) (by (with_reducible repeat (first | refine blk_drewN ?_ _ | refine blk_drew ?_ | refine blk_alloc ?_ _)); exact BK257.out) hb); have n1_ := Aside0.mk (below_step (by repeat (first | (with_reducible first | exact HB.out | apply below_alloc | apply pw_below_drewN | apply below_drew1 | refine below_set ?_ GE257.out) | exact HB.out)) hb); clear BK257; clear HB; have BK257 := n0_; have HB := n1_; clear n0_ n1_; (try clear hb); (try clear hb2); (try clear hk); (try clear hi); have hcz38_0 : w37.cell? ⟨gb257, 0, none⟩ = some (.string a0_0) := (blk_cell BK257.out 0).trans rfl; have hcz38_1 : w37.cell? ⟨gb257, 1, none⟩ = some (.int .u16 a0_1) := (blk_cell BK257.out 1).trans rfl; have hcz38_2 : w37.cell? ⟨gb257, 2, none⟩ = some (.int .u16 a0_2) := (blk_cell BK257.out 2).trans rfl; have hcz38_3 : w37.cell? ⟨gb257, 3, none⟩ = some (.int .u32 a0_3) := (blk_cell BK257.out 3).trans rfl; have hcz38_4 : w37.cell? ⟨gb257, 4, none⟩ = some (.slice A0_4 l0_4.length c0_4) := (blk_cell BK257.out 4).trans rfl; have hcz38_5 : w37.cell? ⟨gb257, 5, none⟩ = some (.slice A0_5 l0_5.length c0_5) := (blk_cell BK257.out 5).trans rfl; have hcz38_6 : w37.cell? ⟨gb257, 6, none⟩ = some (.slice A0_6 l0_6.length c0_6) := (blk_cell BK257.out 6).trans rfl; have hfz38_0 := blk_frozen BK257.out 0; have hfz38_1 := blk_frozen BK257.out 1; have hfz38_2 := blk_frozen BK257.out 2; have hfz38_3 := blk_frozen BK257.out 3; have hfz38_4 := blk_frozen BK257.out 4; have hfz38_5 := blk_frozen BK257.out 5; have hfz38_6 := blk_frozen BK257.out 6) | ((with_reducible refine gate_callee (f := 29) rfl ?_); refine goesL_ (some 29) rfl rfl Try.func29 (by kernel_rfl) rfl #[.agg #[.string a0_0, .int .u16 a0_1, .int .u16 a0_2, .int .u32 a0_3, .slice A0_4 l0_4.length c0_4, .slice A0_5 l0_5.length c0_5, .slice A0_6 l0_6.length c0_6]] rfl (by (try simp only [List.map_toArray, List.map_cons, List.map_nil]); first | done | rfl | (simp only [List.length_drop, List.length_take]; rfl)) ?_; (with_reducible refine (nuncioref05_plain.calls k1 a0_0 a0_1 a0_2 a0_3 _ _ l0_4 _ _ l0_5 _ _ l0_6 t262 false _ ?side1 ?side2 ?side3 ?side4 ?side5 ?side6 A17.out).mono ?_); (case side1 => repeat (first | exact (Kd.C_below HR0_4.out HB.out) | (with_reducible refine Kd.C_alloc ?_ _) | (with_reducible refine Kd.C_drewN ?_ _) | (with_reducible refine Kd.C_drew ?_))); (case side2 => exact HC0_4.out); (case side3 => repeat (first | exact (Kd.C_below HR0_5.out HB.out) | (with_reducible refine Kd.C_alloc ?_ _) | (with_reducible refine Kd.C_drewN ?_ _) | (with_reducible refine Kd.C_drew ?_))); (case side4 => exact HC0_5.out); (case side5 => repeat (first | exact (Kd.C_below HR0_6.out HB.out) | (with_reducible refine Kd.C_alloc ?_ _) | (with_reducible refine Kd.C_drewN ?_ _) | (with_reducible refine Kd.C_drew ?_))); (case side6 => exact HC0_6.out); rintro e w39 ⟨rfl, hb⟩; refine ⟨_, rfl, ?_⟩; have n0_ := Aside0.mk (blk_below (g := gb257) (o := .cells #[.string a0_0, .int .u16 a0_1, .int .u16 a0_2, .int .u32 a0_3, .slice A0_4 l0_4.length c0_4, .slice A0_5 l0_5.length c0_5, .slice A0_6 l0_6.length c0_6] 27 (0, 0)) (by (with_reducible repeat (first | refine blk_drewN ?_ _ | refine blk_drew ?_ | refine blk_alloc ?_ _)); exact BK257.out) hb); have n1_ := Aside0.mk (below_step (by repeat (first | (with_reducible first | exact HB.out | apply below_alloc | apply pw_below_drewN | apply below_drew1 | refine below_set ?_ GE257.out) | exact HB.out)) hb); clear BK257; clear HB; have BK257 := n0_; have HB := n1_; clear n0_ n1_; (try clear hb); (try clear hb2); (try clear hk); (try clear hi)))
       go_ret
       exact ⟨by first | rfl | (simp [errW_none, errW_some] <;> rfl) | (simp [*, errW_none, errW_some] <;> rfl), by repeat (first | (with_reducible first | exact HB.out | apply below_alloc | apply pw_below_drewN | apply below_drew1 | refine below_set ?_ GE257.out) | exact HB.out)⟩
     ·
      replace c16 := Bool.eq_false_iff.mpr c16
      subst c16
      have H1 : (some 50) = some r := by rw [if_neg (show ¬ (false = true) by decide)] at H; exact H
      clear H
      have H := H1
      clear H1
      obtain rfl := Option.some.inj H
      have hcz40_0 : wr.cell? ⟨gb257, 0, none⟩ = some (.string a0_0) := (blk_cell BK257.out 0).trans rfl
      have hcz40_1 : wr.cell? ⟨gb257, 1, none⟩ = some (.int .u16 a0_1) := (blk_cell BK257.out 1).trans rfl
      have hcz40_2 : wr.cell? ⟨gb257, 2, none⟩ = some (.int .u16 a0_2) := (blk_cell BK257.out 2).trans rfl
      have hcz40_3 : wr.cell? ⟨gb257, 3, none⟩ = some (.int .u32 a0_3) := (blk_cell BK257.out 3).trans rfl
      have hcz40_4 : wr.cell? ⟨gb257, 4, none⟩ = some (.slice A0_4 l0_4.length c0_4) := (blk_cell BK257.out 4).trans rfl
      have hcz40_5 : wr.cell? ⟨gb257, 5, none⟩ = some (.slice A0_5 l0_5.length c0_5) := (blk_cell BK257.out 5).trans rfl
      have hcz40_6 : wr.cell? ⟨gb257, 6, none⟩ = some (.slice A0_6 l0_6.length c0_6) := (blk_cell BK257.out 6).trans rfl
      have hfz40_0 := blk_frozen BK257.out 0
      have hfz40_1 := blk_frozen BK257.out 1
      have hfz40_2 := blk_frozen BK257.out 2
      have hfz40_3 := blk_frozen BK257.out 3
      have hfz40_4 := blk_frozen BK257.out 4
      have hfz40_5 := blk_frozen BK257.out 5
      have hfz40_6 := blk_frozen BK257.out 6
      go_wp2_with (first | ((with_reducible refine gate_callee (f := 28) rfl ?_); refine goesL_ (some 25) rfl rfl Try.func28 (by kernel_rfl) rfl #[.agg #[.string a0_0, .int .u16 a0_1, .int .u16 a0_2, .int .u32 a0_3, .slice A0_4 l0_4.length c0_4, .slice A0_5 l0_5.length c0_5, .slice A0_6 l0_6.length c0_6]] rfl (by (try simp only [List.map_toArray, List.map_cons, List.map_nil]); first | done | rfl | (simp only [List.length_drop, List.length_take]; rfl)) ?_; (with_reducible refine (nuncioref05_shaped.calls k1 a0_0 a0_1 a0_2 a0_3 _ _ l0_4 _ _ l0_5 _ _ l0_6 false _ ?side1 ?side2 ?side3 ?side4 ?side5 ?side6 A15.out).mono ?_); (case side1 => repeat (first | exact (Kd.C_below HR0_4.out HB.out) | (with_reducible refine Kd.C_alloc ?_ _) | (with_reducible refine Kd.C_drewN ?_ _) | (with_reducible refine Kd.C_drew ?_))); (case side2 => exact HC0_4.out); (case side3 => repeat (first | exact (Kd.C_below HR0_5.out HB.out) | (with_reducible refine Kd.C_alloc ?_ _) | (with_reducible refine Kd.C_drewN ?_ _) | (with_reducible refine Kd.C_drew ?_))); (case side4 => exact HC0_5.out); (case side5 => repeat (first | exact (Kd.C_below HR0_6.out HB.out) | (with_reducible refine Kd.C_alloc ?_ _) | (with_reducible refine Kd.C_drewN ?_ _) | (with_reducible refine Kd.C_drew ?_))); (case side6 => exact HC0_6.out); rintro e w41 ⟨rfl, hb⟩; refine ⟨_, rfl, ?_⟩; have n0_ := Aside0.mk (blk_below (g := gb257) (o := .cells #[.string a0_0, .int .u16 a0_1, .int .u16 a0_2, .int .u32 a0_3, .slice A0_4 l0_4.length c0_4, .slice A0_5 l0_5.length c0_5, .slice A0_6 l0_6.length c0_6] 27 (0, 0)) (by (with_reducible repeat (first | refine blk_drewN ?_ _ | refine blk_drew ?_ | refine blk_alloc ?_ _)); exact BK257.out) hb); have n1_ := Aside0.mk (below_step (by repeat (first | (with_reducible first | exact HB.out | apply below_alloc | apply pw_below_drewN | apply below_drew1 | refine below_set ?_ GE257.out) | exact HB.out)) hb); clear BK257; clear HB; have BK257 := n0_; have HB := n1_; clear n0_ n1_; (try clear hb); (try clear hb2); (try clear hk); (try clear hi)))
      go_ret
      exact ⟨by first | rfl | (simp [errW_none, errW_some] <;> rfl) | (simp [*, errW_none, errW_some] <;> rfl), by repeat (first | (with_reducible first | exact HB.out | apply below_alloc | apply pw_below_drewN | apply below_drew1 | refine below_set ?_ GE257.out) | exact HB.out)⟩
 ·
  replace c3 := Bool.eq_false_iff.mpr c3
  subst c3
  have H1 : (some 40) = some r := by rw [if_neg (show ¬ (false = true) by decide)] at H; exact H
  clear H
  have H := H1
  clear H1
  obtain rfl := Option.some.inj H
  go_enter Try.func12, Try.ntmps12
  go_wp2_with (first | ((with_reducible refine gate_dst (N := 1) rfl ?_); refine box_event ?hg (N := 1) ?hd (cs := #[.string a0_0, .int .u16 a0_1, .int .u16 a0_2, .int .u32 a0_3, .slice A0_4 l0_4.length c0_4, .slice A0_5 l0_5.length c0_5, .slice A0_6 l0_6.length c0_6]) (t := 27) ?hr ?_; (case hd => rfl); (case hg => rfl); (case hr => first | (go_simp; done) | (go_simp; rfl)); intro gb257 hg w42 hbox hb; have n0_ := Aside0.mk (below_step (by repeat (first | (with_reducible first | exact HB.out | apply below_alloc | apply pw_below_drewN | apply below_drew1) | exact HB.out)) hb); have n1_ := Aside0.mk (hbox); have n2_ := Aside0.mk ((by rw [hg]; exact (below_size (by repeat (first | (with_reducible first | exact HB.out | apply below_alloc | apply pw_below_drewN | apply below_drew1) | exact HB.out))) : w.heap.size ≤ gb257)); have n3_ := Aside0.mk ((by rw [hg]; exact (below_size (by repeat (first | (with_reducible first | exact HB.out | apply below_alloc | apply pw_below_drewN | apply below_drew1) | exact HB.out))) : w.heap.size ≤ gb257)); clear HB; have HB := n0_; have BK257 := n1_; have GW257 := n2_; have GE257 := n3_; clear n0_ n1_ n2_ n3_; clear hb hbox hg; have hcz43_0 : w42.cell? ⟨gb257, 0, none⟩ = some (.string a0_0) := (blk_cell BK257.out 0).trans rfl; have hcz43_1 : w42.cell? ⟨gb257, 1, none⟩ = some (.int .u16 a0_1) := (blk_cell BK257.out 1).trans rfl; have hcz43_2 : w42.cell? ⟨gb257, 2, none⟩ = some (.int .u16 a0_2) := (blk_cell BK257.out 2).trans rfl; have hcz43_3 : w42.cell? ⟨gb257, 3, none⟩ = some (.int .u32 a0_3) := (blk_cell BK257.out 3).trans rfl; have hcz43_4 : w42.cell? ⟨gb257, 4, none⟩ = some (.slice A0_4 l0_4.length c0_4) := (blk_cell BK257.out 4).trans rfl; have hcz43_5 : w42.cell? ⟨gb257, 5, none⟩ = some (.slice A0_5 l0_5.length c0_5) := (blk_cell BK257.out 5).trans rfl; have hcz43_6 : w42.cell? ⟨gb257, 6, none⟩ = some (.slice A0_6 l0_6.length c0_6) := (blk_cell BK257.out 6).trans rfl; have hfz43_0 := blk_frozen BK257.out 0; have hfz43_1 := blk_frozen BK257.out 1; have hfz43_2 := blk_frozen BK257.out 2; have hfz43_3 := blk_frozen BK257.out 3; have hfz43_4 := blk_frozen BK257.out 4; have hfz43_5 := blk_frozen BK257.out 5; have hfz43_6 := blk_frozen BK257.out 6) | ((with_reducible refine gate_callee (f := 27) rfl ?_); refine goesL_ (some 8) rfl rfl Try.func27 (by kernel_rfl) rfl #[.string a0_0] rfl (by (try simp only [List.map_toArray, List.map_cons, List.map_nil]); first | done | rfl | (simp only [List.length_drop, List.length_take]; rfl)) ?_; (with_reducible refine (nuncioref04_Is.calls k a0_0 false _ A2.out).mono ?_); rintro e w44 ⟨rfl, hb⟩; refine ⟨_, rfl, ?_⟩; have n0_ := Aside0.mk (blk_below (g := gb257) (o := .cells #[.string a0_0, .int .u16 a0_1, .int .u16 a0_2, .int .u32 a0_3, .slice A0_4 l0_4.length c0_4, .slice A0_5 l0_5.length c0_5, .slice A0_6 l0_6.length c0_6] 27 (0, 0)) (by (with_reducible repeat (first | refine blk_drewN ?_ _ | refine blk_drew ?_ | refine blk_alloc ?_ _)); exact BK257.out) hb); have n1_ := Aside0.mk (below_step (by repeat (first | (with_reducible first | exact HB.out | apply below_alloc | apply pw_below_drewN | apply below_drew1 | refine below_set ?_ GE257.out) | exact HB.out)) hb); clear BK257; clear HB; have BK257 := n0_; have HB := n1_; clear n0_ n1_; (try clear hb); (try clear hb2); (try clear hk); (try clear hi)))
  go_ret
  exact ⟨by first | rfl | (simp [errW_none, errW_some] <;> rfl) | (simp [*, errW_none, errW_some] <;> rfl), by repeat (first | (with_reducible first | exact HB.out | apply below_alloc | apply pw_below_drewN | apply below_drew1 | refine below_set ?_ GE257.out) | exact HB.out)⟩

end Go.Proofs.Ytebnbjnkameicaa.Mine
