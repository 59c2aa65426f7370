-- Written by this repo's own printer (wip/print), which builds on the kit's.
import Derived.Test.YtebnbjnkameicaaMinex0
import Derived.Test.YtebnbjnkameicaaMinex2
import Derived.Test.YtebnbjnkameicaaMinex4
import Derived.Test.YtebnbjnkameicaaMinex5
import Derived.Test.YtebnbjnkameicaaMinex7
import Derived.Test.YtebnbjnkameicaaMinex8
namespace Go.Proofs.Ytebnbjnkameicaa.Mine
open Go.RowKit Go.Proofs.YtebnbjnkameicaaW.PrintWords Go.Proofs.YtebnbjnkameicaaW.PrintLast Go.Proofs.YtebnbjnkameicaaW.PrintMore
attribute [local go_sem] max2_int min2_int max_two min_two max_three min_three max_four min_four   -- for this text's walks alone
set_option linter.unusedVariables false
set_option linter.unusedSimpArgs false

/-! ### rdata_Check: function 11 -/
mutual
def rdata_Check.j0 : Nat → Bool → ByteArray → Int → Int → Int → List ByteArray → List Int → List ByteArray → Option (Int)
 | 0, _, _, _, _, _, _, _, _ => none
 | k + 1, x11, x158000, x158001, x158002, x158003, x158004, x158005, x158006 => if x11 = true then (some 40) else ((rdata_shaped.f k x158000 x158001 x158002 x158003 x158004 x158005 x158006).bind fun t160 => (if t160 = true then ((rdata_size.f k x158000 x158001 x158002 x158003 x158004 x158005 x158006).bind fun t161 => (if t161 > 131070 then (rdata_Check.j1 k true x158000 x158001 x158002 x158003 x158004 x158005 x158006) else ((rdata_plain.f k x158000 x158001 x158002 x158003 x158004 x158005 x158006).bind fun t162 => (rdata_Check.j1 k (decide ((t162.length : Int) > 65535)) x158000 x158001 x158002 x158003 x158004 x158005 x158006)))) else (rdata_Check.j1 k true x158000 x158001 x158002 x158003 x158004 x158005 x158006)))
def rdata_Check.j1 : Nat → Bool → ByteArray → Int → Int → Int → List ByteArray → List Int → List ByteArray → Option (Int)
 | 0, _, _, _, _, _, _, _, _ => none
 | k + 1, x12, x158000, x158001, x158002, x158003, x158004, x158005, x158006 => if x12 = true then (some 50) else (if x158003 > 2147483647 then (if x158001 = 41 then (some 0) else (some 1)) else (some 0))
end
def rdata_Check.f (k : Nat) (a0_0 : ByteArray) (a0_1 : Int) (a0_2 : Int) (a0_3 : Int) (l0_4 : List ByteArray) (l0_5 : List Int) (l0_6 : List ByteArray) : Option (Int) := (name_Is.f k a0_0).bind fun t158 => (if t158 = true then ((slices_ContainsFunc_string_string_23.f k l0_4).bind fun t159 => (rdata_Check.j0 k t159 a0_0 a0_1 a0_2 a0_3 l0_4 l0_5 l0_6)) else (rdata_Check.j0 k true a0_0 a0_1 a0_2 a0_3 l0_4 l0_5 l0_6))
theorem rdata_Check.mono_l : ∀ k, (∀ y0 y1 y2 y3 y4 y5 y6 y7, LeO (rdata_Check.j0 k y0 y1 y2 y3 y4 y5 y6 y7) (rdata_Check.j0 (k + 1) y0 y1 y2 y3 y4 y5 y6 y7)) ∧ (∀ y0 y1 y2 y3 y4 y5 y6 y7, LeO (rdata_Check.j1 k y0 y1 y2 y3 y4 y5 y6 y7) (rdata_Check.j1 (k + 1) y0 y1 y2 y3 y4 y5 y6 y7))
 | 0 => ⟨fun _ _ _ _ _ _ _ _ r h => by simp [rdata_Check.j0] at h, fun _ _ _ _ _ _ _ _ r h => by simp [rdata_Check.j1] at h⟩
 | k + 1 => by
  obtain ⟨ih0, ih1⟩ := rdata_Check.mono_l k
  refine ⟨?_, ?_⟩
  ·
   intro y0 y1 y2 y3 y4 y5 y6 y7
   unfold rdata_Check.j0
   repeat' first
   | (with_reducible exact ih0 _ _ _ _ _ _ _ _)
   | (with_reducible exact ih1 _ _ _ _ _ _ _ _)
   | (with_reducible exact name_Is.mono _ _)
   | (with_reducible exact rdata_plain.mono _ _ _ _ _ _ _ _)
   | (with_reducible exact rdata_shaped.mono _ _ _ _ _ _ _ _)
   | (with_reducible exact rdata_size.mono _ _ _ _ _ _ _ _)
   | (with_reducible exact slices_ContainsFunc_string_string_23.mono _ _)
   | (with_reducible exact LeO.refl _)
   | (with_reducible exact LeO.none _)
   | (with_reducible refine LeO.ite ?_ ?_)
   | (with_reducible refine LeO.bind ?_ (fun _ => ?_))
   | exact ih0 _ _ _ _ _ _ _ _
   | exact ih1 _ _ _ _ _ _ _ _
   | exact name_Is.mono _ _
   | exact rdata_plain.mono _ _ _ _ _ _ _ _
   | exact rdata_shaped.mono _ _ _ _ _ _ _ _
   | exact rdata_size.mono _ _ _ _ _ _ _ _
   | exact slices_ContainsFunc_string_string_23.mono _ _
   | exact LeO.none _
   | refine LeO.ite ?_ ?_
   | refine LeO.bind ?_ (fun _ => ?_)
  ·
   intro y0 y1 y2 y3 y4 y5 y6 y7
   unfold rdata_Check.j1
   repeat' first
   | (with_reducible exact ih0 _ _ _ _ _ _ _ _)
   | (with_reducible exact ih1 _ _ _ _ _ _ _ _)
   | (with_reducible exact name_Is.mono _ _)
   | (with_reducible exact rdata_plain.mono _ _ _ _ _ _ _ _)
   | (with_reducible exact rdata_shaped.mono _ _ _ _ _ _ _ _)
   | (with_reducible exact rdata_size.mono _ _ _ _ _ _ _ _)
   | (with_reducible exact slices_ContainsFunc_string_string_23.mono _ _)
   | (with_reducible exact LeO.refl _)
   | (with_reducible exact LeO.none _)
   | (with_reducible refine LeO.ite ?_ ?_)
   | (with_reducible refine LeO.bind ?_ (fun _ => ?_))
   | exact ih0 _ _ _ _ _ _ _ _
   | exact ih1 _ _ _ _ _ _ _ _
   | exact name_Is.mono _ _
   | exact rdata_plain.mono _ _ _ _ _ _ _ _
   | exact rdata_shaped.mono _ _ _ _ _ _ _ _
   | exact rdata_size.mono _ _ _ _ _ _ _ _
   | exact slices_ContainsFunc_string_string_23.mono _ _
   | exact LeO.none _
   | refine LeO.ite ?_ ?_
   | refine LeO.bind ?_ (fun _ => ?_)
theorem rdata_Check.mono : ∀ a0 a1 a2 a3 a4 a5 a6 k, LeO (rdata_Check.f k a0 a1 a2 a3 a4 a5 a6) (rdata_Check.f (k + 1) a0 a1 a2 a3 a4 a5 a6) := by
 intro a0 a1 a2 a3 a4 a5 a6 k
 obtain ⟨ih0, ih1⟩ := rdata_Check.mono_l k
 unfold rdata_Check.f
 repeat' first
   | (with_reducible exact ih0 _ _ _ _ _ _ _ _)
   | (with_reducible exact ih1 _ _ _ _ _ _ _ _)
   | (with_reducible exact name_Is.mono _ _)
   | (with_reducible exact rdata_plain.mono _ _ _ _ _ _ _ _)
   | (with_reducible exact rdata_shaped.mono _ _ _ _ _ _ _ _)
   | (with_reducible exact rdata_size.mono _ _ _ _ _ _ _ _)
   | (with_reducible exact slices_ContainsFunc_string_string_23.mono _ _)
   | (with_reducible exact LeO.refl _)
   | (with_reducible exact LeO.none _)
   | (with_reducible refine LeO.ite ?_ ?_)
   | (with_reducible refine LeO.bind ?_ (fun _ => ?_))
   | exact ih0 _ _ _ _ _ _ _ _
   | exact ih1 _ _ _ _ _ _ _ _
   | exact name_Is.mono _ _
   | exact rdata_plain.mono _ _ _ _ _ _ _ _
   | exact rdata_shaped.mono _ _ _ _ _ _ _ _
   | exact rdata_size.mono _ _ _ _ _ _ _ _
   | exact slices_ContainsFunc_string_string_23.mono _ _
   | exact LeO.none _
   | refine LeO.ite ?_ ?_
   | refine LeO.bind ?_ (fun _ => ?_)
set_option maxHeartbeats 8000000 in
set_option maxRecDepth 100000 in
theorem rdata_Check.calls (k : Nat) (a0_0 : ByteArray) (a0_1 : Int) (a0_2 : Int) (a0_3 : Int) (A0_4 : Option Addr) (c0_4 : Nat) (l0_4 : List ByteArray) (A0_5 : Option Addr) (c0_5 : Nat) (l0_5 : List Int) (A0_6 : Option Addr) (c0_6 : Nat) (l0_6 : List ByteArray) (r : Int) (w : World) (hr0_4 : Kd.C Kd.string w A0_4 l0_4.length l0_4) (hc0_4 : l0_4.length ≤ c0_4) (hr0_5 : Kd.C (Kd.int .u32) w A0_5 l0_5.length l0_5) (hc0_5 : l0_5.length ≤ c0_5) (hr0_6 : Kd.C Kd.string w A0_6 l0_6.length l0_6) (hc0_6 : l0_6.length ≤ c0_6) (h : rdata_Check.f k a0_0 a0_1 a0_2 a0_3 l0_4 l0_5 l0_6 = some r) :
  Calls Try.prog 11 #[.agg #[.string a0_0, .int .u16 a0_1, .int .u16 a0_2, .int .u32 a0_3, .slice A0_4 l0_4.length c0_4, .slice A0_5 l0_5.length c0_5, .slice A0_6 l0_6.length c0_6]] w fun e w' => e = .returned (.int .i64 r) ∧ Below w.heap.size w w' := by
 have hu27 := Try.underlying27
 have HR0_4 := Aside0.mk hr0_4
 have HC0_4 := Aside0.mk hc0_4
 clear hr0_4 hc0_4
 have HR0_5 := Aside0.mk hr0_5
 have HC0_5 := Aside0.mk hc0_5
 clear hr0_5 hc0_5
 have HR0_6 := Aside0.mk hr0_6
 have HC0_6 := Aside0.mk hc0_6
 clear hr0_6 hc0_6
 have HB := Aside0.mk (Below.refl w.heap.size w)
 have H : ((name_Is.f k a0_0).bind fun t158 => (if t158 = true then ((slices_ContainsFunc_string_string_23.f k l0_4).bind fun t159 => (rdata_Check.j0 k t159 a0_0 a0_1 a0_2 a0_3 l0_4 l0_5 l0_6)) else (rdata_Check.j0 k true a0_0 a0_1 a0_2 a0_3 l0_4 l0_5 l0_6))) = some r := h
 clear h
 have HC2 := Aside0.mk H
 clear H
 go_enter Try.func11, Try.ntmps11
 go_upto_region 1 with (first | ((with_reducible refine gate_dst (N := 1) rfl ?_); (try (refine gate_guard (by rfl) ?_; dsimp only)); refine box_event ?hg (N := 1) ?hd (cs := #[.string a0_0, .int .u16 a0_1, .int .u16 a0_2, .int .u32 a0_3, .slice A0_4 l0_4.length c0_4, .slice A0_5 l0_5.length c0_5, .slice A0_6 l0_6.length c0_6]) (t := 27) ?hr ?_; (case hd => rfl); (case hg => rfl); (case hr => first | (go_simp; done) | (go_simp; rfl)); intro gb157 hg w3 hbox hb; have n0_ := Aside0.mk (below_step (by repeat (first | (with_reducible first | exact HB.out | apply below_alloc | apply pw_below_drewN | apply below_drew1) | exact HB.out)) hb); have n1_ := Aside0.mk (hbox); have n2_ := Aside0.mk ((by rw [hg]; exact (below_size (by repeat (first | (with_reducible first | exact HB.out | apply below_alloc | apply pw_below_drewN | apply below_drew1) | exact HB.out))) : w.heap.size ≤ gb157)); have n3_ := Aside0.mk ((by rw [hg]; exact (below_size (by repeat (first | (with_reducible first | exact HB.out | apply below_alloc | apply pw_below_drewN | apply below_drew1) | exact HB.out))) : w.heap.size ≤ gb157)); clear HB; have HB := n0_; have BK157 := n1_; have GW157 := n2_; have GE157 := n3_; clear n0_ n1_ n2_ n3_; clear hb hbox hg))
 (try simp only [Act.put, List.setIfInBounds_toArray, List.set_cons_zero, List.set_cons_succ])
 go_cut [11] (fun v11 wc => ∃ (kq : Nat) (x11_1 : Bool), v11 = .bool x11_1 ∧ Aside0 (rdata_Check.j0 kq x11_1 a0_0 a0_1 a0_2 a0_3 l0_4 l0_5 l0_6 = some r) ∧ Aside0 (kq ≤ k) ∧ Aside0 (wc.heap[gb157]? = some (.cells #[.string a0_0, .int .u16 a0_1, .int .u16 a0_2, .int .u32 a0_3, (.slice A0_4 l0_4.length c0_4), (.slice A0_5 l0_5.length c0_5), (.slice A0_6 l0_6.length c0_6)] 27 (0, 0))) ∧ Aside0 (Below w.heap.size w wc))
 case first =>
  have H := HC2.out
  clear HC2
  replace H := Option.bind_eq_some_iff.mp H
  obtain ⟨t158, A40, H⟩ := H
  replace H : (if t158 = true then ((slices_ContainsFunc_string_string_23.f k l0_4).bind fun t159 => (rdata_Check.j0 k t159 a0_0 a0_1 a0_2 a0_3 l0_4 l0_5 l0_6)) else (rdata_Check.j0 k true a0_0 a0_1 a0_2 a0_3 l0_4 l0_5 l0_6)) = some r := H
  have A4 := Aside0.mk A40
  clear A40
  by_cases c5 : t158 = true
  ·
   subst c5
   have H1 : ((slices_ContainsFunc_string_string_23.f k l0_4).bind fun t159 => (rdata_Check.j0 k t159 a0_0 a0_1 a0_2 a0_3 l0_4 l0_5 l0_6)) = some r := by rw [if_pos rfl] at H; exact H
   clear H
   have H := H1
   clear H1
   replace H := Option.bind_eq_some_iff.mp H
   obtain ⟨t159, A60, H⟩ := H
   replace H : (rdata_Check.j0 k t159 a0_0 a0_1 a0_2 a0_3 l0_4 l0_5 l0_6) = some r := H
   have A6 := Aside0.mk A60
   clear A60
   have H' := Aside0.mk H
   clear H
   have hcz7_0 : w3.cell? ⟨gb157, 0, none⟩ = some (.string a0_0) := (blk_cell BK157.out 0).trans rfl
   have hcz7_1 : w3.cell? ⟨gb157, 1, none⟩ = some (.int .u16 a0_1) := (blk_cell BK157.out 1).trans rfl
   have hcz7_2 : w3.cell? ⟨gb157, 2, none⟩ = some (.int .u16 a0_2) := (blk_cell BK157.out 2).trans rfl
   have hcz7_3 : w3.cell? ⟨gb157, 3, none⟩ = some (.int .u32 a0_3) := (blk_cell BK157.out 3).trans rfl
   have hcz7_4 : w3.cell? ⟨gb157, 4, none⟩ = some (.slice A0_4 l0_4.length c0_4) := (blk_cell BK157.out 4).trans rfl
   have hcz7_5 : w3.cell? ⟨gb157, 5, none⟩ = some (.slice A0_5 l0_5.length c0_5) := (blk_cell BK157.out 5).trans rfl
   have hcz7_6 : w3.cell? ⟨gb157, 6, none⟩ = some (.slice A0_6 l0_6.length c0_6) := (blk_cell BK157.out 6).trans rfl
   have hfz7_0 := blk_frozen BK157.out 0
   have hfz7_1 := blk_frozen BK157.out 1
   have hfz7_2 := blk_frozen BK157.out 2
   have hfz7_3 := blk_frozen BK157.out 3
   have hfz7_4 := blk_frozen BK157.out 4
   have hfz7_5 := blk_frozen BK157.out 5
   have hfz7_6 := blk_frozen BK157.out 6
   go_wp2_with (first | ((with_reducible refine gate_callee (f := 21) rfl ?_); refine goesL_ (some 5) rfl rfl Try.func21 (by kernel_rfl) rfl #[.string a0_0] rfl (by (try simp only [List.map_toArray, List.map_cons, List.map_nil]); first | done | rfl | (simp only [List.length_drop, List.length_take]; rfl)) ?_; (with_reducible refine (name_Is.calls k a0_0 true _ A4.out).mono ?_); rintro e w8 ⟨rfl, hb⟩; refine ⟨_, rfl, ?_⟩; have n0_ := Aside0.mk (blk_below (g := gb157) (o := .cells #[.string a0_0, .int .u16 a0_1, .int .u16 a0_2, .int .u32 a0_3, .slice A0_4 l0_4.length c0_4, .slice A0_5 l0_5.length c0_5, .slice A0_6 l0_6.length c0_6] 27 (0, 0)) (by (with_reducible repeat (first | refine blk_drewN ?_ _ | refine blk_drew ?_ | refine blk_alloc ?_ _)); exact BK157.out) hb); have n1_ := Aside0.mk (below_step (by repeat (first | (with_reducible first | exact HB.out | apply below_alloc | apply pw_below_drewN | apply below_drew1 | refine below_set ?_ GE157.out) | exact HB.out)) hb); clear BK157; clear HB; have BK157 := n0_; have HB := n1_; clear n0_ n1_; (try clear hb); (try clear hb2); (try clear hk); (try clear hi); have hcz9_0 : w8.cell? ⟨gb157, 0, none⟩ = some (.string a0_0) := (blk_cell BK157.out 0).trans rfl; have hcz9_1 : w8.cell? ⟨gb157, 1, none⟩ = some (.int .u16 a0_1) := (blk_cell BK157.out 1).trans rfl; have hcz9_2 : w8.cell? ⟨gb157, 2, none⟩ = some (.int .u16 a0_2) := (blk_cell BK157.out 2).trans rfl; have hcz9_3 : w8.cell? ⟨gb157, 3, none⟩ = some (.int .u32 a0_3) := (blk_cell BK157.out 3).trans rfl; have hcz9_4 : w8.cell? ⟨gb157, 4, none⟩ = some (.slice A0_4 l0_4.length c0_4) := (blk_cell BK157.out 4).trans rfl; have hcz9_5 : w8.cell? ⟨gb157, 5, none⟩ = some (.slice A0_5 l0_5.length c0_5) := (blk_cell BK157.out 5).trans rfl; have hcz9_6 : w8.cell? ⟨gb157, 6, none⟩ = some (.slice A0_6 l0_6.length c0_6) := (blk_cell BK157.out 6).trans rfl; have hfz9_0 := blk_frozen BK157.out 0; have hfz9_1 := blk_frozen BK157.out 1; have hfz9_2 := blk_frozen BK157.out 2; have hfz9_3 := blk_frozen BK157.out 3; have hfz9_4 := blk_frozen BK157.out 4; have hfz9_5 := blk_frozen BK157.out 5; have hfz9_6 := blk_frozen BK157.out 6) | (go_at_call 22; (with_reducible refine (slices_ContainsFunc_string_string_23.calls k _ _ l0_4 t159 _ ?side1 ?side2 A6.out).mono ?_); (case side1 => repeat (first | exact (Kd.C_below HR0_4.out HB.out) | (with_reducible refine Kd.C_alloc ?_ _) | (with_reducible refine Kd.C_drewN ?_ _) | (with_reducible refine Kd.C_drew ?_))); (case side2 => exact HC0_4.out); rintro e w10 ⟨rfl, hb⟩; have n0_ := Aside0.mk (blk_below (g := gb157) (o := .cells #[.string a0_0, .int .u16 a0_1, .int .u16 a0_2, .int .u32 a0_3, .slice A0_4 l0_4.length c0_4, .slice A0_5 l0_5.length c0_5, .slice A0_6 l0_6.length c0_6] 27 (0, 0)) (by (with_reducible repeat (first | refine blk_drewN ?_ _ | refine blk_drew ?_ | refine blk_alloc ?_ _)); exact BK157.out) hb); have n1_ := Aside0.mk (below_step (by repeat (first | (with_reducible first | exact HB.out | apply below_alloc | apply pw_below_drewN | apply below_drew1 | refine below_set ?_ GE157.out) | exact HB.out)) hb); clear BK157; clear HB; have BK157 := n0_; have HB := n1_; clear n0_ n1_; (try clear hb); (try clear hb2); (try clear hk); (try clear hi)))
   go_meet
   case rel => exact ⟨_, (t159), (by first | rfl | (simp; done) | (simp [*]; done)), H', ⟨by first | omega | exact Nat.le_refl _⟩, ⟨by (with_reducible repeat (first | refine blk_drewN ?_ _ | refine blk_drew ?_ | refine blk_alloc ?_ _)); exact BK157.out⟩, ⟨by repeat (first | (with_reducible first | exact HB.out | apply below_alloc | apply pw_below_drewN | apply below_drew1 | refine below_set ?_ GE157.out) | exact HB.out)⟩⟩
  ·
   replace c5 := Bool.eq_false_iff.mpr c5
   subst c5
   have H1 : (rdata_Check.j0 k true a0_0 a0_1 a0_2 a0_3 l0_4 l0_5 l0_6) = some r := by rw [if_neg (show ¬ (false = true) by decide)] at H; exact H
   clear H
   have H := H1
   clear H1
   have H' := Aside0.mk H
   clear H
   have hcz11_0 : w3.cell? ⟨gb157, 0, none⟩ = some (.string a0_0) := (blk_cell BK157.out 0).trans rfl
   have hcz11_1 : w3.cell? ⟨gb157, 1, none⟩ = some (.int .u16 a0_1) := (blk_cell BK157.out 1).trans rfl
   have hcz11_2 : w3.cell? ⟨gb157, 2, none⟩ = some (.int .u16 a0_2) := (blk_cell BK157.out 2).trans rfl
   have hcz11_3 : w3.cell? ⟨gb157, 3, none⟩ = some (.int .u32 a0_3) := (blk_cell BK157.out 3).trans rfl
   have hcz11_4 : w3.cell? ⟨gb157, 4, none⟩ = some (.slice A0_4 l0_4.length c0_4) := (blk_cell BK157.out 4).trans rfl
   have hcz11_5 : w3.cell? ⟨gb157, 5, none⟩ = some (.slice A0_5 l0_5.length c0_5) := (blk_cell BK157.out 5).trans rfl
   have hcz11_6 : w3.cell? ⟨gb157, 6, none⟩ = some (.slice A0_6 l0_6.length c0_6) := (blk_cell BK157.out 6).trans rfl
   have hfz11_0 := blk_frozen BK157.out 0
   have hfz11_1 := blk_frozen BK157.out 1
   have hfz11_2 := blk_frozen BK157.out 2
   have hfz11_3 := blk_frozen BK157.out 3
   have hfz11_4 := blk_frozen BK157.out 4
   have hfz11_5 := blk_frozen BK157.out 5
   have hfz11_6 := blk_frozen BK157.out 6
   go_wp2_with (first | ((with_reducible refine gate_callee (f := 21) rfl ?_); refine goesL_ (some 5) rfl rfl Try.func21 (by kernel_rfl) rfl #[.string a0_0] rfl (by (try simp only [List.map_toArray, List.map_cons, List.map_nil]); first | done | rfl | (simp only [List.length_drop, List.length_take]; rfl)) ?_; (with_reducible refine (name_Is.calls k a0_0 false _ A4.out).mono ?_); rintro e w12 ⟨rfl, hb⟩; refine ⟨_, rfl, ?_⟩; have n0_ := Aside0.mk (blk_below (g := gb157) (o := .cells #[.string a0_0, .int .u16 a0_1, .int .u16 a0_2, .int .u32 a0_3, .slice A0_4 l0_4.length c0_4, .slice A0_5 l0_5.length c0_5, .slice A0_6 l0_6.length c0_6] 27 (0, 0)) (by (with_reducible repeat (first | refine blk_drewN ?_ _ | refine blk_drew ?_ | refine blk_alloc ?_ _)); exact BK157.out) hb); have n1_ := Aside0.mk (below_step (by repeat (first | (with_reducible first | exact HB.out | apply below_alloc | apply pw_below_drewN | apply below_drew1 | refine below_set ?_ GE157.out) | exact HB.out)) hb); clear BK157; clear HB; have BK157 := n0_; have HB := n1_; clear n0_ n1_; (try clear hb); (try clear hb2); (try clear hk); (try clear hi)))
   go_meet
   case rel => exact ⟨_, (true), (by first | rfl | (simp; done) | (simp [*]; done)), H', ⟨by first | omega | exact Nat.le_refl _⟩, ⟨by (with_reducible repeat (first | refine blk_drewN ?_ _ | refine blk_drew ?_ | refine blk_alloc ?_ _)); exact BK157.out⟩, ⟨by repeat (first | (with_reducible first | exact HB.out | apply below_alloc | apply pw_below_drewN | apply below_drew1 | refine below_set ?_ GE157.out) | exact HB.out)⟩⟩
 case rest =>
  clear HC2
  try clear c1
  try clear c2
  try clear p2
  try clear c5
  try clear c11
  try clear hcz11_0
  try clear hcz11_1
  try clear hcz11_2
  try clear hcz11_3
  try clear hcz11_4
  try clear hcz11_5
  try clear hcz11_6
  try clear hcz7_0
  try clear hcz7_1
  try clear hcz7_2
  try clear hcz7_3
  try clear hcz7_4
  try clear hcz7_5
  try clear hcz7_6
  try clear hcz9_0
  try clear hcz9_1
  try clear hcz9_2
  try clear hcz9_3
  try clear hcz9_4
  try clear hcz9_5
  try clear hcz9_6
  try clear hfz11_0
  try clear hfz11_1
  try clear hfz11_2
  try clear hfz11_3
  try clear hfz11_4
  try clear hfz11_5
  try clear hfz11_6
  try clear hfz7_0
  try clear hfz7_1
  try clear hfz7_2
  try clear hfz7_3
  try clear hfz7_4
  try clear hfz7_5
  try clear hfz7_6
  try clear hfz9_0
  try clear hfz9_1
  try clear hfz9_2
  try clear hfz9_3
  try clear hfz9_4
  try clear hfz9_5
  try clear hfz9_6
  obtain ⟨kq, x11_1, rfl, HA, HJ1, BK157, HB⟩ := hcut
  cases kq with
  | zero => exact absurd HA.out (by simp [rdata_Check.j0])
  | succ kj1 =>
   have H := HA.out
   clear HA
   simp only [rdata_Check.j0] at H
   by_cases c13 : x11_1 = true
   ·
    subst c13
    have H1 : (some 40) = some r := by rw [if_pos rfl] at H; exact H
    clear H
    have H := H1
    clear H1
    obtain rfl := Option.some.inj H
    go_wp2
    go_ret
    exact ⟨by first | rfl | (simp [errW_none, errW_some] <;> rfl) | (simp [*, errW_none, errW_some] <;> rfl), by repeat (first | (with_reducible first | exact HB.out | apply below_alloc | apply pw_below_drewN | apply below_drew1 | refine below_set ?_ GE157.out) | exact HB.out)⟩
   ·
    replace c13 := Bool.eq_false_iff.mpr c13
    subst c13
    have H1 : ((rdata_shaped.f kj1 a0_0 a0_1 a0_2 a0_3 l0_4 l0_5 l0_6).bind fun t160 => (if t160 = true then ((rdata_size.f kj1 a0_0 a0_1 a0_2 a0_3 l0_4 l0_5 l0_6).bind fun t161 => (if t161 > 131070 then (rdata_Check.j1 kj1 true a0_0 a0_1 a0_2 a0_3 l0_4 l0_5 l0_6) else ((rdata_plain.f kj1 a0_0 a0_1 a0_2 a0_3 l0_4 l0_5 l0_6).bind fun t162 => (rdata_Check.j1 kj1 (decide ((t162.length : Int) > 65535)) a0_0 a0_1 a0_2 a0_3 l0_4 l0_5 l0_6)))) else (rdata_Check.j1 kj1 true a0_0 a0_1 a0_2 a0_3 l0_4 l0_5 l0_6))) = some r := by rw [if_neg (show ¬ (false = true) by decide)] at H; exact H
    clear H
    have H := H1
    clear H1
    have HC14 := Aside0.mk H
    clear H
    go_upto_region 3 with (fail)
    go_cut [12] (fun v12 wc => ∃ (kq : Nat) (x12_13 : Bool), v12 = .bool x12_13 ∧ Aside0 (rdata_Check.j1 kq x12_13 a0_0 a0_1 a0_2 a0_3 l0_4 l0_5 l0_6 = some r) ∧ Aside0 (kq ≤ kj1) ∧ Aside0 (wc.heap[gb157]? = some (.cells #[.string a0_0, .int .u16 a0_1, .int .u16 a0_2, .int .u32 a0_3, (.slice A0_4 l0_4.length c0_4), (.slice A0_5 l0_5.length c0_5), (.slice A0_6 l0_6.length c0_6)] 27 (0, 0))) ∧ Aside0 (Below w.heap.size w wc))
    case first =>
     have H := HC14.out
     clear HC14
     replace H := Option.bind_eq_some_iff.mp H
     obtain ⟨t160, A150, H⟩ := H
     replace H : (if t160 = true then ((rdata_size.f kj1 a0_0 a0_1 a0_2 a0_3 l0_4 l0_5 l0_6).bind fun t161 => (if t161 > 131070 then (rdata_Check.j1 kj1 true a0_0 a0_1 a0_2 a0_3 l0_4 l0_5 l0_6) else ((rdata_plain.f kj1 a0_0 a0_1 a0_2 a0_3 l0_4 l0_5 l0_6).bind fun t162 => (rdata_Check.j1 kj1 (decide ((t162.length : Int) > 65535)) a0_0 a0_1 a0_2 a0_3 l0_4 l0_5 l0_6)))) else (rdata_Check.j1 kj1 true a0_0 a0_1 a0_2 a0_3 l0_4 l0_5 l0_6)) = some r := H
     have A15 := Aside0.mk A150
     clear A150
     by_cases c16 : t160 = true
     ·
      subst c16
      have H1 : ((rdata_size.f kj1 a0_0 a0_1 a0_2 a0_3 l0_4 l0_5 l0_6).bind fun t161 => (if t161 > 131070 then (rdata_Check.j1 kj1 true a0_0 a0_1 a0_2 a0_3 l0_4 l0_5 l0_6) else ((rdata_plain.f kj1 a0_0 a0_1 a0_2 a0_3 l0_4 l0_5 l0_6).bind fun t162 => (rdata_Check.j1 kj1 (decide ((t162.length : Int) > 65535)) a0_0 a0_1 a0_2 a0_3 l0_4 l0_5 l0_6)))) = some r := by rw [if_pos rfl] at H; exact H
      clear H
      have H := H1
      clear H1
      replace H := Option.bind_eq_some_iff.mp H
      obtain ⟨t161, A170, H⟩ := H
      replace H : (if t161 > 131070 then (rdata_Check.j1 kj1 true a0_0 a0_1 a0_2 a0_3 l0_4 l0_5 l0_6) else ((rdata_plain.f kj1 a0_0 a0_1 a0_2 a0_3 l0_4 l0_5 l0_6).bind fun t162 => (rdata_Check.j1 kj1 (decide ((t162.length : Int) > 65535)) a0_0 a0_1 a0_2 a0_3 l0_4 l0_5 l0_6))) = some r := H
      have A17 := Aside0.mk A170
      clear A170
      by_cases c18 : t161 > 131070
      ·
       rw [if_pos c18] at H
       have c18b0 : decide (131070 < t161) = true := decide_eq_true c18
       clear c18
       (first | rw [c18b0] | rw [c18b1] | (simp only [i64_w, i32_w]; rw [c18b0]) | skip)
       have H' := Aside0.mk H
       clear H
       have hcz19_0 : wc.cell? ⟨gb157, 0, none⟩ = some (.string a0_0) := (blk_cell BK157.out 0).trans rfl
       have hcz19_1 : wc.cell? ⟨gb157, 1, none⟩ = some (.int .u16 a0_1) := (blk_cell BK157.out 1).trans rfl
       have hcz19_2 : wc.cell? ⟨gb157, 2, none⟩ = some (.int .u16 a0_2) := (blk_cell BK157.out 2).trans rfl
       have hcz19_3 : wc.cell? ⟨gb157, 3, none⟩ = some (.int .u32 a0_3) := (blk_cell BK157.out 3).trans rfl
       have hcz19_4 : wc.cell? ⟨gb157, 4, none⟩ = some (.slice A0_4 l0_4.length c0_4) := (blk_cell BK157.out 4).trans rfl
       have hcz19_5 : wc.cell? ⟨gb157, 5, none⟩ = some (.slice A0_5 l0_5.length c0_5) := (blk_cell BK157.out 5).trans rfl
       have hcz19_6 : wc.cell? ⟨gb157, 6, none⟩ = some (.slice A0_6 l0_6.length c0_6) := (blk_cell BK157.out 6).trans rfl
       have hfz19_0 := blk_frozen BK157.out 0
       have hfz19_1 := blk_frozen BK157.out 1
       have hfz19_2 := blk_frozen BK157.out 2
       have hfz19_3 := blk_frozen BK157.out 3
       have hfz19_4 := blk_frozen BK157.out 4
       have hfz19_5 := blk_frozen BK157.out 5
       have hfz19_6 := blk_frozen BK157.out 6
       go_wp2_with (first | ((with_reducible refine gate_callee (f := 24) rfl ?_); refine goesL_ (some 14) rfl rfl Try.func24 (by kernel_rfl) rfl #[.agg #[.string a0_0, .int .u16 a0_1, .int .u16 a0_2, .int .u32 a0_3, .slice A0_4 l0_4.length c0_4, .slice A0_5 l0_5.length c0_5, .slice A0_6 l0_6.length c0_6]] rfl (by (try simp only [List.map_toArray, List.map_cons, List.map_nil]); first | done | rfl | (simp only [List.length_drop, List.length_take]; rfl)) ?_; (with_reducible refine (rdata_shaped.calls kj1 a0_0 a0_1 a0_2 a0_3 _ _ l0_4 _ _ l0_5 _ _ l0_6 true _ ?side1 ?side2 ?side3 ?side4 ?side5 ?side6 A15.out).mono ?_); (case side1 => repeat (first | exact (Kd.C_below HR0_4.out HB.out) | (with_reducible refine Kd.C_alloc ?_ _) | (with_reducible refine Kd.C_drewN ?_ _) | (with_reducible refine Kd.C_drew ?_))); (case side2 => exact HC0_4.out); (case side3 => repeat (first | exact (Kd.C_below HR0_5.out HB.out) | (with_reducible refine Kd.C_alloc ?_ _) | (with_reducible refine Kd.C_drewN ?_ _) | (with_reducible refine Kd.C_drew ?_))); (case side4 => exact HC0_5.out); (case side5 => repeat (first | exact (Kd.C_below HR0_6.out HB.out) | (with_reducible refine Kd.C_alloc ?_ _) | (with_reducible refine Kd.C_drewN ?_ _) | (with_reducible refine Kd.C_drew ?_))); (case side6 => exact HC0_6.out); rintro e w20 ⟨rfl, hb⟩; refine ⟨_, rfl, ?_⟩; have n0_ := Aside0.mk (blk_below (g := gb157) (o := .cells #[.string a0_0, .int .u16 a0_1, .int .u16 a0_2, .int .u32 a0_3, .slice A0_4 l0_4.length c0_4, .slice A0_5 l0_5.length c0_5, .slice A0_6 l0_6.length c0_6] 27 (0, 0)) (by (with_reducible repeat (first | refine blk_drewN ?_ _ | refine blk_drew ?_ | refine blk_alloc ?_ _)); exact BK157.out) hb); have n1_ := Aside0.mk (below_step (by repeat (first | (with_reducible first | exact HB.out | apply below_alloc | apply pw_below_drewN | apply below_drew1 | refine below_set ?_ GE157.out) | exact HB.out)) hb); clear BK157; clear HB; have BK157 := n0_; have HB := n1_; clear n0_ n1_; (try clear hb); (try clear hb2); (try clear hk); (try clear hi); have hcz21_0 : w20.cell? ⟨gb157, 0, none⟩ = some (.string a0_0) := (blk_cell BK157.out 0).trans rfl; have hcz21_1 : w20.cell? ⟨gb157, 1, none⟩ = some (.int .u16 a0_1) := (blk_cell BK157.out 1).trans rfl; have hcz21_2 : w20.cell? ⟨gb157, 2, none⟩ = some (.int .u16 a0_2) := (blk_cell BK157.out 2).trans rfl; have hcz21_3 : w20.cell? ⟨gb157, 3, none⟩ = some (.int .u32 a0_3) := (blk_cell BK157.out 3).trans rfl; have hcz21_4 : w20.cell? ⟨gb157, 4, none⟩ = some (.slice A0_4 l0_4.length c0_4) := (blk_cell BK157.out 4).trans rfl; have hcz21_5 : w20.cell? ⟨gb157, 5, none⟩ = some (.slice A0_5 l0_5.length c0_5) := (blk_cell BK157.out 5).trans rfl; have hcz21_6 : w20.cell? ⟨gb157, 6, none⟩ = some (.slice A0_6 l0_6.length c0_6) := (blk_cell BK157.out 6).trans rfl; have hfz21_0 := blk_frozen BK157.out 0; have hfz21_1 := blk_frozen BK157.out 1; have hfz21_2 := blk_frozen BK157.out 2; have hfz21_3 := blk_frozen BK157.out 3; have hfz21_4 := blk_frozen BK157.out 4; have hfz21_5 := blk_frozen BK157.out 5; have hfz21_6 := blk_frozen BK157.out 6) | (go_at_call 25; (with_reducible refine (rdata_size.calls kj1 a0_0 a0_1 a0_2 a0_3 _ _ l0_4 _ _ l0_5 _ _ l0_6 t161 _ ?side1 ?side2 ?side3 ?side4 ?side5 ?side6 A17.out).mono ?_); (case side1 => repeat (first | exact (Kd.C_below HR0_4.out HB.out) | (with_reducible refine Kd.C_alloc ?_ _) | (with_reducible refine Kd.C_drewN ?_ _) | (with_reducible refine Kd.C_drew ?_))); (case side2 => exact HC0_4.out); (case side3 => repeat (first | exact (Kd.C_below HR0_5.out HB.out) | (with_reducible refine Kd.C_alloc ?_ _) | (with_reducible refine Kd.C_drewN ?_ _) | (with_reducible refine Kd.C_drew ?_))); (case side4 => exact HC0_5.out); (case side5 => repeat (first | exact (Kd.C_below HR0_6.out HB.out) | (with_reducible refine Kd.C_alloc ?_ _) | (with_reducible refine Kd.C_drewN ?_ _) | (with_reducible refine Kd.C_drew ?_))); (case side6 => exact HC0_6.out); rintro e w22 ⟨rfl, hb⟩; have n0_ := Aside0.mk (blk_below (g := gb157) (o := .cells #[.string a0_0, .int .u16 a0_1, .int .u16 a0_2, .int .u32 a0_3, .slice A0_4 l0_4.length c0_4, .slice A0_5 l0_5.length c0_5, .slice A0_6 l0_6.length c0_6] 27 (0, 0)) (by (with_reducible repeat (first | refine blk_drewN ?_ _ | refine blk_drew ?_ | refine blk_alloc ?_ _)); exact BK157.out) hb); have n1_ := Aside0.mk (below_step (by repeat (first | (with_reducible first | exact HB.out | apply below_alloc | apply pw_below_drewN | apply below_drew1 | refine below_set ?_ GE157.out) | exact HB.out)) hb); clear BK157; clear HB; have BK157 := n0_; have HB := n1_; clear n0_ n1_; (try clear hb); (try clear hb2); (try clear hk); (try clear hi)))
       go_meet
       case rel => exact ⟨_, (true), (by first | rfl | (simp; done) | (simp [*]; done)), H', ⟨by have := HJ1.out; first | omega | exact Nat.le_refl _⟩, ⟨by (with_reducible repeat (first | refine blk_drewN ?_ _ | refine blk_drew ?_ | refine blk_alloc ?_ _)); exact BK157.out⟩, ⟨by repeat (first | (with_reducible first | exact HB.out | apply below_alloc | apply pw_below_drewN | apply below_drew1 | refine below_set ?_ GE157.out) | exact HB.out)⟩⟩
      ·
       rw [if_neg c18] at H
       have c18b0 : decide (131070 < t161) = false := decide_eq_false c18
       clear c18
       (first | rw [c18b0] | rw [c18b1] | (simp only [i64_w, i32_w]; rw [c18b0]) | skip)
       replace H := Option.bind_eq_some_iff.mp H
       obtain ⟨t162, A230, H⟩ := H
       replace H : (rdata_Check.j1 kj1 (decide ((t162.length : Int) > 65535)) a0_0 a0_1 a0_2 a0_3 l0_4 l0_5 l0_6) = some r := H
       have A23 := Aside0.mk A230
       clear A230
       have H' := Aside0.mk H
       clear H
       have hcz24_0 : wc.cell? ⟨gb157, 0, none⟩ = some (.string a0_0) := (blk_cell BK157.out 0).trans rfl
       have hcz24_1 : wc.cell? ⟨gb157, 1, none⟩ = some (.int .u16 a0_1) := (blk_cell BK157.out 1).trans rfl
       have hcz24_2 : wc.cell? ⟨gb157, 2, none⟩ = some (.int .u16 a0_2) := (blk_cell BK157.out 2).trans rfl
       have hcz24_3 : wc.cell? ⟨gb157, 3, none⟩ = some (.int .u32 a0_3) := (blk_cell BK157.out 3).trans rfl
       have hcz24_4 : wc.cell? ⟨gb157, 4, none⟩ = some (.slice A0_4 l0_4.length c0_4) := (blk_cell BK157.out 4).trans rfl
       have hcz24_5 : wc.cell? ⟨gb157, 5, none⟩ = some (.slice A0_5 l0_5.length c0_5) := (blk_cell BK157.out 5).trans rfl
       have hcz24_6 : wc.cell? ⟨gb157, 6, none⟩ = some (.slice A0_6 l0_6.length c0_6) := (blk_cell BK157.out 6).trans rfl
       have hfz24_0 := blk_frozen BK157.out 0
       have hfz24_1 := blk_frozen BK157.out 1
       have hfz24_2 := blk_frozen BK157.out 2
       have hfz24_3 := blk_frozen BK157.out 3
       have hfz24_4 := blk_frozen BK157.out 4
       have hfz24_5 := blk_frozen BK157.out 5
       have hfz24_6 := blk_frozen BK157.out 6
       go_wp2_with (first | ((with_reducible refine gate_callee (f := 24) rfl ?_); refine goesL_ (some 14) rfl rfl Try.func24 (by kernel_rfl) rfl #[.agg #[.string a0_0, .int .u16 a0_1, .int .u16 a0_2, .int .u32 a0_3, .slice A0_4 l0_4.length c0_4, .slice A0_5 l0_5.length c0_5, .slice A0_6 l0_6.length c0_6]] rfl (by (try simp only [List.map_toArray, List.map_cons, List.map_nil]); first | done | rfl | (simp only [List.length_drop, List.length_take]; rfl)) ?_; (with_reducible refine (rdata_shaped.calls kj1 a0_0 a0_1 a0_2 a0_3 _ _ l0_4 _ _ l0_5 _ _ l0_6 true _ ?side1 ?side2 ?side3 ?side4 ?side5 ?side6 A15.out).mono ?_); (case side1 => repeat (first | exact (Kd.C_below HR0_4.out HB.out) | (with_reducible refine Kd.C_alloc ?_ _) | (with_reducible refine Kd.C_drewN ?_ _) | (with_reducible refine Kd.C_drew ?_))); (case side2 => exact HC0_4.out); (case side3 => repeat (first | exact (Kd.C_below HR0_5.out HB.out) | (with_reducible refine Kd.C_alloc ?_ _) | (with_reducible refine Kd.C_drewN ?_ _) | (with_reducible refine Kd.C_drew ?_))); (case side4 => exact HC0_5.out); (case side5 => repeat (first | exact (Kd.C_below HR0_6.out HB.out) | (with_reducible refine Kd.C_alloc ?_ _) | (with_reducible refine Kd.C_drewN ?_ _) | (with_reducible refine Kd.C_drew ?_))); (case side6 => exact HC0_6.out); rintro e w25 ⟨rfl, hb⟩; refine ⟨_, rfl, ?_⟩; have n0_ := Aside0.mk (blk_below (g := gb157) (o := .cells #[.string a0_0, .int .u16 a0_1, .int .u16 a0_2, .int .u32 a0_3, .slice A0_4 l0_4.length c0_4, .slice A0_5 l0_5.length c0_5, .slice A0_6 l0_6.length c0_6] 27 (0, 0)) (by (with_reducible repeat (first | refine blk_drewN ?_ _ | refine blk_drew ?_ | refine blk_alloc ?_ _)); exact BK157.out) hb); have n1_ := Aside0.mk (below_step (by repeat (first | (with_reducible first | exact HB.out | apply below_alloc | apply pw_below_drewN | apply below_drew1 | refine below_set ?_ GE157.out) | exact HB.out)) hb); clear BK157; clear HB; have BK157 := n0_; have HB := n1_; clear n0_ n1_; (try clear hb); (try clear hb2); (try clear hk); (try clear hi); have hcz26_0 : w25.cell? ⟨gb157, 0, none⟩ = some (.string a0_0) := (blk_cell BK157.out 0).trans rfl; have hcz26_1 : w25.cell? ⟨gb157, 1, none⟩ = some (.int .u16 a0_1) := (blk_cell BK157.out 1).trans rfl; have hcz26_2 : w25.cell? ⟨gb157, 2, none⟩ = some (.int .u16 a0_2) := (blk_cell BK157.out 2).trans rfl; have hcz26_3 : w25.cell? ⟨gb157, 3, none⟩ = some (.int .u32 a0_3) := (blk_cell BK157.out 3).trans rfl; have hcz26_4 : w25.cell? ⟨gb157, 4, none⟩ = some (.slice A0_4 l0_4.length c0_4) := (blk_cell BK157.out 4).trans rfl; have hcz26_5 : w25.cell? ⟨gb157, 5, none⟩ = some (.slice A0_5 l0_5.length c0_5) := (blk_cell BK157.out 5).trans rfl; have hcz26_6 : w25.cell? ⟨gb157, 6, none⟩ = some (.slice A0_6 l0_6.length c0_6) := (blk_cell BK157.out 6).trans rfl; have hfz26_0 := blk_frozen BK157.out 0; have hfz26_1 := blk_frozen BK157.out 1; have hfz26_2 := blk_frozen BK157.out 2; have hfz26_3 := blk_frozen BK157.out 3; have hfz26_4 := blk_frozen BK157.out 4; have hfz26_5 := blk_frozen BK157.out 5; have hfz26_6 := blk_frozen BK157.out 6) | (go_at_call 25; (with_reducible refine (rdata_size.calls kj1 a0_0 a0_1 a0_2 a0_3 _ _ l0_4 _ _ l0_5 _ _ l0_6 t161 _ ?side1 ?side2 ?side3 ?side4 ?side5 ?side6 A17.out).mono ?_); (case side1 => repeat (first | exact (Kd.C_below HR0_4.out HB.out) | (with_reducible refine Kd.C_alloc ?_ _) | (with_reducible refine Kd.C_drewN ?_ _) | (with_reducible refine Kd.C_drew ?_))); (case side2 => exact HC0_4.out); (case side3 => repeat (first | exact (Kd.C_below HR0_5.out HB.out) | (with_reducible refine Kd.C_alloc ?_ _) | (with_reducible refine Kd.C_drewN ?_ _) | (with_reducible refine Kd.C_drew ?_))); (case side4 => exact HC0_5.out); (case side5 => repeat (first | exact (Kd.C_below HR0_6.out HB.out) | (with_reducible refine Kd.C_alloc ?_ _) | (with_reducible refine Kd.C_drewN ?_ _) | (with_reducible refine Kd.C_drew ?_))); (case side6 => exact HC0_6.out); rintro e w27 ⟨rfl, hb⟩; have n0_ := Aside0.mk (blk_below (g := gb157) (o := .cells #[.string a0_0, .int .u16 a0_1, .int .u16 a0_2, .int .u32 a0_3, .slice A0_4 l0_4.length c0_4, .slice A0_5 l0_5.length c0_5, .slice A0_6 l0_6.length c0_6] 27 (0, 0)) (by (with_reducible repeat (first | refine blk_drewN ?_ _ | refine blk_drew ?_ | refine blk_alloc ?_ _)); exact BK157.out) hb); have n1_ := Aside0.mk (below_step (by repeat (first | (with_reducible first | exact HB.out | apply below_alloc | apply pw_below_drewN | apply below_drew1 | refine below_set ?_ GE157.out) | exact HB.out)) hb); clear BK157; clear HB; have BK157 := n0_; have HB := n1_; clear n0_ n1_; (try clear hb); (try clear hb2); (try clear hk); (try clear hi); have hcz28_0 : w27.cell? ⟨gb157, 0, none⟩ = some (.string a0_0) := (blk_cell BK157.out 0).trans rfl; have hcz28_1 : w27.cell? ⟨gb157, 1, none⟩ = some (.int .u16 a0_1) := (blk_cell BK157.out 1).trans rfl; have hcz28_2 : w27.cell? ⟨gb157, 2, none⟩ = some (.int .u16 a0_2) := (blk_cell BK157.out 2).trans rfl; have hcz28_3 : w27.cell? ⟨gb157, 3, none⟩ = some (.int .u32 a0_3) := (blk_cell BK157.out 3).trans rfl; have hcz28_4 : w27.cell? ⟨gb157, 4, none⟩ = some (.slice A0_4 l0_4.length c0_4) := (blk_cell BK157.out 4).trans rfl; have hcz28_5 : w27.cell? ⟨gb157, 5, none⟩ = some (.slice A0_5 l0_5.length c0_5) := (blk_cell BK157.out 5).trans rfl; have hcz28_6 : w27.cell? ⟨gb157, 6, none⟩ = some (.slice A0_6 l0_6.length c0_6) := (blk_cell BK157.out 6).trans rfl; have hfz28_0 := blk_frozen BK157.out 0; have hfz28_1 := blk_frozen BK157.out 1; have hfz28_2 := blk_frozen BK157.out 2; have hfz28_3 := blk_frozen BK157.out 3; have hfz28_4 := blk_frozen BK157.out 4; have hfz28_5 := blk_frozen BK157.out 5; have hfz28_6 := blk_frozen BK157.out 6) | (go_at_call 26; (with_reducible refine (rdata_plain.calls kj1 a0_0 a0_1 a0_2 a0_3 _ _ l0_4 _ _ l0_5 _ _ l0_6 t162 _ ?side1 ?side2 ?side3 ?side4 ?side5 ?side6 A23.out).mono ?_); (case side1 => repeat (first | exact (Kd.C_below HR0_4.out HB.out) | (with_reducible refine Kd.C_alloc ?_ _) | (with_reducible refine Kd.C_drewN ?_ _) | (with_reducible refine Kd.C_drew ?_))); (case side2 => exact HC0_4.out); (case side3 => repeat (first | exact (Kd.C_below HR0_5.out HB.out) | (with_reducible refine Kd.C_alloc ?_ _) | (with_reducible refine Kd.C_drewN ?_ _) | (with_reducible refine Kd.C_drew ?_))); (case side4 => exact HC0_5.out); (case side5 => repeat (first | exact (Kd.C_below HR0_6.out HB.out) | (with_reducible refine Kd.C_alloc ?_ _) | (with_reducible refine Kd.C_drewN ?_ _) | (with_reducible refine Kd.C_drew ?_))); (case side6 => exact HC0_6.out); rintro e w29 ⟨v163, rfl, ho0, hb⟩; have n0_ := Aside0.mk (Kd.R_lower ho0 (below_size (by repeat (first | (with_reducible first | exact HB.out | apply below_alloc | apply pw_below_drewN | apply below_drew1 | refine below_set ?_ GE157.out) | exact HB.out)))); have n1_ := Aside0.mk (blk_below (g := gb157) (o := .cells #[.string a0_0, .int .u16 a0_1, .int .u16 a0_2, .int .u32 a0_3, .slice A0_4 l0_4.length c0_4, .slice A0_5 l0_5.length c0_5, .slice A0_6 l0_6.length c0_6] 27 (0, 0)) (by (with_reducible repeat (first | refine blk_drewN ?_ _ | refine blk_drew ?_ | refine blk_alloc ?_ _)); exact BK157.out) hb); have n2_ := Aside0.mk (below_step (by repeat (first | (with_reducible first | exact HB.out | apply below_alloc | apply pw_below_drewN | apply below_drew1 | refine below_set ?_ GE157.out) | exact HB.out)) hb); clear BK157; clear HB; have HO164 := n0_; have BK157 := n1_; have HB := n2_; clear n0_ n1_ n2_; (try clear hb); (try clear hb2); (try clear hk); (try clear hi); (try clear ho0); obtain ⟨Ao30, co30, eo30⟩ := Kd.R_slice HO164.out; subst eo30))
       go_meet
       case rel => exact ⟨_, (decide ((t162.length : Int) > 65535)), (by first | rfl | (simp; done) | (simp [*]; done)), H', ⟨by have := HJ1.out; first | omega | exact Nat.le_refl _⟩, ⟨by (with_reducible repeat (first | refine blk_drewN ?_ _ | refine blk_drew ?_ | refine blk_alloc ?_ _)); exact BK157.out⟩, ⟨by repeat (first | (with_reducible first | exact HB.out | apply below_alloc | apply pw_below_drewN | apply below_drew1 | refine below_set ?_ GE157.out) | exact HB.out)⟩⟩
     ·
      replace c16 := Bool.eq_false_iff.mpr c16
      subst c16
      have H1 : (rdata_Check.j1 kj1 true a0_0 a0_1 a0_2 a0_3 l0_4 l0_5 l0_6) = some r := by rw [if_neg (show ¬ (false = true) by decide)] at H; exact H
      clear H
      have H := H1
      clear H1
      have H' := Aside0.mk H
      clear H
      have hcz31_0 : wc.cell? ⟨gb157, 0, none⟩ = some (.string a0_0) := (blk_cell BK157.out 0).trans rfl
      have hcz31_1 : wc.cell? ⟨gb157, 1, none⟩ = some (.int .u16 a0_1) := (blk_cell BK157.out 1).trans rfl
      have hcz31_2 : wc.cell? ⟨gb157, 2, none⟩ = some (.int .u16 a0_2) := (blk_cell BK157.out 2).trans rfl
      have hcz31_3 : wc.cell? ⟨gb157, 3, none⟩ = some (.int .u32 a0_3) := (blk_cell BK157.out 3).trans rfl
      have hcz31_4 : wc.cell? ⟨gb157, 4, none⟩ = some (.slice A0_4 l0_4.length c0_4) := (blk_cell BK157.out 4).trans rfl
      have hcz31_5 : wc.cell? ⟨gb157, 5, none⟩ = some (.slice A0_5 l0_5.length c0_5) := (blk_cell BK157.out 5).trans rfl
      have hcz31_6 : wc.cell? ⟨gb157, 6, none⟩ = some (.slice A0_6 l0_6.length c0_6) := (blk_cell BK157.out 6).trans rfl
      have hfz31_0 := blk_frozen BK157.out 0
      have hfz31_1 := blk_frozen BK157.out 1
      have hfz31_2 := blk_frozen BK157.out 2
      have hfz31_3 := blk_frozen BK157.out 3
      have hfz31_4 := blk_frozen BK157.out 4
      have hfz31_5 := blk_frozen BK157.out 5
      have hfz31_6 := blk_frozen BK157.out 6
      go_wp2_with (first | ((with_reducible refine gate_callee (f := 24) rfl ?_); refine goesL_ (some 14) rfl rfl Try.func24 (by kernel_rfl) rfl #[.agg #[.string a0_0, .int .u16 a0_1, .int .u16 a0_2, .int .u32 a0_3, .slice A0_4 l0_4.length c0_4, .slice A0_5 l0_5.length c0_5, .slice A0_6 l0_6.length c0_6]] rfl (by (try simp only [List.map_toArray, List.map_cons, List.map_nil]); first | done | rfl | (simp only [List.length_drop, List.length_take]; rfl)) ?_; (with_reducible refine (rdata_shaped.calls kj1 a0_0 a0_1 a0_2 a0_3 _ _ l0_4 _ _ l0_5 _ _ l0_6 false _ ?side1 ?side2 ?side3 ?side4 ?side5 ?side6 A15.out).mono ?_); (case side1 => repeat (first | exact (Kd.C_below HR0_4.out HB.out) | (with_reducible refine Kd.C_alloc ?_ _) | (with_reducible refine Kd.C_drewN ?_ _) | (with_reducible refine Kd.C_drew ?_))); (case side2 => exact HC0_4.out); (case side3 => repeat (first | exact (Kd.C_below HR0_5.out HB.out) | (with_reducible refine Kd.C_alloc ?_ _) | (with_reducible refine Kd.C_drewN ?_ _) | (with_reducible refine Kd.C_drew ?_))); (case side4 => exact HC0_5.out); (case side5 => repeat (first | exact (Kd.C_below HR0_6.out HB.out) | (with_reducible refine Kd.C_alloc ?_ _) | (with_reducible refine Kd.C_drewN ?_ _) | (with_reducible refine Kd.C_drew ?_))); (case side6 => exact HC0_6.out); rintro e w32 ⟨rfl, hb⟩; refine ⟨_, rfl, ?_⟩; have n0_ := Aside0.mk (blk_below (g := gb157) (o := .cells #[.string a0_0, .int .u16 a0_1, .int .u16 a0_2, .int .u32 a0_3, .slice A0_4 l0_4.length c0_4, .slice A0_5 l0_5.length c0_5, .slice A0_6 l0_6.length c0_6] 27 (0, 0)) (by (with_reducible repeat (first | refine blk_drewN ?_ _ | refine blk_drew ?_ | refine blk_alloc ?_ _)); exact BK157.out) hb); have n1_ := Aside0.mk (below_step (by repeat (first | (with_reducible first | exact HB.out | apply below_alloc | apply pw_below_drewN | apply below_drew1 | refine below_set ?_ GE157.out) | exact HB.out)) hb); clear BK157; clear HB; have BK157 := n0_; have HB := n1_; clear n0_ n1_; (try clear hb); (try clear hb2); (try clear hk); (try clear hi)))
      go_meet
      case rel => exact ⟨_, (true), (by first | rfl | (simp; done) | (simp [*]; done)), H', ⟨by have := HJ1.out; first | omega | exact Nat.le_refl _⟩, ⟨by (with_reducible repeat (first | refine blk_drewN ?_ _ | refine blk_drew ?_ | refine blk_alloc ?_ _)); exact BK157.out⟩, ⟨by repeat (first | (with_reducible first | exact HB.out | apply below_alloc | apply pw_below_drewN | apply below_drew1 | refine below_set ?_ GE157.out) | exact HB.out)⟩⟩
    case rest =>
     clear HC14
     try clear c1
     try clear c2
     try clear p2
     try clear c5
     try clear c11
     try clear c13
     try clear c16
     try clear c18
     try clear c18b0
     try clear c18b1
     try clear c21
     try clear c24
     try clear hcz11_0
     try clear hcz11_1
     try clear hcz11_2
     try clear hcz11_3
     try clear hcz11_4
     try clear hcz11_5
     try clear hcz11_6
     try clear hcz19_0
     try clear hcz19_1
     try clear hcz19_2
     try clear hcz19_3
     try clear hcz19_4
     try clear hcz19_5
     try clear hcz19_6
     try clear hcz21_0
     try clear hcz21_1
     try clear hcz21_2
     try clear hcz21_3
     try clear hcz21_4
     try clear hcz21_5
     try clear hcz21_6
     try clear hcz24_0
     try clear hcz24_1
     try clear hcz24_2
     try clear hcz24_3
     try clear hcz24_4
     try clear hcz24_5
     try clear hcz24_6
     try clear hcz26_0
     try clear hcz26_1
     try clear hcz26_2
     try clear hcz26_3
     try clear hcz26_4
     try clear hcz26_5
     try clear hcz26_6
     try clear hcz28_0
     try clear hcz28_1
     try clear hcz28_2
     try clear hcz28_3
     try clear hcz28_4
     try clear hcz28_5
     try clear hcz28_6
     try clear hcz31_0
     try clear hcz31_1
     try clear hcz31_2
     try clear hcz31_3
     try clear hcz31_4
     try clear hcz31_5
     try clear hcz31_6
     try clear hcz7_0
     try clear hcz7_1
     try clear hcz7_2
     try clear hcz7_3
     try clear hcz7_4
     try clear hcz7_5
     try clear hcz7_6
     try clear hcz9_0
     try clear hcz9_1
     try clear hcz9_2
     try clear hcz9_3
     try clear hcz9_4
     try clear hcz9_5
     try clear hcz9_6
     try clear hfz11_0
     try clear hfz11_1
     try clear hfz11_2
     try clear hfz11_3
     try clear hfz11_4
     try clear hfz11_5
     try clear hfz11_6
     try clear hfz19_0
     try clear hfz19_1
     try clear hfz19_2
     try clear hfz19_3
     try clear hfz19_4
     try clear hfz19_5
     try clear hfz19_6
     try clear hfz21_0
     try clear hfz21_1
     try clear hfz21_2
     try clear hfz21_3
     try clear hfz21_4
     try clear hfz21_5
     try clear hfz21_6
     try clear hfz24_0
     try clear hfz24_1
     try clear hfz24_2
     try clear hfz24_3
     try clear hfz24_4
     try clear hfz24_5
     try clear hfz24_6
     try clear hfz26_0
     try clear hfz26_1
     try clear hfz26_2
     try clear hfz26_3
     try clear hfz26_4
     try clear hfz26_5
     try clear hfz26_6
     try clear hfz28_0
     try clear hfz28_1
     try clear hfz28_2
     try clear hfz28_3
     try clear hfz28_4
     try clear hfz28_5
     try clear hfz28_6
     try clear hfz31_0
     try clear hfz31_1
     try clear hfz31_2
     try clear hfz31_3
     try clear hfz31_4
     try clear hfz31_5
     try clear hfz31_6
     try clear hfz7_0
     try clear hfz7_1
     try clear hfz7_2
     try clear hfz7_3
     try clear hfz7_4
     try clear hfz7_5
     try clear hfz7_6
     try clear hfz9_0
     try clear hfz9_1
     try clear hfz9_2
     try clear hfz9_3
     try clear hfz9_4
     try clear hfz9_5
     try clear hfz9_6
     try clear p2
     obtain ⟨kq, x12_13, rfl, HA, HJ13, BK157, HB⟩ := hcut
     cases kq with
     | zero => exact absurd HA.out (by simp [rdata_Check.j1])
     | succ kj13 =>
      have H := HA.out
      clear HA
      simp only [rdata_Check.j1] at H
      by_cases c33 : x12_13 = true
      ·
       subst c33
       have H1 : (some 50) = some r := by rw [if_pos rfl] at H; exact H
       clear H
       have H := H1
       clear H1
       obtain rfl := Option.some.inj H
       go_wp2
       go_ret
       exact ⟨by first | rfl | (simp [errW_none, errW_some] <;> rfl) | (simp [*, errW_none, errW_some] <;> rfl), by repeat (first | (with_reducible first | exact HB.out | apply below_alloc | apply pw_below_drewN | apply below_drew1 | refine below_set ?_ GE157.out) | exact HB.out)⟩
      ·
       replace c33 := Bool.eq_false_iff.mpr c33
       subst c33
       have H1 : (if a0_3 > 2147483647 then (if a0_1 = 41 then (some 0) else (some 1)) else (some 0)) = some r := by rw [if_neg (show ¬ (false = true) by decide)] at H; exact H
       clear H
       have H := H1
       clear H1
       by_cases c34 : a0_3 > 2147483647
       ·
        rw [if_pos c34] at H
        have c34b0 : decide (2147483647 < a0_3) = true := decide_eq_true c34
        clear c34
        by_cases c35 : a0_1 = 41
        ·
         rw [if_pos c35] at H
         have c35b0 : (a0_1 == 41) = true := beq_iff_eq.mpr c35
         have c35b1 : (a0_1 != 41) = false := bne_eq_false_iff_eq.mpr c35
         clear c35
         obtain rfl := Option.some.inj H
         have hcz36_0 : wc.cell? ⟨gb157, 0, none⟩ = some (.string a0_0) := (blk_cell BK157.out 0).trans rfl
         have hcz36_1 : wc.cell? ⟨gb157, 1, none⟩ = some (.int .u16 a0_1) := (blk_cell BK157.out 1).trans rfl
         have hcz36_2 : wc.cell? ⟨gb157, 2, none⟩ = some (.int .u16 a0_2) := (blk_cell BK157.out 2).trans rfl
         have hcz36_3 : wc.cell? ⟨gb157, 3, none⟩ = some (.int .u32 a0_3) := (blk_cell BK157.out 3).trans rfl
         have hcz36_4 : wc.cell? ⟨gb157, 4, none⟩ = some (.slice A0_4 l0_4.length c0_4) := (blk_cell BK157.out 4).trans rfl
         have hcz36_5 : wc.cell? ⟨gb157, 5, none⟩ = some (.slice A0_5 l0_5.length c0_5) := (blk_cell BK157.out 5).trans rfl
         have hcz36_6 : wc.cell? ⟨gb157, 6, none⟩ = some (.slice A0_6 l0_6.length c0_6) := (blk_cell BK157.out 6).trans rfl
         have hfz36_0 := blk_frozen BK157.out 0
         have hfz36_1 := blk_frozen BK157.out 1
         have hfz36_2 := blk_frozen BK157.out 2
         have hfz36_3 := blk_frozen BK157.out 3
         have hfz36_4 := blk_frozen BK157.out 4
         have hfz36_5 := blk_frozen BK157.out 5
         have hfz36_6 := blk_frozen BK157.out 6
         go_wp2
         go_ret
         exact ⟨by first | rfl | (simp [errW_none, errW_some] <;> rfl) | (simp [*, errW_none, errW_some] <;> rfl), by repeat (first | (with_reducible first | exact HB.out | apply below_alloc | apply pw_below_drewN | apply below_drew1 | refine below_set ?_ GE157.out) | exact HB.out)⟩
        ·
         rw [if_neg c35] at H
         have c35b0 : (a0_1 == 41) = false := beq_eq_false_iff_ne.mpr c35
         have c35b1 : (a0_1 != 41) = true := bne_iff_ne.mpr c35
         obtain rfl := Option.some.inj H
         have hcz37_0 : wc.cell? ⟨gb157, 0, none⟩ = some (.string a0_0) := (blk_cell BK157.out 0).trans rfl
         have hcz37_1 : wc.cell? ⟨gb157, 1, none⟩ = some (.int .u16 a0_1) := (blk_cell BK157.out 1).trans rfl
         have hcz37_2 : wc.cell? ⟨gb157, 2, none⟩ = some (.int .u16 a0_2) := (blk_cell BK157.out 2).trans rfl
         have hcz37_3 : wc.cell? ⟨gb157, 3, none⟩ = some (.int .u32 a0_3) := (blk_cell BK157.out 3).trans rfl
         have hcz37_4 : wc.cell? ⟨gb157, 4, none⟩ = some (.slice A0_4 l0_4.length c0_4) := (blk_cell BK157.out 4).trans rfl
         have hcz37_5 : wc.cell? ⟨gb157, 5, none⟩ = some (.slice A0_5 l0_5.length c0_5) := (blk_cell BK157.out 5).trans rfl
         have hcz37_6 : wc.cell? ⟨gb157, 6, none⟩ = some (.slice A0_6 l0_6.length c0_6) := (blk_cell BK157.out 6).trans rfl
         have hfz37_0 := blk_frozen BK157.out 0
         have hfz37_1 := blk_frozen BK157.out 1
         have hfz37_2 := blk_frozen BK157.out 2
         have hfz37_3 := blk_frozen BK157.out 3
         have hfz37_4 := blk_frozen BK157.out 4
         have hfz37_5 := blk_frozen BK157.out 5
         have hfz37_6 := blk_frozen BK157.out 6
         go_wp2
         go_ret
         exact ⟨by first | rfl | (simp [errW_none, errW_some] <;> rfl) | (simp [*, errW_none, errW_some] <;> rfl), by repeat (first | (with_reducible first | exact HB.out | apply below_alloc | apply pw_below_drewN | apply below_drew1 | refine below_set ?_ GE157.out) | exact HB.out)⟩
       ·
        rw [if_neg c34] at H
        have c34b0 : decide (2147483647 < a0_3) = false := decide_eq_false c34
        clear c34
        obtain rfl := Option.some.inj H
        have hcz38_0 : wc.cell? ⟨gb157, 0, none⟩ = some (.string a0_0) := (blk_cell BK157.out 0).trans rfl
        have hcz38_1 : wc.cell? ⟨gb157, 1, none⟩ = some (.int .u16 a0_1) := (blk_cell BK157.out 1).trans rfl
        have hcz38_2 : wc.cell? ⟨gb157, 2, none⟩ = some (.int .u16 a0_2) := (blk_cell BK157.out 2).trans rfl
        have hcz38_3 : wc.cell? ⟨gb157, 3, none⟩ = some (.int .u32 a0_3) := (blk_cell BK157.out 3).trans rfl
        have hcz38_4 : wc.cell? ⟨gb157, 4, none⟩ = some (.slice A0_4 l0_4.length c0_4) := (blk_cell BK157.out 4).trans rfl
        have hcz38_5 : wc.cell? ⟨gb157, 5, none⟩ = some (.slice A0_5 l0_5.length c0_5) := (blk_cell BK157.out 5).trans rfl
        have hcz38_6 : wc.cell? ⟨gb157, 6, none⟩ = some (.slice A0_6 l0_6.length c0_6) := (blk_cell BK157.out 6).trans rfl
        have hfz38_0 := blk_frozen BK157.out 0
        have hfz38_1 := blk_frozen BK157.out 1
        have hfz38_2 := blk_frozen BK157.out 2
        have hfz38_3 := blk_frozen BK157.out 3
        have hfz38_4 := blk_frozen BK157.out 4
        have hfz38_5 := blk_frozen BK157.out 5
        have hfz38_6 := blk_frozen BK157.out 6
        go_wp2
        go_ret
        exact ⟨by first | rfl | (simp [errW_none, errW_some] <;> rfl) | (simp [*, errW_none, errW_some] <;> rfl), by repeat (first | (with_reducible first | exact HB.out | apply below_alloc | apply pw_below_drewN | apply below_drew1 | refine below_set ?_ GE157.out) | exact HB.out)⟩

end Go.Proofs.Ytebnbjnkameicaa.Mine
