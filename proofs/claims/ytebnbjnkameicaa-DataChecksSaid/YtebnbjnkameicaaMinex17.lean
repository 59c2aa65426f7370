-- Written by this repo's own printer (wip/print), which builds on the kit's.
import Derived.Test.YtebnbjnkameicaaMinex0
import Derived.Test.YtebnbjnkameicaaMinex15
namespace Go.Proofs.Ytebnbjnkameicaa.Mine
open Go.RowKit Go.Proofs.YtebnbjnkameicaaW.PrintWords Go.Proofs.YtebnbjnkameicaaW.PrintLast Go.Proofs.YtebnbjnkameicaaW.PrintMore
attribute [local go_sem] max2_int min2_int max_two min_two max_three min_three max_four min_four   -- for this text's walks alone
set_option linter.unusedVariables false
set_option linter.unusedSimpArgs false

/-! ### nuncioref05_shaped: function 28 -/
mutual
def nuncioref05_shaped.j0 : Nat → Int → Bool → ByteArray → Int → Int → Int → List ByteArray → List Int → List ByteArray → Option (Bool)
 | 0, _, _, _, _, _, _, _, _, _ => none
 | k + 1, x5, x26, x230000, x230001, x230002, x230003, x230004, x230005, x230006 => if x26 = true then (some false) else (if x230001 = 16 then (if (x230006.length : Int) = 0 then (nuncioref05_shaped.j1 k true x230000 x230001 x230002 x230003 x230004 x230005 x230006) else (nuncioref05_shaped.j1 k false x230000 x230001 x230002 x230003 x230004 x230005 x230006)) else (nuncioref05_shaped.j1 k ((x230006.length : Int) != x5) x230000 x230001 x230002 x230003 x230004 x230005 x230006))
def nuncioref05_shaped.j1 : Nat → Bool → ByteArray → Int → Int → Int → List ByteArray → List Int → List ByteArray → Option (Bool)
 | 0, _, _, _, _, _, _, _, _ => none
 | k + 1, x47, x230000, x230001, x230002, x230003, x230004, x230005, x230006 => if x47 = true then (some false) else (nuncioref05_shaped.l0 k 0 x230000 x230001 x230002 x230003 x230004 x230005 x230006)
def nuncioref05_shaped.l0 : Nat → Int → ByteArray → Int → Int → Int → List ByteArray → List Int → List ByteArray → Option (Bool)
 | 0, _, _, _, _, _, _, _, _ => none
 | k + 1, x6, x230000, x230001, x230002, x230003, x230004, x230005, x230006 => if x6 < (x230005.length : Int) then (if x230001 = 6 then (nuncioref05_shaped.l0 k (wrap64 (x6 + 1)) x230000 x230001 x230002 x230003 x230004 x230005 x230006) else (if 0 ≤ x6 then (if (rd x230005 x6) > 65535 then (some false) else (nuncioref05_shaped.l0 k (wrap64 (x6 + 1)) x230000 x230001 x230002 x230003 x230004 x230005 x230006)) else (none))) else (nuncioref05_shaped.l1 k 0 x230000 x230001 x230002 x230003 x230004 x230005 x230006)
def nuncioref05_shaped.l1 : Nat → Int → ByteArray → Int → Int → Int → List ByteArray → List Int → List ByteArray → Option (Bool)
 | 0, _, _, _, _, _, _, _, _ => none
 | k + 1, x7, x230000, x230001, x230002, x230003, x230004, x230005, x230006 => if x7 < (x230006.length : Int) then (if x230001 = 16 then (if 0 ≤ x7 then (if ((rdOf ByteArray.empty x230006 x7).size : Int) > 255 then (some false) else (if x230001 = 1 then (if ((rdOf ByteArray.empty x230006 x7).size : Int) = 4 then (if x230001 = 28 then (if ((rdOf ByteArray.empty x230006 x7).size : Int) = 16 then (nuncioref05_shaped.l1 k (wrap64 (x7 + 1)) x230000 x230001 x230002 x230003 x230004 x230005 x230006) else (some false)) else (nuncioref05_shaped.l1 k (wrap64 (x7 + 1)) x230000 x230001 x230002 x230003 x230004 x230005 x230006)) else (some false)) else (if x230001 = 28 then (if ((rdOf ByteArray.empty x230006 x7).size : Int) = 16 then (nuncioref05_shaped.l1 k (wrap64 (x7 + 1)) x230000 x230001 x230002 x230003 x230004 x230005 x230006) else (some false)) else (nuncioref05_shaped.l1 k (wrap64 (x7 + 1)) x230000 x230001 x230002 x230003 x230004 x230005 x230006)))) else (none)) else (if x230001 = 1 then (if 0 ≤ x7 then (if ((rdOf ByteArray.empty x230006 x7).size : Int) = 4 then (if x230001 = 28 then (if ((rdOf ByteArray.empty x230006 x7).size : Int) = 16 then (nuncioref05_shaped.l1 k (wrap64 (x7 + 1)) x230000 x230001 x230002 x230003 x230004 x230005 x230006) else (some false)) else (nuncioref05_shaped.l1 k (wrap64 (x7 + 1)) x230000 x230001 x230002 x230003 x230004 x230005 x230006)) else (some false)) else (none)) else (if x230001 = 28 then (if 0 ≤ x7 then (if ((rdOf ByteArray.empty x230006 x7).size : Int) = 16 then (nuncioref05_shaped.l1 k (wrap64 (x7 + 1)) x230000 x230001 x230002 x230003 x230004 x230005 x230006) else (some false)) else (none)) else (nuncioref05_shaped.l1 k (wrap64 (x7 + 1)) x230000 x230001 x230002 x230003 x230004 x230005 x230006)))) else (some true)
end
def nuncioref05_shaped.f (k : Nat) (a0_0 : ByteArray) (a0_1 : Int) (a0_2 : Int) (a0_3 : Int) (l0_4 : List ByteArray) (l0_5 : List Int) (l0_6 : List ByteArray) : Option (Bool) := (nuncioref05_Shape.f k a0_1).bind fun bt230 => (if (l0_4.length : Int) = bt230.1 then (nuncioref05_shaped.j0 k bt230.2.2 ((l0_5.length : Int) != bt230.2.1) a0_0 a0_1 a0_2 a0_3 l0_4 l0_5 l0_6) else (nuncioref05_shaped.j0 k bt230.2.2 true a0_0 a0_1 a0_2 a0_3 l0_4 l0_5 l0_6))
theorem nuncioref05_shaped.mono_l : ∀ k, (∀ y0 y1 y2 y3 y4 y5 y6 y7 y8, LeO (nuncioref05_shaped.j0 k y0 y1 y2 y3 y4 y5 y6 y7 y8) (nuncioref05_shaped.j0 (k + 1) y0 y1 y2 y3 y4 y5 y6 y7 y8)) ∧ (∀ y0 y1 y2 y3 y4 y5 y6 y7, LeO (nuncioref05_shaped.j1 k y0 y1 y2 y3 y4 y5 y6 y7) (nuncioref05_shaped.j1 (k + 1) y0 y1 y2 y3 y4 y5 y6 y7)) ∧ (∀ y0 y1 y2 y3 y4 y5 y6 y7, LeO (nuncioref05_shaped.l0 k y0 y1 y2 y3 y4 y5 y6 y7) (nuncioref05_shaped.l0 (k + 1) y0 y1 y2 y3 y4 y5 y6 y7)) ∧ (∀ y0 y1 y2 y3 y4 y5 y6 y7, LeO (nuncioref05_shaped.l1 k y0 y1 y2 y3 y4 y5 y6 y7) (nuncioref05_shaped.l1 (k + 1) y0 y1 y2 y3 y4 y5 y6 y7))
 | 0 => ⟨fun _ _ _ _ _ _ _ _ _ r h => by simp [nuncioref05_shaped.j0] at h, fun _ _ _ _ _ _ _ _ r h => by simp [nuncioref05_shaped.j1] at h, fun _ _ _ _ _ _ _ _ r h => by simp [nuncioref05_shaped.l0] at h, fun _ _ _ _ _ _ _ _ r h => by simp [nuncioref05_shaped.l1] at h⟩
 | k + 1 => by
  obtain ⟨ih0, ih1, ih2, ih3⟩ := nuncioref05_shaped.mono_l k
  refine ⟨?_, ?_, ?_, ?_⟩
  ·
   intro y0 y1 y2 y3 y4 y5 y6 y7 y8
   unfold nuncioref05_shaped.j0
   repeat' first
   | (with_reducible exact ih0 _ _ _ _ _ _ _ _ _)
   | (with_reducible exact ih1 _ _ _ _ _ _ _ _)
   | (with_reducible exact ih2 _ _ _ _ _ _ _ _)
   | (with_reducible exact ih3 _ _ _ _ _ _ _ _)
   | (with_reducible exact nuncioref05_Shape.mono _ _)
   | (with_reducible exact LeO.refl _)
   | (with_reducible exact LeO.none _)
   | (with_reducible refine LeO.ite ?_ ?_)
   | (with_reducible refine LeO.bind ?_ (fun _ => ?_))
   | exact ih0 _ _ _ _ _ _ _ _ _
   | exact ih1 _ _ _ _ _ _ _ _
   | exact ih2 _ _ _ _ _ _ _ _
   | exact ih3 _ _ _ _ _ _ _ _
   | exact nuncioref05_Shape.mono _ _
   | exact LeO.none _
   | refine LeO.ite ?_ ?_
   | refine LeO.bind ?_ (fun _ => ?_)
  ·
   intro y0 y1 y2 y3 y4 y5 y6 y7
   unfold nuncioref05_shaped.j1
   repeat' first
   | (with_reducible exact ih0 _ _ _ _ _ _ _ _ _)
   | (with_reducible exact ih1 _ _ _ _ _ _ _ _)
   | (with_reducible exact ih2 _ _ _ _ _ _ _ _)
   | (with_reducible exact ih3 _ _ _ _ _ _ _ _)
   | (with_reducible exact nuncioref05_Shape.mono _ _)
   | (with_reducible exact LeO.refl _)
   | (with_reducible exact LeO.none _)
   | (with_reducible refine LeO.ite ?_ ?_)
   | (with_reducible refine LeO.bind ?_ (fun _ => ?_))
   | exact ih0 _ _ _ _ _ _ _ _ _
   | exact ih1 _ _ _ _ _ _ _ _
   | exact ih2 _ _ _ _ _ _ _ _
   | exact ih3 _ _ _ _ _ _ _ _
   | exact nuncioref05_Shape.mono _ _
   | exact LeO.none _
   | refine LeO.ite ?_ ?_
   | refine LeO.bind ?_ (fun _ => ?_)
  ·
   intro y0 y1 y2 y3 y4 y5 y6 y7
   unfold nuncioref05_shaped.l0
   repeat' first
   | (with_reducible exact ih0 _ _ _ _ _ _ _ _ _)
   | (with_reducible exact ih1 _ _ _ _ _ _ _ _)
   | (with_reducible exact ih2 _ _ _ _ _ _ _ _)
   | (with_reducible exact ih3 _ _ _ _ _ _ _ _)
   | (with_reducible exact nuncioref05_Shape.mono _ _)
   | (with_reducible exact LeO.refl _)
   | (with_reducible exact LeO.none _)
   | (with_reducible refine LeO.ite ?_ ?_)
   | (with_reducible refine LeO.bind ?_ (fun _ => ?_))
   | exact ih0 _ _ _ _ _ _ _ _ _
   | exact ih1 _ _ _ _ _ _ _ _
   | exact ih2 _ _ _ _ _ _ _ _
   | exact ih3 _ _ _ _ _ _ _ _
   | exact nuncioref05_Shape.mono _ _
   | exact LeO.none _
   | refine LeO.ite ?_ ?_
   | refine LeO.bind ?_ (fun _ => ?_)
  ·
   intro y0 y1 y2 y3 y4 y5 y6 y7
   unfold nuncioref05_shaped.l1
   repeat' first
   | (with_reducible exact ih0 _ _ _ _ _ _ _ _ _)
   | (with_reducible exact ih1 _ _ _ _ _ _ _ _)
   | (with_reducible exact ih2 _ _ _ _ _ _ _ _)
   | (with_reducible exact ih3 _ _ _ _ _ _ _ _)
   | (with_reducible exact nuncioref05_Shape.mono _ _)
   | (with_reducible exact LeO.refl _)
   | (with_reducible exact LeO.none _)
   | (with_reducible refine LeO.ite ?_ ?_)
   | (with_reducible refine LeO.bind ?_ (fun _ => ?_))
   | exact ih0 _ _ _ _ _ _ _ _ _
   | exact ih1 _ _ _ _ _ _ _ _
   | exact ih2 _ _ _ _ _ _ _ _
   | exact ih3 _ _ _ _ _ _ _ _
   | exact nuncioref05_Shape.mono _ _
   | exact LeO.none _
   | refine LeO.ite ?_ ?_
   | refine LeO.bind ?_ (fun _ => ?_)
theorem nuncioref05_shaped.mono : ∀ a0 a1 a2 a3 a4 a5 a6 k, LeO (nuncioref05_shaped.f k a0 a1 a2 a3 a4 a5 a6) (nuncioref05_shaped.f (k + 1) a0 a1 a2 a3 a4 a5 a6) := by
 intro a0 a1 a2 a3 a4 a5 a6 k
 obtain ⟨ih0, ih1, ih2, ih3⟩ := nuncioref05_shaped.mono_l k
 unfold nuncioref05_shaped.f
 repeat' first
   | (with_reducible exact ih0 _ _ _ _ _ _ _ _ _)
   | (with_reducible exact ih1 _ _ _ _ _ _ _ _)
   | (with_reducible exact ih2 _ _ _ _ _ _ _ _)
   | (with_reducible exact ih3 _ _ _ _ _ _ _ _)
   | (with_reducible exact nuncioref05_Shape.mono _ _)
   | (with_reducible exact LeO.refl _)
   | (with_reducible exact LeO.none _)
   | (with_reducible refine LeO.ite ?_ ?_)
   | (with_reducible refine LeO.bind ?_ (fun _ => ?_))
   | exact ih0 _ _ _ _ _ _ _ _ _
   | exact ih1 _ _ _ _ _ _ _ _
   | exact ih2 _ _ _ _ _ _ _ _
   | exact ih3 _ _ _ _ _ _ _ _
   | exact nuncioref05_Shape.mono _ _
   | exact LeO.none _
   | refine LeO.ite ?_ ?_
   | refine LeO.bind ?_ (fun _ => ?_)
set_option maxHeartbeats 8000000 in
set_option maxRecDepth 100000 in
theorem nuncioref05_shaped.calls (k : Nat) (a0_0 : ByteArray) (a0_1 : Int) (a0_2 : Int) (a0_3 : Int) (A0_4 : Option Addr) (c0_4 : Nat) (l0_4 : List ByteArray) (A0_5 : Option Addr) (c0_5 : Nat) (l0_5 : List Int) (A0_6 : Option Addr) (c0_6 : Nat) (l0_6 : List ByteArray) (r : Bool) (w : World) (hr0_4 : Kd.C Kd.string w A0_4 l0_4.length l0_4) (hc0_4 : l0_4.length ≤ c0_4) (hr0_5 : Kd.C (Kd.int .u32) w A0_5 l0_5.length l0_5) (hc0_5 : l0_5.length ≤ c0_5) (hr0_6 : Kd.C Kd.string w A0_6 l0_6.length l0_6) (hc0_6 : l0_6.length ≤ c0_6) (h : nuncioref05_shaped.f k a0_0 a0_1 a0_2 a0_3 l0_4 l0_5 l0_6 = some r) :
  Calls Try.prog 28 #[.agg #[.string a0_0, .int .u16 a0_1, .int .u16 a0_2, .int .u32 a0_3, .slice A0_4 l0_4.length c0_4, .slice A0_5 l0_5.length c0_5, .slice A0_6 l0_6.length c0_6]] w fun e w' => e = .returned (.bool r) ∧ Below w.heap.size w w' := by
 have hu27 := Try.underlying27
 have HR0_4 := Aside0.mk hr0_4
 have HC0_4 := Aside0.mk hc0_4
 clear hr0_4 hc0_4
 have HR0_5 := Aside0.mk hr0_5
 have HC0_5 := Aside0.mk hc0_5
 clear hr0_5 hc0_5
 have HR0_6 := Aside0.mk hr0_6
 have HC0_6 := Aside0.mk hc0_6
 clear hr0_6 hc0_6
 have HB := Aside0.mk (Below.refl w.heap.size w)
 have H : ((nuncioref05_Shape.f k a0_1).bind fun bt230 => (if (l0_4.length : Int) = bt230.1 then (nuncioref05_shaped.j0 k bt230.2.2 ((l0_5.length : Int) != bt230.2.1) a0_0 a0_1 a0_2 a0_3 l0_4 l0_5 l0_6) else (nuncioref05_shaped.j0 k bt230.2.2 true a0_0 a0_1 a0_2 a0_3 l0_4 l0_5 l0_6))) = some r := h
 clear h
 replace H := Option.bind_eq_some_iff.mp H
 obtain ⟨⟨t230, t231, t232⟩, A20, H⟩ := H
 replace H : (if (l0_4.length : Int) = t230 then (nuncioref05_shaped.j0 k t232 ((l0_5.length : Int) != t231) a0_0 a0_1 a0_2 a0_3 l0_4 l0_5 l0_6) else (nuncioref05_shaped.j0 k t232 true a0_0 a0_1 a0_2 a0_3 l0_4 l0_5 l0_6)) = some r := H
 have A2 := Aside0.mk A20
 clear A20
 have HC3 := Aside0.mk H
 clear H
 go_enter Try.func28, Try.ntmps28
 go_upto_region 2 with (first | ((with_reducible refine gate_dst (N := 1) rfl ?_); (try (refine gate_guard (by rfl) ?_; dsimp only)); refine box_event ?hg (N := 1) ?hd (cs := #[.string a0_0, .int .u16 a0_1, .int .u16 a0_2, .int .u32 a0_3, .slice A0_4 l0_4.length c0_4, .slice A0_5 l0_5.length c0_5, .slice A0_6 l0_6.length c0_6]) (t := 27) ?hr ?_; (case hd => rfl); (case hg => rfl); (case hr => first | (go_simp; done) | (go_simp; rfl)); intro gb229 hg w4 hbox hb; have n0_ := Aside0.mk (below_step (by repeat (first | (with_reducible first | exact HB.out | apply below_alloc | apply pw_below_drewN | apply below_drew1) | exact HB.out)) hb); have n1_ := Aside0.mk (hbox); have n2_ := Aside0.mk ((by rw [hg]; exact (below_size (by repeat (first | (with_reducible first | exact HB.out | apply below_alloc | apply pw_below_drewN | apply below_drew1) | exact HB.out))) : w.heap.size ≤ gb229)); have n3_ := Aside0.mk ((by rw [hg]; exact (below_size (by repeat (first | (with_reducible first | exact HB.out | apply below_alloc | apply pw_below_drewN | apply below_drew1) | exact HB.out))) : w.heap.size ≤ gb229)); clear HB; have HB := n0_; have BK229 := n1_; have GW229 := n2_; have GE229 := n3_; clear n0_ n1_ n2_ n3_; clear hb hbox hg; have hcz5_0 : w4.cell? ⟨gb229, 0, none⟩ = some (.string a0_0) := (blk_cell BK229.out 0).trans rfl; have hcz5_1 : w4.cell? ⟨gb229, 1, none⟩ = some (.int .u16 a0_1) := (blk_cell BK229.out 1).trans rfl; have hcz5_2 : w4.cell? ⟨gb229, 2, none⟩ = some (.int .u16 a0_2) := (blk_cell BK229.out 2).trans rfl; have hcz5_3 : w4.cell? ⟨gb229, 3, none⟩ = some (.int .u32 a0_3) := (blk_cell BK229.out 3).trans rfl; have hcz5_4 : w4.cell? ⟨gb229, 4, none⟩ = some (.slice A0_4 l0_4.length c0_4) := (blk_cell BK229.out 4).trans rfl; have hcz5_5 : w4.cell? ⟨gb229, 5, none⟩ = some (.slice A0_5 l0_5.length c0_5) := (blk_cell BK229.out 5).trans rfl; have hcz5_6 : w4.cell? ⟨gb229, 6, none⟩ = some (.slice A0_6 l0_6.length c0_6) := (blk_cell BK229.out 6).trans rfl; have hfz5_0 := blk_frozen BK229.out 0; have hfz5_1 := blk_frozen BK229.out 1; have hfz5_2 := blk_frozen BK229.out 2; have hfz5_3 := blk_frozen BK229.out 3; have hfz5_4 := blk_frozen BK229.out 4; have hfz5_5 := blk_frozen BK229.out 5; have hfz5_6 := blk_frozen BK229.out 6) | ((with_reducible refine gate_callee (f := 10) rfl ?_); refine goesL_ (some 11) rfl rfl Try.func10 (by kernel_rfl) rfl #[.int .u16 a0_1] rfl (by (try simp only [List.map_toArray, List.map_cons, List.map_nil]); first | done | rfl | (simp only [List.length_drop, List.length_take]; rfl)) ?_; (with_reducible refine (nuncioref05_Shape.calls k a0_1 t230 t231 t232 _ A2.out).mono ?_); rintro e w' ⟨rfl, ⟨nd, rfl⟩⟩; refine ⟨_, rfl, ?_⟩))
 (try simp only [Act.put, List.setIfInBounds_toArray, List.set_cons_zero, List.set_cons_succ])
 go_cut [26] (fun v26 wc => ∃ (kq : Nat) (x26_2 : Bool), v26 = .bool x26_2 ∧ Aside0 (nuncioref05_shaped.j0 kq t232 x26_2 a0_0 a0_1 a0_2 a0_3 l0_4 l0_5 l0_6 = some r) ∧ Aside0 (kq ≤ k) ∧ Aside0 (wc.heap[gb229]? = some (.cells #[.string a0_0, .int .u16 a0_1, .int .u16 a0_2, .int .u32 a0_3, (.slice A0_4 l0_4.length c0_4), (.slice A0_5 l0_5.length c0_5), (.slice A0_6 l0_6.length c0_6)] 27 (0, 0))) ∧ Aside0 (Below w.heap.size w wc))
 case first =>
  have H := HC3.out
  clear HC3
  by_cases c6 : (l0_4.length : Int) = t230
  ·
   rw [if_pos c6] at H
   have c6b0 : ((l0_4.length : Int) == t230) = true := beq_iff_eq.mpr c6
   have c6b1 : ((l0_4.length : Int) != t230) = false := bne_eq_false_iff_eq.mpr c6
   clear c6
   (first | rw [c6b0] | rw [c6b1] | (simp only [i64_w, i32_w]; rw [c6b0]) | skip)
   have H' := Aside0.mk H
   clear H
   have hcz7_0 : w4.cell? ⟨gb229, 0, none⟩ = some (.string a0_0) := (blk_cell BK229.out 0).trans rfl
   have hcz7_1 : w4.cell? ⟨gb229, 1, none⟩ = some (.int .u16 a0_1) := (blk_cell BK229.out 1).trans rfl
   have hcz7_2 : w4.cell? ⟨gb229, 2, none⟩ = some (.int .u16 a0_2) := (blk_cell BK229.out 2).trans rfl
   have hcz7_3 : w4.cell? ⟨gb229, 3, none⟩ = some (.int .u32 a0_3) := (blk_cell BK229.out 3).trans rfl
   have hcz7_4 : w4.cell? ⟨gb229, 4, none⟩ = some (.slice A0_4 l0_4.length c0_4) := (blk_cell BK229.out 4).trans rfl
   have hcz7_5 : w4.cell? ⟨gb229, 5, none⟩ = some (.slice A0_5 l0_5.length c0_5) := (blk_cell BK229.out 5).trans rfl
   have hcz7_6 : w4.cell? ⟨gb229, 6, none⟩ = some (.slice A0_6 l0_6.length c0_6) := (blk_cell BK229.out 6).trans rfl
   have hfz7_0 := blk_frozen BK229.out 0
   have hfz7_1 := blk_frozen BK229.out 1
   have hfz7_2 := blk_frozen BK229.out 2
   have hfz7_3 := blk_frozen BK229.out 3
   have hfz7_4 := blk_frozen BK229.out 4
   have hfz7_5 := blk_frozen BK229.out 5
   have hfz7_6 := blk_frozen BK229.out 6
   go_wp2
   go_meet
   case rel => exact ⟨_, (((l0_5.length : Int) != t231)), (by first | rfl | (simp; done) | (simp [*]; done)), H', ⟨by first | omega | exact Nat.le_refl _⟩, ⟨by (with_reducible repeat (first | refine blk_drewN ?_ _ | refine blk_drew ?_ | refine blk_alloc ?_ _)); exact BK229.out⟩, ⟨by repeat (first | (with_reducible first | exact HB.out | apply below_alloc | apply pw_below_drewN | apply below_drew1 | refine below_set ?_ GE229.out) | exact HB.out)⟩⟩
  ·
   rw [if_neg c6] at H
   have c6b0 : ((l0_4.length : Int) == t230) = false := beq_eq_false_iff_ne.mpr c6
   have c6b1 : ((l0_4.length : Int) != t230) = true := bne_iff_ne.mpr c6
   (first | rw [c6b0] | rw [c6b1] | (simp only [i64_w, i32_w]; rw [c6b0]) | skip)
   have H' := Aside0.mk H
   clear H
   have hcz8_0 : w4.cell? ⟨gb229, 0, none⟩ = some (.string a0_0) := (blk_cell BK229.out 0).trans rfl
   have hcz8_1 : w4.cell? ⟨gb229, 1, none⟩ = some (.int .u16 a0_1) := (blk_cell BK229.out 1).trans rfl
   have hcz8_2 : w4.cell? ⟨gb229, 2, none⟩ = some (.int .u16 a0_2) := (blk_cell BK229.out 2).trans rfl
   have hcz8_3 : w4.cell? ⟨gb229, 3, none⟩ = some (.int .u32 a0_3) := (blk_cell BK229.out 3).trans rfl
   have hcz8_4 : w4.cell? ⟨gb229, 4, none⟩ = some (.slice A0_4 l0_4.length c0_4) := (blk_cell BK229.out 4).trans rfl
   have hcz8_5 : w4.cell? ⟨gb229, 5, none⟩ = some (.slice A0_5 l0_5.length c0_5) := (blk_cell BK229.out 5).trans rfl
   have hcz8_6 : w4.cell? ⟨gb229, 6, none⟩ = some (.slice A0_6 l0_6.length c0_6) := (blk_cell BK229.out 6).trans rfl
   have hfz8_0 := blk_frozen BK229.out 0
   have hfz8_1 := blk_frozen BK229.out 1
   have hfz8_2 := blk_frozen BK229.out 2
   have hfz8_3 := blk_frozen BK229.out 3
   have hfz8_4 := blk_frozen BK229.out 4
   have hfz8_5 := blk_frozen BK229.out 5
   have hfz8_6 := blk_frozen BK229.out 6
   go_wp2
   go_meet
   case rel => exact ⟨_, (true), (by first | rfl | (simp; done) | (simp [*]; done)), H', ⟨by first | omega | exact Nat.le_refl _⟩, ⟨by (with_reducible repeat (first | refine blk_drewN ?_ _ | refine blk_drew ?_ | refine blk_alloc ?_ _)); exact BK229.out⟩, ⟨by repeat (first | (with_reducible first | exact HB.out | apply below_alloc | apply pw_below_drewN | apply below_drew1 | refine below_set ?_ GE229.out) | exact HB.out)⟩⟩
 case rest =>
  clear HC3
  try clear c1
  try clear c2
  try clear p2
  try clear c6
  try clear c6b0
  try clear c6b1
  try clear hcz5_0
  try clear hcz5_1
  try clear hcz5_2
  try clear hcz5_3
  try clear hcz5_4
  try clear hcz5_5
  try clear hcz5_6
  try clear hcz7_0
  try clear hcz7_1
  try clear hcz7_2
  try clear hcz7_3
  try clear hcz7_4
  try clear hcz7_5
  try clear hcz7_6
  try clear hcz8_0
  try clear hcz8_1
  try clear hcz8_2
  try clear hcz8_3
  try clear hcz8_4
  try clear hcz8_5
  try clear hcz8_6
  try clear hfz5_0
  try clear hfz5_1
  try clear hfz5_2
  try clear hfz5_3
  try clear hfz5_4
  try clear hfz5_5
  try clear hfz5_6
  try clear hfz7_0
  try clear hfz7_1
  try clear hfz7_2
  try clear hfz7_3
  try clear hfz7_4
  try clear hfz7_5
  try clear hfz7_6
  try clear hfz8_0
  try clear hfz8_1
  try clear hfz8_2
  try clear hfz8_3
  try clear hfz8_4
  try clear hfz8_5
  try clear hfz8_6
  obtain ⟨kq, x26_2, rfl, HA, HJ2, BK229, HB⟩ := hcut
  cases kq with
  | zero => exact absurd HA.out (by simp [nuncioref05_shaped.j0])
  | succ kj2 =>
   have H := HA.out
   clear HA
   simp only [nuncioref05_shaped.j0] at H
   by_cases c9 : x26_2 = true
   ·
    subst c9
    have H1 : (some false) = some r := by rw [if_pos rfl] at H; exact H
    clear H
    have H := H1
    clear H1
    obtain rfl := Option.some.inj H
    go_wp2
    go_ret
    exact ⟨by first | rfl | (simp [errW_none, errW_some] <;> rfl) | (simp [*, errW_none, errW_some] <;> rfl), by repeat (first | (with_reducible first | exact HB.out | apply below_alloc | apply pw_below_drewN | apply below_drew1 | refine below_set ?_ GE229.out) | exact HB.out)⟩
   ·
    replace c9 := Bool.eq_false_iff.mpr c9
    subst c9
    have H1 : (if a0_1 = 16 then (if (l0_6.length : Int) = 0 then (nuncioref05_shaped.j1 kj2 true a0_0 a0_1 a0_2 a0_3 l0_4 l0_5 l0_6) else (nuncioref05_shaped.j1 kj2 false a0_0 a0_1 a0_2 a0_3 l0_4 l0_5 l0_6)) else (nuncioref05_shaped.j1 kj2 ((l0_6.length : Int) != t232) a0_0 a0_1 a0_2 a0_3 l0_4 l0_5 l0_6)) = some r := by rw [if_neg (show ¬ (false = true) by decide)] at H; exact H
    clear H
    have H := H1
    clear H1
    have HC10 := Aside0.mk H
    clear H
    go_upto_region 4 with (fail)
    go_cut [47] (fun v47 wc => ∃ (kq : Nat) (x47_9 : Bool), v47 = .bool x47_9 ∧ Aside0 (nuncioref05_shaped.j1 kq x47_9 a0_0 a0_1 a0_2 a0_3 l0_4 l0_5 l0_6 = some r) ∧ Aside0 (kq ≤ kj2) ∧ Aside0 (wc.heap[gb229]? = some (.cells #[.string a0_0, .int .u16 a0_1, .int .u16 a0_2, .int .u32 a0_3, (.slice A0_4 l0_4.length c0_4), (.slice A0_5 l0_5.length c0_5), (.slice A0_6 l0_6.length c0_6)] 27 (0, 0))) ∧ Aside0 (Below w.heap.size w wc))
    case first =>
     have H := HC10.out
     clear HC10
     by_cases c11 : a0_1 = 16
     ·
      rw [if_pos c11] at H
      have c11b0 : (a0_1 == 16) = true := beq_iff_eq.mpr c11
      have c11b1 : (a0_1 != 16) = false := bne_eq_false_iff_eq.mpr c11
      clear c11
      (first | rw [c11b0] | rw [c11b1] | (simp only [i64_w, i32_w]; rw [c11b0]) | skip)
      by_cases c12 : (l0_6.length : Int) = 0
      ·
       rw [if_pos c12] at H
       have c12b0 : ((l0_6.length : Int) == 0) = true := beq_iff_eq.mpr c12
       have c12b1 : ((l0_6.length : Int) != 0) = false := bne_eq_false_iff_eq.mpr c12
       clear c12
       have H' := Aside0.mk H
       clear H
       have hcz13_0 : wc.cell? ⟨gb229, 0, none⟩ = some (.string a0_0) := (blk_cell BK229.out 0).trans rfl
       have hcz13_1 : wc.cell? ⟨gb229, 1, none⟩ = some (.int .u16 a0_1) := (blk_cell BK229.out 1).trans rfl
       have hcz13_2 : wc.cell? ⟨gb229, 2, none⟩ = some (.int .u16 a0_2) := (blk_cell BK229.out 2).trans rfl
       have hcz13_3 : wc.cell? ⟨gb229, 3, none⟩ = some (.int .u32 a0_3) := (blk_cell BK229.out 3).trans rfl
       have hcz13_4 : wc.cell? ⟨gb229, 4, none⟩ = some (.slice A0_4 l0_4.length c0_4) := (blk_cell BK229.out 4).trans rfl
       have hcz13_5 : wc.cell? ⟨gb229, 5, none⟩ = some (.slice A0_5 l0_5.length c0_5) := (blk_cell BK229.out 5).trans rfl
       have hcz13_6 : wc.cell? ⟨gb229, 6, none⟩ = some (.slice A0_6 l0_6.length c0_6) := (blk_cell BK229.out 6).trans rfl
       have hfz13_0 := blk_frozen BK229.out 0
       have hfz13_1 := blk_frozen BK229.out 1
       have hfz13_2 := blk_frozen BK229.out 2
       have hfz13_3 := blk_frozen BK229.out 3
       have hfz13_4 := blk_frozen BK229.out 4
       have hfz13_5 := blk_frozen BK229.out 5
       have hfz13_6 := blk_frozen BK229.out 6
       go_wp2
       go_meet
       case rel => exact ⟨_, (true), (by first | rfl | (simp; done) | (simp [*]; done)), H', ⟨by have := HJ2.out; first | omega | exact Nat.le_refl _⟩, ⟨by (with_reducible repeat (first | refine blk_drewN ?_ _ | refine blk_drew ?_ | refine blk_alloc ?_ _)); exact BK229.out⟩, ⟨by repeat (first | (with_reducible first | exact HB.out | apply below_alloc | apply pw_below_drewN | apply below_drew1 | refine below_set ?_ GE229.out) | exact HB.out)⟩⟩
      ·
       rw [if_neg c12] at H
       have c12b0 : ((l0_6.length : Int) == 0) = false := beq_eq_false_iff_ne.mpr c12
       have c12b1 : ((l0_6.length : Int) != 0) = true := bne_iff_ne.mpr c12
       have c12b2 : ¬ (l0_6 = []) := fun h_ => c12 (by rw [h_]; rfl)
       have H' := Aside0.mk H
       clear H
       have hcz14_0 : wc.cell? ⟨gb229, 0, none⟩ = some (.string a0_0) := (blk_cell BK229.out 0).trans rfl
       have hcz14_1 : wc.cell? ⟨gb229, 1, none⟩ = some (.int .u16 a0_1) := (blk_cell BK229.out 1).trans rfl
       have hcz14_2 : wc.cell? ⟨gb229, 2, none⟩ = some (.int .u16 a0_2) := (blk_cell BK229.out 2).trans rfl
       have hcz14_3 : wc.cell? ⟨gb229, 3, none⟩ = some (.int .u32 a0_3) := (blk_cell BK229.out 3).trans rfl
       have hcz14_4 : wc.cell? ⟨gb229, 4, none⟩ = some (.slice A0_4 l0_4.length c0_4) := (blk_cell BK229.out 4).trans rfl
       have hcz14_5 : wc.cell? ⟨gb229, 5, none⟩ = some (.slice A0_5 l0_5.length c0_5) := (blk_cell BK229.out 5).trans rfl
       have hcz14_6 : wc.cell? ⟨gb229, 6, none⟩ = some (.slice A0_6 l0_6.length c0_6) := (blk_cell BK229.out 6).trans rfl
       have hfz14_0 := blk_frozen BK229.out 0
       have hfz14_1 := blk_frozen BK229.out 1
       have hfz14_2 := blk_frozen BK229.out 2
       have hfz14_3 := blk_frozen BK229.out 3
       have hfz14_4 := blk_frozen BK229.out 4
       have hfz14_5 := blk_frozen BK229.out 5
       have hfz14_6 := blk_frozen BK229.out 6
       go_wp2
       go_meet
       case rel => exact ⟨_, (false), (by first | rfl | (simp; done) | (simp [*]; done)), H', ⟨by have := HJ2.out; first | omega | exact Nat.le_refl _⟩, ⟨by (with_reducible repeat (first | refine blk_drewN ?_ _ | refine blk_drew ?_ | refine blk_alloc ?_ _)); exact BK229.out⟩, ⟨by repeat (first | (with_reducible first | exact HB.out | apply below_alloc | apply pw_below_drewN | apply below_drew1 | refine below_set ?_ GE229.out) | exact HB.out)⟩⟩
     ·
      rw [if_neg c11] at H
      have c11b0 : (a0_1 == 16) = false := beq_eq_false_iff_ne.mpr c11
      have c11b1 : (a0_1 != 16) = true := bne_iff_ne.mpr c11
      (first | rw [c11b0] | rw [c11b1] | (simp only [i64_w, i32_w]; rw [c11b0]) | skip)
      have H' := Aside0.mk H
      clear H
      have hcz15_0 : wc.cell? ⟨gb229, 0, none⟩ = some (.string a0_0) := (blk_cell BK229.out 0).trans rfl
      have hcz15_1 : wc.cell? ⟨gb229, 1, none⟩ = some (.int .u16 a0_1) := (blk_cell BK229.out 1).trans rfl
      have hcz15_2 : wc.cell? ⟨gb229, 2, none⟩ = some (.int .u16 a0_2) := (blk_cell BK229.out 2).trans rfl
      have hcz15_3 : wc.cell? ⟨gb229, 3, none⟩ = some (.int .u32 a0_3) := (blk_cell BK229.out 3).trans rfl
      have hcz15_4 : wc.cell? ⟨gb229, 4, none⟩ = some (.slice A0_4 l0_4.length c0_4) := (blk_cell BK229.out 4).trans rfl
      have hcz15_5 : wc.cell? ⟨gb229, 5, none⟩ = some (.slice A0_5 l0_5.length c0_5) := (blk_cell BK229.out 5).trans rfl
      have hcz15_6 : wc.cell? ⟨gb229, 6, none⟩ = some (.slice A0_6 l0_6.length c0_6) := (blk_cell BK229.out 6).trans rfl
      have hfz15_0 := blk_frozen BK229.out 0
      have hfz15_1 := blk_frozen BK229.out 1
      have hfz15_2 := blk_frozen BK229.out 2
      have hfz15_3 := blk_frozen BK229.out 3
      have hfz15_4 := blk_frozen BK229.out 4
      have hfz15_5 := blk_frozen BK229.out 5
      have hfz15_6 := blk_frozen BK229.out 6
      go_wp2
      go_meet
      case rel => exact ⟨_, (((l0_6.length : Int) != t232)), (by first | rfl | (simp; done) | (simp [*]; done)), H', ⟨by have := HJ2.out; first | omega | exact Nat.le_refl _⟩, ⟨by (with_reducible repeat (first | refine blk_drewN ?_ _ | refine blk_drew ?_ | refine blk_alloc ?_ _)); exact BK229.out⟩, ⟨by repeat (first | (with_reducible first | exact HB.out | apply below_alloc | apply pw_below_drewN | apply below_drew1 | refine below_set ?_ GE229.out) | exact HB.out)⟩⟩
    case rest =>
     clear HC10
     try clear c1
     try clear c2
     try clear p2
     try clear c6
     try clear c6b0
     try clear c6b1
     try clear c9
     try clear c10
     try clear c11
     try clear c11b0
     try clear c11b1
     try clear c12
     try clear c12b0
     try clear c12b1
     try clear c12b2
     try clear hcz13_0
     try clear hcz13_1
     try clear hcz13_2
     try clear hcz13_3
     try clear hcz13_4
     try clear hcz13_5
     try clear hcz13_6
     try clear hcz14_0
     try clear hcz14_1
     try clear hcz14_2
     try clear hcz14_3
     try clear hcz14_4
     try clear hcz14_5
     try clear hcz14_6
     try clear hcz15_0
     try clear hcz15_1
     try clear hcz15_2
     try clear hcz15_3
     try clear hcz15_4
     try clear hcz15_5
     try clear hcz15_6
     try clear hcz5_0
     try clear hcz5_1
     try clear hcz5_2
     try clear hcz5_3
     try clear hcz5_4
     try clear hcz5_5
     try clear hcz5_6
     try clear hcz7_0
     try clear hcz7_1
     try clear hcz7_2
     try clear hcz7_3
     try clear hcz7_4
     try clear hcz7_5
     try clear hcz7_6
     try clear hcz8_0
     try clear hcz8_1
     try clear hcz8_2
     try clear hcz8_3
     try clear hcz8_4
     try clear hcz8_5
     try clear hcz8_6
     try clear hfz13_0
     try clear hfz13_1
     try clear hfz13_2
     try clear hfz13_3
     try clear hfz13_4
     try clear hfz13_5
     try clear hfz13_6
     try clear hfz14_0
     try clear hfz14_1
     try clear hfz14_2
     try clear hfz14_3
     try clear hfz14_4
     try clear hfz14_5
     try clear hfz14_6
     try clear hfz15_0
     try clear hfz15_1
     try clear hfz15_2
     try clear hfz15_3
     try clear hfz15_4
     try clear hfz15_5
     try clear hfz15_6
     try clear hfz5_0
     try clear hfz5_1
     try clear hfz5_2
     try clear hfz5_3
     try clear hfz5_4
     try clear hfz5_5
     try clear hfz5_6
     try clear hfz7_0
     try clear hfz7_1
     try clear hfz7_2
     try clear hfz7_3
     try clear hfz7_4
     try clear hfz7_5
     try clear hfz7_6
     try clear hfz8_0
     try clear hfz8_1
     try clear hfz8_2
     try clear hfz8_3
     try clear hfz8_4
     try clear hfz8_5
     try clear hfz8_6
     try clear p2
     obtain ⟨kq, x47_9, rfl, HA, HJ9, BK229, HB⟩ := hcut
     cases kq with
     | zero => exact absurd HA.out (by simp [nuncioref05_shaped.j1])
     | succ kj9 =>
      have H := HA.out
      clear HA
      simp only [nuncioref05_shaped.j1] at H
      by_cases c16 : x47_9 = true
      ·
       subst c16
       have H1 : (some false) = some r := by rw [if_pos rfl] at H; exact H
       clear H
       have H := H1
       clear H1
       obtain rfl := Option.some.inj H
       go_wp2
       go_ret
       exact ⟨by first | rfl | (simp [errW_none, errW_some] <;> rfl) | (simp [*, errW_none, errW_some] <;> rfl), by repeat (first | (with_reducible first | exact HB.out | apply below_alloc | apply pw_below_drewN | apply below_drew1 | refine below_set ?_ GE229.out) | exact HB.out)⟩
      ·
       replace c16 := Bool.eq_false_iff.mpr c16
       subst c16
       have H1 : (nuncioref05_shaped.l0 kj9 0 a0_0 a0_1 a0_2 a0_3 l0_4 l0_5 l0_6) = some r := by rw [if_neg (show ¬ (false = true) by decide)] at H; exact H
       clear H
       have H := H1
       clear H1
       have H' := Aside0.mk H
       clear H
       go_wp2
       go_loopg [6] kj9 (fun kq v6 w' => ∃ (x6_3 : Int), v6 = .int .i64 x6_3 ∧ Aside0 (nuncioref05_shaped.l0 kq x6_3 a0_0 a0_1 a0_2 a0_3 l0_4 l0_5 l0_6 = some r) ∧ Aside0 (kq ≤ kj9) ∧ Aside0 (w'.heap[gb229]? = some (.cells #[.string a0_0, .int .u16 a0_1, .int .u16 a0_2, .int .u32 a0_3, (.slice A0_4 l0_4.length c0_4), (.slice A0_5 l0_5.length c0_5), (.slice A0_6 l0_6.length c0_6)] 27 (0, 0))) ∧ Aside0 (Below w.heap.size w w'))
       case atStart => exact ⟨(0), (by first | rfl | (simp; done) | (simp [*]; done)), H', ⟨Nat.le_refl _⟩, ⟨by (with_reducible repeat (first | refine blk_drewN ?_ _ | refine blk_drew ?_ | refine blk_alloc ?_ _)); exact BK229.out⟩, ⟨by repeat (first | (with_reducible first | exact HB.out | apply below_alloc | apply pw_below_drewN | apply below_drew1 | refine below_set ?_ GE229.out) | exact HB.out)⟩⟩
       case round =>
        clear H'
        try clear c1
        try clear c2
        try clear p2
        try clear c6
        try clear c6b0
        try clear c6b1
        try clear c9
        try clear c10
        try clear c11
        try clear c11b0
        try clear c11b1
        try clear c12
        try clear c12b0
        try clear c12b1
        try clear c12b2
        try clear c16
        try clear hcz13_0
        try clear hcz13_1
        try clear hcz13_2
        try clear hcz13_3
        try clear hcz13_4
        try clear hcz13_5
        try clear hcz13_6
        try clear hcz14_0
        try clear hcz14_1
        try clear hcz14_2
        try clear hcz14_3
        try clear hcz14_4
        try clear hcz14_5
        try clear hcz14_6
        try clear hcz15_0
        try clear hcz15_1
        try clear hcz15_2
        try clear hcz15_3
        try clear hcz15_4
        try clear hcz15_5
        try clear hcz15_6
        try clear hcz5_0
        try clear hcz5_1
        try clear hcz5_2
        try clear hcz5_3
        try clear hcz5_4
        try clear hcz5_5
        try clear hcz5_6
        try clear hcz7_0
        try clear hcz7_1
        try clear hcz7_2
        try clear hcz7_3
        try clear hcz7_4
        try clear hcz7_5
        try clear hcz7_6
        try clear hcz8_0
        try clear hcz8_1
        try clear hcz8_2
        try clear hcz8_3
        try clear hcz8_4
        try clear hcz8_5
        try clear hcz8_6
        try clear hfz13_0
        try clear hfz13_1
        try clear hfz13_2
        try clear hfz13_3
        try clear hfz13_4
        try clear hfz13_5
        try clear hfz13_6
        try clear hfz14_0
        try clear hfz14_1
        try clear hfz14_2
        try clear hfz14_3
        try clear hfz14_4
        try clear hfz14_5
        try clear hfz14_6
        try clear hfz15_0
        try clear hfz15_1
        try clear hfz15_2
        try clear hfz15_3
        try clear hfz15_4
        try clear hfz15_5
        try clear hfz15_6
        try clear hfz5_0
        try clear hfz5_1
        try clear hfz5_2
        try clear hfz5_3
        try clear hfz5_4
        try clear hfz5_5
        try clear hfz5_6
        try clear hfz7_0
        try clear hfz7_1
        try clear hfz7_2
        try clear hfz7_3
        try clear hfz7_4
        try clear hfz7_5
        try clear hfz7_6
        try clear hfz8_0
        try clear hfz8_1
        try clear hfz8_2
        try clear hfz8_3
        try clear hfz8_4
        try clear hfz8_5
        try clear hfz8_6
        try clear p2
        obtain ⟨x6_3, rfl, HA, HK3, BK229, HB⟩ := hrel
        cases gk with
        | zero => exact absurd HA.out (by simp [nuncioref05_shaped.l0])
        | succ k3 =>
         have H := HA.out
         clear HA
         simp only [nuncioref05_shaped.l0] at H
         by_cases c17 : x6_3 < (l0_5.length : Int)
         ·
          rw [if_pos c17] at H
          have c17b0 : decide (x6_3 < (l0_5.length : Int)) = true := decide_eq_true c17
          clear c17
          by_cases c18 : a0_1 = 6
          ·
           rw [if_pos c18] at H
           have c18b0 : (a0_1 == 6) = true := beq_iff_eq.mpr c18
           have c18b1 : (a0_1 != 6) = false := bne_eq_false_iff_eq.mpr c18
           clear c18
           have H' := Aside0.mk H
           clear H
           have hcz19_0 : wr.cell? ⟨gb229, 0, none⟩ = some (.string a0_0) := (blk_cell BK229.out 0).trans rfl
           have hcz19_1 : wr.cell? ⟨gb229, 1, none⟩ = some (.int .u16 a0_1) := (blk_cell BK229.out 1).trans rfl
           have hcz19_2 : wr.cell? ⟨gb229, 2, none⟩ = some (.int .u16 a0_2) := (blk_cell BK229.out 2).trans rfl
           have hcz19_3 : wr.cell? ⟨gb229, 3, none⟩ = some (.int .u32 a0_3) := (blk_cell BK229.out 3).trans rfl
           have hcz19_4 : wr.cell? ⟨gb229, 4, none⟩ = some (.slice A0_4 l0_4.length c0_4) := (blk_cell BK229.out 4).trans rfl
           have hcz19_5 : wr.cell? ⟨gb229, 5, none⟩ = some (.slice A0_5 l0_5.length c0_5) := (blk_cell BK229.out 5).trans rfl
           have hcz19_6 : wr.cell? ⟨gb229, 6, none⟩ = some (.slice A0_6 l0_6.length c0_6) := (blk_cell BK229.out 6).trans rfl
           have hfz19_0 := blk_frozen BK229.out 0
           have hfz19_1 := blk_frozen BK229.out 1
           have hfz19_2 := blk_frozen BK229.out 2
           have hfz19_3 := blk_frozen BK229.out 3
           have hfz19_4 := blk_frozen BK229.out 4
           have hfz19_5 := blk_frozen BK229.out 5
           have hfz19_6 := blk_frozen BK229.out 6
           go_wp2
           go_roundg k3
           case measure => have := HJ2.out; have := HJ9.out; have := HK3.out; omega
           case rel => exact ⟨(wrap64 (x6_3 + 1)), (by first | rfl | (simp; done) | (simp [*]; done)), H', ⟨by have := HJ2.out; have := HJ9.out; have := HK3.out; omega⟩, ⟨by (with_reducible repeat (first | refine blk_drewN ?_ _ | refine blk_drew ?_ | refine blk_alloc ?_ _)); exact BK229.out⟩, ⟨by repeat (first | (with_reducible first | exact HB.out | apply below_alloc | apply pw_below_drewN | apply below_drew1 | refine below_set ?_ GE229.out) | exact HB.out)⟩⟩
          ·
           rw [if_neg c18] at H
           have c18b0 : (a0_1 == 6) = false := beq_eq_false_iff_ne.mpr c18
           have c18b1 : (a0_1 != 6) = true := bne_iff_ne.mpr c18
           by_cases c20 : 0 ≤ x6_3
           ·
            rw [if_pos c20] at H
            have c20b0 : decide (0 ≤ x6_3) = true := decide_eq_true c20
            clear c20
            by_cases c21 : (rd l0_5 x6_3) > 65535
            ·
             rw [if_pos c21] at H
             have c21b0 : decide (65535 < (rd l0_5 x6_3)) = true := decide_eq_true c21
             clear c21
             obtain rfl := Option.some.inj H
             have hcz22_0 : wr.cell? ⟨gb229, 0, none⟩ = some (.string a0_0) := (blk_cell BK229.out 0).trans rfl
             have hcz22_1 : wr.cell? ⟨gb229, 1, none⟩ = some (.int .u16 a0_1) := (blk_cell BK229.out 1).trans rfl
             have hcz22_2 : wr.cell? ⟨gb229, 2, none⟩ = some (.int .u16 a0_2) := (blk_cell BK229.out 2).trans rfl
             have hcz22_3 : wr.cell? ⟨gb229, 3, none⟩ = some (.int .u32 a0_3) := (blk_cell BK229.out 3).trans rfl
             have hcz22_4 : wr.cell? ⟨gb229, 4, none⟩ = some (.slice A0_4 l0_4.length c0_4) := (blk_cell BK229.out 4).trans rfl
             have hcz22_5 : wr.cell? ⟨gb229, 5, none⟩ = some (.slice A0_5 l0_5.length c0_5) := (blk_cell BK229.out 5).trans rfl
             have hcz22_6 : wr.cell? ⟨gb229, 6, none⟩ = some (.slice A0_6 l0_6.length c0_6) := (blk_cell BK229.out 6).trans rfl
             have hfz22_0 := blk_frozen BK229.out 0
             have hfz22_1 := blk_frozen BK229.out 1
             have hfz22_2 := blk_frozen BK229.out 2
             have hfz22_3 := blk_frozen BK229.out 3
             have hfz22_4 := blk_frozen BK229.out 4
             have hfz22_5 := blk_frozen BK229.out 5
             have hfz22_6 := blk_frozen BK229.out 6
             have p233 : 0 ≤ (x6_3 : Int) := of_decide_eq_true (by first | (with_reducible assumption) | assumption)
             have q233 : x6_3 < (l0_5.length : Int) := of_decide_eq_true (by first | (with_reducible assumption) | assumption)
             obtain ⟨ad233, e233, hx233_0⟩ := Kd.at_int HR0_5.out x6_3 p233 q233
             cases e233
             replace hx233_0 := (HB.out.cell (World.block_lt_of_cell? w _ hx233_0)).trans hx233_0
             replace p233 := eq_true p233
             replace q233 := eq_true q233
             go_wp2
             go_ret
             exact ⟨by first | rfl | (simp [errW_none, errW_some] <;> rfl) | (simp [*, errW_none, errW_some] <;> rfl), by repeat (first | (with_reducible first | exact HB.out | apply below_alloc | apply pw_below_drewN | apply below_drew1 | refine below_set ?_ GE229.out) | exact HB.out)⟩
            ·
             rw [if_neg c21] at H
             have c21b0 : decide (65535 < (rd l0_5 x6_3)) = false := decide_eq_false c21
             clear c21
             have H' := Aside0.mk H
             clear H
             have hcz23_0 : wr.cell? ⟨gb229, 0, none⟩ = some (.string a0_0) := (blk_cell BK229.out 0).trans rfl
             have hcz23_1 : wr.cell? ⟨gb229, 1, none⟩ = some (.int .u16 a0_1) := (blk_cell BK229.out 1).trans rfl
             have hcz23_2 : wr.cell? ⟨gb229, 2, none⟩ = some (.int .u16 a0_2) := (blk_cell BK229.out 2).trans rfl
             have hcz23_3 : wr.cell? ⟨gb229, 3, none⟩ = some (.int .u32 a0_3) := (blk_cell BK229.out 3).trans rfl
             have hcz23_4 : wr.cell? ⟨gb229, 4, none⟩ = some (.slice A0_4 l0_4.length c0_4) := (blk_cell BK229.out 4).trans rfl
             have hcz23_5 : wr.cell? ⟨gb229, 5, none⟩ = some (.slice A0_5 l0_5.length c0_5) := (blk_cell BK229.out 5).trans rfl
             have hcz23_6 : wr.cell? ⟨gb229, 6, none⟩ = some (.slice A0_6 l0_6.length c0_6) := (blk_cell BK229.out 6).trans rfl
             have hfz23_0 := blk_frozen BK229.out 0
             have hfz23_1 := blk_frozen BK229.out 1
             have hfz23_2 := blk_frozen BK229.out 2
             have hfz23_3 := blk_frozen BK229.out 3
             have hfz23_4 := blk_frozen BK229.out 4
             have hfz23_5 := blk_frozen BK229.out 5
             have hfz23_6 := blk_frozen BK229.out 6
             have p233 : 0 ≤ (x6_3 : Int) := of_decide_eq_true (by first | (with_reducible assumption) | assumption)
             have q233 : x6_3 < (l0_5.length : Int) := of_decide_eq_true (by first | (with_reducible assumption) | assumption)
             obtain ⟨ad233, e233, hx233_0⟩ := Kd.at_int HR0_5.out x6_3 p233 q233
             cases e233
             replace hx233_0 := (HB.out.cell (World.block_lt_of_cell? w _ hx233_0)).trans hx233_0
             replace p233 := eq_true p233
             replace q233 := eq_true q233
             go_wp2
             go_roundg k3
             case measure => have := HJ2.out; have := HJ9.out; have := HK3.out; omega
             case rel => exact ⟨(wrap64 (x6_3 + 1)), (by first | rfl | (simp; done) | (simp [*]; done)), H', ⟨by have := HJ2.out; have := HJ9.out; have := HK3.out; omega⟩, ⟨by (with_reducible repeat (first | refine blk_drewN ?_ _ | refine blk_drew ?_ | refine blk_alloc ?_ _)); exact BK229.out⟩, ⟨by repeat (first | (with_reducible first | exact HB.out | apply below_alloc | apply pw_below_drewN | apply below_drew1 | refine below_set ?_ GE229.out) | exact HB.out)⟩⟩
           ·
            rw [if_neg c20] at H
            exact absurd H (by simp)
         ·
          rw [if_neg c17] at H
          have c17b0 : decide (x6_3 < (l0_5.length : Int)) = false := decide_eq_false c17
          clear c17
          have H' := Aside0.mk H
          clear H
          have hcz24_0 : wr.cell? ⟨gb229, 0, none⟩ = some (.string a0_0) := (blk_cell BK229.out 0).trans rfl
          have hcz24_1 : wr.cell? ⟨gb229, 1, none⟩ = some (.int .u16 a0_1) := (blk_cell BK229.out 1).trans rfl
          have hcz24_2 : wr.cell? ⟨gb229, 2, none⟩ = some (.int .u16 a0_2) := (blk_cell BK229.out 2).trans rfl
          have hcz24_3 : wr.cell? ⟨gb229, 3, none⟩ = some (.int .u32 a0_3) := (blk_cell BK229.out 3).trans rfl
          have hcz24_4 : wr.cell? ⟨gb229, 4, none⟩ = some (.slice A0_4 l0_4.length c0_4) := (blk_cell BK229.out 4).trans rfl
          have hcz24_5 : wr.cell? ⟨gb229, 5, none⟩ = some (.slice A0_5 l0_5.length c0_5) := (blk_cell BK229.out 5).trans rfl
          have hcz24_6 : wr.cell? ⟨gb229, 6, none⟩ = some (.slice A0_6 l0_6.length c0_6) := (blk_cell BK229.out 6).trans rfl
          have hfz24_0 := blk_frozen BK229.out 0
          have hfz24_1 := blk_frozen BK229.out 1
          have hfz24_2 := blk_frozen BK229.out 2
          have hfz24_3 := blk_frozen BK229.out 3
          have hfz24_4 := blk_frozen BK229.out 4
          have hfz24_5 := blk_frozen BK229.out 5
          have hfz24_6 := blk_frozen BK229.out 6
          go_wp2
          go_loopg [7] k3 (fun kq v7 w' => ∃ (x7_4 : Int), v7 = .int .i64 x7_4 ∧ Aside0 (nuncioref05_shaped.l1 kq x7_4 a0_0 a0_1 a0_2 a0_3 l0_4 l0_5 l0_6 = some r) ∧ Aside0 (kq ≤ k3) ∧ Aside0 (w'.heap[gb229]? = some (.cells #[.string a0_0, .int .u16 a0_1, .int .u16 a0_2, .int .u32 a0_3, (.slice A0_4 l0_4.length c0_4), (.slice A0_5 l0_5.length c0_5), (.slice A0_6 l0_6.length c0_6)] 27 (0, 0))) ∧ Aside0 (Below w.heap.size w w'))
          case atStart => exact ⟨(0), (by first | rfl | (simp; done) | (simp [*]; done)), H', ⟨Nat.le_refl _⟩, ⟨by (with_reducible repeat (first | refine blk_drewN ?_ _ | refine blk_drew ?_ | refine blk_alloc ?_ _)); exact BK229.out⟩, ⟨by repeat (first | (with_reducible first | exact HB.out | apply below_alloc | apply pw_below_drewN | apply below_drew1 | refine below_set ?_ GE229.out) | exact HB.out)⟩⟩
          case round =>
           clear H'
           try clear c1
           try clear c2
           try clear p2
           try clear q2
           try clear hx2
           try clear c6
           try clear c6b0
           try clear c6b1
           try clear p6
           try clear c9
           try clear c10
           try clear c11
           try clear c11b0
           try clear c11b1
           try clear c12
           try clear c12b0
           try clear c12b1
           try clear c12b2
           try clear c16
           try clear c17
           try clear c17b0
           try clear c18
           try clear c18b0
           try clear c18b1
           try clear c20
           try clear c20b0
           try clear c21
           try clear c21b0
           try clear p23
           try clear q23
           try clear hx23
           try clear hcz13_0
           try clear hcz13_1
           try clear hcz13_2
           try clear hcz13_3
           try clear hcz13_4
           try clear hcz13_5
           try clear hcz13_6
           try clear hcz14_0
           try clear hcz14_1
           try clear hcz14_2
           try clear hcz14_3
           try clear hcz14_4
           try clear hcz14_5
           try clear hcz14_6
           try clear hcz15_0
           try clear hcz15_1
           try clear hcz15_2
           try clear hcz15_3
           try clear hcz15_4
           try clear hcz15_5
           try clear hcz15_6
           try clear hcz19_0
           try clear hcz19_1
           try clear hcz19_2
           try clear hcz19_3
           try clear hcz19_4
           try clear hcz19_5
           try clear hcz19_6
           try clear hcz22_0
           try clear hcz22_1
           try clear hcz22_2
           try clear hcz22_3
           try clear hcz22_4
           try clear hcz22_5
           try clear hcz22_6
           try clear hcz23_0
           try clear hcz23_1
           try clear hcz23_2
           try clear hcz23_3
           try clear hcz23_4
           try clear hcz23_5
           try clear hcz23_6
           try clear hcz24_0
           try clear hcz24_1
           try clear hcz24_2
           try clear hcz24_3
           try clear hcz24_4
           try clear hcz24_5
           try clear hcz24_6
           try clear hcz5_0
           try clear hcz5_1
           try clear hcz5_2
           try clear hcz5_3
           try clear hcz5_4
           try clear hcz5_5
           try clear hcz5_6
           try clear hcz7_0
           try clear hcz7_1
           try clear hcz7_2
           try clear hcz7_3
           try clear hcz7_4
           try clear hcz7_5
           try clear hcz7_6
           try clear hcz8_0
           try clear hcz8_1
           try clear hcz8_2
           try clear hcz8_3
           try clear hcz8_4
           try clear hcz8_5
           try clear hcz8_6
           try clear hfz13_0
           try clear hfz13_1
           try clear hfz13_2
           try clear hfz13_3
           try clear hfz13_4
           try clear hfz13_5
           try clear hfz13_6
           try clear hfz14_0
           try clear hfz14_1
           try clear hfz14_2
           try clear hfz14_3
           try clear hfz14_4
           try clear hfz14_5
           try clear hfz14_6
           try clear hfz15_0
           try clear hfz15_1
           try clear hfz15_2
           try clear hfz15_3
           try clear hfz15_4
           try clear hfz15_5
           try clear hfz15_6
           try clear hfz19_0
           try clear hfz19_1
           try clear hfz19_2
           try clear hfz19_3
           try clear hfz19_4
           try clear hfz19_5
           try clear hfz19_6
           try clear hfz22_0
           try clear hfz22_1
           try clear hfz22_2
           try clear hfz22_3
           try clear hfz22_4
           try clear hfz22_5
           try clear hfz22_6
           try clear hfz23_0
           try clear hfz23_1
           try clear hfz23_2
           try clear hfz23_3
           try clear hfz23_4
           try clear hfz23_5
           try clear hfz23_6
           try clear hfz24_0
           try clear hfz24_1
           try clear hfz24_2
           try clear hfz24_3
           try clear hfz24_4
           try clear hfz24_5
           try clear hfz24_6
           try clear hfz5_0
           try clear hfz5_1
           try clear hfz5_2
           try clear hfz5_3
           try clear hfz5_4
           try clear hfz5_5
           try clear hfz5_6
           try clear hfz7_0
           try clear hfz7_1
           try clear hfz7_2
           try clear hfz7_3
           try clear hfz7_4
           try clear hfz7_5
           try clear hfz7_6
           try clear hfz8_0
           try clear hfz8_1
           try clear hfz8_2
           try clear hfz8_3
           try clear hfz8_4
           try clear hfz8_5
           try clear hfz8_6
           try clear hx233_0
           try clear p2
           try clear p233
           try clear q233
           obtain ⟨x7_4, rfl, HA, HK4, BK229, HB⟩ := hrel
           cases gk with
           | zero => exact absurd HA.out (by simp [nuncioref05_shaped.l1])
           | succ k4 =>
            have H := HA.out
            clear HA
            simp only [nuncioref05_shaped.l1] at H
            by_cases c25 : x7_4 < (l0_6.length : Int)
            ·
             rw [if_pos c25] at H
             have c25b0 : decide (x7_4 < (l0_6.length : Int)) = true := decide_eq_true c25
             clear c25
             by_cases c26 : a0_1 = 16
             ·
              rw [if_pos c26] at H
              have c26b0 : (a0_1 == 16) = true := beq_iff_eq.mpr c26
              have c26b1 : (a0_1 != 16) = false := bne_eq_false_iff_eq.mpr c26
              clear c26
              by_cases c27 : 0 ≤ x7_4
              ·
               rw [if_pos c27] at H
               have c27b0 : decide (0 ≤ x7_4) = true := decide_eq_true c27
               clear c27
               by_cases c28 : ((rdOf ByteArray.empty l0_6 x7_4).size : Int) > 255
               ·
                rw [if_pos c28] at H
                have c28b0 : decide (255 < ((rdOf ByteArray.empty l0_6 x7_4).size : Int)) = true := decide_eq_true c28
                have c28b1 : decide (255 < (rdOf ByteArray.empty l0_6 x7_4).size) = true := decide_eq_true (by omega)
                clear c28
                obtain rfl := Option.some.inj H
                have hcz29_0 : wr.cell? ⟨gb229, 0, none⟩ = some (.string a0_0) := (blk_cell BK229.out 0).trans rfl
                have hcz29_1 : wr.cell? ⟨gb229, 1, none⟩ = some (.int .u16 a0_1) := (blk_cell BK229.out 1).trans rfl
                have hcz29_2 : wr.cell? ⟨gb229, 2, none⟩ = some (.int .u16 a0_2) := (blk_cell BK229.out 2).trans rfl
                have hcz29_3 : wr.cell? ⟨gb229, 3, none⟩ = some (.int .u32 a0_3) := (blk_cell BK229.out 3).trans rfl
                have hcz29_4 : wr.cell? ⟨gb229, 4, none⟩ = some (.slice A0_4 l0_4.length c0_4) := (blk_cell BK229.out 4).trans rfl
                have hcz29_5 : wr.cell? ⟨gb229, 5, none⟩ = some (.slice A0_5 l0_5.length c0_5) := (blk_cell BK229.out 5).trans rfl
                have hcz29_6 : wr.cell? ⟨gb229, 6, none⟩ = some (.slice A0_6 l0_6.length c0_6) := (blk_cell BK229.out 6).trans rfl
                have hfz29_0 := blk_frozen BK229.out 0
                have hfz29_1 := blk_frozen BK229.out 1
                have hfz29_2 := blk_frozen BK229.out 2
                have hfz29_3 := blk_frozen BK229.out 3
                have hfz29_4 := blk_frozen BK229.out 4
                have hfz29_5 := blk_frozen BK229.out 5
                have hfz29_6 := blk_frozen BK229.out 6
                have p234 : 0 ≤ (x7_4 : Int) := of_decide_eq_true (by first | (with_reducible assumption) | assumption)
                have q234 : x7_4 < (l0_6.length : Int) := of_decide_eq_true (by first | (with_reducible assumption) | assumption)
                obtain ⟨ad234, e234, hx234_0⟩ := Kd.at_string HR0_6.out x7_4 p234 q234
                cases e234
                replace hx234_0 := (HB.out.cell (World.block_lt_of_cell? w _ hx234_0)).trans hx234_0
                replace p234 := eq_true p234
                replace q234 := eq_true q234
                go_wp2
                go_ret
                exact ⟨by first | rfl | (simp [errW_none, errW_some] <;> rfl) | (simp [*, errW_none, errW_some] <;> rfl), by repeat (first | (with_reducible first | exact HB.out | apply below_alloc | apply pw_below_drewN | apply below_drew1 | refine below_set ?_ GE229.out) | exact HB.out)⟩
               ·
                rw [if_neg c28] at H
                have c28b0 : decide (255 < ((rdOf ByteArray.empty l0_6 x7_4).size : Int)) = false := decide_eq_false c28
                have c28b1 : decide (255 < (rdOf ByteArray.empty l0_6 x7_4).size) = false := decide_eq_false (by omega)
                clear c28
                by_cases c30 : a0_1 = 1
                ·
                 rw [if_pos c30] at H
                 have c30b0 : (a0_1 == 1) = true := beq_iff_eq.mpr c30
                 have c30b1 : (a0_1 != 1) = false := bne_eq_false_iff_eq.mpr c30
                 clear c30
                 by_cases c31 : ((rdOf ByteArray.empty l0_6 x7_4).size : Int) = 4
                 ·
                  rw [if_pos c31] at H
                  have c31b0 : (((rdOf ByteArray.empty l0_6 x7_4).size : Int) == 4) = true := beq_iff_eq.mpr c31
                  have c31b1 : (((rdOf ByteArray.empty l0_6 x7_4).size : Int) != 4) = false := bne_eq_false_iff_eq.mpr c31
                  clear c31
                  by_cases c32 : a0_1 = 28
                  ·
                   rw [if_pos c32] at H
                   have c32b0 : (a0_1 == 28) = true := beq_iff_eq.mpr c32
                   have c32b1 : (a0_1 != 28) = false := bne_eq_false_iff_eq.mpr c32
                   clear c32
                   by_cases c33 : ((rdOf ByteArray.empty l0_6 x7_4).size : Int) = 16
                   ·
                    rw [if_pos c33] at H
                    have c33b0 : (((rdOf ByteArray.empty l0_6 x7_4).size : Int) == 16) = true := beq_iff_eq.mpr c33
                    have c33b1 : (((rdOf ByteArray.empty l0_6 x7_4).size : Int) != 16) = false := bne_eq_false_iff_eq.mpr c33
                    clear c33
                    have H' := Aside0.mk H
                    clear H
                    have hcz34_0 : wr.cell? ⟨gb229, 0, none⟩ = some (.string a0_0) := (blk_cell BK229.out 0).trans rfl
                    have hcz34_1 : wr.cell? ⟨gb229, 1, none⟩ = some (.int .u16 a0_1) := (blk_cell BK229.out 1).trans rfl
                    have hcz34_2 : wr.cell? ⟨gb229, 2, none⟩ = some (.int .u16 a0_2) := (blk_cell BK229.out 2).trans rfl
                    have hcz34_3 : wr.cell? ⟨gb229, 3, none⟩ = some (.int .u32 a0_3) := (blk_cell BK229.out 3).trans rfl
                    have hcz34_4 : wr.cell? ⟨gb229, 4, none⟩ = some (.slice A0_4 l0_4.length c0_4) := (blk_cell BK229.out 4).trans rfl
                    have hcz34_5 : wr.cell? ⟨gb229, 5, none⟩ = some (.slice A0_5 l0_5.length c0_5) := (blk_cell BK229.out 5).trans rfl
                    have hcz34_6 : wr.cell? ⟨gb229, 6, none⟩ = some (.slice A0_6 l0_6.length c0_6) := (blk_cell BK229.out 6).trans rfl
                    have hfz34_0 := blk_frozen BK229.out 0
                    have hfz34_1 := blk_frozen BK229.out 1
                    have hfz34_2 := blk_frozen BK229.out 2
                    have hfz34_3 := blk_frozen BK229.out 3
                    have hfz34_4 := blk_frozen BK229.out 4
                    have hfz34_5 := blk_frozen BK229.out 5
                    have hfz34_6 := blk_frozen BK229.out 6
                    have p234 : 0 ≤ (x7_4 : Int) := of_decide_eq_true (by first | (with_reducible assumption) | assumption)
                    have q234 : x7_4 < (l0_6.length : Int) := of_decide_eq_true (by first | (with_reducible assumption) | assumption)
                    obtain ⟨ad234, e234, hx234_0⟩ := Kd.at_string HR0_6.out x7_4 p234 q234
                    cases e234
                    replace hx234_0 := (HB.out.cell (World.block_lt_of_cell? w _ hx234_0)).trans hx234_0
                    replace p234 := eq_true p234
                    replace q234 := eq_true q234
                    have p235 : 0 ≤ (x7_4 : Int) := of_decide_eq_true (by first | (with_reducible assumption) | assumption)
                    have q235 : x7_4 < (l0_6.length : Int) := of_decide_eq_true (by first | (with_reducible assumption) | assumption)
                    obtain ⟨ad235, e235, hx235_0⟩ := Kd.at_string HR0_6.out x7_4 p235 q235
                    obtain rfl : ad234 = ad235 := (by injection e235)
                    replace hx235_0 := (HB.out.cell (World.block_lt_of_cell? w _ hx235_0)).trans hx235_0
                    replace p235 := eq_true p235
                    replace q235 := eq_true q235
                    have p236 : 0 ≤ (x7_4 : Int) := of_decide_eq_true (by first | (with_reducible assumption) | assumption)
                    have q236 : x7_4 < (l0_6.length : Int) := of_decide_eq_true (by first | (with_reducible assumption) | assumption)
                    obtain ⟨ad236, e236, hx236_0⟩ := Kd.at_string HR0_6.out x7_4 p236 q236
                    obtain rfl : ad234 = ad236 := (by injection e236)
                    replace hx236_0 := (HB.out.cell (World.block_lt_of_cell? w _ hx236_0)).trans hx236_0
                    replace p236 := eq_true p236
                    replace q236 := eq_true q236
                    go_wp2
                    go_roundg k4
                    case measure => have := HJ2.out; have := HJ9.out; have := HK3.out; have := HK4.out; omega
                    case rel => exact ⟨(wrap64 (x7_4 + 1)), (by first | rfl | (simp; done) | (simp [*]; done)), H', ⟨by have := HJ2.out; have := HJ9.out; have := HK3.out; have := HK4.out; omega⟩, ⟨by (with_reducible repeat (first | refine blk_drewN ?_ _ | refine blk_drew ?_ | refine blk_alloc ?_ _)); exact BK229.out⟩, ⟨by repeat (first | (with_reducible first | exact HB.out | apply below_alloc | apply pw_below_drewN | apply below_drew1 | refine below_set ?_ GE229.out) | exact HB.out)⟩⟩
                   ·
                    rw [if_neg c33] at H
                    have c33b0 : (((rdOf ByteArray.empty l0_6 x7_4).size : Int) == 16) = false := beq_eq_false_iff_ne.mpr c33
                    have c33b1 : (((rdOf ByteArray.empty l0_6 x7_4).size : Int) != 16) = true := bne_iff_ne.mpr c33
                    obtain rfl := Option.some.inj H
                    have hcz35_0 : wr.cell? ⟨gb229, 0, none⟩ = some (.string a0_0) := (blk_cell BK229.out 0).trans rfl
                    have hcz35_1 : wr.cell? ⟨gb229, 1, none⟩ = some (.int .u16 a0_1) := (blk_cell BK229.out 1).trans rfl
                    have hcz35_2 : wr.cell? ⟨gb229, 2, none⟩ = some (.int .u16 a0_2) := (blk_cell BK229.out 2).trans rfl
                    have hcz35_3 : wr.cell? ⟨gb229, 3, none⟩ = some (.int .u32 a0_3) := (blk_cell BK229.out 3).trans rfl
                    have hcz35_4 : wr.cell? ⟨gb229, 4, none⟩ = some (.slice A0_4 l0_4.length c0_4) := (blk_cell BK229.out 4).trans rfl
                    have hcz35_5 : wr.cell? ⟨gb229, 5, none⟩ = some (.slice A0_5 l0_5.length c0_5) := (blk_cell BK229.out 5).trans rfl
                    have hcz35_6 : wr.cell? ⟨gb229, 6, none⟩ = some (.slice A0_6 l0_6.length c0_6) := (blk_cell BK229.out 6).trans rfl
                    have hfz35_0 := blk_frozen BK229.out 0
                    have hfz35_1 := blk_frozen BK229.out 1
                    have hfz35_2 := blk_frozen BK229.out 2
                    have hfz35_3 := blk_frozen BK229.out 3
                    have hfz35_4 := blk_frozen BK229.out 4
                    have hfz35_5 := blk_frozen BK229.out 5
                    have hfz35_6 := blk_frozen BK229.out 6
                    have p234 : 0 ≤ (x7_4 : Int) := of_decide_eq_true (by first | (with_reducible assumption) | assumption)
                    have q234 : x7_4 < (l0_6.length : Int) := of_decide_eq_true (by first | (with_reducible assumption) | assumption)
                    obtain ⟨ad234, e234, hx234_0⟩ := Kd.at_string HR0_6.out x7_4 p234 q234
                    cases e234
                    replace hx234_0 := (HB.out.cell (World.block_lt_of_cell? w _ hx234_0)).trans hx234_0
                    replace p234 := eq_true p234
                    replace q234 := eq_true q234
                    have p235 : 0 ≤ (x7_4 : Int) := of_decide_eq_true (by first | (with_reducible assumption) | assumption)
                    have q235 : x7_4 < (l0_6.length : Int) := of_decide_eq_true (by first | (with_reducible assumption) | assumption)
                    obtain ⟨ad235, e235, hx235_0⟩ := Kd.at_string HR0_6.out x7_4 p235 q235
                    obtain rfl : ad234 = ad235 := (by injection e235)
                    replace hx235_0 := (HB.out.cell (World.block_lt_of_cell? w _ hx235_0)).trans hx235_0
                    replace p235 := eq_true p235
                    replace q235 := eq_true q235
                    have p236 : 0 ≤ (x7_4 : Int) := of_decide_eq_true (by first | (with_reducible assumption) | assumption)
                    have q236 : x7_4 < (l0_6.length : Int) := of_decide_eq_true (by first | (with_reducible assumption) | assumption)
                    obtain ⟨ad236, e236, hx236_0⟩ := Kd.at_string HR0_6.out x7_4 p236 q236
                    obtain rfl : ad234 = ad236 := (by injection e236)
                    replace hx236_0 := (HB.out.cell (World.block_lt_of_cell? w _ hx236_0)).trans hx236_0
                    replace p236 := eq_true p236
                    replace q236 := eq_true q236
                    go_wp2
                    go_ret
                    exact ⟨by first | rfl | (simp [errW_none, errW_some] <;> rfl) | (simp [*, errW_none, errW_some] <;> rfl), by repeat (first | (with_reducible first | exact HB.out | apply below_alloc | apply pw_below_drewN | apply below_drew1 | refine below_set ?_ GE229.out) | exact HB.out)⟩
                  ·
                   rw [if_neg c32] at H
                   have c32b0 : (a0_1 == 28) = false := beq_eq_false_iff_ne.mpr c32
                   have c32b1 : (a0_1 != 28) = true := bne_iff_ne.mpr c32
                   have H' := Aside0.mk H
                   clear H
                   have hcz36_0 : wr.cell? ⟨gb229, 0, none⟩ = some (.string a0_0) := (blk_cell BK229.out 0).trans rfl
                   have hcz36_1 : wr.cell? ⟨gb229, 1, none⟩ = some (.int .u16 a0_1) := (blk_cell BK229.out 1).trans rfl
                   have hcz36_2 : wr.cell? ⟨gb229, 2, none⟩ = some (.int .u16 a0_2) := (blk_cell BK229.out 2).trans rfl
                   have hcz36_3 : wr.cell? ⟨gb229, 3, none⟩ = some (.int .u32 a0_3) := (blk_cell BK229.out 3).trans rfl
                   have hcz36_4 : wr.cell? ⟨gb229, 4, none⟩ = some (.slice A0_4 l0_4.length c0_4) := (blk_cell BK229.out 4).trans rfl
                   have hcz36_5 : wr.cell? ⟨gb229, 5, none⟩ = some (.slice A0_5 l0_5.length c0_5) := (blk_cell BK229.out 5).trans rfl
                   have hcz36_6 : wr.cell? ⟨gb229, 6, none⟩ = some (.slice A0_6 l0_6.length c0_6) := (blk_cell BK229.out 6).trans rfl
                   have hfz36_0 := blk_frozen BK229.out 0
                   have hfz36_1 := blk_frozen BK229.out 1
                   have hfz36_2 := blk_frozen BK229.out 2
                   have hfz36_3 := blk_frozen BK229.out 3
                   have hfz36_4 := blk_frozen BK229.out 4
                   have hfz36_5 := blk_frozen BK229.out 5
                   have hfz36_6 := blk_frozen BK229.out 6
                   have p234 : 0 ≤ (x7_4 : Int) := of_decide_eq_true (by first | (with_reducible assumption) | assumption)
                   have q234 : x7_4 < (l0_6.length : Int) := of_decide_eq_true (by first | (with_reducible assumption) | assumption)
                   obtain ⟨ad234, e234, hx234_0⟩ := Kd.at_string HR0_6.out x7_4 p234 q234
                   cases e234
                   replace hx234_0 := (HB.out.cell (World.block_lt_of_cell? w _ hx234_0)).trans hx234_0
                   replace p234 := eq_true p234
                   replace q234 := eq_true q234
                   have p235 : 0 ≤ (x7_4 : Int) := of_decide_eq_true (by first | (with_reducible assumption) | assumption)
                   have q235 : x7_4 < (l0_6.length : Int) := of_decide_eq_true (by first | (with_reducible assumption) | assumption)
                   obtain ⟨ad235, e235, hx235_0⟩ := Kd.at_string HR0_6.out x7_4 p235 q235
                   obtain rfl : ad234 = ad235 := (by injection e235)
                   replace hx235_0 := (HB.out.cell (World.block_lt_of_cell? w _ hx235_0)).trans hx235_0
                   replace p235 := eq_true p235
                   replace q235 := eq_true q235
                   go_wp2
                   go_roundg k4
                   case measure => have := HJ2.out; have := HJ9.out; have := HK3.out; have := HK4.out; omega
                   case rel => exact ⟨(wrap64 (x7_4 + 1)), (by first | rfl | (simp; done) | (simp [*]; done)), H', ⟨by have := HJ2.out; have := HJ9.out; have := HK3.out; have := HK4.out; omega⟩, ⟨by (with_reducible repeat (first | refine blk_drewN ?_ _ | refine blk_drew ?_ | refine blk_alloc ?_ _)); exact BK229.out⟩, ⟨by repeat (first | (with_reducible first | exact HB.out | apply below_alloc | apply pw_below_drewN | apply below_drew1 | refine below_set ?_ GE229.out) | exact HB.out)⟩⟩
                 ·
                  rw [if_neg c31] at H
                  have c31b0 : (((rdOf ByteArray.empty l0_6 x7_4).size : Int) == 4) = false := beq_eq_false_iff_ne.mpr c31
                  have c31b1 : (((rdOf ByteArray.empty l0_6 x7_4).size : Int) != 4) = true := bne_iff_ne.mpr c31
                  obtain rfl := Option.some.inj H
                  have hcz37_0 : wr.cell? ⟨gb229, 0, none⟩ = some (.string a0_0) := (blk_cell BK229.out 0).trans rfl
                  have hcz37_1 : wr.cell? ⟨gb229, 1, none⟩ = some (.int .u16 a0_1) := (blk_cell BK229.out 1).trans rfl
                  have hcz37_2 : wr.cell? ⟨gb229, 2, none⟩ = some (.int .u16 a0_2) := (blk_cell BK229.out 2).trans rfl
                  have hcz37_3 : wr.cell? ⟨gb229, 3, none⟩ = some (.int .u32 a0_3) := (blk_cell BK229.out 3).trans rfl
                  have hcz37_4 : wr.cell? ⟨gb229, 4, none⟩ = some (.slice A0_4 l0_4.length c0_4) := (blk_cell BK229.out 4).trans rfl
                  have hcz37_5 : wr.cell? ⟨gb229, 5, none⟩ = some (.slice A0_5 l0_5.length c0_5) := (blk_cell BK229.out 5).trans rfl
                  have hcz37_6 : wr.cell? ⟨gb229, 6, none⟩ = some (.slice A0_6 l0_6.length c0_6) := (blk_cell BK229.out 6).trans rfl
                  have hfz37_0 := blk_frozen BK229.out 0
                  have hfz37_1 := blk_frozen BK229.out 1
                  have hfz37_2 := blk_frozen BK229.out 2
                  have hfz37_3 := blk_frozen BK229.out 3
                  have hfz37_4 := blk_frozen BK229.out 4
                  have hfz37_5 := blk_frozen BK229.out 5
                  have hfz37_6 := blk_frozen BK229.out 6
                  have p234 : 0 ≤ (x7_4 : Int) := of_decide_eq_true (by first | (with_reducible assumption) | assumption)
                  have q234 : x7_4 < (l0_6.length : Int) := of_decide_eq_true (by first | (with_reducible assumption) | assumption)
                  obtain ⟨ad234, e234, hx234_0⟩ := Kd.at_string HR0_6.out x7_4 p234 q234
                  cases e234
                  replace hx234_0 := (HB.out.cell (World.block_lt_of_cell? w _ hx234_0)).trans hx234_0
                  replace p234 := eq_true p234
                  replace q234 := eq_true q234
                  have p235 : 0 ≤ (x7_4 : Int) := of_decide_eq_true (by first | (with_reducible assumption) | assumption)
                  have q235 : x7_4 < (l0_6.length : Int) := of_decide_eq_true (by first | (with_reducible assumption) | assumption)
                  obtain ⟨ad235, e235, hx235_0⟩ := Kd.at_string HR0_6.out x7_4 p235 q235
                  obtain rfl : ad234 = ad235 := (by injection e235)
                  replace hx235_0 := (HB.out.cell (World.block_lt_of_cell? w _ hx235_0)).trans hx235_0
                  replace p235 := eq_true p235
                  replace q235 := eq_true q235
                  go_wp2
                  go_ret
                  exact ⟨by first | rfl | (simp [errW_none, errW_some] <;> rfl) | (simp [*, errW_none, errW_some] <;> rfl), by repeat (first | (with_reducible first | exact HB.out | apply below_alloc | apply pw_below_drewN | apply below_drew1 | refine below_set ?_ GE229.out) | exact HB.out)⟩
                ·
                 rw [if_neg c30] at H
                 have c30b0 : (a0_1 == 1) = false := beq_eq_false_iff_ne.mpr c30
                 have c30b1 : (a0_1 != 1) = true := bne_iff_ne.mpr c30
                 by_cases c38 : a0_1 = 28
                 ·
                  rw [if_pos c38] at H
                  have c38b0 : (a0_1 == 28) = true := beq_iff_eq.mpr c38
                  have c38b1 : (a0_1 != 28) = false := bne_eq_false_iff_eq.mpr c38
                  clear c38
                  by_cases c39 : ((rdOf ByteArray.empty l0_6 x7_4).size : Int) = 16
                  ·
                   rw [if_pos c39] at H
                   have c39b0 : (((rdOf ByteArray.empty l0_6 x7_4).size : Int) == 16) = true := beq_iff_eq.mpr c39
                   have c39b1 : (((rdOf ByteArray.empty l0_6 x7_4).size : Int) != 16) = false := bne_eq_false_iff_eq.mpr c39
                   clear c39
                   have H' := Aside0.mk H
                   clear H
                   have hcz40_0 : wr.cell? ⟨gb229, 0, none⟩ = some (.string a0_0) := (blk_cell BK229.out 0).trans rfl
                   have hcz40_1 : wr.cell? ⟨gb229, 1, none⟩ = some (.int .u16 a0_1) := (blk_cell BK229.out 1).trans rfl
                   have hcz40_2 : wr.cell? ⟨gb229, 2, none⟩ = some (.int .u16 a0_2) := (blk_cell BK229.out 2).trans rfl
                   have hcz40_3 : wr.cell? ⟨gb229, 3, none⟩ = some (.int .u32 a0_3) := (blk_cell BK229.out 3).trans rfl
                   have hcz40_4 : wr.cell? ⟨gb229, 4, none⟩ = some (.slice A0_4 l0_4.length c0_4) := (blk_cell BK229.out 4).trans rfl
                   have hcz40_5 : wr.cell? ⟨gb229, 5, none⟩ = some (.slice A0_5 l0_5.length c0_5) := (blk_cell BK229.out 5).trans rfl
                   have hcz40_6 : wr.cell? ⟨gb229, 6, none⟩ = some (.slice A0_6 l0_6.length c0_6) := (blk_cell BK229.out 6).trans rfl
                   have hfz40_0 := blk_frozen BK229.out 0
                   have hfz40_1 := blk_frozen BK229.out 1
                   have hfz40_2 := blk_frozen BK229.out 2
                   have hfz40_3 := blk_frozen BK229.out 3
                   have hfz40_4 := blk_frozen BK229.out 4
                   have hfz40_5 := blk_frozen BK229.out 5
                   have hfz40_6 := blk_frozen BK229.out 6
                   have p234 : 0 ≤ (x7_4 : Int) := of_decide_eq_true (by first | (with_reducible assumption) | assumption)
                   have q234 : x7_4 < (l0_6.length : Int) := of_decide_eq_true (by first | (with_reducible assumption) | assumption)
                   obtain ⟨ad234, e234, hx234_0⟩ := Kd.at_string HR0_6.out x7_4 p234 q234
                   cases e234
                   replace hx234_0 := (HB.out.cell (World.block_lt_of_cell? w _ hx234_0)).trans hx234_0
                   replace p234 := eq_true p234
                   replace q234 := eq_true q234
                   have p237 : 0 ≤ (x7_4 : Int) := of_decide_eq_true (by first | (with_reducible assumption) | assumption)
                   have q237 : x7_4 < (l0_6.length : Int) := of_decide_eq_true (by first | (with_reducible assumption) | assumption)
                   obtain ⟨ad237, e237, hx237_0⟩ := Kd.at_string HR0_6.out x7_4 p237 q237
                   obtain rfl : ad234 = ad237 := (by injection e237)
                   replace hx237_0 := (HB.out.cell (World.block_lt_of_cell? w _ hx237_0)).trans hx237_0
                   replace p237 := eq_true p237
                   replace q237 := eq_true q237
                   go_wp2
                   go_roundg k4
                   case measure => have := HJ2.out; have := HJ9.out; have := HK3.out; have := HK4.out; omega
                   case rel => exact ⟨(wrap64 (x7_4 + 1)), (by first | rfl | (simp; done) | (simp [*]; done)), H', ⟨by have := HJ2.out; have := HJ9.out; have := HK3.out; have := HK4.out; omega⟩, ⟨by (with_reducible repeat (first | refine blk_drewN ?_ _ | refine blk_drew ?_ | refine blk_alloc ?_ _)); exact BK229.out⟩, ⟨by repeat (first | (with_reducible first | exact HB.out | apply below_alloc | apply pw_below_drewN | apply below_drew1 | refine below_set ?_ GE229.out) | exact HB.out)⟩⟩
                  ·
                   rw [if_neg c39] at H
                   have c39b0 : (((rdOf ByteArray.empty l0_6 x7_4).size : Int) == 16) = false := beq_eq_false_iff_ne.mpr c39
                   have c39b1 : (((rdOf ByteArray.empty l0_6 x7_4).size : Int) != 16) = true := bne_iff_ne.mpr c39
                   obtain rfl := Option.some.inj H
                   have hcz41_0 : wr.cell? ⟨gb229, 0, none⟩ = some (.string a0_0) := (blk_cell BK229.out 0).trans rfl
                   have hcz41_1 : wr.cell? ⟨gb229, 1, none⟩ = some (.int .u16 a0_1) := (blk_cell BK229.out 1).trans rfl
                   have hcz41_2 : wr.cell? ⟨gb229, 2, none⟩ = some (.int .u16 a0_2) := (blk_cell BK229.out 2).trans rfl
                   have hcz41_3 : wr.cell? ⟨gb229, 3, none⟩ = some (.int .u32 a0_3) := (blk_cell BK229.out 3).trans rfl
                   have hcz41_4 : wr.cell? ⟨gb229, 4, none⟩ = some (.slice A0_4 l0_4.length c0_4) := (blk_cell BK229.out 4).trans rfl
                   have hcz41_5 : wr.cell? ⟨gb229, 5, none⟩ = some (.slice A0_5 l0_5.length c0_5) := (blk_cell BK229.out 5).trans rfl
                   have hcz41_6 : wr.cell? ⟨gb229, 6, none⟩ = some (.slice A0_6 l0_6.length c0_6) := (blk_cell BK229.out 6).trans rfl
                   have hfz41_0 := blk_frozen BK229.out 0
                   have hfz41_1 := blk_frozen BK229.out 1
                   have hfz41_2 := blk_frozen BK229.out 2
                   have hfz41_3 := blk_frozen BK229.out 3
                   have hfz41_4 := blk_frozen BK229.out 4
                   have hfz41_5 := blk_frozen BK229.out 5
                   have hfz41_6 := blk_frozen BK229.out 6
                   have p234 : 0 ≤ (x7_4 : Int) := of_decide_eq_true (by first | (with_reducible assumption) | assumption)
                   have q234 : x7_4 < (l0_6.length : Int) := of_decide_eq_true (by first | (with_reducible assumption) | assumption)
                   obtain ⟨ad234, e234, hx234_0⟩ := Kd.at_string HR0_6.out x7_4 p234 q234
                   cases e234
                   replace hx234_0 := (HB.out.cell (World.block_lt_of_cell? w _ hx234_0)).trans hx234_0
                   replace p234 := eq_true p234
                   replace q234 := eq_true q234
                   have p237 : 0 ≤ (x7_4 : Int) := of_decide_eq_true (by first | (with_reducible assumption) | assumption)
                   have q237 : x7_4 < (l0_6.length : Int) := of_decide_eq_true (by first | (with_reducible assumption) | assumption)
                   obtain ⟨ad237, e237, hx237_0⟩ := Kd.at_string HR0_6.out x7_4 p237 q237
                   obtain rfl : ad234 = ad237 := (by injection e237)
                   replace hx237_0 := (HB.out.cell (World.block_lt_of_cell? w _ hx237_0)).trans hx237_0
                   replace p237 := eq_true p237
                   replace q237 := eq_true q237
                   go_wp2
                   go_ret
                   exact ⟨by first | rfl | (simp [errW_none, errW_some] <;> rfl) | (simp [*, errW_none, errW_some] <;> rfl), by repeat (first | (with_reducible first | exact HB.out | apply below_alloc | apply pw_below_drewN | apply below_drew1 | refine below_set ?_ GE229.out) | exact HB.out)⟩
                 ·
                  rw [if_neg c38] at H
                  have c38b0 : (a0_1 == 28) = false := beq_eq_false_iff_ne.mpr c38
                  have c38b1 : (a0_1 != 28) = true := bne_iff_ne.mpr c38
                  have H' := Aside0.mk H
                  clear H
                  have hcz42_0 : wr.cell? ⟨gb229, 0, none⟩ = some (.string a0_0) := (blk_cell BK229.out 0).trans rfl
                  have hcz42_1 : wr.cell? ⟨gb229, 1, none⟩ = some (.int .u16 a0_1) := (blk_cell BK229.out 1).trans rfl
                  have hcz42_2 : wr.cell? ⟨gb229, 2, none⟩ = some (.int .u16 a0_2) := (blk_cell BK229.out 2).trans rfl
                  have hcz42_3 : wr.cell? ⟨gb229, 3, none⟩ = some (.int .u32 a0_3) := (blk_cell BK229.out 3).trans rfl
                  have hcz42_4 : wr.cell? ⟨gb229, 4, none⟩ = some (.slice A0_4 l0_4.length c0_4) := (blk_cell BK229.out 4).trans rfl
                  have hcz42_5 : wr.cell? ⟨gb229, 5, none⟩ = some (.slice A0_5 l0_5.length c0_5) := (blk_cell BK229.out 5).trans rfl
                  have hcz42_6 : wr.cell? ⟨gb229, 6, none⟩ = some (.slice A0_6 l0_6.length c0_6) := (blk_cell BK229.out 6).trans rfl
                  have hfz42_0 := blk_frozen BK229.out 0
                  have hfz42_1 := blk_frozen BK229.out 1
                  have hfz42_2 := blk_frozen BK229.out 2
                  have hfz42_3 := blk_frozen BK229.out 3
                  have hfz42_4 := blk_frozen BK229.out 4
                  have hfz42_5 := blk_frozen BK229.out 5
                  have hfz42_6 := blk_frozen BK229.out 6
                  have p234 : 0 ≤ (x7_4 : Int) := of_decide_eq_true (by first | (with_reducible assumption) | assumption)
                  have q234 : x7_4 < (l0_6.length : Int) := of_decide_eq_true (by first | (with_reducible assumption) | assumption)
                  obtain ⟨ad234, e234, hx234_0⟩ := Kd.at_string HR0_6.out x7_4 p234 q234
                  cases e234
                  replace hx234_0 := (HB.out.cell (World.block_lt_of_cell? w _ hx234_0)).trans hx234_0
                  replace p234 := eq_true p234
                  replace q234 := eq_true q234
                  go_wp2
                  go_roundg k4
                  case measure => have := HJ2.out; have := HJ9.out; have := HK3.out; have := HK4.out; omega
                  case rel => exact ⟨(wrap64 (x7_4 + 1)), (by first | rfl | (simp; done) | (simp [*]; done)), H', ⟨by have := HJ2.out; have := HJ9.out; have := HK3.out; have := HK4.out; omega⟩, ⟨by (with_reducible repeat (first | refine blk_drewN ?_ _ | refine blk_drew ?_ | refine blk_alloc ?_ _)); exact BK229.out⟩, ⟨by repeat (first | (with_reducible first | exact HB.out | apply below_alloc | apply pw_below_drewN | apply below_drew1 | refine below_set ?_ GE229.out) | exact HB.out)⟩⟩
              ·
               rw [if_neg c27] at H
               exact absurd H (by simp)
             ·
              rw [if_neg c26] at H
              have c26b0 : (a0_1 == 16) = false := beq_eq_false_iff_ne.mpr c26
              have c26b1 : (a0_1 != 16) = true := bne_iff_ne.mpr c26
              by_cases c43 : a0_1 = 1
              ·
               rw [if_pos c43] at H
               have c43b0 : (a0_1 == 1) = true := beq_iff_eq.mpr c43
               have c43b1 : (a0_1 != 1) = false := bne_eq_false_iff_eq.mpr c43
               clear c43
               by_cases c44 : 0 ≤ x7_4
               ·
                rw [if_pos c44] at H
                have c44b0 : decide (0 ≤ x7_4) = true := decide_eq_true c44
                clear c44
                by_cases c45 : ((rdOf ByteArray.empty l0_6 x7_4).size : Int) = 4
                ·
                 rw [if_pos c45] at H
                 have c45b0 : (((rdOf ByteArray.empty l0_6 x7_4).size : Int) == 4) = true := beq_iff_eq.mpr c45
                 have c45b1 : (((rdOf ByteArray.empty l0_6 x7_4).size : Int) != 4) = false := bne_eq_false_iff_eq.mpr c45
                 clear c45
                 by_cases c46 : a0_1 = 28
                 ·
                  rw [if_pos c46] at H
                  have c46b0 : (a0_1 == 28) = true := beq_iff_eq.mpr c46
                  have c46b1 : (a0_1 != 28) = false := bne_eq_false_iff_eq.mpr c46
                  clear c46
                  by_cases c47 : ((rdOf ByteArray.empty l0_6 x7_4).size : Int) = 16
                  ·
                   rw [if_pos c47] at H
                   have c47b0 : (((rdOf ByteArray.empty l0_6 x7_4).size : Int) == 16) = true := beq_iff_eq.mpr c47
                   have c47b1 : (((rdOf ByteArray.empty l0_6 x7_4).size : Int) != 16) = false := bne_eq_false_iff_eq.mpr c47
                   clear c47
                   have H' := Aside0.mk H
                   clear H
                   have hcz48_0 : wr.cell? ⟨gb229, 0, none⟩ = some (.string a0_0) := (blk_cell BK229.out 0).trans rfl
                   have hcz48_1 : wr.cell? ⟨gb229, 1, none⟩ = some (.int .u16 a0_1) := (blk_cell BK229.out 1).trans rfl
                   have hcz48_2 : wr.cell? ⟨gb229, 2, none⟩ = some (.int .u16 a0_2) := (blk_cell BK229.out 2).trans rfl
                   have hcz48_3 : wr.cell? ⟨gb229, 3, none⟩ = some (.int .u32 a0_3) := (blk_cell BK229.out 3).trans rfl
                   have hcz48_4 : wr.cell? ⟨gb229, 4, none⟩ = some (.slice A0_4 l0_4.length c0_4) := (blk_cell BK229.out 4).trans rfl
                   have hcz48_5 : wr.cell? ⟨gb229, 5, none⟩ = some (.slice A0_5 l0_5.length c0_5) := (blk_cell BK229.out 5).trans rfl
                   have hcz48_6 : wr.cell? ⟨gb229, 6, none⟩ = some (.slice A0_6 l0_6.length c0_6) := (blk_cell BK229.out 6).trans rfl
                   have hfz48_0 := blk_frozen BK229.out 0
                   have hfz48_1 := blk_frozen BK229.out 1
                   have hfz48_2 := blk_frozen BK229.out 2
                   have hfz48_3 := blk_frozen BK229.out 3
                   have hfz48_4 := blk_frozen BK229.out 4
                   have hfz48_5 := blk_frozen BK229.out 5
                   have hfz48_6 := blk_frozen BK229.out 6
                   have p238 : 0 ≤ (x7_4 : Int) := of_decide_eq_true (by first | (with_reducible assumption) | assumption)
                   have q238 : x7_4 < (l0_6.length : Int) := of_decide_eq_true (by first | (with_reducible assumption) | assumption)
                   obtain ⟨ad238, e238, hx238_0⟩ := Kd.at_string HR0_6.out x7_4 p238 q238
                   cases e238
                   replace hx238_0 := (HB.out.cell (World.block_lt_of_cell? w _ hx238_0)).trans hx238_0
                   replace p238 := eq_true p238
                   replace q238 := eq_true q238
                   have p239 : 0 ≤ (x7_4 : Int) := of_decide_eq_true (by first | (with_reducible assumption) | assumption)
                   have q239 : x7_4 < (l0_6.length : Int) := of_decide_eq_true (by first | (with_reducible assumption) | assumption)
                   obtain ⟨ad239, e239, hx239_0⟩ := Kd.at_string HR0_6.out x7_4 p239 q239
                   obtain rfl : ad238 = ad239 := (by injection e239)
                   replace hx239_0 := (HB.out.cell (World.block_lt_of_cell? w _ hx239_0)).trans hx239_0
                   replace p239 := eq_true p239
                   replace q239 := eq_true q239
                   go_wp2
                   go_roundg k4
                   case measure => have := HJ2.out; have := HJ9.out; have := HK3.out; have := HK4.out; omega
                   case rel => exact ⟨(wrap64 (x7_4 + 1)), (by first | rfl | (simp; done) | (simp [*]; done)), H', ⟨by have := HJ2.out; have := HJ9.out; have := HK3.out; have := HK4.out; omega⟩, ⟨by (with_reducible repeat (first | refine blk_drewN ?_ _ | refine blk_drew ?_ | refine blk_alloc ?_ _)); exact BK229.out⟩, ⟨by repeat (first | (with_reducible first | exact HB.out | apply below_alloc | apply pw_below_drewN | apply below_drew1 | refine below_set ?_ GE229.out) | exact HB.out)⟩⟩
                  ·
                   rw [if_neg c47] at H
                   have c47b0 : (((rdOf ByteArray.empty l0_6 x7_4).size : Int) == 16) = false := beq_eq_false_iff_ne.mpr c47
                   have c47b1 : (((rdOf ByteArray.empty l0_6 x7_4).size : Int) != 16) = true := bne_iff_ne.mpr c47
                   obtain rfl := Option.some.inj H
                   have hcz49_0 : wr.cell? ⟨gb229, 0, none⟩ = some (.string a0_0) := (blk_cell BK229.out 0).trans rfl
                   have hcz49_1 : wr.cell? ⟨gb229, 1, none⟩ = some (.int .u16 a0_1) := (blk_cell BK229.out 1).trans rfl
                   have hcz49_2 : wr.cell? ⟨gb229, 2, none⟩ = some (.int .u16 a0_2) := (blk_cell BK229.out 2).trans rfl
                   have hcz49_3 : wr.cell? ⟨gb229, 3, none⟩ = some (.int .u32 a0_3) := (blk_cell BK229.out 3).trans rfl
                   have hcz49_4 : wr.cell? ⟨gb229, 4, none⟩ = some (.slice A0_4 l0_4.length c0_4) := (blk_cell BK229.out 4).trans rfl
                   have hcz49_5 : wr.cell? ⟨gb229, 5, none⟩ = some (.slice A0_5 l0_5.length c0_5) := (blk_cell BK229.out 5).trans rfl
                   have hcz49_6 : wr.cell? ⟨gb229, 6, none⟩ = some (.slice A0_6 l0_6.length c0_6) := (blk_cell BK229.out 6).trans rfl
                   have hfz49_0 := blk_frozen BK229.out 0
                   have hfz49_1 := blk_frozen BK229.out 1
                   have hfz49_2 := blk_frozen BK229.out 2
                   have hfz49_3 := blk_frozen BK229.out 3
                   have hfz49_4 := blk_frozen BK229.out 4
                   have hfz49_5 := blk_frozen BK229.out 5
                   have hfz49_6 := blk_frozen BK229.out 6
                   have p238 : 0 ≤ (x7_4 : Int) := of_decide_eq_true (by first | (with_reducible assumption) | assumption)
                   have q238 : x7_4 < (l0_6.length : Int) := of_decide_eq_true (by first | (with_reducible assumption) | assumption)
                   obtain ⟨ad238, e238, hx238_0⟩ := Kd.at_string HR0_6.out x7_4 p238 q238
                   cases e238
                   replace hx238_0 := (HB.out.cell (World.block_lt_of_cell? w _ hx238_0)).trans hx238_0
                   replace p238 := eq_true p238
                   replace q238 := eq_true q238
                   have p239 : 0 ≤ (x7_4 : Int) := of_decide_eq_true (by first | (with_reducible assumption) | assumption)
                   have q239 : x7_4 < (l0_6.length : Int) := of_decide_eq_true (by first | (with_reducible assumption) | assumption)
                   obtain ⟨ad239, e239, hx239_0⟩ := Kd.at_string HR0_6.out x7_4 p239 q239
                   obtain rfl : ad238 = ad239 := (by injection e239)
                   replace hx239_0 := (HB.out.cell (World.block_lt_of_cell? w _ hx239_0)).trans hx239_0
                   replace p239 := eq_true p239
                   replace q239 := eq_true q239
                   go_wp2
                   go_ret
                   exact ⟨by first | rfl | (simp [errW_none, errW_some] <;> rfl) | (simp [*, errW_none, errW_some] <;> rfl), by repeat (first | (with_reducible first | exact HB.out | apply below_alloc | apply pw_below_drewN | apply below_drew1 | refine below_set ?_ GE229.out) | exact HB.out)⟩
                 ·
                  rw [if_neg c46] at H
                  have c46b0 : (a0_1 == 28) = false := beq_eq_false_iff_ne.mpr c46
                  have c46b1 : (a0_1 != 28) = true := bne_iff_ne.mpr c46
                  have H' := Aside0.mk H
                  clear H
                  have hcz50_0 : wr.cell? ⟨gb229, 0, none⟩ = some (.string a0_0) := (blk_cell BK229.out 0).trans rfl
                  have hcz50_1 : wr.cell? ⟨gb229, 1, none⟩ = some (.int .u16 a0_1) := (blk_cell BK229.out 1).trans rfl
                  have hcz50_2 : wr.cell? ⟨gb229, 2, none⟩ = some (.int .u16 a0_2) := (blk_cell BK229.out 2).trans rfl
                  have hcz50_3 : wr.cell? ⟨gb229, 3, none⟩ = some (.int .u32 a0_3) := (blk_cell BK229.out 3).trans rfl
                  have hcz50_4 : wr.cell? ⟨gb229, 4, none⟩ = some (.slice A0_4 l0_4.length c0_4) := (blk_cell BK229.out 4).trans rfl
                  have hcz50_5 : wr.cell? ⟨gb229, 5, none⟩ = some (.slice A0_5 l0_5.length c0_5) := (blk_cell BK229.out 5).trans rfl
                  have hcz50_6 : wr.cell? ⟨gb229, 6, none⟩ = some (.slice A0_6 l0_6.length c0_6) := (blk_cell BK229.out 6).trans rfl
                  have hfz50_0 := blk_frozen BK229.out 0
                  have hfz50_1 := blk_frozen BK229.out 1
                  have hfz50_2 := blk_frozen BK229.out 2
                  have hfz50_3 := blk_frozen BK229.out 3
                  have hfz50_4 := blk_frozen BK229.out 4
                  have hfz50_5 := blk_frozen BK229.out 5
                  have hfz50_6 := blk_frozen BK229.out 6
                  have p238 : 0 ≤ (x7_4 : Int) := of_decide_eq_true (by first | (with_reducible assumption) | assumption)
                  have q238 : x7_4 < (l0_6.length : Int) := of_decide_eq_true (by first | (with_reducible assumption) | assumption)
                  obtain ⟨ad238, e238, hx238_0⟩ := Kd.at_string HR0_6.out x7_4 p238 q238
                  cases e238
                  replace hx238_0 := (HB.out.cell (World.block_lt_of_cell? w _ hx238_0)).trans hx238_0
                  replace p238 := eq_true p238
                  replace q238 := eq_true q238
                  go_wp2
                  go_roundg k4
                  case measure => have := HJ2.out; have := HJ9.out; have := HK3.out; have := HK4.out; omega
                  case rel => exact ⟨(wrap64 (x7_4 + 1)), (by first | rfl | (simp; done) | (simp [*]; done)), H', ⟨by have := HJ2.out; have := HJ9.out; have := HK3.out; have := HK4.out; omega⟩, ⟨by (with_reducible repeat (first | refine blk_drewN ?_ _ | refine blk_drew ?_ | refine blk_alloc ?_ _)); exact BK229.out⟩, ⟨by repeat (first | (with_reducible first | exact HB.out | apply below_alloc | apply pw_below_drewN | apply below_drew1 | refine below_set ?_ GE229.out) | exact HB.out)⟩⟩
                ·
                 rw [if_neg c45] at H
                 have c45b0 : (((rdOf ByteArray.empty l0_6 x7_4).size : Int) == 4) = false := beq_eq_false_iff_ne.mpr c45
                 have c45b1 : (((rdOf ByteArray.empty l0_6 x7_4).size : Int) != 4) = true := bne_iff_ne.mpr c45
                 obtain rfl := Option.some.inj H
                 have hcz51_0 : wr.cell? ⟨gb229, 0, none⟩ = some (.string a0_0) := (blk_cell BK229.out 0).trans rfl
                 have hcz51_1 : wr.cell? ⟨gb229, 1, none⟩ = some (.int .u16 a0_1) := (blk_cell BK229.out 1).trans rfl
                 have hcz51_2 : wr.cell? ⟨gb229, 2, none⟩ = some (.int .u16 a0_2) := (blk_cell BK229.out 2).trans rfl
                 have hcz51_3 : wr.cell? ⟨gb229, 3, none⟩ = some (.int .u32 a0_3) := (blk_cell BK229.out 3).trans rfl
                 have hcz51_4 : wr.cell? ⟨gb229, 4, none⟩ = some (.slice A0_4 l0_4.length c0_4) := (blk_cell BK229.out 4).trans rfl
                 have hcz51_5 : wr.cell? ⟨gb229, 5, none⟩ = some (.slice A0_5 l0_5.length c0_5) := (blk_cell BK229.out 5).trans rfl
                 have hcz51_6 : wr.cell? ⟨gb229, 6, none⟩ = some (.slice A0_6 l0_6.length c0_6) := (blk_cell BK229.out 6).trans rfl
                 have hfz51_0 := blk_frozen BK229.out 0
                 have hfz51_1 := blk_frozen BK229.out 1
                 have hfz51_2 := blk_frozen BK229.out 2
                 have hfz51_3 := blk_frozen BK229.out 3
                 have hfz51_4 := blk_frozen BK229.out 4
                 have hfz51_5 := blk_frozen BK229.out 5
                 have hfz51_6 := blk_frozen BK229.out 6
                 have p238 : 0 ≤ (x7_4 : Int) := of_decide_eq_true (by first | (with_reducible assumption) | assumption)
                 have q238 : x7_4 < (l0_6.length : Int) := of_decide_eq_true (by first | (with_reducible assumption) | assumption)
                 obtain ⟨ad238, e238, hx238_0⟩ := Kd.at_string HR0_6.out x7_4 p238 q238
                 cases e238
                 replace hx238_0 := (HB.out.cell (World.block_lt_of_cell? w _ hx238_0)).trans hx238_0
                 replace p238 := eq_true p238
                 replace q238 := eq_true q238
                 go_wp2
                 go_ret
                 exact ⟨by first | rfl | (simp [errW_none, errW_some] <;> rfl) | (simp [*, errW_none, errW_some] <;> rfl), by repeat (first | (with_reducible first | exact HB.out | apply below_alloc | apply pw_below_drewN | apply below_drew1 | refine below_set ?_ GE229.out) | exact HB.out)⟩
               ·
                rw [if_neg c44] at H
                exact absurd H (by simp)
              ·
               rw [if_neg c43] at H
               have c43b0 : (a0_1 == 1) = false := beq_eq_false_iff_ne.mpr c43
               have c43b1 : (a0_1 != 1) = true := bne_iff_ne.mpr c43
               by_cases c52 : a0_1 = 28
               ·
                rw [if_pos c52] at H
                have c52b0 : (a0_1 == 28) = true := beq_iff_eq.mpr c52
                have c52b1 : (a0_1 != 28) = false := bne_eq_false_iff_eq.mpr c52
                clear c52
                by_cases c53 : 0 ≤ x7_4
                ·
                 rw [if_pos c53] at H
                 have c53b0 : decide (0 ≤ x7_4) = true := decide_eq_true c53
                 clear c53
                 by_cases c54 : ((rdOf ByteArray.empty l0_6 x7_4).size : Int) = 16
                 ·
                  rw [if_pos c54] at H
                  have c54b0 : (((rdOf ByteArray.empty l0_6 x7_4).size : Int) == 16) = true := beq_iff_eq.mpr c54
                  have c54b1 : (((rdOf ByteArray.empty l0_6 x7_4).size : Int) != 16) = false := bne_eq_false_iff_eq.mpr c54
                  clear c54
                  have H' := Aside0.mk H
                  clear H
                  have hcz55_0 : wr.cell? ⟨gb229, 0, none⟩ = some (.string a0_0) := (blk_cell BK229.out 0).trans rfl
                  have hcz55_1 : wr.cell? ⟨gb229, 1, none⟩ = some (.int .u16 a0_1) := (blk_cell BK229.out 1).trans rfl
                  have hcz55_2 : wr.cell? ⟨gb229, 2, none⟩ = some (.int .u16 a0_2) := (blk_cell BK229.out 2).trans rfl
                  have hcz55_3 : wr.cell? ⟨gb229, 3, none⟩ = some (.int .u32 a0_3) := (blk_cell BK229.out 3).trans rfl
                  have hcz55_4 : wr.cell? ⟨gb229, 4, none⟩ = some (.slice A0_4 l0_4.length c0_4) := (blk_cell BK229.out 4).trans rfl
                  have hcz55_5 : wr.cell? ⟨gb229, 5, none⟩ = some (.slice A0_5 l0_5.length c0_5) := (blk_cell BK229.out 5).trans rfl
                  have hcz55_6 : wr.cell? ⟨gb229, 6, none⟩ = some (.slice A0_6 l0_6.length c0_6) := (blk_cell BK229.out 6).trans rfl
                  have hfz55_0 := blk_frozen BK229.out 0
                  have hfz55_1 := blk_frozen BK229.out 1
                  have hfz55_2 := blk_frozen BK229.out 2
                  have hfz55_3 := blk_frozen BK229.out 3
                  have hfz55_4 := blk_frozen BK229.out 4
                  have hfz55_5 := blk_frozen BK229.out 5
                  have hfz55_6 := blk_frozen BK229.out 6
                  have p240 : 0 ≤ (x7_4 : Int) := of_decide_eq_true (by first | (with_reducible assumption) | assumption)
                  have q240 : x7_4 < (l0_6.length : Int) := of_decide_eq_true (by first | (with_reducible assumption) | assumption)
                  obtain ⟨ad240, e240, hx240_0⟩ := Kd.at_string HR0_6.out x7_4 p240 q240
                  cases e240
                  replace hx240_0 := (HB.out.cell (World.block_lt_of_cell? w _ hx240_0)).trans hx240_0
                  replace p240 := eq_true p240
                  replace q240 := eq_true q240
                  go_wp2
                  go_roundg k4
                  case measure => have := HJ2.out; have := HJ9.out; have := HK3.out; have := HK4.out; omega
                  case rel => exact ⟨(wrap64 (x7_4 + 1)), (by first | rfl | (simp; done) | (simp [*]; done)), H', ⟨by have := HJ2.out; have := HJ9.out; have := HK3.out; have := HK4.out; omega⟩, ⟨by (with_reducible repeat (first | refine blk_drewN ?_ _ | refine blk_drew ?_ | refine blk_alloc ?_ _)); exact BK229.out⟩, ⟨by repeat (first | (with_reducible first | exact HB.out | apply below_alloc | apply pw_below_drewN | apply below_drew1 | refine below_set ?_ GE229.out) | exact HB.out)⟩⟩
                 ·
                  rw [if_neg c54] at H
                  have c54b0 : (((rdOf ByteArray.empty l0_6 x7_4).size : Int) == 16) = false := beq_eq_false_iff_ne.mpr c54
                  have c54b1 : (((rdOf ByteArray.empty l0_6 x7_4).size : Int) != 16) = true := bne_iff_ne.mpr c54
                  obtain rfl := Option.some.inj H
                  have hcz56_0 : wr.cell? ⟨gb229, 0, none⟩ = some (.string a0_0) := (blk_cell BK229.out 0).trans rfl
                  have hcz56_1 : wr.cell? ⟨gb229, 1, none⟩ = some (.int .u16 a0_1) := (blk_cell BK229.out 1).trans rfl
                  have hcz56_2 : wr.cell? ⟨gb229, 2, none⟩ = some (.int .u16 a0_2) := (blk_cell BK229.out 2).trans rfl
                  have hcz56_3 : wr.cell? ⟨gb229, 3, none⟩ = some (.int .u32 a0_3) := (blk_cell BK229.out 3).trans rfl
                  have hcz56_4 : wr.cell? ⟨gb229, 4, none⟩ = some (.slice A0_4 l0_4.length c0_4) := (blk_cell BK229.out 4).trans rfl
                  have hcz56_5 : wr.cell? ⟨gb229, 5, none⟩ = some (.slice A0_5 l0_5.length c0_5) := (blk_cell BK229.out 5).trans rfl
                  have hcz56_6 : wr.cell? ⟨gb229, 6, none⟩ = some (.slice A0_6 l0_6.length c0_6) := (blk_cell BK229.out 6).trans rfl
                  have hfz56_0 := blk_frozen BK229.out 0
                  have hfz56_1 := blk_frozen BK229.out 1
                  have hfz56_2 := blk_frozen BK229.out 2
                  have hfz56_3 := blk_frozen BK229.out 3
                  have hfz56_4 := blk_frozen BK229.out 4
                  have hfz56_5 := blk_frozen BK229.out 5
                  have hfz56_6 := blk_frozen BK229.out 6
                  have p240 : 0 ≤ (x7_4 : Int) := of_decide_eq_true (by first | (with_reducible assumption) | assumption)
                  have q240 : x7_4 < (l0_6.length : Int) := of_decide_eq_true (by first | (with_reducible assumption) | assumption)
                  obtain ⟨ad240, e240, hx240_0⟩ := Kd.at_string HR0_6.out x7_4 p240 q240
                  cases e240
                  replace hx240_0 := (HB.out.cell (World.block_lt_of_cell? w _ hx240_0)).trans hx240_0
                  replace p240 := eq_true p240
                  replace q240 := eq_true q240
                  go_wp2
                  go_ret
                  exact ⟨by first | rfl | (simp [errW_none, errW_some] <;> rfl) | (simp [*, errW_none, errW_some] <;> rfl), by repeat (first | (with_reducible first | exact HB.out | apply below_alloc | apply pw_below_drewN | apply below_drew1 | refine below_set ?_ GE229.out) | exact HB.out)⟩
                ·
                 rw [if_neg c53] at H
                 exact absurd H (by simp)
               ·
                rw [if_neg c52] at H
                have c52b0 : (a0_1 == 28) = false := beq_eq_false_iff_ne.mpr c52
                have c52b1 : (a0_1 != 28) = true := bne_iff_ne.mpr c52
                have H' := Aside0.mk H
                clear H
                have hcz57_0 : wr.cell? ⟨gb229, 0, none⟩ = some (.string a0_0) := (blk_cell BK229.out 0).trans rfl
                have hcz57_1 : wr.cell? ⟨gb229, 1, none⟩ = some (.int .u16 a0_1) := (blk_cell BK229.out 1).trans rfl
                have hcz57_2 : wr.cell? ⟨gb229, 2, none⟩ = some (.int .u16 a0_2) := (blk_cell BK229.out 2).trans rfl
                have hcz57_3 : wr.cell? ⟨gb229, 3, none⟩ = some (.int .u32 a0_3) := (blk_cell BK229.out 3).trans rfl
                have hcz57_4 : wr.cell? ⟨gb229, 4, none⟩ = some (.slice A0_4 l0_4.length c0_4) := (blk_cell BK229.out 4).trans rfl
                have hcz57_5 : wr.cell? ⟨gb229, 5, none⟩ = some (.slice A0_5 l0_5.length c0_5) := (blk_cell BK229.out 5).trans rfl
                have hcz57_6 : wr.cell? ⟨gb229, 6, none⟩ = some (.slice A0_6 l0_6.length c0_6) := (blk_cell BK229.out 6).trans rfl
                have hfz57_0 := blk_frozen BK229.out 0
                have hfz57_1 := blk_frozen BK229.out 1
                have hfz57_2 := blk_frozen BK229.out 2
                have hfz57_3 := blk_frozen BK229.out 3
                have hfz57_4 := blk_frozen BK229.out 4
                have hfz57_5 := blk_frozen BK229.out 5
                have hfz57_6 := blk_frozen BK229.out 6
                go_wp2
                go_roundg k4
                case measure => have := HJ2.out; have := HJ9.out; have := HK3.out; have := HK4.out; omega
                case rel => exact ⟨(wrap64 (x7_4 + 1)), (by first | rfl | (simp; done) | (simp [*]; done)), H', ⟨by have := HJ2.out; have := HJ9.out; have := HK3.out; have := HK4.out; omega⟩, ⟨by (with_reducible repeat (first | refine blk_drewN ?_ _ | refine blk_drew ?_ | refine blk_alloc ?_ _)); exact BK229.out⟩, ⟨by repeat (first | (with_reducible first | exact HB.out | apply below_alloc | apply pw_below_drewN | apply below_drew1 | refine below_set ?_ GE229.out) | exact HB.out)⟩⟩
            ·
             rw [if_neg c25] at H
             have c25b0 : decide (x7_4 < (l0_6.length : Int)) = false := decide_eq_false c25
             clear c25
             obtain rfl := Option.some.inj H
             have hcz58_0 : wr.cell? ⟨gb229, 0, none⟩ = some (.string a0_0) := (blk_cell BK229.out 0).trans rfl
             have hcz58_1 : wr.cell? ⟨gb229, 1, none⟩ = some (.int .u16 a0_1) := (blk_cell BK229.out 1).trans rfl
             have hcz58_2 : wr.cell? ⟨gb229, 2, none⟩ = some (.int .u16 a0_2) := (blk_cell BK229.out 2).trans rfl
             have hcz58_3 : wr.cell? ⟨gb229, 3, none⟩ = some (.int .u32 a0_3) := (blk_cell BK229.out 3).trans rfl
             have hcz58_4 : wr.cell? ⟨gb229, 4, none⟩ = some (.slice A0_4 l0_4.length c0_4) := (blk_cell BK229.out 4).trans rfl
             have hcz58_5 : wr.cell? ⟨gb229, 5, none⟩ = some (.slice A0_5 l0_5.length c0_5) := (blk_cell BK229.out 5).trans rfl
             have hcz58_6 : wr.cell? ⟨gb229, 6, none⟩ = some (.slice A0_6 l0_6.length c0_6) := (blk_cell BK229.out 6).trans rfl
             have hfz58_0 := blk_frozen BK229.out 0
             have hfz58_1 := blk_frozen BK229.out 1
             have hfz58_2 := blk_frozen BK229.out 2
             have hfz58_3 := blk_frozen BK229.out 3
             have hfz58_4 := blk_frozen BK229.out 4
             have hfz58_5 := blk_frozen BK229.out 5
             have hfz58_6 := blk_frozen BK229.out 6
             go_wp2
             go_ret
             exact ⟨by first | rfl | (simp [errW_none, errW_some] <;> rfl) | (simp [*, errW_none, errW_some] <;> rfl), by repeat (first | (with_reducible first | exact HB.out | apply below_alloc | apply pw_below_drewN | apply below_drew1 | refine below_set ?_ GE229.out) | exact HB.out)⟩

end Go.Proofs.Ytebnbjnkameicaa.Mine
