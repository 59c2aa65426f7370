-- Written by this repo's own printer (wip/print), which builds on the kit's.
import Derived.Test.YtebnbjnkameicaaMinex0
import Derived.Test.YtebnbjnkameicaaMinex1
import Derived.Test.YtebnbjnkameicaaMinex3
namespace Go.Proofs.Ytebnbjnkameicaa.Mine
open Go.RowKit Go.Proofs.YtebnbjnkameicaaW.PrintWords Go.Proofs.YtebnbjnkameicaaW.PrintLast Go.Proofs.YtebnbjnkameicaaW.PrintMore
attribute [local go_sem] max2_int min2_int max_two min_two max_three min_three max_four min_four   -- for this text's walks alone
set_option linter.unusedVariables false
set_option linter.unusedSimpArgs false

/-! ### rdata_shaped: function 24 -/
mutual
def rdata_shaped.j0 : Nat → Bool → ByteArray → Int → Int → Int → List ByteArray → List Int → List ByteArray → Option (Bool)
 | 0, _, _, _, _, _, _, _, _ => none
 | k + 1, x44, x113000, x113001, x113002, x113003, x113004, x113005, x113006 => if x44 = true then (some false) else (rdata_shaped.l0 k x113005 (x113005.length : Int) 0 x113000 x113001 x113002 x113003 x113004 x113005 x113006)
def rdata_shaped.l0 : Nat → List Int → Int → Int → ByteArray → Int → Int → Int → List ByteArray → List Int → List ByteArray → Option (Bool)
 | 0, _, _, _, _, _, _, _, _, _, _ => none
 | k + 1, x46, x47, x48, x113000, x113001, x113002, x113003, x113004, x113005, x113006 => if x48 < x47 then (if 0 ≤ x48 then (if x48 < (x46.length : Int) then (if x113001 = 6 then (rdata_shaped.l0 k x46 x47 (wrap64 (x48 + 1)) x113000 x113001 x113002 x113003 x113004 x113005 x113006) else (if (rd x46 x48) > 65535 then (some false) else (rdata_shaped.l0 k x46 x47 (wrap64 (x48 + 1)) x113000 x113001 x113002 x113003 x113004 x113005 x113006))) else (none)) else (none)) else (if x113001 = 1 then (if 0 < (x113006.length : Int) then (some (((rdOf ByteArray.empty x113006 0).size : Int) == 4)) else (none)) else (if x113001 = 28 then (if 0 < (x113006.length : Int) then (some (((rdOf ByteArray.empty x113006 0).size : Int) == 16)) else (none)) else (if x113001 = 16 then ((slices_ContainsFunc_string_string_37.f k x113006).bind fun t119 => (some (!t119))) else (some true))))
end
def rdata_shaped.f (k : Nat) (a0_0 : ByteArray) (a0_1 : Int) (a0_2 : Int) (a0_3 : Int) (l0_4 : List ByteArray) (l0_5 : List Int) (l0_6 : List ByteArray) : Option (Bool) := (rdata_Shape.f k a0_1).bind fun bt113 => (if (l0_4.length : Int) = bt113.1 then (if (l0_5.length : Int) = bt113.2.1 then (if (l0_6.length : Int) = bt113.2.2 then (rdata_shaped.j0 k false a0_0 a0_1 a0_2 a0_3 l0_4 l0_5 l0_6) else (if a0_1 = 16 then (rdata_shaped.j0 k ((l0_6.length : Int) == 0) a0_0 a0_1 a0_2 a0_3 l0_4 l0_5 l0_6) else (rdata_shaped.j0 k true a0_0 a0_1 a0_2 a0_3 l0_4 l0_5 l0_6))) else (rdata_shaped.j0 k true a0_0 a0_1 a0_2 a0_3 l0_4 l0_5 l0_6)) else (rdata_shaped.j0 k true a0_0 a0_1 a0_2 a0_3 l0_4 l0_5 l0_6))
theorem rdata_shaped.mono_l : ∀ k, (∀ y0 y1 y2 y3 y4 y5 y6 y7, LeO (rdata_shaped.j0 k y0 y1 y2 y3 y4 y5 y6 y7) (rdata_shaped.j0 (k + 1) y0 y1 y2 y3 y4 y5 y6 y7)) ∧ (∀ y0 y1 y2 y3 y4 y5 y6 y7 y8 y9, LeO (rdata_shaped.l0 k y0 y1 y2 y3 y4 y5 y6 y7 y8 y9) (rdata_shaped.l0 (k + 1) y0 y1 y2 y3 y4 y5 y6 y7 y8 y9))
 | 0 => ⟨fun _ _ _ _ _ _ _ _ r h => by simp [rdata_shaped.j0] at h, fun _ _ _ _ _ _ _ _ _ _ r h => by simp [rdata_shaped.l0] at h⟩
 | k + 1 => by
  obtain ⟨ih0, ih1⟩ := rdata_shaped.mono_l k
  refine ⟨?_, ?_⟩
  ·
   intro y0 y1 y2 y3 y4 y5 y6 y7
   unfold rdata_shaped.j0
   repeat' first
   | (with_reducible exact ih0 _ _ _ _ _ _ _ _)
   | (with_reducible exact ih1 _ _ _ _ _ _ _ _ _ _)
   | (with_reducible exact rdata_Shape.mono _ _)
   | (with_reducible exact slices_ContainsFunc_string_string_37.mono _ _)
   | (with_reducible exact LeO.refl _)
   | (with_reducible exact LeO.none _)
   | (with_reducible refine LeO.ite ?_ ?_)
   | (with_reducible refine LeO.bind ?_ (fun _ => ?_))
   | exact ih0 _ _ _ _ _ _ _ _
   | exact ih1 _ _ _ _ _ _ _ _ _ _
   | exact rdata_Shape.mono _ _
   | exact slices_ContainsFunc_string_string_37.mono _ _
   | exact LeO.none _
   | refine LeO.ite ?_ ?_
   | refine LeO.bind ?_ (fun _ => ?_)
  ·
   intro y0 y1 y2 y3 y4 y5 y6 y7 y8 y9
   unfold rdata_shaped.l0
   repeat' first
   | (with_reducible exact ih0 _ _ _ _ _ _ _ _)
   | (with_reducible exact ih1 _ _ _ _ _ _ _ _ _ _)
   | (with_reducible exact rdata_Shape.mono _ _)
   | (with_reducible exact slices_ContainsFunc_string_string_37.mono _ _)
   | (with_reducible exact LeO.refl _)
   | (with_reducible exact LeO.none _)
   | (with_reducible refine LeO.ite ?_ ?_)
   | (with_reducible refine LeO.bind ?_ (fun _ => ?_))
   | exact ih0 _ _ _ _ _ _ _ _
   | exact ih1 _ _ _ _ _ _ _ _ _ _
   | exact rdata_Shape.mono _ _
   | exact slices_ContainsFunc_string_string_37.mono _ _
   | exact LeO.none _
   | refine LeO.ite ?_ ?_
   | refine LeO.bind ?_ (fun _ => ?_)
theorem rdata_shaped.mono : ∀ a0 a1 a2 a3 a4 a5 a6 k, LeO (rdata_shaped.f k a0 a1 a2 a3 a4 a5 a6) (rdata_shaped.f (k + 1) a0 a1 a2 a3 a4 a5 a6) := by
 intro a0 a1 a2 a3 a4 a5 a6 k
 obtain ⟨ih0, ih1⟩ := rdata_shaped.mono_l k
 unfold rdata_shaped.f
 repeat' first
   | (with_reducible exact ih0 _ _ _ _ _ _ _ _)
   | (with_reducible exact ih1 _ _ _ _ _ _ _ _ _ _)
   | (with_reducible exact rdata_Shape.mono _ _)
   | (with_reducible exact slices_ContainsFunc_string_string_37.mono _ _)
   | (with_reducible exact LeO.refl _)
   | (with_reducible exact LeO.none _)
   | (with_reducible refine LeO.ite ?_ ?_)
   | (with_reducible refine LeO.bind ?_ (fun _ => ?_))
   | exact ih0 _ _ _ _ _ _ _ _
   | exact ih1 _ _ _ _ _ _ _ _ _ _
   | exact rdata_Shape.mono _ _
   | exact slices_ContainsFunc_string_string_37.mono _ _
   | exact LeO.none _
   | refine LeO.ite ?_ ?_
   | refine LeO.bind ?_ (fun _ => ?_)
set_option maxHeartbeats 8000000 in
set_option maxRecDepth 100000 in
theorem rdata_shaped.calls (k : Nat) (a0_0 : ByteArray) (a0_1 : Int) (a0_2 : Int) (a0_3 : Int) (A0_4 : Option Addr) (c0_4 : Nat) (l0_4 : List ByteArray) (A0_5 : Option Addr) (c0_5 : Nat) (l0_5 : List Int) (A0_6 : Option Addr) (c0_6 : Nat) (l0_6 : List ByteArray) (r : Bool) (w : World) (hr0_4 : Kd.C Kd.string w A0_4 l0_4.length l0_4) (hc0_4 : l0_4.length ≤ c0_4) (hr0_5 : Kd.C (Kd.int .u32) w A0_5 l0_5.length l0_5) (hc0_5 : l0_5.length ≤ c0_5) (hr0_6 : Kd.C Kd.string w A0_6 l0_6.length l0_6) (hc0_6 : l0_6.length ≤ c0_6) (h : rdata_shaped.f k a0_0 a0_1 a0_2 a0_3 l0_4 l0_5 l0_6 = some r) :
  Calls Try.prog 24 #[.agg #[.string a0_0, .int .u16 a0_1, .int .u16 a0_2, .int .u32 a0_3, .slice A0_4 l0_4.length c0_4, .slice A0_5 l0_5.length c0_5, .slice A0_6 l0_6.length c0_6]] w fun e w' => e = .returned (.bool r) ∧ Below w.heap.size w w' := by
 have hu27 := Try.underlying27
 have HR0_4 := Aside0.mk hr0_4
 have HC0_4 := Aside0.mk hc0_4
 clear hr0_4 hc0_4
 have HR0_5 := Aside0.mk hr0_5
 have HC0_5 := Aside0.mk hc0_5
 clear hr0_5 hc0_5
 have HR0_6 := Aside0.mk hr0_6
 have HC0_6 := Aside0.mk hc0_6
 clear hr0_6 hc0_6
 have HB := Aside0.mk (Below.refl w.heap.size w)
 have H : ((rdata_Shape.f k a0_1).bind fun bt113 => (if (l0_4.length : Int) = bt113.1 then (if (l0_5.length : Int) = bt113.2.1 then (if (l0_6.length : Int) = bt113.2.2 then (rdata_shaped.j0 k false a0_0 a0_1 a0_2 a0_3 l0_4 l0_5 l0_6) else (if a0_1 = 16 then (rdata_shaped.j0 k ((l0_6.length : Int) == 0) a0_0 a0_1 a0_2 a0_3 l0_4 l0_5 l0_6) else (rdata_shaped.j0 k true a0_0 a0_1 a0_2 a0_3 l0_4 l0_5 l0_6))) else (rdata_shaped.j0 k true a0_0 a0_1 a0_2 a0_3 l0_4 l0_5 l0_6)) else (rdata_shaped.j0 k true a0_0 a0_1 a0_2 a0_3 l0_4 l0_5 l0_6))) = some r := h
 clear h
 replace H := Option.bind_eq_some_iff.mp H
 obtain ⟨⟨t113, t114, t115⟩, A20, H⟩ := H
 replace H : (if (l0_4.length : Int) = t113 then (if (l0_5.length : Int) = t114 then (if (l0_6.length : Int) = t115 then (rdata_shaped.j0 k false a0_0 a0_1 a0_2 a0_3 l0_4 l0_5 l0_6) else (if a0_1 = 16 then (rdata_shaped.j0 k ((l0_6.length : Int) == 0) a0_0 a0_1 a0_2 a0_3 l0_4 l0_5 l0_6) else (rdata_shaped.j0 k true a0_0 a0_1 a0_2 a0_3 l0_4 l0_5 l0_6))) else (rdata_shaped.j0 k true a0_0 a0_1 a0_2 a0_3 l0_4 l0_5 l0_6)) else (rdata_shaped.j0 k true a0_0 a0_1 a0_2 a0_3 l0_4 l0_5 l0_6)) = some r := H
 have A2 := Aside0.mk A20
 clear A20
 have HC3 := Aside0.mk H
 clear H
 go_enter Try.func24, Try.ntmps24
 go_upto_region 2 with (first | ((with_reducible refine gate_dst (N := 1) rfl ?_); (try (refine gate_guard (by rfl) ?_; dsimp only)); refine box_event ?hg (N := 1) ?hd (cs := #[.string a0_0, .int .u16 a0_1, .int .u16 a0_2, .int .u32 a0_3, .slice A0_4 l0_4.length c0_4, .slice A0_5 l0_5.length c0_5, .slice A0_6 l0_6.length c0_6]) (t := 27) ?hr ?_; (case hd => rfl); (case hg => rfl); (case hr => first | (go_simp; done) | (go_simp; rfl)); intro gb112 hg w4 hbox hb; have n0_ := Aside0.mk (below_step (by repeat (first | (with_reducible first | exact HB.out | apply below_alloc | apply pw_below_drewN | apply below_drew1) | exact HB.out)) hb); have n1_ := Aside0.mk (hbox); have n2_ := Aside0.mk ((by rw [hg]; exact (below_size (by repeat (first | (with_reducible first | exact HB.out | apply below_alloc | apply pw_below_drewN | apply below_drew1) | exact HB.out))) : w.heap.size ≤ gb112)); have n3_ := Aside0.mk ((by rw [hg]; exact (below_size (by repeat (first | (with_reducible first | exact HB.out | apply below_alloc | apply pw_below_drewN | apply below_drew1) | exact HB.out))) : w.heap.size ≤ gb112)); clear HB; have HB := n0_; have BK112 := n1_; have GW112 := n2_; have GE112 := n3_; clear n0_ n1_ n2_ n3_; clear hb hbox hg; have hcz5_0 : w4.cell? ⟨gb112, 0, none⟩ = some (.string a0_0) := (blk_cell BK112.out 0).trans rfl; have hcz5_1 : w4.cell? ⟨gb112, 1, none⟩ = some (.int .u16 a0_1) := (blk_cell BK112.out 1).trans rfl; have hcz5_2 : w4.cell? ⟨gb112, 2, none⟩ = some (.int .u16 a0_2) := (blk_cell BK112.out 2).trans rfl; have hcz5_3 : w4.cell? ⟨gb112, 3, none⟩ = some (.int .u32 a0_3) := (blk_cell BK112.out 3).trans rfl; have hcz5_4 : w4.cell? ⟨gb112, 4, none⟩ = some (.slice A0_4 l0_4.length c0_4) := (blk_cell BK112.out 4).trans rfl; have hcz5_5 : w4.cell? ⟨gb112, 5, none⟩ = some (.slice A0_5 l0_5.length c0_5) := (blk_cell BK112.out 5).trans rfl; have hcz5_6 : w4.cell? ⟨gb112, 6, none⟩ = some (.slice A0_6 l0_6.length c0_6) := (blk_cell BK112.out 6).trans rfl; have hfz5_0 := blk_frozen BK112.out 0; have hfz5_1 := blk_frozen BK112.out 1; have hfz5_2 := blk_frozen BK112.out 2; have hfz5_3 := blk_frozen BK112.out 3; have hfz5_4 := blk_frozen BK112.out 4; have hfz5_5 := blk_frozen BK112.out 5; have hfz5_6 := blk_frozen BK112.out 6) | ((with_reducible refine gate_callee (f := 9) rfl ?_); refine goesL_ (some 11) rfl rfl Try.func9 (by kernel_rfl) rfl #[.int .u16 a0_1] rfl (by (try simp only [List.map_toArray, List.map_cons, List.map_nil]); first | done | rfl | (simp only [List.length_drop, List.length_take]; rfl)) ?_; (with_reducible refine (rdata_Shape.calls k a0_1 t113 t114 t115 _ A2.out).mono ?_); rintro e w' ⟨rfl, ⟨nd, rfl⟩⟩; refine ⟨_, rfl, ?_⟩))
 (try simp only [Act.put, List.setIfInBounds_toArray, List.set_cons_zero, List.set_cons_succ])
 go_cut [44] (fun v44 wc => ∃ (kq : Nat) (x44_2 : Bool), v44 = .bool x44_2 ∧ Aside0 (rdata_shaped.j0 kq x44_2 a0_0 a0_1 a0_2 a0_3 l0_4 l0_5 l0_6 = some r) ∧ Aside0 (kq ≤ k) ∧ Aside0 (wc.heap[gb112]? = some (.cells #[.string a0_0, .int .u16 a0_1, .int .u16 a0_2, .int .u32 a0_3, (.slice A0_4 l0_4.length c0_4), (.slice A0_5 l0_5.length c0_5), (.slice A0_6 l0_6.length c0_6)] 27 (0, 0))) ∧ Aside0 (Below w.heap.size w wc))
 case first =>
  have H := HC3.out
  clear HC3
  by_cases c6 : (l0_4.length : Int) = t113
  ·
   rw [if_pos c6] at H
   have c6b0 : ((l0_4.length : Int) == t113) = true := beq_iff_eq.mpr c6
   have c6b1 : ((l0_4.length : Int) != t113) = false := bne_eq_false_iff_eq.mpr c6
   clear c6
   (first | rw [c6b0] | rw [c6b1] | (simp only [i64_w, i32_w]; rw [c6b0]) | skip)
   by_cases c7 : (l0_5.length : Int) = t114
   ·
    rw [if_pos c7] at H
    have c7b0 : ((l0_5.length : Int) == t114) = true := beq_iff_eq.mpr c7
    have c7b1 : ((l0_5.length : Int) != t114) = false := bne_eq_false_iff_eq.mpr c7
    clear c7
    by_cases c8 : (l0_6.length : Int) = t115
    ·
     rw [if_pos c8] at H
     have c8b0 : ((l0_6.length : Int) == t115) = true := beq_iff_eq.mpr c8
     have c8b1 : ((l0_6.length : Int) != t115) = false := bne_eq_false_iff_eq.mpr c8
     clear c8
     have H' := Aside0.mk H
     clear H
     have hcz9_0 : w4.cell? ⟨gb112, 0, none⟩ = some (.string a0_0) := (blk_cell BK112.out 0).trans rfl
     have hcz9_1 : w4.cell? ⟨gb112, 1, none⟩ = some (.int .u16 a0_1) := (blk_cell BK112.out 1).trans rfl
     have hcz9_2 : w4.cell? ⟨gb112, 2, none⟩ = some (.int .u16 a0_2) := (blk_cell BK112.out 2).trans rfl
     have hcz9_3 : w4.cell? ⟨gb112, 3, none⟩ = some (.int .u32 a0_3) := (blk_cell BK112.out 3).trans rfl
     have hcz9_4 : w4.cell? ⟨gb112, 4, none⟩ = some (.slice A0_4 l0_4.length c0_4) := (blk_cell BK112.out 4).trans rfl
     have hcz9_5 : w4.cell? ⟨gb112, 5, none⟩ = some (.slice A0_5 l0_5.length c0_5) := (blk_cell BK112.out 5).trans rfl
     have hcz9_6 : w4.cell? ⟨gb112, 6, none⟩ = some (.slice A0_6 l0_6.length c0_6) := (blk_cell BK112.out 6).trans rfl
     have hfz9_0 := blk_frozen BK112.out 0
     have hfz9_1 := blk_frozen BK112.out 1
     have hfz9_2 := blk_frozen BK112.out 2
     have hfz9_3 := blk_frozen BK112.out 3
     have hfz9_4 := blk_frozen BK112.out 4
     have hfz9_5 := blk_frozen BK112.out 5
     have hfz9_6 := blk_frozen BK112.out 6
     go_wp2
     go_meet
     case rel => exact ⟨_, (false), (by first | rfl | (simp; done) | (simp [*]; done)), H', ⟨by first | omega | exact Nat.le_refl _⟩, ⟨by (with_reducible repeat (first | refine blk_drewN ?_ _ | refine blk_drew ?_ | refine blk_alloc ?_ _)); exact BK112.out⟩, ⟨by repeat (first | (with_reducible first | exact HB.out | apply below_alloc | apply pw_below_drewN | apply below_drew1 | refine below_set ?_ GE112.out) | exact HB.out)⟩⟩
    ·
     rw [if_neg c8] at H
     have c8b0 : ((l0_6.length : Int) == t115) = false := beq_eq_false_iff_ne.mpr c8
     have c8b1 : ((l0_6.length : Int) != t115) = true := bne_iff_ne.mpr c8
     by_cases c10 : a0_1 = 16
     ·
      rw [if_pos c10] at H
      have c10b0 : (a0_1 == 16) = true := beq_iff_eq.mpr c10
      have c10b1 : (a0_1 != 16) = false := bne_eq_false_iff_eq.mpr c10
      clear c10
      have H' := Aside0.mk H
      clear H
      have hcz11_0 : w4.cell? ⟨gb112, 0, none⟩ = some (.string a0_0) := (blk_cell BK112.out 0).trans rfl
      have hcz11_1 : w4.cell? ⟨gb112, 1, none⟩ = some (.int .u16 a0_1) := (blk_cell BK112.out 1).trans rfl
      have hcz11_2 : w4.cell? ⟨gb112, 2, none⟩ = some (.int .u16 a0_2) := (blk_cell BK112.out 2).trans rfl
      have hcz11_3 : w4.cell? ⟨gb112, 3, none⟩ = some (.int .u32 a0_3) := (blk_cell BK112.out 3).trans rfl
      have hcz11_4 : w4.cell? ⟨gb112, 4, none⟩ = some (.slice A0_4 l0_4.length c0_4) := (blk_cell BK112.out 4).trans rfl
      have hcz11_5 : w4.cell? ⟨gb112, 5, none⟩ = some (.slice A0_5 l0_5.length c0_5) := (blk_cell BK112.out 5).trans rfl
      have hcz11_6 : w4.cell? ⟨gb112, 6, none⟩ = some (.slice A0_6 l0_6.length c0_6) := (blk_cell BK112.out 6).trans rfl
      have hfz11_0 := blk_frozen BK112.out 0
      have hfz11_1 := blk_frozen BK112.out 1
      have hfz11_2 := blk_frozen BK112.out 2
      have hfz11_3 := blk_frozen BK112.out 3
      have hfz11_4 := blk_frozen BK112.out 4
      have hfz11_5 := blk_frozen BK112.out 5
      have hfz11_6 := blk_frozen BK112.out 6
      go_wp2
      go_meet
      case rel => exact ⟨_, (((l0_6.length : Int) == 0)), (by first | rfl | (simp; done) | (simp [*]; done)), H', ⟨by first | omega | exact Nat.le_refl _⟩, ⟨by (with_reducible repeat (first | refine blk_drewN ?_ _ | refine blk_drew ?_ | refine blk_alloc ?_ _)); exact BK112.out⟩, ⟨by repeat (first | (with_reducible first | exact HB.out | apply below_alloc | apply pw_below_drewN | apply below_drew1 | refine below_set ?_ GE112.out) | exact HB.out)⟩⟩
     ·
      rw [if_neg c10] at H
      have c10b0 : (a0_1 == 16) = false := beq_eq_false_iff_ne.mpr c10
      have c10b1 : (a0_1 != 16) = true := bne_iff_ne.mpr c10
      have H' := Aside0.mk H
      clear H
      have hcz12_0 : w4.cell? ⟨gb112, 0, none⟩ = some (.string a0_0) := (blk_cell BK112.out 0).trans rfl
      have hcz12_1 : w4.cell? ⟨gb112, 1, none⟩ = some (.int .u16 a0_1) := (blk_cell BK112.out 1).trans rfl
      have hcz12_2 : w4.cell? ⟨gb112, 2, none⟩ = some (.int .u16 a0_2) := (blk_cell BK112.out 2).trans rfl
      have hcz12_3 : w4.cell? ⟨gb112, 3, none⟩ = some (.int .u32 a0_3) := (blk_cell BK112.out 3).trans rfl
      have hcz12_4 : w4.cell? ⟨gb112, 4, none⟩ = some (.slice A0_4 l0_4.length c0_4) := (blk_cell BK112.out 4).trans rfl
      have hcz12_5 : w4.cell? ⟨gb112, 5, none⟩ = some (.slice A0_5 l0_5.length c0_5) := (blk_cell BK112.out 5).trans rfl
      have hcz12_6 : w4.cell? ⟨gb112, 6, none⟩ = some (.slice A0_6 l0_6.length c0_6) := (blk_cell BK112.out 6).trans rfl
      have hfz12_0 := blk_frozen BK112.out 0
      have hfz12_1 := blk_frozen BK112.out 1
      have hfz12_2 := blk_frozen BK112.out 2
      have hfz12_3 := blk_frozen BK112.out 3
      have hfz12_4 := blk_frozen BK112.out 4
      have hfz12_5 := blk_frozen BK112.out 5
      have hfz12_6 := blk_frozen BK112.out 6
      go_wp2
      go_meet
      case rel => exact ⟨_, (true), (by first | rfl | (simp; done) | (simp [*]; done)), H', ⟨by first | omega | exact Nat.le_refl _⟩, ⟨by (with_reducible repeat (first | refine blk_drewN ?_ _ | refine blk_drew ?_ | refine blk_alloc ?_ _)); exact BK112.out⟩, ⟨by repeat (first | (with_reducible first | exact HB.out | apply below_alloc | apply pw_below_drewN | apply below_drew1 | refine below_set ?_ GE112.out) | exact HB.out)⟩⟩
   ·
    rw [if_neg c7] at H
    have c7b0 : ((l0_5.length : Int) == t114) = false := beq_eq_false_iff_ne.mpr c7
    have c7b1 : ((l0_5.length : Int) != t114) = true := bne_iff_ne.mpr c7
    have H' := Aside0.mk H
    clear H
    have hcz13_0 : w4.cell? ⟨gb112, 0, none⟩ = some (.string a0_0) := (blk_cell BK112.out 0).trans rfl
    have hcz13_1 : w4.cell? ⟨gb112, 1, none⟩ = some (.int .u16 a0_1) := (blk_cell BK112.out 1).trans rfl
    have hcz13_2 : w4.cell? ⟨gb112, 2, none⟩ = some (.int .u16 a0_2) := (blk_cell BK112.out 2).trans rfl
    have hcz13_3 : w4.cell? ⟨gb112, 3, none⟩ = some (.int .u32 a0_3) := (blk_cell BK112.out 3).trans rfl
    have hcz13_4 : w4.cell? ⟨gb112, 4, none⟩ = some (.slice A0_4 l0_4.length c0_4) := (blk_cell BK112.out 4).trans rfl
    have hcz13_5 : w4.cell? ⟨gb112, 5, none⟩ = some (.slice A0_5 l0_5.length c0_5) := (blk_cell BK112.out 5).trans rfl
    have hcz13_6 : w4.cell? ⟨gb112, 6, none⟩ = some (.slice A0_6 l0_6.length c0_6) := (blk_cell BK112.out 6).trans rfl
    have hfz13_0 := blk_frozen BK112.out 0
    have hfz13_1 := blk_frozen BK112.out 1
    have hfz13_2 := blk_frozen BK112.out 2
    have hfz13_3 := blk_frozen BK112.out 3
    have hfz13_4 := blk_frozen BK112.out 4
    have hfz13_5 := blk_frozen BK112.out 5
    have hfz13_6 := blk_frozen BK112.out 6
    go_wp2
    go_meet
    case rel => exact ⟨_, (true), (by first | rfl | (simp; done) | (simp [*]; done)), H', ⟨by first | omega | exact Nat.le_refl _⟩, ⟨by (with_reducible repeat (first | refine blk_drewN ?_ _ | refine blk_drew ?_ | refine blk_alloc ?_ _)); exact BK112.out⟩, ⟨by repeat (first | (with_reducible first | exact HB.out | apply below_alloc | apply pw_below_drewN | apply below_drew1 | refine below_set ?_ GE112.out) | exact HB.out)⟩⟩
  ·
   rw [if_neg c6] at H
   have c6b0 : ((l0_4.length : Int) == t113) = false := beq_eq_false_iff_ne.mpr c6
   have c6b1 : ((l0_4.length : Int) != t113) = true := bne_iff_ne.mpr c6
   (first | rw [c6b0] | rw [c6b1] | (simp only [i64_w, i32_w]; rw [c6b0]) | skip)
   have H' := Aside0.mk H
   clear H
   have hcz14_0 : w4.cell? ⟨gb112, 0, none⟩ = some (.string a0_0) := (blk_cell BK112.out 0).trans rfl
   have hcz14_1 : w4.cell? ⟨gb112, 1, none⟩ = some (.int .u16 a0_1) := (blk_cell BK112.out 1).trans rfl
   have hcz14_2 : w4.cell? ⟨gb112, 2, none⟩ = some (.int .u16 a0_2) := (blk_cell BK112.out 2).trans rfl
   have hcz14_3 : w4.cell? ⟨gb112, 3, none⟩ = some (.int .u32 a0_3) := (blk_cell BK112.out 3).trans rfl
   have hcz14_4 : w4.cell? ⟨gb112, 4, none⟩ = some (.slice A0_4 l0_4.length c0_4) := (blk_cell BK112.out 4).trans rfl
   have hcz14_5 : w4.cell? ⟨gb112, 5, none⟩ = some (.slice A0_5 l0_5.length c0_5) := (blk_cell BK112.out 5).trans rfl
   have hcz14_6 : w4.cell? ⟨gb112, 6, none⟩ = some (.slice A0_6 l0_6.length c0_6) := (blk_cell BK112.out 6).trans rfl
   have hfz14_0 := blk_frozen BK112.out 0
   have hfz14_1 := blk_frozen BK112.out 1
   have hfz14_2 := blk_frozen BK112.out 2
   have hfz14_3 := blk_frozen BK112.out 3
   have hfz14_4 := blk_frozen BK112.out 4
   have hfz14_5 := blk_frozen BK112.out 5
   have hfz14_6 := blk_frozen BK112.out 6
   go_wp2
   go_meet
   case rel => exact ⟨_, (true), (by first | rfl | (simp; done) | (simp [*]; done)), H', ⟨by first | omega | exact Nat.le_refl _⟩, ⟨by (with_reducible repeat (first | refine blk_drewN ?_ _ | refine blk_drew ?_ | refine blk_alloc ?_ _)); exact BK112.out⟩, ⟨by repeat (first | (with_reducible first | exact HB.out | apply below_alloc | apply pw_below_drewN | apply below_drew1 | refine below_set ?_ GE112.out) | exact HB.out)⟩⟩
 case rest =>
  clear HC3
  try clear c1
  try clear c2
  try clear p2
  try clear c6
  try clear c6b0
  try clear c6b1
  try clear c7
  try clear c7b0
  try clear c7b1
  try clear c8
  try clear c8b0
  try clear c8b1
  try clear c9
  try clear c10
  try clear c10b0
  try clear c10b1
  try clear hcz11_0
  try clear hcz11_1
  try clear hcz11_2
  try clear hcz11_3
  try clear hcz11_4
  try clear hcz11_5
  try clear hcz11_6
  try clear hcz12_0
  try clear hcz12_1
  try clear hcz12_2
  try clear hcz12_3
  try clear hcz12_4
  try clear hcz12_5
  try clear hcz12_6
  try clear hcz13_0
  try clear hcz13_1
  try clear hcz13_2
  try clear hcz13_3
  try clear hcz13_4
  try clear hcz13_5
  try clear hcz13_6
  try clear hcz14_0
  try clear hcz14_1
  try clear hcz14_2
  try clear hcz14_3
  try clear hcz14_4
  try clear hcz14_5
  try clear hcz14_6
  try clear hcz5_0
  try clear hcz5_1
  try clear hcz5_2
  try clear hcz5_3
  try clear hcz5_4
  try clear hcz5_5
  try clear hcz5_6
  try clear hcz9_0
  try clear hcz9_1
  try clear hcz9_2
  try clear hcz9_3
  try clear hcz9_4
  try clear hcz9_5
  try clear hcz9_6
  try clear hfz11_0
  try clear hfz11_1
  try clear hfz11_2
  try clear hfz11_3
  try clear hfz11_4
  try clear hfz11_5
  try clear hfz11_6
  try clear hfz12_0
  try clear hfz12_1
  try clear hfz12_2
  try clear hfz12_3
  try clear hfz12_4
  try clear hfz12_5
  try clear hfz12_6
  try clear hfz13_0
  try clear hfz13_1
  try clear hfz13_2
  try clear hfz13_3
  try clear hfz13_4
  try clear hfz13_5
  try clear hfz13_6
  try clear hfz14_0
  try clear hfz14_1
  try clear hfz14_2
  try clear hfz14_3
  try clear hfz14_4
  try clear hfz14_5
  try clear hfz14_6
  try clear hfz5_0
  try clear hfz5_1
  try clear hfz5_2
  try clear hfz5_3
  try clear hfz5_4
  try clear hfz5_5
  try clear hfz5_6
  try clear hfz9_0
  try clear hfz9_1
  try clear hfz9_2
  try clear hfz9_3
  try clear hfz9_4
  try clear hfz9_5
  try clear hfz9_6
  obtain ⟨kq, x44_2, rfl, HA, HJ2, BK112, HB⟩ := hcut
  cases kq with
  | zero => exact absurd HA.out (by simp [rdata_shaped.j0])
  | succ kj2 =>
   have H := HA.out
   clear HA
   simp only [rdata_shaped.j0] at H
   by_cases c15 : x44_2 = true
   ·
    subst c15
    have H1 : (some false) = some r := by rw [if_pos rfl] at H; exact H
    clear H
    have H := H1
    clear H1
    obtain rfl := Option.some.inj H
    go_wp2
    go_ret
    exact ⟨by first | rfl | (simp [errW_none, errW_some] <;> rfl) | (simp [*, errW_none, errW_some] <;> rfl), by repeat (first | (with_reducible first | exact HB.out | apply below_alloc | apply pw_below_drewN | apply below_drew1 | refine below_set ?_ GE112.out) | exact HB.out)⟩
   ·
    replace c15 := Bool.eq_false_iff.mpr c15
    subst c15
    have H1 : (rdata_shaped.l0 kj2 l0_5 (l0_5.length : Int) 0 a0_0 a0_1 a0_2 a0_3 l0_4 l0_5 l0_6) = some r := by rw [if_neg (show ¬ (false = true) by decide)] at H; exact H
    clear H
    have H := H1
    clear H1
    have H' := Aside0.mk H
    clear H
    have hcz16_0 : wc.cell? ⟨gb112, 0, none⟩ = some (.string a0_0) := (blk_cell BK112.out 0).trans rfl
    have hcz16_1 : wc.cell? ⟨gb112, 1, none⟩ = some (.int .u16 a0_1) := (blk_cell BK112.out 1).trans rfl
    have hcz16_2 : wc.cell? ⟨gb112, 2, none⟩ = some (.int .u16 a0_2) := (blk_cell BK112.out 2).trans rfl
    have hcz16_3 : wc.cell? ⟨gb112, 3, none⟩ = some (.int .u32 a0_3) := (blk_cell BK112.out 3).trans rfl
    have hcz16_4 : wc.cell? ⟨gb112, 4, none⟩ = some (.slice A0_4 l0_4.length c0_4) := (blk_cell BK112.out 4).trans rfl
    have hcz16_5 : wc.cell? ⟨gb112, 5, none⟩ = some (.slice A0_5 l0_5.length c0_5) := (blk_cell BK112.out 5).trans rfl
    have hcz16_6 : wc.cell? ⟨gb112, 6, none⟩ = some (.slice A0_6 l0_6.length c0_6) := (blk_cell BK112.out 6).trans rfl
    have hfz16_0 := blk_frozen BK112.out 0
    have hfz16_1 := blk_frozen BK112.out 1
    have hfz16_2 := blk_frozen BK112.out 2
    have hfz16_3 := blk_frozen BK112.out 3
    have hfz16_4 := blk_frozen BK112.out 4
    have hfz16_5 := blk_frozen BK112.out 5
    have hfz16_6 := blk_frozen BK112.out 6
    go_wp2
    go_loopg [48] kj2 (fun kq v48 w' => ∃ (x48_2 : Int), v48 = .int .i64 x48_2 ∧ Aside0 (rdata_shaped.l0 kq l0_5 (l0_5.length : Int) x48_2 a0_0 a0_1 a0_2 a0_3 l0_4 l0_5 l0_6 = some r) ∧ Aside0 (kq ≤ kj2) ∧ Aside0 (w'.heap[gb112]? = some (.cells #[.string a0_0, .int .u16 a0_1, .int .u16 a0_2, .int .u32 a0_3, (.slice A0_4 l0_4.length c0_4), (.slice A0_5 l0_5.length c0_5), (.slice A0_6 l0_6.length c0_6)] 27 (0, 0))) ∧ Aside0 (Below w.heap.size w w'))
    case atStart => exact ⟨(0), (by first | rfl | (simp; done) | (simp [*]; done)), H', ⟨Nat.le_refl _⟩, ⟨by (with_reducible repeat (first | refine blk_drewN ?_ _ | refine blk_drew ?_ | refine blk_alloc ?_ _)); exact BK112.out⟩, ⟨by repeat (first | (with_reducible first | exact HB.out | apply below_alloc | apply pw_below_drewN | apply below_drew1 | refine below_set ?_ GE112.out) | exact HB.out)⟩⟩
    case round =>
     clear H'
     try clear c1
     try clear c2
     try clear p2
     try clear c6
     try clear c6b0
     try clear c6b1
     try clear c7
     try clear c7b0
     try clear c7b1
     try clear c8
     try clear c8b0
     try clear c8b1
     try clear c9
     try clear c10
     try clear c10b0
     try clear c10b1
     try clear c15
     try clear hcz11_0
     try clear hcz11_1
     try clear hcz11_2
     try clear hcz11_3
     try clear hcz11_4
     try clear hcz11_5
     try clear hcz11_6
     try clear hcz12_0
     try clear hcz12_1
     try clear hcz12_2
     try clear hcz12_3
     try clear hcz12_4
     try clear hcz12_5
     try clear hcz12_6
     try clear hcz13_0
     try clear hcz13_1
     try clear hcz13_2
     try clear hcz13_3
     try clear hcz13_4
     try clear hcz13_5
     try clear hcz13_6
     try clear hcz14_0
     try clear hcz14_1
     try clear hcz14_2
     try clear hcz14_3
     try clear hcz14_4
     try clear hcz14_5
     try clear hcz14_6
     try clear hcz16_0
     try clear hcz16_1
     try clear hcz16_2
     try clear hcz16_3
     try clear hcz16_4
     try clear hcz16_5
     try clear hcz16_6
     try clear hcz5_0
     try clear hcz5_1
     try clear hcz5_2
     try clear hcz5_3
     try clear hcz5_4
     try clear hcz5_5
     try clear hcz5_6
     try clear hcz9_0
     try clear hcz9_1
     try clear hcz9_2
     try clear hcz9_3
     try clear hcz9_4
     try clear hcz9_5
     try clear hcz9_6
     try clear hfz11_0
     try clear hfz11_1
     try clear hfz11_2
     try clear hfz11_3
     try clear hfz11_4
     try clear hfz11_5
     try clear hfz11_6
     try clear hfz12_0
     try clear hfz12_1
     try clear hfz12_2
     try clear hfz12_3
     try clear hfz12_4
     try clear hfz12_5
     try clear hfz12_6
     try clear hfz13_0
     try clear hfz13_1
     try clear hfz13_2
     try clear hfz13_3
     try clear hfz13_4
     try clear hfz13_5
     try clear hfz13_6
     try clear hfz14_0
     try clear hfz14_1
     try clear hfz14_2
     try clear hfz14_3
     try clear hfz14_4
     try clear hfz14_5
     try clear hfz14_6
     try clear hfz16_0
     try clear hfz16_1
     try clear hfz16_2
     try clear hfz16_3
     try clear hfz16_4
     try clear hfz16_5
     try clear hfz16_6
     try clear hfz5_0
     try clear hfz5_1
     try clear hfz5_2
     try clear hfz5_3
     try clear hfz5_4
     try clear hfz5_5
     try clear hfz5_6
     try clear hfz9_0
     try clear hfz9_1
     try clear hfz9_2
     try clear hfz9_3
     try clear hfz9_4
     try clear hfz9_5
     try clear hfz9_6
     try clear p2
     obtain ⟨x48_2, rfl, HA, HK2, BK112, HB⟩ := hrel
     cases gk with
     | zero => exact absurd HA.out (by simp [rdata_shaped.l0])
     | succ k2 =>
      have H := HA.out
      clear HA
      simp only [rdata_shaped.l0] at H
      by_cases c17 : x48_2 < (l0_5.length : Int)
      ·
       rw [if_pos c17] at H
       have c17b0 : decide (x48_2 < (l0_5.length : Int)) = true := decide_eq_true c17
       clear c17
       by_cases c18 : 0 ≤ x48_2
       ·
        rw [if_pos c18] at H
        have c18b0 : decide (0 ≤ x48_2) = true := decide_eq_true c18
        clear c18
        by_cases c19 : x48_2 < (l0_5.length : Int)
        ·
         rw [if_pos c19] at H
         have c19b0 : decide (x48_2 < (l0_5.length : Int)) = true := decide_eq_true c19
         clear c19
         by_cases c20 : a0_1 = 6
         ·
          rw [if_pos c20] at H
          have c20b0 : (a0_1 == 6) = true := beq_iff_eq.mpr c20
          have c20b1 : (a0_1 != 6) = false := bne_eq_false_iff_eq.mpr c20
          clear c20
          have H' := Aside0.mk H
          clear H
          have p116 : 0 ≤ (x48_2 : Int) := of_decide_eq_true (by first | (with_reducible assumption) | assumption)
          have q116 : x48_2 < (l0_5.length : Int) := of_decide_eq_true (by first | (with_reducible assumption) | assumption)
          obtain ⟨ad116, e116, hx116_0⟩ := Kd.at_int HR0_5.out x48_2 p116 q116
          cases e116
          replace hx116_0 := (HB.out.cell (World.block_lt_of_cell? w _ hx116_0)).trans hx116_0
          replace p116 := eq_true p116
          replace q116 := eq_true q116
          have hcz21_0 : wr.cell? ⟨gb112, 0, none⟩ = some (.string a0_0) := (blk_cell BK112.out 0).trans rfl
          have hcz21_1 : wr.cell? ⟨gb112, 1, none⟩ = some (.int .u16 a0_1) := (blk_cell BK112.out 1).trans rfl
          have hcz21_2 : wr.cell? ⟨gb112, 2, none⟩ = some (.int .u16 a0_2) := (blk_cell BK112.out 2).trans rfl
          have hcz21_3 : wr.cell? ⟨gb112, 3, none⟩ = some (.int .u32 a0_3) := (blk_cell BK112.out 3).trans rfl
          have hcz21_4 : wr.cell? ⟨gb112, 4, none⟩ = some (.slice A0_4 l0_4.length c0_4) := (blk_cell BK112.out 4).trans rfl
          have hcz21_5 : wr.cell? ⟨gb112, 5, none⟩ = some (.slice (some ad116) l0_5.length c0_5) := (blk_cell BK112.out 5).trans rfl
          have hcz21_6 : wr.cell? ⟨gb112, 6, none⟩ = some (.slice A0_6 l0_6.length c0_6) := (blk_cell BK112.out 6).trans rfl
          have hfz21_0 := blk_frozen BK112.out 0
          have hfz21_1 := blk_frozen BK112.out 1
          have hfz21_2 := blk_frozen BK112.out 2
          have hfz21_3 := blk_frozen BK112.out 3
          have hfz21_4 := blk_frozen BK112.out 4
          have hfz21_5 := blk_frozen BK112.out 5
          have hfz21_6 := blk_frozen BK112.out 6
          go_wp2
          go_roundg k2
          case measure => have := HJ2.out; have := HK2.out; omega
          case rel => exact ⟨(wrap64 (x48_2 + 1)), (by first | rfl | (simp; done) | (simp [*]; done)), H', ⟨by have := HJ2.out; have := HK2.out; omega⟩, ⟨by (with_reducible repeat (first | refine blk_drewN ?_ _ | refine blk_drew ?_ | refine blk_alloc ?_ _)); exact BK112.out⟩, ⟨by repeat (first | (with_reducible first | exact HB.out | apply below_alloc | apply pw_below_drewN | apply below_drew1 | refine below_set ?_ GE112.out) | exact HB.out)⟩⟩
         ·
          rw [if_neg c20] at H
          have c20b0 : (a0_1 == 6) = false := beq_eq_false_iff_ne.mpr c20
          have c20b1 : (a0_1 != 6) = true := bne_iff_ne.mpr c20
          by_cases c22 : (rd l0_5 x48_2) > 65535
          ·
           rw [if_pos c22] at H
           have c22b0 : decide (65535 < (rd l0_5 x48_2)) = true := decide_eq_true c22
           clear c22
           obtain rfl := Option.some.inj H
           have p116 : 0 ≤ (x48_2 : Int) := of_decide_eq_true (by first | (with_reducible assumption) | assumption)
           have q116 : x48_2 < (l0_5.length : Int) := of_decide_eq_true (by first | (with_reducible assumption) | assumption)
           obtain ⟨ad116, e116, hx116_0⟩ := Kd.at_int HR0_5.out x48_2 p116 q116
           cases e116
           replace hx116_0 := (HB.out.cell (World.block_lt_of_cell? w _ hx116_0)).trans hx116_0
           replace p116 := eq_true p116
           replace q116 := eq_true q116
           have hcz23_0 : wr.cell? ⟨gb112, 0, none⟩ = some (.string a0_0) := (blk_cell BK112.out 0).trans rfl
           have hcz23_1 : wr.cell? ⟨gb112, 1, none⟩ = some (.int .u16 a0_1) := (blk_cell BK112.out 1).trans rfl
           have hcz23_2 : wr.cell? ⟨gb112, 2, none⟩ = some (.int .u16 a0_2) := (blk_cell BK112.out 2).trans rfl
           have hcz23_3 : wr.cell? ⟨gb112, 3, none⟩ = some (.int .u32 a0_3) := (blk_cell BK112.out 3).trans rfl
           have hcz23_4 : wr.cell? ⟨gb112, 4, none⟩ = some (.slice A0_4 l0_4.length c0_4) := (blk_cell BK112.out 4).trans rfl
           have hcz23_5 : wr.cell? ⟨gb112, 5, none⟩ = some (.slice (some ad116) l0_5.length c0_5) := (blk_cell BK112.out 5).trans rfl
           have hcz23_6 : wr.cell? ⟨gb112, 6, none⟩ = some (.slice A0_6 l0_6.length c0_6) := (blk_cell BK112.out 6).trans rfl
           have hfz23_0 := blk_frozen BK112.out 0
           have hfz23_1 := blk_frozen BK112.out 1
           have hfz23_2 := blk_frozen BK112.out 2
           have hfz23_3 := blk_frozen BK112.out 3
           have hfz23_4 := blk_frozen BK112.out 4
           have hfz23_5 := blk_frozen BK112.out 5
           have hfz23_6 := blk_frozen BK112.out 6
           go_wp2
           go_ret
           exact ⟨by first | rfl | (simp [errW_none, errW_some] <;> rfl) | (simp [*, errW_none, errW_some] <;> rfl), by repeat (first | (with_reducible first | exact HB.out | apply below_alloc | apply pw_below_drewN | apply below_drew1 | refine below_set ?_ GE112.out) | exact HB.out)⟩
          ·
           rw [if_neg c22] at H
           have c22b0 : decide (65535 < (rd l0_5 x48_2)) = false := decide_eq_false c22
           clear c22
           have H' := Aside0.mk H
           clear H
           have p116 : 0 ≤ (x48_2 : Int) := of_decide_eq_true (by first | (with_reducible assumption) | assumption)
           have q116 : x48_2 < (l0_5.length : Int) := of_decide_eq_true (by first | (with_reducible assumption) | assumption)
           obtain ⟨ad116, e116, hx116_0⟩ := Kd.at_int HR0_5.out x48_2 p116 q116
           cases e116
           replace hx116_0 := (HB.out.cell (World.block_lt_of_cell? w _ hx116_0)).trans hx116_0
           replace p116 := eq_true p116
           replace q116 := eq_true q116
           have hcz24_0 : wr.cell? ⟨gb112, 0, none⟩ = some (.string a0_0) := (blk_cell BK112.out 0).trans rfl
           have hcz24_1 : wr.cell? ⟨gb112, 1, none⟩ = some (.int .u16 a0_1) := (blk_cell BK112.out 1).trans rfl
           have hcz24_2 : wr.cell? ⟨gb112, 2, none⟩ = some (.int .u16 a0_2) := (blk_cell BK112.out 2).trans rfl
           have hcz24_3 : wr.cell? ⟨gb112, 3, none⟩ = some (.int .u32 a0_3) := (blk_cell BK112.out 3).trans rfl
           have hcz24_4 : wr.cell? ⟨gb112, 4, none⟩ = some (.slice A0_4 l0_4.length c0_4) := (blk_cell BK112.out 4).trans rfl
           have hcz24_5 : wr.cell? ⟨gb112, 5, none⟩ = some (.slice (some ad116) l0_5.length c0_5) := (blk_cell BK112.out 5).trans rfl
           have hcz24_6 : wr.cell? ⟨gb112, 6, none⟩ = some (.slice A0_6 l0_6.length c0_6) := (blk_cell BK112.out 6).trans rfl
           have hfz24_0 := blk_frozen BK112.out 0
           have hfz24_1 := blk_frozen BK112.out 1
           have hfz24_2 := blk_frozen BK112.out 2
           have hfz24_3 := blk_frozen BK112.out 3
           have hfz24_4 := blk_frozen BK112.out 4
           have hfz24_5 := blk_frozen BK112.out 5
           have hfz24_6 := blk_frozen BK112.out 6
           go_wp2
           go_roundg k2
           case measure => have := HJ2.out; have := HK2.out; omega
           case rel => exact ⟨(wrap64 (x48_2 + 1)), (by first | rfl | (simp; done) | (simp [*]; done)), H', ⟨by have := HJ2.out; have := HK2.out; omega⟩, ⟨by (with_reducible repeat (first | refine blk_drewN ?_ _ | refine blk_drew ?_ | refine blk_alloc ?_ _)); exact BK112.out⟩, ⟨by repeat (first | (with_reducible first | exact HB.out | apply below_alloc | apply pw_below_drewN | apply below_drew1 | refine below_set ?_ GE112.out) | exact HB.out)⟩⟩
        ·
         rw [if_neg c19] at H
         exact absurd H (by simp)
       ·
        rw [if_neg c18] at H
        exact absurd H (by simp)
      ·
       rw [if_neg c17] at H
       have c17b0 : decide (x48_2 < (l0_5.length : Int)) = false := decide_eq_false c17
       clear c17
       by_cases c25 : a0_1 = 1
       ·
        rw [if_pos c25] at H
        have c25b0 : (a0_1 == 1) = true := beq_iff_eq.mpr c25
        have c25b1 : (a0_1 != 1) = false := bne_eq_false_iff_eq.mpr c25
        clear c25
        by_cases c26 : 0 < (l0_6.length : Int)
        ·
         rw [if_pos c26] at H
         have c26b0 : decide (0 < (l0_6.length : Int)) = true := decide_eq_true c26
         have c26b1 : decide (0 < l0_6.length) = true := decide_eq_true (by omega)
         clear c26
         obtain rfl := Option.some.inj H
         have hcz27_0 : wr.cell? ⟨gb112, 0, none⟩ = some (.string a0_0) := (blk_cell BK112.out 0).trans rfl
         have hcz27_1 : wr.cell? ⟨gb112, 1, none⟩ = some (.int .u16 a0_1) := (blk_cell BK112.out 1).trans rfl
         have hcz27_2 : wr.cell? ⟨gb112, 2, none⟩ = some (.int .u16 a0_2) := (blk_cell BK112.out 2).trans rfl
         have hcz27_3 : wr.cell? ⟨gb112, 3, none⟩ = some (.int .u32 a0_3) := (blk_cell BK112.out 3).trans rfl
         have hcz27_4 : wr.cell? ⟨gb112, 4, none⟩ = some (.slice A0_4 l0_4.length c0_4) := (blk_cell BK112.out 4).trans rfl
         have hcz27_5 : wr.cell? ⟨gb112, 5, none⟩ = some (.slice A0_5 l0_5.length c0_5) := (blk_cell BK112.out 5).trans rfl
         have hcz27_6 : wr.cell? ⟨gb112, 6, none⟩ = some (.slice A0_6 l0_6.length c0_6) := (blk_cell BK112.out 6).trans rfl
         have hfz27_0 := blk_frozen BK112.out 0
         have hfz27_1 := blk_frozen BK112.out 1
         have hfz27_2 := blk_frozen BK112.out 2
         have hfz27_3 := blk_frozen BK112.out 3
         have hfz27_4 := blk_frozen BK112.out 4
         have hfz27_5 := blk_frozen BK112.out 5
         have hfz27_6 := blk_frozen BK112.out 6
         have p117 : 0 ≤ (0 : Int) := (by omega)
         have q117 : 0 < (l0_6.length : Int) := of_decide_eq_true (by first | (with_reducible assumption) | assumption)
         obtain ⟨ad117, e117, hx117_0⟩ := Kd.at_string HR0_6.out 0 p117 q117
         cases e117
         have qi117 : (0 < l0_6.length) = True := eq_true (by omega)
         (try rw [show ((0 : Int)).toNat = 0 from rfl] at hx117_0)
         (try rw [Addr.add_zero'] at hx117_0)
         replace hx117_0 := (HB.out.cell (World.block_lt_of_cell? w _ hx117_0)).trans hx117_0
         replace p117 := eq_true p117
         replace q117 := eq_true q117
         go_wp2
         go_ret
         exact ⟨by first | rfl | (simp [errW_none, errW_some] <;> rfl) | (simp [*, errW_none, errW_some] <;> rfl), by repeat (first | (with_reducible first | exact HB.out | apply below_alloc | apply pw_below_drewN | apply below_drew1 | refine below_set ?_ GE112.out) | exact HB.out)⟩
        ·
         rw [if_neg c26] at H
         exact absurd H (by simp)
       ·
        rw [if_neg c25] at H
        have c25b0 : (a0_1 == 1) = false := beq_eq_false_iff_ne.mpr c25
        have c25b1 : (a0_1 != 1) = true := bne_iff_ne.mpr c25
        by_cases c28 : a0_1 = 28
        ·
         rw [if_pos c28] at H
         have c28b0 : (a0_1 == 28) = true := beq_iff_eq.mpr c28
         have c28b1 : (a0_1 != 28) = false := bne_eq_false_iff_eq.mpr c28
         clear c28
         by_cases c29 : 0 < (l0_6.length : Int)
         ·
          rw [if_pos c29] at H
          have c29b0 : decide (0 < (l0_6.length : Int)) = true := decide_eq_true c29
          have c29b1 : decide (0 < l0_6.length) = true := decide_eq_true (by omega)
          clear c29
          obtain rfl := Option.some.inj H
          have hcz30_0 : wr.cell? ⟨gb112, 0, none⟩ = some (.string a0_0) := (blk_cell BK112.out 0).trans rfl
          have hcz30_1 : wr.cell? ⟨gb112, 1, none⟩ = some (.int .u16 a0_1) := (blk_cell BK112.out 1).trans rfl
          have hcz30_2 : wr.cell? ⟨gb112, 2, none⟩ = some (.int .u16 a0_2) := (blk_cell BK112.out 2).trans rfl
          have hcz30_3 : wr.cell? ⟨gb112, 3, none⟩ = some (.int .u32 a0_3) := (blk_cell BK112.out 3).trans rfl
          have hcz30_4 : wr.cell? ⟨gb112, 4, none⟩ = some (.slice A0_4 l0_4.length c0_4) := (blk_cell BK112.out 4).trans rfl
          have hcz30_5 : wr.cell? ⟨gb112, 5, none⟩ = some (.slice A0_5 l0_5.length c0_5) := (blk_cell BK112.out 5).trans rfl
          have hcz30_6 : wr.cell? ⟨gb112, 6, none⟩ = some (.slice A0_6 l0_6.length c0_6) := (blk_cell BK112.out 6).trans rfl
          have hfz30_0 := blk_frozen BK112.out 0
          have hfz30_1 := blk_frozen BK112.out 1
          have hfz30_2 := blk_frozen BK112.out 2
          have hfz30_3 := blk_frozen BK112.out 3
          have hfz30_4 := blk_frozen BK112.out 4
          have hfz30_5 := blk_frozen BK112.out 5
          have hfz30_6 := blk_frozen BK112.out 6
          have p118 : 0 ≤ (0 : Int) := (by omega)
          have q118 : 0 < (l0_6.length : Int) := of_decide_eq_true (by first | (with_reducible assumption) | assumption)
          obtain ⟨ad118, e118, hx118_0⟩ := Kd.at_string HR0_6.out 0 p118 q118
          cases e118
          have qi118 : (0 < l0_6.length) = True := eq_true (by omega)
          (try rw [show ((0 : Int)).toNat = 0 from rfl] at hx118_0)
          (try rw [Addr.add_zero'] at hx118_0)
          replace hx118_0 := (HB.out.cell (World.block_lt_of_cell? w _ hx118_0)).trans hx118_0
          replace p118 := eq_true p118
          replace q118 := eq_true q118
          go_wp2
          go_ret
          exact ⟨by first | rfl | (simp [errW_none, errW_some] <;> rfl) | (simp [*, errW_none, errW_some] <;> rfl), by repeat (first | (with_reducible first | exact HB.out | apply below_alloc | apply pw_below_drewN | apply below_drew1 | refine below_set ?_ GE112.out) | exact HB.out)⟩
         ·
          rw [if_neg c29] at H
          exact absurd H (by simp)
        ·
         rw [if_neg c28] at H
         have c28b0 : (a0_1 == 28) = false := beq_eq_false_iff_ne.mpr c28
         have c28b1 : (a0_1 != 28) = true := bne_iff_ne.mpr c28
         by_cases c31 : a0_1 = 16
         ·
          rw [if_pos c31] at H
          have c31b0 : (a0_1 == 16) = true := beq_iff_eq.mpr c31
          have c31b1 : (a0_1 != 16) = false := bne_eq_false_iff_eq.mpr c31
          clear c31
          replace H := Option.bind_eq_some_iff.mp H
          obtain ⟨t119, A320, H⟩ := H
          replace H : (some (!t119)) = some r := H
          have A32 := Aside0.mk A320
          clear A320
          obtain rfl := Option.some.inj H
          have hcz33_0 : wr.cell? ⟨gb112, 0, none⟩ = some (.string a0_0) := (blk_cell BK112.out 0).trans rfl
          have hcz33_1 : wr.cell? ⟨gb112, 1, none⟩ = some (.int .u16 a0_1) := (blk_cell BK112.out 1).trans rfl
          have hcz33_2 : wr.cell? ⟨gb112, 2, none⟩ = some (.int .u16 a0_2) := (blk_cell BK112.out 2).trans rfl
          have hcz33_3 : wr.cell? ⟨gb112, 3, none⟩ = some (.int .u32 a0_3) := (blk_cell BK112.out 3).trans rfl
          have hcz33_4 : wr.cell? ⟨gb112, 4, none⟩ = some (.slice A0_4 l0_4.length c0_4) := (blk_cell BK112.out 4).trans rfl
          have hcz33_5 : wr.cell? ⟨gb112, 5, none⟩ = some (.slice A0_5 l0_5.length c0_5) := (blk_cell BK112.out 5).trans rfl
          have hcz33_6 : wr.cell? ⟨gb112, 6, none⟩ = some (.slice A0_6 l0_6.length c0_6) := (blk_cell BK112.out 6).trans rfl
          have hfz33_0 := blk_frozen BK112.out 0
          have hfz33_1 := blk_frozen BK112.out 1
          have hfz33_2 := blk_frozen BK112.out 2
          have hfz33_3 := blk_frozen BK112.out 3
          have hfz33_4 := blk_frozen BK112.out 4
          have hfz33_5 := blk_frozen BK112.out 5
          have hfz33_6 := blk_frozen BK112.out 6
          go_wp2_with (first | ((with_reducible refine gate_callee (f := 22) rfl ?_); refine goesL_ (some 82) rfl rfl Try.func22 (by kernel_rfl) rfl #[.slice A0_6 l0_6.length c0_6, .func (.func 37) #[] #[]] rfl (by (try simp only [List.map_toArray, List.map_cons, List.map_nil]); first | done | rfl | (simp only [List.length_drop, List.length_take]; rfl)) ?_; (with_reducible refine (slices_ContainsFunc_string_string_37.calls k2 _ _ l0_6 t119 _ ?side1 ?side2 A32.out).mono ?_); (case side1 => repeat (first | exact (Kd.C_below HR0_6.out HB.out) | (with_reducible refine Kd.C_alloc ?_ _) | (with_reducible refine Kd.C_drewN ?_ _) | (with_reducible refine Kd.C_drew ?_))); (case side2 => exact HC0_6.out); rintro e w' ⟨rfl, ⟨nd, rfl⟩⟩; refine ⟨_, rfl, ?_⟩))
          go_ret
          exact ⟨by first | rfl | (simp [errW_none, errW_some] <;> rfl) | (simp [*, errW_none, errW_some] <;> rfl), by repeat (first | (with_reducible first | exact HB.out | apply below_alloc | apply pw_below_drewN | apply below_drew1 | refine below_set ?_ GE112.out) | exact HB.out)⟩
         ·
          rw [if_neg c31] at H
          have c31b0 : (a0_1 == 16) = false := beq_eq_false_iff_ne.mpr c31
          have c31b1 : (a0_1 != 16) = true := bne_iff_ne.mpr c31
          obtain rfl := Option.some.inj H
          have hcz34_0 : wr.cell? ⟨gb112, 0, none⟩ = some (.string a0_0) := (blk_cell BK112.out 0).trans rfl
          have hcz34_1 : wr.cell? ⟨gb112, 1, none⟩ = some (.int .u16 a0_1) := (blk_cell BK112.out 1).trans rfl
          have hcz34_2 : wr.cell? ⟨gb112, 2, none⟩ = some (.int .u16 a0_2) := (blk_cell BK112.out 2).trans rfl
          have hcz34_3 : wr.cell? ⟨gb112, 3, none⟩ = some (.int .u32 a0_3) := (blk_cell BK112.out 3).trans rfl
          have hcz34_4 : wr.cell? ⟨gb112, 4, none⟩ = some (.slice A0_4 l0_4.length c0_4) := (blk_cell BK112.out 4).trans rfl
          have hcz34_5 : wr.cell? ⟨gb112, 5, none⟩ = some (.slice A0_5 l0_5.length c0_5) := (blk_cell BK112.out 5).trans rfl
          have hcz34_6 : wr.cell? ⟨gb112, 6, none⟩ = some (.slice A0_6 l0_6.length c0_6) := (blk_cell BK112.out 6).trans rfl
          have hfz34_0 := blk_frozen BK112.out 0
          have hfz34_1 := blk_frozen BK112.out 1
          have hfz34_2 := blk_frozen BK112.out 2
          have hfz34_3 := blk_frozen BK112.out 3
          have hfz34_4 := blk_frozen BK112.out 4
          have hfz34_5 := blk_frozen BK112.out 5
          have hfz34_6 := blk_frozen BK112.out 6
          go_wp2
          go_ret
          exact ⟨by first | rfl | (simp [errW_none, errW_some] <;> rfl) | (simp [*, errW_none, errW_some] <;> rfl), by repeat (first | (with_reducible first | exact HB.out | apply below_alloc | apply pw_below_drewN | apply below_drew1 | refine below_set ?_ GE112.out) | exact HB.out)⟩

end Go.Proofs.Ytebnbjnkameicaa.Mine
