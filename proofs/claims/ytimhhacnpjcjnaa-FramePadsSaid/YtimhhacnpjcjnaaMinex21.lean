-- Written by this repo's own printer (wip/print), which builds on the kit's.
import Derived.Test.YtimhhacnpjcjnaaMinex0
import Derived.Test.YtimhhacnpjcjnaaMinex14
import Derived.Test.YtimhhacnpjcjnaaMinex18
import Derived.Test.YtimhhacnpjcjnaaMinex20
namespace Go.Proofs.Ytimhhacnpjcjnaa.Mine
open Go.RowKit Go.Proofs.YtimhhacnpjcjnaaW.PrintWords Go.Proofs.YtimhhacnpjcjnaaW.PrintLast Go.Proofs.YtimhhacnpjcjnaaW.PrintMore
attribute [local go_sem] max2_int min2_int max_two min_two max_three min_three max_four min_four   -- for this text's walks alone
set_option linter.unusedVariables false
set_option linter.unusedSimpArgs false

/-! ### nuncioref14_Wrong: function 14 -/
mutual
def nuncioref14_Wrong.j0 : Nat → Int → Bool → Int → Int → Int → ByteArray → Option (Int × Int)
 | 0, _, _, _, _, _, _ => none
 | k + 1, x4, x20, x252000, x252001, x252002, x252003 => if x20 = true then (some (2, 6)) else ((nuncioref14_flag.f x252000 x252001 x252002 x252003 8).bind fun t253 => (if t253 = true then (if 0 < (x252003.size : Int) then (if (wrap64 (bt x252003 0)) ≥ x4 then (some (2, 1)) else (some (0, 0))) else (none)) else (some (0, 0))))
def nuncioref14_Wrong.j1 : Nat → Bool → Int → Int → Int → ByteArray → Option (Int × Int)
 | 0, _, _, _, _, _ => none
 | k + 1, x98, x252000, x252001, x252002, x252003 => if x98 = true then (some (2, 1)) else ((nuncioref14_get.f k x252003 0 4).bind fun t259 => (if (Int.tmod t259 2147483648) = 0 then (some (1, 1)) else (some (0, 0))))
end
def nuncioref14_Wrong.f (k : Nat) (a0_0 : Int) (a0_1 : Int) (a0_2 : Int) (a0_3 : ByteArray) : Option (Int × Int) := if a0_0 = 0 then (if a0_2 = 0 then (some (2, 1)) else ((nuncioref14_flag.f a0_0 a0_1 a0_2 a0_3 8).bind fun t252 => (if t252 = true then (nuncioref14_Wrong.j0 k (a0_3.size : Int) ((a0_3.size : Int) == 0) a0_0 a0_1 a0_2 a0_3) else (nuncioref14_Wrong.j0 k (a0_3.size : Int) false a0_0 a0_1 a0_2 a0_3)))) else (if a0_0 = 1 then ((nuncioref14_headers.f k a0_0 a0_1 a0_2 a0_3).bind fun bt254 => (some (bt254.1, bt254.2))) else (if a0_0 = 2 then (if a0_2 = 0 then (some (2, 1)) else (if (a0_3.size : Int) = 5 then ((nuncioref14_self.f k a0_0 a0_1 a0_2 a0_3 0).bind fun t256 => (if t256 = true then (some (1, 1)) else (some (0, 0)))) else (some (1, 6)))) else (if a0_0 = 3 then (if a0_2 = 0 then (some (2, 1)) else (if (a0_3.size : Int) = 4 then (some (0, 0)) else (some (2, 6)))) else (if a0_0 = 4 then (if a0_2 = 0 then ((nuncioref14_flag.f a0_0 a0_1 a0_2 a0_3 1).bind fun t257 => (if t257 = true then (if (a0_3.size : Int) = 0 then (if ((a0_3.size : Int) % 6) = 0 then (some (0, 0)) else (some (2, 6))) else (some (2, 6))) else (if ((a0_3.size : Int) % 6) = 0 then (some (0, 0)) else (some (2, 6))))) else (some (2, 1))) else (if a0_0 = 5 then (some (2, 1)) else (if a0_0 = 6 then (if a0_2 = 0 then (if (a0_3.size : Int) = 8 then (some (0, 0)) else (some (2, 6))) else (some (2, 1))) else (if a0_0 = 7 then (if a0_2 = 0 then (if (a0_3.size : Int) < 8 then (some (2, 6)) else (some (0, 0))) else (some (2, 1))) else (if a0_0 = 8 then (if (a0_3.size : Int) = 4 then ((nuncioref14_get.f k a0_3 0 4).bind fun t258 => (if (Int.tmod t258 2147483648) = 0 then (nuncioref14_Wrong.j1 k (a0_2 == 0) a0_0 a0_1 a0_2 a0_3) else (nuncioref14_Wrong.j1 k false a0_0 a0_1 a0_2 a0_3))) else (some (2, 6))) else (if a0_0 = 9 then (if a0_2 = 0 then (some (2, 1)) else (some (0, 0))) else (some (0, 0)))))))))))
theorem nuncioref14_Wrong.mono_l : ∀ k, (∀ y0 y1 y2 y3 y4 y5, LeO (nuncioref14_Wrong.j0 k y0 y1 y2 y3 y4 y5) (nuncioref14_Wrong.j0 (k + 1) y0 y1 y2 y3 y4 y5)) ∧ (∀ y0 y1 y2 y3 y4, LeO (nuncioref14_Wrong.j1 k y0 y1 y2 y3 y4) (nuncioref14_Wrong.j1 (k + 1) y0 y1 y2 y3 y4))
 | 0 => ⟨fun _ _ _ _ _ _ r h => by simp [nuncioref14_Wrong.j0] at h, fun _ _ _ _ _ r h => by simp [nuncioref14_Wrong.j1] at h⟩
 | k + 1 => by
  obtain ⟨ih0, ih1⟩ := nuncioref14_Wrong.mono_l k
  refine ⟨?_, ?_⟩
  ·
   intro y0 y1 y2 y3 y4 y5
   unfold nuncioref14_Wrong.j0
   repeat' first
   | (with_reducible exact ih0 _ _ _ _ _ _)
   | (with_reducible exact ih1 _ _ _ _ _)
   | (with_reducible exact nuncioref14_get.mono _ _ _ _)
   | (with_reducible exact nuncioref14_headers.mono _ _ _ _ _)
   | (with_reducible exact nuncioref14_self.mono _ _ _ _ _ _)
   | (with_reducible exact LeO.refl _)
   | (with_reducible exact LeO.none _)
   | (with_reducible refine LeO.ite ?_ ?_)
   | (with_reducible refine LeO.bind ?_ (fun _ => ?_))
   | exact ih0 _ _ _ _ _ _
   | exact ih1 _ _ _ _ _
   | exact nuncioref14_get.mono _ _ _ _
   | exact nuncioref14_headers.mono _ _ _ _ _
   | exact nuncioref14_self.mono _ _ _ _ _ _
   | exact LeO.none _
   | refine LeO.ite ?_ ?_
   | refine LeO.bind ?_ (fun _ => ?_)
  ·
   intro y0 y1 y2 y3 y4
   unfold nuncioref14_Wrong.j1
   repeat' first
   | (with_reducible exact ih0 _ _ _ _ _ _)
   | (with_reducible exact ih1 _ _ _ _ _)
   | (with_reducible exact nuncioref14_get.mono _ _ _ _)
   | (with_reducible exact nuncioref14_headers.mono _ _ _ _ _)
   | (with_reducible exact nuncioref14_self.mono _ _ _ _ _ _)
   | (with_reducible exact LeO.refl _)
   | (with_reducible exact LeO.none _)
   | (with_reducible refine LeO.ite ?_ ?_)
   | (with_reducible refine LeO.bind ?_ (fun _ => ?_))
   | exact ih0 _ _ _ _ _ _
   | exact ih1 _ _ _ _ _
   | exact nuncioref14_get.mono _ _ _ _
   | exact nuncioref14_headers.mono _ _ _ _ _
   | exact nuncioref14_self.mono _ _ _ _ _ _
   | exact LeO.none _
   | refine LeO.ite ?_ ?_
   | refine LeO.bind ?_ (fun _ => ?_)
theorem nuncioref14_Wrong.mono : ∀ a0 a1 a2 a3 k, LeO (nuncioref14_Wrong.f k a0 a1 a2 a3) (nuncioref14_Wrong.f (k + 1) a0 a1 a2 a3) := by
 intro a0 a1 a2 a3 k
 obtain ⟨ih0, ih1⟩ := nuncioref14_Wrong.mono_l k
 unfold nuncioref14_Wrong.f
 repeat' first
   | (with_reducible exact ih0 _ _ _ _ _ _)
   | (with_reducible exact ih1 _ _ _ _ _)
   | (with_reducible exact nuncioref14_get.mono _ _ _ _)
   | (with_reducible exact nuncioref14_headers.mono _ _ _ _ _)
   | (with_reducible exact nuncioref14_self.mono _ _ _ _ _ _)
   | (with_reducible exact LeO.refl _)
   | (with_reducible exact LeO.none _)
   | (with_reducible refine LeO.ite ?_ ?_)
   | (with_reducible refine LeO.bind ?_ (fun _ => ?_))
   | exact ih0 _ _ _ _ _ _
   | exact ih1 _ _ _ _ _
   | exact nuncioref14_get.mono _ _ _ _
   | exact nuncioref14_headers.mono _ _ _ _ _
   | exact nuncioref14_self.mono _ _ _ _ _ _
   | exact LeO.none _
   | refine LeO.ite ?_ ?_
   | refine LeO.bind ?_ (fun _ => ?_)
set_option maxHeartbeats 8000000 in
set_option maxRecDepth 100000 in
theorem nuncioref14_Wrong.calls (k : Nat) (a0_0 : Int) (a0_1 : Int) (a0_2 : Int) (a0_3 : ByteArray) (r1 : Int) (r2 : Int) (w : World) (h : nuncioref14_Wrong.f k a0_0 a0_1 a0_2 a0_3 = some (r1, r2)) :
  Calls Try.prog 14 #[.agg #[.int .u8 a0_0, .int .u8 a0_1, .int .u32 a0_2, .string a0_3]] w fun e w' => e = .returned (.tuple #[.int .i64 r1, .int .i64 r2]) ∧ Below w.heap.size w w' := by
 have hu24 := Try.underlying24
 have HB := Aside0.mk (Below.refl w.heap.size w)
 have H : (if a0_0 = 0 then (if a0_2 = 0 then (some (2, 1)) else ((nuncioref14_flag.f a0_0 a0_1 a0_2 a0_3 8).bind fun t252 => (if t252 = true then (nuncioref14_Wrong.j0 k (a0_3.size : Int) ((a0_3.size : Int) == 0) a0_0 a0_1 a0_2 a0_3) else (nuncioref14_Wrong.j0 k (a0_3.size : Int) false a0_0 a0_1 a0_2 a0_3)))) else (if a0_0 = 1 then ((nuncioref14_headers.f k a0_0 a0_1 a0_2 a0_3).bind fun bt254 => (some (bt254.1, bt254.2))) else (if a0_0 = 2 then (if a0_2 = 0 then (some (2, 1)) else (if (a0_3.size : Int) = 5 then ((nuncioref14_self.f k a0_0 a0_1 a0_2 a0_3 0).bind fun t256 => (if t256 = true then (some (1, 1)) else (some (0, 0)))) else (some (1, 6)))) else (if a0_0 = 3 then (if a0_2 = 0 then (some (2, 1)) else (if (a0_3.size : Int) = 4 then (some (0, 0)) else (some (2, 6)))) else (if a0_0 = 4 then (if a0_2 = 0 then ((nuncioref14_flag.f a0_0 a0_1 a0_2 a0_3 1).bind fun t257 => (if t257 = true then (if (a0_3.size : Int) = 0 then (if ((a0_3.size : Int) % 6) = 0 then (some (0, 0)) else (some (2, 6))) else (some (2, 6))) else (if ((a0_3.size : Int) % 6) = 0 then (some (0, 0)) else (some (2, 6))))) else (some (2, 1))) else (if a0_0 = 5 then (some (2, 1)) else (if a0_0 = 6 then (if a0_2 = 0 then (if (a0_3.size : Int) = 8 then (some (0, 0)) else (some (2, 6))) else (some (2, 1))) else (if a0_0 = 7 then (if a0_2 = 0 then (if (a0_3.size : Int) < 8 then (some (2, 6)) else (some (0, 0))) else (some (2, 1))) else (if a0_0 = 8 then (if (a0_3.size : Int) = 4 then ((nuncioref14_get.f k a0_3 0 4).bind fun t258 => (if (Int.tmod t258 2147483648) = 0 then (nuncioref14_Wrong.j1 k (a0_2 == 0) a0_0 a0_1 a0_2 a0_3) else (nuncioref14_Wrong.j1 k false a0_0 a0_1 a0_2 a0_3))) else (some (2, 6))) else (if a0_0 = 9 then (if a0_2 = 0 then (some (2, 1)) else (some (0, 0))) else (some (0, 0)))))))))))) = some (r1, r2) := h
 clear h
 by_cases c2 : a0_0 = 0
 ·
  rw [if_pos c2] at H
  have c2b0 : (a0_0 == 0) = true := beq_iff_eq.mpr c2
  have c2b1 : (a0_0 != 0) = false := bne_eq_false_iff_eq.mpr c2
  clear c2
  by_cases c3 : a0_2 = 0
  ·
   rw [if_pos c3] at H
   have c3b0 : (a0_2 == 0) = true := beq_iff_eq.mpr c3
   have c3b1 : (a0_2 != 0) = false := bne_eq_false_iff_eq.mpr c3
   clear c3
   simp only [Option.some.injEq, Prod.mk.injEq] at H
   obtain ⟨rfl, rfl⟩ := H
   go_enter Try.func14, Try.ntmps14
   go_wp2_with (first | ((with_reducible refine gate_dst (N := 1) rfl ?_); refine box_event ?hg (N := 1) ?hd (cs := #[.int .u8 a0_0, .int .u8 a0_1, .int .u32 a0_2, .string a0_3]) (t := 24) ?hr ?_; (case hd => rfl); (case hg => rfl); (case hr => first | (go_simp; done) | (go_simp; rfl)); intro gb251 hg w4 hbox hb; have n0_ := Aside0.mk (below_step (by repeat (first | (with_reducible first | exact HB.out | apply below_alloc | apply pw_below_drewN | apply below_drew1) | exact HB.out)) hb); have n1_ := Aside0.mk (hbox); have n2_ := Aside0.mk ((by rw [hg]; exact (below_size (by repeat (first | (with_reducible first | exact HB.out | apply below_alloc | apply pw_below_drewN | apply below_drew1) | exact HB.out))) : w.heap.size ≤ gb251)); have n3_ := Aside0.mk ((by rw [hg]; exact (below_size (by repeat (first | (with_reducible first | exact HB.out | apply below_alloc | apply pw_below_drewN | apply below_drew1) | exact HB.out))) : w.heap.size ≤ gb251)); clear HB; have HB := n0_; have BK251 := n1_; have GW251 := n2_; have GE251 := n3_; clear n0_ n1_ n2_ n3_; clear hb hbox hg; have hcz5_0 : w4.cell? ⟨gb251, 0, none⟩ = some (.int .u8 a0_0) := (blk_cell BK251.out 0).trans rfl; have hcz5_1 : w4.cell? ⟨gb251, 1, none⟩ = some (.int .u8 a0_1) := (blk_cell BK251.out 1).trans rfl; have hcz5_2 : w4.cell? ⟨gb251, 2, none⟩ = some (.int .u32 a0_2) := (blk_cell BK251.out 2).trans rfl; have hcz5_3 : w4.cell? ⟨gb251, 3, none⟩ = some (.string a0_3) := (blk_cell BK251.out 3).trans rfl; have hfz5_0 := blk_frozen BK251.out 0; have hfz5_1 := blk_frozen BK251.out 1; have hfz5_2 := blk_frozen BK251.out 2; have hfz5_3 := blk_frozen BK251.out 3))
   go_ret2
   exact ⟨by first | rfl | (simp [errW_none, errW_some] <;> rfl) | (simp [*, errW_none, errW_some] <;> rfl), by repeat (first | (with_reducible first | exact HB.out | apply below_alloc | apply pw_below_drewN | apply below_drew1 | refine below_set ?_ GE251.out) | exact HB.out)⟩
  ·
   rw [if_neg c3] at H
   have c3b0 : (a0_2 == 0) = false := beq_eq_false_iff_ne.mpr c3
   have c3b1 : (a0_2 != 0) = true := bne_iff_ne.mpr c3
   have HC6 := Aside0.mk H
   clear H
   go_enter Try.func14, Try.ntmps14
   go_upto_region 6 with (first | ((with_reducible refine gate_dst (N := 1) rfl ?_); refine box_event ?hg (N := 1) ?hd (cs := #[.int .u8 a0_0, .int .u8 a0_1, .int .u32 a0_2, .string a0_3]) (t := 24) ?hr ?_; (case hd => rfl); (case hg => rfl); (case hr => first | (go_simp; done) | (go_simp; rfl)); intro gb251 hg w7 hbox hb; have n0_ := Aside0.mk (below_step (by repeat (first | (with_reducible first | exact HB.out | apply below_alloc | apply pw_below_drewN | apply below_drew1) | exact HB.out)) hb); have n1_ := Aside0.mk (hbox); have n2_ := Aside0.mk ((by rw [hg]; exact (below_size (by repeat (first | (with_reducible first | exact HB.out | apply below_alloc | apply pw_below_drewN | apply below_drew1) | exact HB.out))) : w.heap.size ≤ gb251)); have n3_ := Aside0.mk ((by rw [hg]; exact (below_size (by repeat (first | (with_reducible first | exact HB.out | apply below_alloc | apply pw_below_drewN | apply below_drew1) | exact HB.out))) : w.heap.size ≤ gb251)); clear HB; have HB := n0_; have BK251 := n1_; have GW251 := n2_; have GE251 := n3_; clear n0_ n1_ n2_ n3_; clear hb hbox hg; have hcz8_0 : w7.cell? ⟨gb251, 0, none⟩ = some (.int .u8 a0_0) := (blk_cell BK251.out 0).trans rfl; have hcz8_1 : w7.cell? ⟨gb251, 1, none⟩ = some (.int .u8 a0_1) := (blk_cell BK251.out 1).trans rfl; have hcz8_2 : w7.cell? ⟨gb251, 2, none⟩ = some (.int .u32 a0_2) := (blk_cell BK251.out 2).trans rfl; have hcz8_3 : w7.cell? ⟨gb251, 3, none⟩ = some (.string a0_3) := (blk_cell BK251.out 3).trans rfl; have hfz8_0 := blk_frozen BK251.out 0; have hfz8_1 := blk_frozen BK251.out 1; have hfz8_2 := blk_frozen BK251.out 2; have hfz8_3 := blk_frozen BK251.out 3))
   (try simp only [Act.put, List.setIfInBounds_toArray, List.set_cons_zero, List.set_cons_succ])
   go_cut [20] (fun v20 wc => ∃ (kq : Nat) (x20_5 : Bool), v20 = .bool x20_5 ∧ Aside0 (nuncioref14_Wrong.j0 kq (a0_3.size : Int) x20_5 a0_0 a0_1 a0_2 a0_3 = some (r1, r2)) ∧ Aside0 (kq ≤ k) ∧ Aside0 (wc.heap[gb251]? = some (.cells #[.int .u8 a0_0, .int .u8 a0_1, .int .u32 a0_2, .string a0_3] 24 (0, 0))) ∧ Aside0 (Below w.heap.size w wc))
   case first =>
    have H := HC6.out
    clear HC6
    replace H := Option.bind_eq_some_iff.mp H
    obtain ⟨t252, A90, H⟩ := H
    replace H : (if t252 = true then (nuncioref14_Wrong.j0 k (a0_3.size : Int) ((a0_3.size : Int) == 0) a0_0 a0_1 a0_2 a0_3) else (nuncioref14_Wrong.j0 k (a0_3.size : Int) false a0_0 a0_1 a0_2 a0_3)) = some (r1, r2) := H
    have A9 := Aside0.mk A90
    clear A90
    by_cases c10 : t252 = true
    ·
     subst c10
     have H1 : (nuncioref14_Wrong.j0 k (a0_3.size : Int) ((a0_3.size : Int) == 0) a0_0 a0_1 a0_2 a0_3) = some (r1, r2) := by rw [if_pos rfl] at H; exact H
     clear H
     have H := H1
     clear H1
     have H' := Aside0.mk H
     clear H
     have hcz11_0 : w7.cell? ⟨gb251, 0, none⟩ = some (.int .u8 a0_0) := (blk_cell BK251.out 0).trans rfl
     have hcz11_1 : w7.cell? ⟨gb251, 1, none⟩ = some (.int .u8 a0_1) := (blk_cell BK251.out 1).trans rfl
     have hcz11_2 : w7.cell? ⟨gb251, 2, none⟩ = some (.int .u32 a0_2) := (blk_cell BK251.out 2).trans rfl
     have hcz11_3 : w7.cell? ⟨gb251, 3, none⟩ = some (.string a0_3) := (blk_cell BK251.out 3).trans rfl
     have hfz11_0 := blk_frozen BK251.out 0
     have hfz11_1 := blk_frozen BK251.out 1
     have hfz11_2 := blk_frozen BK251.out 2
     have hfz11_3 := blk_frozen BK251.out 3
     go_wp2_with (first | ((with_reducible refine gate_callee (f := 30) rfl ?_); refine goesL_ (some 16) rfl rfl Try.func30 (by kernel_rfl) rfl #[.agg #[.int .u8 a0_0, .int .u8 a0_1, .int .u32 a0_2, .string a0_3], .int .i64 8] rfl (by (try simp only [List.map_toArray, List.map_cons, List.map_nil]); first | done | rfl | (simp only [List.length_drop, List.length_take]; rfl)) ?_; (with_reducible refine (nuncioref14_flag.calls a0_0 a0_1 a0_2 a0_3 8 true _ A9.out).mono ?_); rintro e w12 ⟨rfl, hb⟩; refine ⟨_, rfl, ?_⟩; have n0_ := Aside0.mk (blk_below (g := gb251) (o := .cells #[.int .u8 a0_0, .int .u8 a0_1, .int .u32 a0_2, .string a0_3] 24 (0, 0)) (by (with_reducible repeat (first | refine blk_drewN ?_ _ | refine blk_drew ?_ | refine blk_alloc ?_ _)); exact BK251.out) hb); have n1_ := Aside0.mk (below_step (by repeat (first | (with_reducible first | exact HB.out | apply below_alloc | apply pw_below_drewN | apply below_drew1 | refine below_set ?_ GE251.out) | exact HB.out)) hb); clear BK251; clear HB; have BK251 := n0_; have HB := n1_; clear n0_ n1_; (try clear hb); (try clear hb2); (try clear hk); (try clear hi)))
     go_meet
     case rel => exact ⟨_, (((a0_3.size : Int) == 0)), (by first | rfl | (simp; done) | (simp [*]; done)), H', ⟨by first | omega | exact Nat.le_refl _⟩, ⟨by (with_reducible repeat (first | refine blk_drewN ?_ _ | refine blk_drew ?_ | refine blk_alloc ?_ _)); exact BK251.out⟩, ⟨by repeat (first | (with_reducible first | exact HB.out | apply below_alloc | apply pw_below_drewN | apply below_drew1 | refine below_set ?_ GE251.out) | exact HB.out)⟩⟩
    ·
     replace c10 := Bool.eq_false_iff.mpr c10
     subst c10
     have H1 : (nuncioref14_Wrong.j0 k (a0_3.size : Int) false a0_0 a0_1 a0_2 a0_3) = some (r1, r2) := by rw [if_neg (show ¬ (false = true) by decide)] at H; exact H
     clear H
     have H := H1
     clear H1
     have H' := Aside0.mk H
     clear H
     have hcz13_0 : w7.cell? ⟨gb251, 0, none⟩ = some (.int .u8 a0_0) := (blk_cell BK251.out 0).trans rfl
     have hcz13_1 : w7.cell? ⟨gb251, 1, none⟩ = some (.int .u8 a0_1) := (blk_cell BK251.out 1).trans rfl
     have hcz13_2 : w7.cell? ⟨gb251, 2, none⟩ = some (.int .u32 a0_2) := (blk_cell BK251.out 2).trans rfl
     have hcz13_3 : w7.cell? ⟨gb251, 3, none⟩ = some (.string a0_3) := (blk_cell BK251.out 3).trans rfl
     have hfz13_0 := blk_frozen BK251.out 0
     have hfz13_1 := blk_frozen BK251.out 1
     have hfz13_2 := blk_frozen BK251.out 2
     have hfz13_3 := blk_frozen BK251.out 3
     go_wp2_with (first | ((with_reducible refine gate_callee (f := 30) rfl ?_); refine goesL_ (some 16) rfl rfl Try.func30 (by kernel_rfl) rfl #[.agg #[.int .u8 a0_0, .int .u8 a0_1, .int .u32 a0_2, .string a0_3], .int .i64 8] rfl (by (try simp only [List.map_toArray, List.map_cons, List.map_nil]); first | done | rfl | (simp only [List.length_drop, List.length_take]; rfl)) ?_; (with_reducible refine (nuncioref14_flag.calls a0_0 a0_1 a0_2 a0_3 8 false _ A9.out).mono ?_); rintro e w14 ⟨rfl, hb⟩; refine ⟨_, rfl, ?_⟩; have n0_ := Aside0.mk (blk_below (g := gb251) (o := .cells #[.int .u8 a0_0, .int .u8 a0_1, .int .u32 a0_2, .string a0_3] 24 (0, 0)) (by (with_reducible repeat (first | refine blk_drewN ?_ _ | refine blk_drew ?_ | refine blk_alloc ?_ _)); exact BK251.out) hb); have n1_ := Aside0.mk (below_step (by repeat (first | (with_reducible first | exact HB.out | apply below_alloc | apply pw_below_drewN | apply below_drew1 | refine below_set ?_ GE251.out) | exact HB.out)) hb); clear BK251; clear HB; have BK251 := n0_; have HB := n1_; clear n0_ n1_; (try clear hb); (try clear hb2); (try clear hk); (try clear hi)))
     go_meet
     case rel => exact ⟨_, (false), (by first | rfl | (simp; done) | (simp [*]; done)), H', ⟨by first | omega | exact Nat.le_refl _⟩, ⟨by (with_reducible repeat (first | refine blk_drewN ?_ _ | refine blk_drew ?_ | refine blk_alloc ?_ _)); exact BK251.out⟩, ⟨by repeat (first | (with_reducible first | exact HB.out | apply below_alloc | apply pw_below_drewN | apply below_drew1 | refine below_set ?_ GE251.out) | exact HB.out)⟩⟩
   case rest =>
    clear HC6
    try clear c1
    try clear c2
    try clear c2b0
    try clear c2b1
    try clear p2
    try clear c3
    try clear c3b0
    try clear c3b1
    try clear c10
    try clear c14
    try clear hcz11_0
    try clear hcz11_1
    try clear hcz11_2
    try clear hcz11_3
    try clear hcz13_0
    try clear hcz13_1
    try clear hcz13_2
    try clear hcz13_3
    try clear hcz5_0
    try clear hcz5_1
    try clear hcz5_2
    try clear hcz5_3
    try clear hcz8_0
    try clear hcz8_1
    try clear hcz8_2
    try clear hcz8_3
    try clear hfz11_0
    try clear hfz11_1
    try clear hfz11_2
    try clear hfz11_3
    try clear hfz13_0
    try clear hfz13_1
    try clear hfz13_2
    try clear hfz13_3
    try clear hfz5_0
    try clear hfz5_1
    try clear hfz5_2
    try clear hfz5_3
    try clear hfz8_0
    try clear hfz8_1
    try clear hfz8_2
    try clear hfz8_3
    obtain ⟨kq, x20_5, rfl, HA, HJ5, BK251, HB⟩ := hcut
    cases kq with
    | zero => exact absurd HA.out (by simp [nuncioref14_Wrong.j0])
    | succ kj5 =>
     have H := HA.out
     clear HA
     simp only [nuncioref14_Wrong.j0] at H
     by_cases c15 : x20_5 = true
     ·
      subst c15
      have H1 : (some (2, 6)) = some (r1, r2) := by rw [if_pos rfl] at H; exact H
      clear H
      have H := H1
      clear H1
      simp only [Option.some.injEq, Prod.mk.injEq] at H
      obtain ⟨rfl, rfl⟩ := H
      go_wp2
      go_ret2
      exact ⟨by first | rfl | (simp [errW_none, errW_some] <;> rfl) | (simp [*, errW_none, errW_some] <;> rfl), by repeat (first | (with_reducible first | exact HB.out | apply below_alloc | apply pw_below_drewN | apply below_drew1 | refine below_set ?_ GE251.out) | exact HB.out)⟩
     ·
      replace c15 := Bool.eq_false_iff.mpr c15
      subst c15
      have H1 : ((nuncioref14_flag.f a0_0 a0_1 a0_2 a0_3 8).bind fun t253 => (if t253 = true then (if 0 < (a0_3.size : Int) then (if (wrap64 (bt a0_3 0)) ≥ (a0_3.size : Int) then (some (2, 1)) else (some (0, 0))) else (none)) else (some (0, 0)))) = some (r1, r2) := by rw [if_neg (show ¬ (false = true) by decide)] at H; exact H
      clear H
      have H := H1
      clear H1
      replace H := Option.bind_eq_some_iff.mp H
      obtain ⟨t253, A160, H⟩ := H
      replace H : (if t253 = true then (if 0 < (a0_3.size : Int) then (if (wrap64 (bt a0_3 0)) ≥ (a0_3.size : Int) then (some (2, 1)) else (some (0, 0))) else (none)) else (some (0, 0))) = some (r1, r2) := H
      have A16 := Aside0.mk A160
      clear A160
      by_cases c17 : t253 = true
      ·
       subst c17
       have H1 : (if 0 < (a0_3.size : Int) then (if (wrap64 (bt a0_3 0)) ≥ (a0_3.size : Int) then (some (2, 1)) else (some (0, 0))) else (none)) = some (r1, r2) := by rw [if_pos rfl] at H; exact H
       clear H
       have H := H1
       clear H1
       by_cases c18 : 0 < (a0_3.size : Int)
       ·
        rw [if_pos c18] at H
        have c18b0 : decide (0 < (a0_3.size : Int)) = true := decide_eq_true c18
        have c18b1 : decide (0 < a0_3.size) = true := decide_eq_true (by omega)
        clear c18
        by_cases c20 : (wrap64 (bt a0_3 0)) ≥ (a0_3.size : Int)
        ·
         rw [if_pos c20] at H
         have c20b0 : decide ((a0_3.size : Int) ≤ (wrap64 (bt a0_3 0))) = true := decide_eq_true c20
         clear c20
         simp only [Option.some.injEq, Prod.mk.injEq] at H
         obtain ⟨rfl, rfl⟩ := H
         have hcz21_0 : wc.cell? ⟨gb251, 0, none⟩ = some (.int .u8 a0_0) := (blk_cell BK251.out 0).trans rfl
         have hcz21_1 : wc.cell? ⟨gb251, 1, none⟩ = some (.int .u8 a0_1) := (blk_cell BK251.out 1).trans rfl
         have hcz21_2 : wc.cell? ⟨gb251, 2, none⟩ = some (.int .u32 a0_2) := (blk_cell BK251.out 2).trans rfl
         have hcz21_3 : wc.cell? ⟨gb251, 3, none⟩ = some (.string a0_3) := (blk_cell BK251.out 3).trans rfl
         have hfz21_0 := blk_frozen BK251.out 0
         have hfz21_1 := blk_frozen BK251.out 1
         have hfz21_2 := blk_frozen BK251.out 2
         have hfz21_3 := blk_frozen BK251.out 3
         go_wp2_with (first | ((with_reducible refine gate_callee (f := 30) rfl ?_); refine goesL_ (some 22) rfl rfl Try.func30 (by kernel_rfl) rfl #[.agg #[.int .u8 a0_0, .int .u8 a0_1, .int .u32 a0_2, .string a0_3], .int .i64 8] rfl (by (try simp only [List.map_toArray, List.map_cons, List.map_nil]); first | done | rfl | (simp only [List.length_drop, List.length_take]; rfl)) ?_; (with_reducible refine (nuncioref14_flag.calls a0_0 a0_1 a0_2 a0_3 8 true _ A16.out).mono ?_); rintro e w22 ⟨rfl, hb⟩; refine ⟨_, rfl, ?_⟩; have n0_ := Aside0.mk (blk_below (g := gb251) (o := .cells #[.int .u8 a0_0, .int .u8 a0_1, .int .u32 a0_2, .string a0_3] 24 (0, 0)) (by (with_reducible repeat (first | refine blk_drewN ?_ _ | refine blk_drew ?_ | refine blk_alloc ?_ _)); exact BK251.out) hb); have n1_ := Aside0.mk (below_step (by repeat (first | (with_reducible first | exact HB.out | apply below_alloc | apply pw_below_drewN | apply below_drew1 | refine below_set ?_ GE251.out) | exact HB.out)) hb); clear BK251; clear HB; have BK251 := n0_; have HB := n1_; clear n0_ n1_; (try clear hb); (try clear hb2); (try clear hk); (try clear hi); have hcz23_0 : w22.cell? ⟨gb251, 0, none⟩ = some (.int .u8 a0_0) := (blk_cell BK251.out 0).trans rfl; have hcz23_1 : w22.cell? ⟨gb251, 1, none⟩ = some (.int .u8 a0_1) := (blk_cell BK251.out 1).trans rfl; have hcz23_2 : w22.cell? ⟨gb251, 2, none⟩ = some (.int .u32 a0_2) := (blk_cell BK251.out 2).trans rfl; have hcz23_3 : w22.cell? ⟨gb251, 3, none⟩ = some (.string a0_3) := (blk_cell BK251.out 3).trans rfl; have hfz23_0 := blk_frozen BK251.out 0; have hfz23_1 := blk_frozen BK251.out 1; have hfz23_2 := blk_frozen BK251.out 2; have hfz23_3 := blk_frozen BK251.out 3; have p19 : 0 ≤ (0 : Int) := (by omega); have q19 : 0 < a0_3.size := (by have : (0 : Int) < (a0_3.size : Int) := of_decide_eq_true (by first | (with_reducible assumption) | assumption); omega); have hx19 : ∀ h : 0 < a0_3.size, ((a0_3[0]'h).toNat : Int) = bt a0_3 0 := bt_at a0_3 0; clear p19; have qi19 : (0 < (a0_3.size : Int)) = True := eq_true (of_decide_eq_true (by first | (with_reducible assumption) | assumption)); replace q19 := eq_true q19))
         go_ret2
         exact ⟨by first | rfl | (simp [errW_none, errW_some] <;> rfl) | (simp [*, errW_none, errW_some] <;> rfl), by repeat (first | (with_reducible first | exact HB.out | apply below_alloc | apply pw_below_drewN | apply below_drew1 | refine below_set ?_ GE251.out) | exact HB.out)⟩
        ·
         rw [if_neg c20] at H
         have c20b0 : decide ((a0_3.size : Int) ≤ (wrap64 (bt a0_3 0))) = false := decide_eq_false c20
         clear c20
         simp only [Option.some.injEq, Prod.mk.injEq] at H
         obtain ⟨rfl, rfl⟩ := H
         have hcz24_0 : wc.cell? ⟨gb251, 0, none⟩ = some (.int .u8 a0_0) := (blk_cell BK251.out 0).trans rfl
         have hcz24_1 : wc.cell? ⟨gb251, 1, none⟩ = some (.int .u8 a0_1) := (blk_cell BK251.out 1).trans rfl
         have hcz24_2 : wc.cell? ⟨gb251, 2, none⟩ = some (.int .u32 a0_2) := (blk_cell BK251.out 2).trans rfl
         have hcz24_3 : wc.cell? ⟨gb251, 3, none⟩ = some (.string a0_3) := (blk_cell BK251.out 3).trans rfl
         have hfz24_0 := blk_frozen BK251.out 0
         have hfz24_1 := blk_frozen BK251.out 1
         have hfz24_2 := blk_frozen BK251.out 2
         have hfz24_3 := blk_frozen BK251.out 3
         go_wp2_with (first | ((with_reducible refine gate_callee (f := 30) rfl ?_); refine goesL_ (some 22) rfl rfl Try.func30 (by kernel_rfl) rfl #[.agg #[.int .u8 a0_0, .int .u8 a0_1, .int .u32 a0_2, .string a0_3], .int .i64 8] rfl (by (try simp only [List.map_toArray, List.map_cons, List.map_nil]); first | done | rfl | (simp only [List.length_drop, List.length_take]; rfl)) ?_; (with_reducible refine (nuncioref14_flag.calls a0_0 a0_1 a0_2 a0_3 8 true _ A16.out).mono ?_); rintro e w25 ⟨rfl, hb⟩; refine ⟨_, rfl, ?_⟩; have n0_ := Aside0.mk (blk_below (g := gb251) (o := .cells #[.int .u8 a0_0, .int .u8 a0_1, .int .u32 a0_2, .string a0_3] 24 (0, 0)) (by (with_reducible repeat (first | refine blk_drewN ?_ _ | refine blk_drew ?_ | refine blk_alloc ?_ _)); exact BK251.out) hb); have n1_ := Aside0.mk (below_step (by repeat (first | (with_reducible first | exact HB.out | apply below_alloc | apply pw_below_drewN | apply below_drew1 | refine below_set ?_ GE251.out) | exact HB.out)) hb); clear BK251; clear HB; have BK251 := n0_; have HB := n1_; clear n0_ n1_; (try clear hb); (try clear hb2); (try clear hk); (try clear hi); have hcz26_0 : w25.cell? ⟨gb251, 0, none⟩ = some (.int .u8 a0_0) := (blk_cell BK251.out 0).trans rfl; have hcz26_1 : w25.cell? ⟨gb251, 1, none⟩ = some (.int .u8 a0_1) := (blk_cell BK251.out 1).trans rfl; have hcz26_2 : w25.cell? ⟨gb251, 2, none⟩ = some (.int .u32 a0_2) := (blk_cell BK251.out 2).trans rfl; have hcz26_3 : w25.cell? ⟨gb251, 3, none⟩ = some (.string a0_3) := (blk_cell BK251.out 3).trans rfl; have hfz26_0 := blk_frozen BK251.out 0; have hfz26_1 := blk_frozen BK251.out 1; have hfz26_2 := blk_frozen BK251.out 2; have hfz26_3 := blk_frozen BK251.out 3; have p19 : 0 ≤ (0 : Int) := (by omega); have q19 : 0 < a0_3.size := (by have : (0 : Int) < (a0_3.size : Int) := of_decide_eq_true (by first | (with_reducible assumption) | assumption); omega); have hx19 : ∀ h : 0 < a0_3.size, ((a0_3[0]'h).toNat : Int) = bt a0_3 0 := bt_at a0_3 0; clear p19; have qi19 : (0 < (a0_3.size : Int)) = True := eq_true (of_decide_eq_true (by first | (with_reducible assumption) | assumption)); replace q19 := eq_true q19))
         go_ret2
         exact ⟨by first | rfl | (simp [errW_none, errW_some] <;> rfl) | (simp [*, errW_none, errW_some] <;> rfl), by repeat (first | (with_reducible first | exact HB.out | apply below_alloc | apply pw_below_drewN | apply below_drew1 | refine below_set ?_ GE251.out) | exact HB.out)⟩
       ·
        rw [if_neg c18] at H
        exact absurd H (by simp)
      ·
       replace c17 := Bool.eq_false_iff.mpr c17
       subst c17
       have H1 : (some (0, 0)) = some (r1, r2) := by rw [if_neg (show ¬ (false = true) by decide)] at H; exact H
       clear H
       have H := H1
       clear H1
       simp only [Option.some.injEq, Prod.mk.injEq] at H
       obtain ⟨rfl, rfl⟩ := H
       have hcz27_0 : wc.cell? ⟨gb251, 0, none⟩ = some (.int .u8 a0_0) := (blk_cell BK251.out 0).trans rfl
       have hcz27_1 : wc.cell? ⟨gb251, 1, none⟩ = some (.int .u8 a0_1) := (blk_cell BK251.out 1).trans rfl
       have hcz27_2 : wc.cell? ⟨gb251, 2, none⟩ = some (.int .u32 a0_2) := (blk_cell BK251.out 2).trans rfl
       have hcz27_3 : wc.cell? ⟨gb251, 3, none⟩ = some (.string a0_3) := (blk_cell BK251.out 3).trans rfl
       have hfz27_0 := blk_frozen BK251.out 0
       have hfz27_1 := blk_frozen BK251.out 1
       have hfz27_2 := blk_frozen BK251.out 2
       have hfz27_3 := blk_frozen BK251.out 3
       go_wp2_with (first | ((with_reducible refine gate_callee (f := 30) rfl ?_); refine goesL_ (some 22) rfl rfl Try.func30 (by kernel_rfl) rfl #[.agg #[.int .u8 a0_0, .int .u8 a0_1, .int .u32 a0_2, .string a0_3], .int .i64 8] rfl (by (try simp only [List.map_toArray, List.map_cons, List.map_nil]); first | done | rfl | (simp only [List.length_drop, List.length_take]; rfl)) ?_; (with_reducible refine (nuncioref14_flag.calls a0_0 a0_1 a0_2 a0_3 8 false _ A16.out).mono ?_); rintro e w28 ⟨rfl, hb⟩; refine ⟨_, rfl, ?_⟩; have n0_ := Aside0.mk (blk_below (g := gb251) (o := .cells #[.int .u8 a0_0, .int .u8 a0_1, .int .u32 a0_2, .string a0_3] 24 (0, 0)) (by (with_reducible repeat (first | refine blk_drewN ?_ _ | refine blk_drew ?_ | refine blk_alloc ?_ _)); exact BK251.out) hb); have n1_ := Aside0.mk (below_step (by repeat (first | (with_reducible first | exact HB.out | apply below_alloc | apply pw_below_drewN | apply below_drew1 | refine below_set ?_ GE251.out) | exact HB.out)) hb); clear BK251; clear HB; have BK251 := n0_; have HB := n1_; clear n0_ n1_; (try clear hb); (try clear hb2); (try clear hk); (try clear hi)))
       go_ret2
       exact ⟨by first | rfl | (simp [errW_none, errW_some] <;> rfl) | (simp [*, errW_none, errW_some] <;> rfl), by repeat (first | (with_reducible first | exact HB.out | apply below_alloc | apply pw_below_drewN | apply below_drew1 | refine below_set ?_ GE251.out) | exact HB.out)⟩
 ·
  rw [if_neg c2] at H
  have c2b0 : (a0_0 == 0) = false := beq_eq_false_iff_ne.mpr c2
  have c2b1 : (a0_0 != 0) = true := bne_iff_ne.mpr c2
  by_cases c29 : a0_0 = 1
  ·
   rw [if_pos c29] at H
   have c29b0 : (a0_0 == 1) = true := beq_iff_eq.mpr c29
   have c29b1 : (a0_0 != 1) = false := bne_eq_false_iff_eq.mpr c29
   clear c29
   replace H := Option.bind_eq_some_iff.mp H
   obtain ⟨⟨t254, t255⟩, A300, H⟩ := H
   replace H : (some (t254, t255)) = some (r1, r2) := H
   have A30 := Aside0.mk A300
   clear A300
   simp only [Option.some.injEq, Prod.mk.injEq] at H
   obtain ⟨rfl, rfl⟩ := H
   go_enter Try.func14, Try.ntmps14
   go_wp2_with (first | ((with_reducible refine gate_dst (N := 1) rfl ?_); refine box_event ?hg (N := 1) ?hd (cs := #[.int .u8 a0_0, .int .u8 a0_1, .int .u32 a0_2, .string a0_3]) (t := 24) ?hr ?_; (case hd => rfl); (case hg => rfl); (case hr => first | (go_simp; done) | (go_simp; rfl)); intro gb251 hg w31 hbox hb; have n0_ := Aside0.mk (below_step (by repeat (first | (with_reducible first | exact HB.out | apply below_alloc | apply pw_below_drewN | apply below_drew1) | exact HB.out)) hb); have n1_ := Aside0.mk (hbox); have n2_ := Aside0.mk ((by rw [hg]; exact (below_size (by repeat (first | (with_reducible first | exact HB.out | apply below_alloc | apply pw_below_drewN | apply below_drew1) | exact HB.out))) : w.heap.size ≤ gb251)); have n3_ := Aside0.mk ((by rw [hg]; exact (below_size (by repeat (first | (with_reducible first | exact HB.out | apply below_alloc | apply pw_below_drewN | apply below_drew1) | exact HB.out))) : w.heap.size ≤ gb251)); clear HB; have HB := n0_; have BK251 := n1_; have GW251 := n2_; have GE251 := n3_; clear n0_ n1_ n2_ n3_; clear hb hbox hg; have hcz32_0 : w31.cell? ⟨gb251, 0, none⟩ = some (.int .u8 a0_0) := (blk_cell BK251.out 0).trans rfl; have hcz32_1 : w31.cell? ⟨gb251, 1, none⟩ = some (.int .u8 a0_1) := (blk_cell BK251.out 1).trans rfl; have hcz32_2 : w31.cell? ⟨gb251, 2, none⟩ = some (.int .u32 a0_2) := (blk_cell BK251.out 2).trans rfl; have hcz32_3 : w31.cell? ⟨gb251, 3, none⟩ = some (.string a0_3) := (blk_cell BK251.out 3).trans rfl; have hfz32_0 := blk_frozen BK251.out 0; have hfz32_1 := blk_frozen BK251.out 1; have hfz32_2 := blk_frozen BK251.out 2; have hfz32_3 := blk_frozen BK251.out 3) | ((with_reducible refine gate_callee (f := 31) rfl ?_); refine goesL_ (some 34) rfl rfl Try.func31 (by kernel_rfl) rfl #[.agg #[.int .u8 a0_0, .int .u8 a0_1, .int .u32 a0_2, .string a0_3]] rfl (by (try simp only [List.map_toArray, List.map_cons, List.map_nil]); first | done | rfl | (simp only [List.length_drop, List.length_take]; rfl)) ?_; (with_reducible refine (nuncioref14_headers.calls k a0_0 a0_1 a0_2 a0_3 t254 t255 _ A30.out).mono ?_); rintro e w33 ⟨rfl, hb⟩; refine ⟨_, rfl, ?_⟩; have n0_ := Aside0.mk (blk_below (g := gb251) (o := .cells #[.int .u8 a0_0, .int .u8 a0_1, .int .u32 a0_2, .string a0_3] 24 (0, 0)) (by (with_reducible repeat (first | refine blk_drewN ?_ _ | refine blk_drew ?_ | refine blk_alloc ?_ _)); exact BK251.out) hb); have n1_ := Aside0.mk (below_step (by repeat (first | (with_reducible first | exact HB.out | apply below_alloc | apply pw_below_drewN | apply below_drew1 | refine below_set ?_ GE251.out) | exact HB.out)) hb); clear BK251; clear HB; have BK251 := n0_; have HB := n1_; clear n0_ n1_; (try clear hb); (try clear hb2); (try clear hk); (try clear hi)))
   go_ret2
   exact ⟨by first | rfl | (simp [errW_none, errW_some] <;> rfl) | (simp [*, errW_none, errW_some] <;> rfl), by repeat (first | (with_reducible first | exact HB.out | apply below_alloc | apply pw_below_drewN | apply below_drew1 | refine below_set ?_ GE251.out) | exact HB.out)⟩
  ·
   rw [if_neg c29] at H
   have c29b0 : (a0_0 == 1) = false := beq_eq_false_iff_ne.mpr c29
   have c29b1 : (a0_0 != 1) = true := bne_iff_ne.mpr c29
   by_cases c34 : a0_0 = 2
   ·
    rw [if_pos c34] at H
    have c34b0 : (a0_0 == 2) = true := beq_iff_eq.mpr c34
    have c34b1 : (a0_0 != 2) = false := bne_eq_false_iff_eq.mpr c34
    clear c34
    by_cases c35 : a0_2 = 0
    ·
     rw [if_pos c35] at H
     have c35b0 : (a0_2 == 0) = true := beq_iff_eq.mpr c35
     have c35b1 : (a0_2 != 0) = false := bne_eq_false_iff_eq.mpr c35
     clear c35
     simp only [Option.some.injEq, Prod.mk.injEq] at H
     obtain ⟨rfl, rfl⟩ := H
     go_enter Try.func14, Try.ntmps14
     go_wp2_with (first | ((with_reducible refine gate_dst (N := 1) rfl ?_); refine box_event ?hg (N := 1) ?hd (cs := #[.int .u8 a0_0, .int .u8 a0_1, .int .u32 a0_2, .string a0_3]) (t := 24) ?hr ?_; (case hd => rfl); (case hg => rfl); (case hr => first | (go_simp; done) | (go_simp; rfl)); intro gb251 hg w36 hbox hb; have n0_ := Aside0.mk (below_step (by repeat (first | (with_reducible first | exact HB.out | apply below_alloc | apply pw_below_drewN | apply below_drew1) | exact HB.out)) hb); have n1_ := Aside0.mk (hbox); have n2_ := Aside0.mk ((by rw [hg]; exact (below_size (by repeat (first | (with_reducible first | exact HB.out | apply below_alloc | apply pw_below_drewN | apply below_drew1) | exact HB.out))) : w.heap.size ≤ gb251)); have n3_ := Aside0.mk ((by rw [hg]; exact (below_size (by repeat (first | (with_reducible first | exact HB.out | apply below_alloc | apply pw_below_drewN | apply below_drew1) | exact HB.out))) : w.heap.size ≤ gb251)); clear HB; have HB := n0_; have BK251 := n1_; have GW251 := n2_; have GE251 := n3_; clear n0_ n1_ n2_ n3_; clear hb hbox hg; have hcz37_0 : w36.cell? ⟨gb251, 0, none⟩ = some (.int .u8 a0_0) := (blk_cell BK251.out 0).trans rfl; have hcz37_1 : w36.cell? ⟨gb251, 1, none⟩ = some (.int .u8 a0_1) := (blk_cell BK251.out 1).trans rfl; have hcz37_2 : w36.cell? ⟨gb251, 2, none⟩ = some (.int .u32 a0_2) := (blk_cell BK251.out 2).trans rfl; have hcz37_3 : w36.cell? ⟨gb251, 3, none⟩ = some (.string a0_3) := (blk_cell BK251.out 3).trans rfl; have hfz37_0 := blk_frozen BK251.out 0; have hfz37_1 := blk_frozen BK251.out 1; have hfz37_2 := blk_frozen BK251.out 2; have hfz37_3 := blk_frozen BK251.out 3))
     go_ret2
     exact ⟨by first | rfl | (simp [errW_none, errW_some] <;> rfl) | (simp [*, errW_none, errW_some] <;> rfl), by repeat (first | (with_reducible first | exact HB.out | apply below_alloc | apply pw_below_drewN | apply below_drew1 | refine below_set ?_ GE251.out) | exact HB.out)⟩
    ·
     rw [if_neg c35] at H
     have c35b0 : (a0_2 == 0) = false := beq_eq_false_iff_ne.mpr c35
     have c35b1 : (a0_2 != 0) = true := bne_iff_ne.mpr c35
     by_cases c38 : (a0_3.size : Int) = 5
     ·
      rw [if_pos c38] at H
      have c38b0 : ((a0_3.size : Int) == 5) = true := beq_iff_eq.mpr c38
      have c38b1 : ((a0_3.size : Int) != 5) = false := bne_eq_false_iff_eq.mpr c38
      clear c38
      replace H := Option.bind_eq_some_iff.mp H
      obtain ⟨t256, A390, H⟩ := H
      replace H : (if t256 = true then (some (1, 1)) else (some (0, 0))) = some (r1, r2) := H
      have A39 := Aside0.mk A390
      clear A390
      by_cases c40 : t256 = true
      ·
       subst c40
       have H1 : (some (1, 1)) = some (r1, r2) := by rw [if_pos rfl] at H; exact H
       clear H
       have H := H1
       clear H1
       simp only [Option.some.injEq, Prod.mk.injEq] at H
       obtain ⟨rfl, rfl⟩ := H
       go_enter Try.func14, Try.ntmps14
       go_wp2_with (first | ((with_reducible refine gate_dst (N := 1) rfl ?_); refine box_event ?hg (N := 1) ?hd (cs := #[.int .u8 a0_0, .int .u8 a0_1, .int .u32 a0_2, .string a0_3]) (t := 24) ?hr ?_; (case hd => rfl); (case hg => rfl); (case hr => first | (go_simp; done) | (go_simp; rfl)); intro gb251 hg w41 hbox hb; have n0_ := Aside0.mk (below_step (by repeat (first | (with_reducible first | exact HB.out | apply below_alloc | apply pw_below_drewN | apply below_drew1) | exact HB.out)) hb); have n1_ := Aside0.mk (hbox); have n2_ := Aside0.mk ((by rw [hg]; exact (below_size (by repeat (first | (with_reducible first | exact HB.out | apply below_alloc | apply pw_below_drewN | apply below_drew1) | exact HB.out))) : w.heap.size ≤ gb251)); have n3_ := Aside0.mk ((by rw [hg]; exact (below_size (by repeat (first | (with_reducible first | exact HB.out | apply below_alloc | apply pw_below_drewN | apply below_drew1) | exact HB.out))) : w.heap.size ≤ gb251)); clear HB; have HB := n0_; have BK251 := n1_; have GW251 := n2_; have GE251 := n3_; clear n0_ n1_ n2_ n3_; clear hb hbox hg; have hcz42_0 : w41.cell? ⟨gb251, 0, none⟩ = some (.int .u8 a0_0) := (blk_cell BK251.out 0).trans rfl; have hcz42_1 : w41.cell? ⟨gb251, 1, none⟩ = some (.int .u8 a0_1) := (blk_cell BK251.out 1).trans rfl; have hcz42_2 : w41.cell? ⟨gb251, 2, none⟩ = some (.int .u32 a0_2) := (blk_cell BK251.out 2).trans rfl; have hcz42_3 : w41.cell? ⟨gb251, 3, none⟩ = some (.string a0_3) := (blk_cell BK251.out 3).trans rfl; have hfz42_0 := blk_frozen BK251.out 0; have hfz42_1 := blk_frozen BK251.out 1; have hfz42_2 := blk_frozen BK251.out 2; have hfz42_3 := blk_frozen BK251.out 3) | ((with_reducible refine gate_callee (f := 32) rfl ?_); refine goesL_ (some 45) rfl rfl Try.func32 (by kernel_rfl) rfl #[.agg #[.int .u8 a0_0, .int .u8 a0_1, .int .u32 a0_2, .string a0_3], .int .i64 0] rfl (by (try simp only [List.map_toArray, List.map_cons, List.map_nil]); first | done | rfl | (simp only [List.length_drop, List.length_take]; rfl)) ?_; (with_reducible refine (nuncioref14_self.calls k a0_0 a0_1 a0_2 a0_3 0 true _ A39.out).mono ?_); rintro e w43 ⟨rfl, hb⟩; refine ⟨_, rfl, ?_⟩; have n0_ := Aside0.mk (blk_below (g := gb251) (o := .cells #[.int .u8 a0_0, .int .u8 a0_1, .int .u32 a0_2, .string a0_3] 24 (0, 0)) (by (with_reducible repeat (first | refine blk_drewN ?_ _ | refine blk_drew ?_ | refine blk_alloc ?_ _)); exact BK251.out) hb); have n1_ := Aside0.mk (below_step (by repeat (first | (with_reducible first | exact HB.out | apply below_alloc | apply pw_below_drewN | apply below_drew1 | refine below_set ?_ GE251.out) | exact HB.out)) hb); clear BK251; clear HB; have BK251 := n0_; have HB := n1_; clear n0_ n1_; (try clear hb); (try clear hb2); (try clear hk); (try clear hi)))
       go_ret2
       exact ⟨by first | rfl | (simp [errW_none, errW_some] <;> rfl) | (simp [*, errW_none, errW_some] <;> rfl), by repeat (first | (with_reducible first | exact HB.out | apply below_alloc | apply pw_below_drewN | apply below_drew1 | refine below_set ?_ GE251.out) | exact HB.out)⟩
      ·
       replace c40 := Bool.eq_false_iff.mpr c40
       subst c40
       have H1 : (some (0, 0)) = some (r1, r2) := by rw [if_neg (show ¬ (false = true) by decide)] at H; exact H
       clear H
       have H := H1
       clear H1
       simp only [Option.some.injEq, Prod.mk.injEq] at H
       obtain ⟨rfl, rfl⟩ := H
       go_enter Try.func14, Try.ntmps14
       go_wp2_with (first | ((with_reducible refine gate_dst (N := 1) rfl ?_); refine box_event ?hg (N := 1) ?hd (cs := #[.int .u8 a0_0, .int .u8 a0_1, .int .u32 a0_2, .string a0_3]) (t := 24) ?hr ?_; (case hd => rfl); (case hg => rfl); (case hr => first | (go_simp; done) | (go_simp; rfl)); intro gb251 hg w44 hbox hb; have n0_ := Aside0.mk (below_step (by repeat (first | (with_reducible first | exact HB.out | apply below_alloc | apply pw_below_drewN | apply below_drew1) | exact HB.out)) hb); have n1_ := Aside0.mk (hbox); have n2_ := Aside0.mk ((by rw [hg]; exact (below_size (by repeat (first | (with_reducible first | exact HB.out | apply below_alloc | apply pw_below_drewN | apply below_drew1) | exact HB.out))) : w.heap.size ≤ gb251)); have n3_ := Aside0.mk ((by rw [hg]; exact (below_size (by repeat (first | (with_reducible first | exact HB.out | apply below_alloc | apply pw_below_drewN | apply below_drew1) | exact HB.out))) : w.heap.size ≤ gb251)); clear HB; have HB := n0_; have BK251 := n1_; have GW251 := n2_; have GE251 := n3_; clear n0_ n1_ n2_ n3_; clear hb hbox hg; have hcz45_0 : w44.cell? ⟨gb251, 0, none⟩ = some (.int .u8 a0_0) := (blk_cell BK251.out 0).trans rfl; have hcz45_1 : w44.cell? ⟨gb251, 1, none⟩ = some (.int .u8 a0_1) := (blk_cell BK251.out 1).trans rfl; have hcz45_2 : w44.cell? ⟨gb251, 2, none⟩ = some (.int .u32 a0_2) := (blk_cell BK251.out 2).trans rfl; have hcz45_3 : w44.cell? ⟨gb251, 3, none⟩ = some (.string a0_3) := (blk_cell BK251.out 3).trans rfl; have hfz45_0 := blk_frozen BK251.out 0; have hfz45_1 := blk_frozen BK251.out 1; have hfz45_2 := blk_frozen BK251.out 2; have hfz45_3 := blk_frozen BK251.out 3) | ((with_reducible refine gate_callee (f := 32) rfl ?_); refine goesL_ (some 45) rfl rfl Try.func32 (by kernel_rfl) rfl #[.agg #[.int .u8 a0_0, .int .u8 a0_1, .int .u32 a0_2, .string a0_3], .int .i64 0] rfl (by (try simp only [List.map_toArray, List.map_cons, List.map_nil]); first | done | rfl | (simp only [List.length_drop, List.length_take]; rfl)) ?_; (with_reducible refine (nuncioref14_self.calls k a0_0 a0_1 a0_2 a0_3 0 false _ A39.out).mono ?_); rintro e w46 ⟨rfl, hb⟩; refine ⟨_, rfl, ?_⟩; have n0_ := Aside0.mk (blk_below (g := gb251) (o := .cells #[.int .u8 a0_0, .int .u8 a0_1, .int .u32 a0_2, .string a0_3] 24 (0, 0)) (by (with_reducible repeat (first | refine blk_drewN ?_ _ | refine blk_drew ?_ | refine blk_alloc ?_ _)); exact BK251.out) hb); have n1_ := Aside0.mk (below_step (by repeat (first | (with_reducible first | exact HB.out | apply below_alloc | apply pw_below_drewN | apply below_drew1 | refine below_set ?_ GE251.out) | exact HB.out)) hb); clear BK251; clear HB; have BK251 := n0_; have HB := n1_; clear n0_ n1_; (try clear hb); (try clear hb2); (try clear hk); (try clear hi)))
       go_ret2
       exact ⟨by first | rfl | (simp [errW_none, errW_some] <;> rfl) | (simp [*, errW_none, errW_some] <;> rfl), by repeat (first | (with_reducible first | exact HB.out | apply below_alloc | apply pw_below_drewN | apply below_drew1 | refine below_set ?_ GE251.out) | exact HB.out)⟩
     ·
      rw [if_neg c38] at H
      have c38b0 : ((a0_3.size : Int) == 5) = false := beq_eq_false_iff_ne.mpr c38
      have c38b1 : ((a0_3.size : Int) != 5) = true := bne_iff_ne.mpr c38
      simp only [Option.some.injEq, Prod.mk.injEq] at H
      obtain ⟨rfl, rfl⟩ := H
      go_enter Try.func14, Try.ntmps14
      go_wp2_with (first | ((with_reducible refine gate_dst (N := 1) rfl ?_); refine box_event ?hg (N := 1) ?hd (cs := #[.int .u8 a0_0, .int .u8 a0_1, .int .u32 a0_2, .string a0_3]) (t := 24) ?hr ?_; (case hd => rfl); (case hg => rfl); (case hr => first | (go_simp; done) | (go_simp; rfl)); intro gb251 hg w47 hbox hb; have n0_ := Aside0.mk (below_step (by repeat (first | (with_reducible first | exact HB.out | apply below_alloc | apply pw_below_drewN | apply below_drew1) | exact HB.out)) hb); have n1_ := Aside0.mk (hbox); have n2_ := Aside0.mk ((by rw [hg]; exact (below_size (by repeat (first | (with_reducible first | exact HB.out | apply below_alloc | apply pw_below_drewN | apply below_drew1) | exact HB.out))) : w.heap.size ≤ gb251)); have n3_ := Aside0.mk ((by rw [hg]; exact (below_size (by repeat (first | (with_reducible first | exact HB.out | apply below_alloc | apply pw_below_drewN | apply below_drew1) | exact HB.out))) : w.heap.size ≤ gb251)); clear HB; have HB := n0_; have BK251 := n1_; have GW251 := n2_; have GE251 := n3_; clear n0_ n1_ n2_ n3_; clear hb hbox hg; have hcz48_0 : w47.cell? ⟨gb251, 0, none⟩ = some (.int .u8 a0_0) := (blk_cell BK251.out 0).trans rfl; have hcz48_1 : w47.cell? ⟨gb251, 1, none⟩ = some (.int .u8 a0_1) := (blk_cell BK251.out 1).trans rfl; have hcz48_2 : w47.cell? ⟨gb251, 2, none⟩ = some (.int .u32 a0_2) := (blk_cell BK251.out 2).trans rfl; have hcz48_3 : w47.cell? ⟨gb251, 3, none⟩ = some (.string a0_3) := (blk_cell BK251.out 3).trans rfl; have hfz48_0 := blk_frozen BK251.out 0; have hfz48_1 := blk_frozen BK251.out 1; have hfz48_2 := blk_frozen BK251.out 2; have hfz48_3 := blk_frozen BK251.out 3))
      go_ret2
      exact ⟨by first | rfl | (simp [errW_none, errW_some] <;> rfl) | (simp [*, errW_none, errW_some] <;> rfl), by repeat (first | (with_reducible first | exact HB.out | apply below_alloc | apply pw_below_drewN | apply below_drew1 | refine below_set ?_ GE251.out) | exact HB.out)⟩
   ·
    rw [if_neg c34] at H
    have c34b0 : (a0_0 == 2) = false := beq_eq_false_iff_ne.mpr c34
    have c34b1 : (a0_0 != 2) = true := bne_iff_ne.mpr c34
    by_cases c49 : a0_0 = 3
    ·
     rw [if_pos c49] at H
     have c49b0 : (a0_0 == 3) = true := beq_iff_eq.mpr c49
     have c49b1 : (a0_0 != 3) = false := bne_eq_false_iff_eq.mpr c49
     clear c49
     by_cases c50 : a0_2 = 0
     ·
      rw [if_pos c50] at H
      have c50b0 : (a0_2 == 0) = true := beq_iff_eq.mpr c50
      have c50b1 : (a0_2 != 0) = false := bne_eq_false_iff_eq.mpr c50
      clear c50
      simp only [Option.some.injEq, Prod.mk.injEq] at H
      obtain ⟨rfl, rfl⟩ := H
      go_enter Try.func14, Try.ntmps14
      go_wp2_with (first | ((with_reducible refine gate_dst (N := 1) rfl ?_); refine box_event ?hg (N := 1) ?hd (cs := #[.int .u8 a0_0, .int .u8 a0_1, .int .u32 a0_2, .string a0_3]) (t := 24) ?hr ?_; (case hd => rfl); (case hg => rfl); (case hr => first | (go_simp; done) | (go_simp; rfl)); intro gb251 hg w51 hbox hb; have n0_ := Aside0.mk (below_step (by repeat (first | (with_reducible first | exact HB.out | apply below_alloc | apply pw_below_drewN | apply below_drew1) | exact HB.out)) hb); have n1_ := Aside0.mk (hbox); have n2_ := Aside0.mk ((by rw [hg]; exact (below_size (by repeat (first | (with_reducible first | exact HB.out | apply below_alloc | apply pw_below_drewN | apply below_drew1) | exact HB.out))) : w.heap.size ≤ gb251)); have n3_ := Aside0.mk ((by rw [hg]; exact (below_size (by repeat (first | (with_reducible first | exact HB.out | apply below_alloc | apply pw_below_drewN | apply below_drew1) | exact HB.out))) : w.heap.size ≤ gb251)); clear HB; have HB := n0_; have BK251 := n1_; have GW251 := n2_; have GE251 := n3_; clear n0_ n1_ n2_ n3_; clear hb hbox hg; have hcz52_0 : w51.cell? ⟨gb251, 0, none⟩ = some (.int .u8 a0_0) := (blk_cell BK251.out 0).trans rfl; have hcz52_1 : w51.cell? ⟨gb251, 1, none⟩ = some (.int .u8 a0_1) := (blk_cell BK251.out 1).trans rfl; have hcz52_2 : w51.cell? ⟨gb251, 2, none⟩ = some (.int .u32 a0_2) := (blk_cell BK251.out 2).trans rfl; have hcz52_3 : w51.cell? ⟨gb251, 3, none⟩ = some (.string a0_3) := (blk_cell BK251.out 3).trans rfl; have hfz52_0 := blk_frozen BK251.out 0; have hfz52_1 := blk_frozen BK251.out 1; have hfz52_2 := blk_frozen BK251.out 2; have hfz52_3 := blk_frozen BK251.out 3))
      go_ret2
      exact ⟨by first | rfl | (simp [errW_none, errW_some] <;> rfl) | (simp [*, errW_none, errW_some] <;> rfl), by repeat (first | (with_reducible first | exact HB.out | apply below_alloc | apply pw_below_drewN | apply below_drew1 | refine below_set ?_ GE251.out) | exact HB.out)⟩
     ·
      rw [if_neg c50] at H
      have c50b0 : (a0_2 == 0) = false := beq_eq_false_iff_ne.mpr c50
      have c50b1 : (a0_2 != 0) = true := bne_iff_ne.mpr c50
      by_cases c53 : (a0_3.size : Int) = 4
      ·
       rw [if_pos c53] at H
       have c53b0 : ((a0_3.size : Int) == 4) = true := beq_iff_eq.mpr c53
       have c53b1 : ((a0_3.size : Int) != 4) = false := bne_eq_false_iff_eq.mpr c53
       clear c53
       simp only [Option.some.injEq, Prod.mk.injEq] at H
       obtain ⟨rfl, rfl⟩ := H
       go_enter Try.func14, Try.ntmps14
       go_wp2_with (first | ((with_reducible refine gate_dst (N := 1) rfl ?_); refine box_event ?hg (N := 1) ?hd (cs := #[.int .u8 a0_0, .int .u8 a0_1, .int .u32 a0_2, .string a0_3]) (t := 24) ?hr ?_; (case hd => rfl); (case hg => rfl); (case hr => first | (go_simp; done) | (go_simp; rfl)); intro gb251 hg w54 hbox hb; have n0_ := Aside0.mk (below_step (by repeat (first | (with_reducible first | exact HB.out | apply below_alloc | apply pw_below_drewN | apply below_drew1) | exact HB.out)) hb); have n1_ := Aside0.mk (hbox); have n2_ := Aside0.mk ((by rw [hg]; exact (below_size (by repeat (first | (with_reducible first | exact HB.out | apply below_alloc | apply pw_below_drewN | apply below_drew1) | exact HB.out))) : w.heap.size ≤ gb251)); have n3_ := Aside0.mk ((by rw [hg]; exact (below_size (by repeat (first | (with_reducible first | exact HB.out | apply below_alloc | apply pw_below_drewN | apply below_drew1) | exact HB.out))) : w.heap.size ≤ gb251)); clear HB; have HB := n0_; have BK251 := n1_; have GW251 := n2_; have GE251 := n3_; clear n0_ n1_ n2_ n3_; clear hb hbox hg; have hcz55_0 : w54.cell? ⟨gb251, 0, none⟩ = some (.int .u8 a0_0) := (blk_cell BK251.out 0).trans rfl; have hcz55_1 : w54.cell? ⟨gb251, 1, none⟩ = some (.int .u8 a0_1) := (blk_cell BK251.out 1).trans rfl; have hcz55_2 : w54.cell? ⟨gb251, 2, none⟩ = some (.int .u32 a0_2) := (blk_cell BK251.out 2).trans rfl; have hcz55_3 : w54.cell? ⟨gb251, 3, none⟩ = some (.string a0_3) := (blk_cell BK251.out 3).trans rfl; have hfz55_0 := blk_frozen BK251.out 0; have hfz55_1 := blk_frozen BK251.out 1; have hfz55_2 := blk_frozen BK251.out 2; have hfz55_3 := blk_frozen BK251.out 3))
       go_ret2
       exact ⟨by first | rfl | (simp [errW_none, errW_some] <;> rfl) | (simp [*, errW_none, errW_some] <;> rfl), by repeat (first | (with_reducible first | exact HB.out | apply below_alloc | apply pw_below_drewN | apply below_drew1 | refine below_set ?_ GE251.out) | exact HB.out)⟩
      ·
       rw [if_neg c53] at H
       have c53b0 : ((a0_3.size : Int) == 4) = false := beq_eq_false_iff_ne.mpr c53
       have c53b1 : ((a0_3.size : Int) != 4) = true := bne_iff_ne.mpr c53
       simp only [Option.some.injEq, Prod.mk.injEq] at H
       obtain ⟨rfl, rfl⟩ := H
       go_enter Try.func14, Try.ntmps14
       go_wp2_with (first | ((with_reducible refine gate_dst (N := 1) rfl ?_); refine box_event ?hg (N := 1) ?hd (cs := #[.int .u8 a0_0, .int .u8 a0_1, .int .u32 a0_2, .string a0_3]) (t := 24) ?hr ?_; (case hd => rfl); (case hg => rfl); (case hr => first | (go_simp; done) | (go_simp; rfl)); intro gb251 hg w56 hbox hb; have n0_ := Aside0.mk (below_step (by repeat (first | (with_reducible first | exact HB.out | apply below_alloc | apply pw_below_drewN | apply below_drew1) | exact HB.out)) hb); have n1_ := Aside0.mk (hbox); have n2_ := Aside0.mk ((by rw [hg]; exact (below_size (by repeat (first | (with_reducible first | exact HB.out | apply below_alloc | apply pw_below_drewN | apply below_drew1) | exact HB.out))) : w.heap.size ≤ gb251)); have n3_ := Aside0.mk ((by rw [hg]; exact (below_size (by repeat (first | (with_reducible first | exact HB.out | apply below_alloc | apply pw_below_drewN | apply below_drew1) | exact HB.out))) : w.heap.size ≤ gb251)); clear HB; have HB := n0_; have BK251 := n1_; have GW251 := n2_; have GE251 := n3_; clear n0_ n1_ n2_ n3_; clear hb hbox hg; have hcz57_0 : w56.cell? ⟨gb251, 0, none⟩ = some (.int .u8 a0_0) := (blk_cell BK251.out 0).trans rfl; have hcz57_1 : w56.cell? ⟨gb251, 1, none⟩ = some (.int .u8 a0_1) := (blk_cell BK251.out 1).trans rfl; have hcz57_2 : w56.cell? ⟨gb251, 2, none⟩ = some (.int .u32 a0_2) := (blk_cell BK251.out 2).trans rfl; have hcz57_3 : w56.cell? ⟨gb251, 3, none⟩ = some (.string a0_3) := (blk_cell BK251.out 3).trans rfl; have hfz57_0 := blk_frozen BK251.out 0; have hfz57_1 := blk_frozen BK251.out 1; have hfz57_2 := blk_frozen BK251.out 2; have hfz57_3 := blk_frozen BK251.out 3))
       go_ret2
       exact ⟨by first | rfl | (simp [errW_none, errW_some] <;> rfl) | (simp [*, errW_none, errW_some] <;> rfl), by repeat (first | (with_reducible first | exact HB.out | apply below_alloc | apply pw_below_drewN | apply below_drew1 | refine below_set ?_ GE251.out) | exact HB.out)⟩
    ·
     rw [if_neg c49] at H
     have c49b0 : (a0_0 == 3) = false := beq_eq_false_iff_ne.mpr c49
     have c49b1 : (a0_0 != 3) = true := bne_iff_ne.mpr c49
     by_cases c58 : a0_0 = 4
     ·
      rw [if_pos c58] at H
      have c58b0 : (a0_0 == 4) = true := beq_iff_eq.mpr c58
      have c58b1 : (a0_0 != 4) = false := bne_eq_false_iff_eq.mpr c58
      clear c58
      by_cases c59 : a0_2 = 0
      ·
       rw [if_pos c59] at H
       have c59b0 : (a0_2 == 0) = true := beq_iff_eq.mpr c59
       have c59b1 : (a0_2 != 0) = false := bne_eq_false_iff_eq.mpr c59
       clear c59
       replace H := Option.bind_eq_some_iff.mp H
       obtain ⟨t257, A600, H⟩ := H
       replace H : (if t257 = true then (if (a0_3.size : Int) = 0 then (if ((a0_3.size : Int) % 6) = 0 then (some (0, 0)) else (some (2, 6))) else (some (2, 6))) else (if ((a0_3.size : Int) % 6) = 0 then (some (0, 0)) else (some (2, 6)))) = some (r1, r2) := H
       have A60 := Aside0.mk A600
       clear A600
       by_cases c61 : t257 = true
       ·
        subst c61
        have H1 : (if (a0_3.size : Int) = 0 then (if ((a0_3.size : Int) % 6) = 0 then (some (0, 0)) else (some (2, 6))) else (some (2, 6))) = some (r1, r2) := by rw [if_pos rfl] at H; exact H
        clear H
        have H := H1
        clear H1
        by_cases c62 : (a0_3.size : Int) = 0
        ·
         rw [if_pos c62] at H
         have c62b0 : ((a0_3.size : Int) == 0) = true := beq_iff_eq.mpr c62
         have c62b1 : ((a0_3.size : Int) != 0) = false := bne_eq_false_iff_eq.mpr c62
         clear c62
         by_cases c63 : ((a0_3.size : Int) % 6) = 0
         ·
          rw [if_pos c63] at H
          have c63b0 : (((a0_3.size : Int) % 6) == 0) = true := beq_iff_eq.mpr c63
          have c63b1 : (((a0_3.size : Int) % 6) != 0) = false := bne_eq_false_iff_eq.mpr c63
          clear c63
          simp only [Option.some.injEq, Prod.mk.injEq] at H
          obtain ⟨rfl, rfl⟩ := H
          go_enter Try.func14, Try.ntmps14
          go_wp2_with (first | ((with_reducible refine gate_dst (N := 1) rfl ?_); refine box_event ?hg (N := 1) ?hd (cs := #[.int .u8 a0_0, .int .u8 a0_1, .int .u32 a0_2, .string a0_3]) (t := 24) ?hr ?_; (case hd => rfl); (case hg => rfl); (case hr => first | (go_simp; done) | (go_simp; rfl)); intro gb251 hg w64 hbox hb; have n0_ := Aside0.mk (below_step (by repeat (first | (with_reducible first | exact HB.out | apply below_alloc | apply pw_below_drewN | apply below_drew1) | exact HB.out)) hb); have n1_ := Aside0.mk (hbox); have n2_ := Aside0.mk ((by rw [hg]; exact (below_size (by repeat (first | (with_reducible first | exact HB.out | apply below_alloc | apply pw_below_drewN | apply below_drew1) | exact HB.out))) : w.heap.size ≤ gb251)); have n3_ := Aside0.mk ((by rw [hg]; exact (below_size (by repeat (first | (with_reducible first | exact HB.out | apply below_alloc | apply pw_below_drewN | apply below_drew1) | exact HB.out))) : w.heap.size ≤ gb251)); clear HB; have HB := n0_; have BK251 := n1_; have GW251 := n2_; have GE251 := n3_; clear n0_ n1_ n2_ n3_; clear hb hbox hg; have hcz65_0 : w64.cell? ⟨gb251, 0, none⟩ = some (.int .u8 a0_0) := (blk_cell BK251.out 0).trans rfl; have hcz65_1 : w64.cell? ⟨gb251, 1, none⟩ = some (.int .u8 a0_1) := (blk_cell BK251.out 1).trans rfl; have hcz65_2 : w64.cell? ⟨gb251, 2, none⟩ = some (.int .u32 a0_2) := (blk_cell BK251.out 2).trans rfl; have hcz65_3 : w64.cell? ⟨gb251, 3, none⟩ = some (.string a0_3) := (blk_cell BK251.out 3).trans rfl; have hfz65_0 := blk_frozen BK251.out 0; have hfz65_1 := blk_frozen BK251.out 1; have hfz65_2 := blk_frozen BK251.out 2; have hfz65_3 := blk_frozen BK251.out 3) | ((with_reducible refine gate_callee (f := 30) rfl ?_); refine goesL_ (some 59) rfl rfl Try.func30 (by kernel_rfl) rfl #[.agg #[.int .u8 a0_0, .int .u8 a0_1, .int .u32 a0_2, .string a0_3], .int .i64 1] rfl (by (try simp only [List.map_toArray, List.map_cons, List.map_nil]); first | done | rfl | (simp only [List.length_drop, List.length_take]; rfl)) ?_; (with_reducible refine (nuncioref14_flag.calls a0_0 a0_1 a0_2 a0_3 1 true _ A60.out).mono ?_); rintro e w66 ⟨rfl, hb⟩; refine ⟨_, rfl, ?_⟩; have n0_ := Aside0.mk (blk_below (g := gb251) (o := .cells #[.int .u8 a0_0, .int .u8 a0_1, .int .u32 a0_2, .string a0_3] 24 (0, 0)) (by (with_reducible repeat (first | refine blk_drewN ?_ _ | refine blk_drew ?_ | refine blk_alloc ?_ _)); exact BK251.out) hb); have n1_ := Aside0.mk (below_step (by repeat (first | (with_reducible first | exact HB.out | apply below_alloc | apply pw_below_drewN | apply below_drew1 | refine below_set ?_ GE251.out) | exact HB.out)) hb); clear BK251; clear HB; have BK251 := n0_; have HB := n1_; clear n0_ n1_; (try clear hb); (try clear hb2); (try clear hk); (try clear hi)))
          go_ret2
          exact ⟨by first | rfl | (simp [errW_none, errW_some] <;> rfl) | (simp [*, errW_none, errW_some] <;> rfl), by repeat (first | (with_reducible first | exact HB.out | apply below_alloc | apply pw_below_drewN | apply below_drew1 | refine below_set ?_ GE251.out) | exact HB.out)⟩
         ·
          rw [if_neg c63] at H
          have c63b0 : (((a0_3.size : Int) % 6) == 0) = false := beq_eq_false_iff_ne.mpr c63
          have c63b1 : (((a0_3.size : Int) % 6) != 0) = true := bne_iff_ne.mpr c63
          simp only [Option.some.injEq, Prod.mk.injEq] at H
          obtain ⟨rfl, rfl⟩ := H
          go_enter Try.func14, Try.ntmps14
          go_wp2_with (first | ((with_reducible refine gate_dst (N := 1) rfl ?_); refine box_event ?hg (N := 1) ?hd (cs := #[.int .u8 a0_0, .int .u8 a0_1, .int .u32 a0_2, .string a0_3]) (t := 24) ?hr ?_; (case hd => rfl); (case hg => rfl); (case hr => first | (go_simp; done) | (go_simp; rfl)); intro gb251 hg w67 hbox hb; have n0_ := Aside0.mk (below_step (by repeat (first | (with_reducible first | exact HB.out | apply below_alloc | apply pw_below_drewN | apply below_drew1) | exact HB.out)) hb); have n1_ := Aside0.mk (hbox); have n2_ := Aside0.mk ((by rw [hg]; exact (below_size (by repeat (first | (with_reducible first | exact HB.out | apply below_alloc | apply pw_below_drewN | apply below_drew1) | exact HB.out))) : w.heap.size ≤ gb251)); have n3_ := Aside0.mk ((by rw [hg]; exact (below_size (by repeat (first | (with_reducible first | exact HB.out | apply below_alloc | apply pw_below_drewN | apply below_drew1) | exact HB.out))) : w.heap.size ≤ gb251)); clear HB; have HB := n0_; have BK251 := n1_; have GW251 := n2_; have GE251 := n3_; clear n0_ n1_ n2_ n3_; clear hb hbox hg; have hcz68_0 : w67.cell? ⟨gb251, 0, none⟩ = some (.int .u8 a0_0) := (blk_cell BK251.out 0).trans rfl; have hcz68_1 : w67.cell? ⟨gb251, 1, none⟩ = some (.int .u8 a0_1) := (blk_cell BK251.out 1).trans rfl; have hcz68_2 : w67.cell? ⟨gb251, 2, none⟩ = some (.int .u32 a0_2) := (blk_cell BK251.out 2).trans rfl; have hcz68_3 : w67.cell? ⟨gb251, 3, none⟩ = some (.string a0_3) := (blk_cell BK251.out 3).trans rfl; have hfz68_0 := blk_frozen BK251.out 0; have hfz68_1 := blk_frozen BK251.out 1; have hfz68_2 := blk_frozen BK251.out 2; have hfz68_3 := blk_frozen BK251.out 3) | ((with_reducible refine gate_callee (f := 30) rfl ?_); refine goesL_ (some 59) rfl rfl Try.func30 (by kernel_rfl) rfl #[.agg #[.int .u8 a0_0, .int .u8 a0_1, .int .u32 a0_2, .string a0_3], .int .i64 1] rfl (by (try simp only [List.map_toArray, List.map_cons, List.map_nil]); first | done | rfl | (simp only [List.length_drop, List.length_take]; rfl)) ?_; (with_reducible refine (nuncioref14_flag.calls a0_0 a0_1 a0_2 a0_3 1 true _ A60.out).mono ?_); rintro e w69 ⟨rfl, hb⟩; refine ⟨_, rfl, ?_⟩; have n0_ := Aside0.mk (blk_below (g := gb251) (o := .cells #[.int .u8 a0_0, .int .u8 a0_1, .int .u32 a0_2, .string a0_3] 24 (0, 0)) (by (with_reducible repeat (first | refine blk_drewN ?_ _ | refine blk_drew ?_ | refine blk_alloc ?_ _)); exact BK251.out) hb); have n1_ := Aside0.mk (below_step (by repeat (first | (with_reducible first | exact HB.out | apply below_alloc | apply pw_below_drewN | apply below_drew1 | refine below_set ?_ GE251.out) | exact HB.out)) hb); clear BK251; clear HB; have BK251 := n0_; have HB := n1_; clear n0_ n1_; (try clear hb); (try clear hb2); (try clear hk); (try clear hi)))
          go_ret2
          exact ⟨by first | rfl | (simp [errW_none, errW_some] <;> rfl) | (simp [*, errW_none, errW_some] <;> rfl), by repeat (first | (with_reducible first | exact HB.out | apply below_alloc | apply pw_below_drewN | apply below_drew1 | refine below_set ?_ GE251.out) | exact HB.out)⟩
        ·
         rw [if_neg c62] at H
         have c62b0 : ((a0_3.size : Int) == 0) = false := beq_eq_false_iff_ne.mpr c62
         have c62b1 : ((a0_3.size : Int) != 0) = true := bne_iff_ne.mpr c62
         simp only [Option.some.injEq, Prod.mk.injEq] at H
         obtain ⟨rfl, rfl⟩ := H
         go_enter Try.func14, Try.ntmps14
         go_wp2_with (first | ((with_reducible refine gate_dst (N := 1) rfl ?_); refine box_event ?hg (N := 1) ?hd (cs := #[.int .u8 a0_0, .int .u8 a0_1, .int .u32 a0_2, .string a0_3]) (t := 24) ?hr ?_; (case hd => rfl); (case hg => rfl); (case hr => first | (go_simp; done) | (go_simp; rfl)); intro gb251 hg w70 hbox hb; have n0_ := Aside0.mk (below_step (by repeat (first | (with_reducible first | exact HB.out | apply below_alloc | apply pw_below_drewN | apply below_drew1) | exact HB.out)) hb); have n1_ := Aside0.mk (hbox); have n2_ := Aside0.mk ((by rw [hg]; exact (below_size (by repeat (first | (with_reducible first | exact HB.out | apply below_alloc | apply pw_below_drewN | apply below_drew1) | exact HB.out))) : w.heap.size ≤ gb251)); have n3_ := Aside0.mk ((by rw [hg]; exact (below_size (by repeat (first | (with_reducible first | exact HB.out | apply below_alloc | apply pw_below_drewN | apply below_drew1) | exact HB.out))) : w.heap.size ≤ gb251)); clear HB; have HB := n0_; have BK251 := n1_; have GW251 := n2_; have GE251 := n3_; clear n0_ n1_ n2_ n3_; clear hb hbox hg; have hcz71_0 : w70.cell? ⟨gb251, 0, none⟩ = some (.int .u8 a0_0) := (blk_cell BK251.out 0).trans rfl; have hcz71_1 : w70.cell? ⟨gb251, 1, none⟩ = some (.int .u8 a0_1) := (blk_cell BK251.out 1).trans rfl; have hcz71_2 : w70.cell? ⟨gb251, 2, none⟩ = some (.int .u32 a0_2) := (blk_cell BK251.out 2).trans rfl; have hcz71_3 : w70.cell? ⟨gb251, 3, none⟩ = some (.string a0_3) := (blk_cell BK251.out 3).trans rfl; have hfz71_0 := blk_frozen BK251.out 0; have hfz71_1 := blk_frozen BK251.out 1; have hfz71_2 := blk_frozen BK251.out 2; have hfz71_3 := blk_frozen BK251.out 3) | ((with_reducible refine gate_callee (f := 30) rfl ?_); refine goesL_ (some 59) rfl rfl Try.func30 (by kernel_rfl) rfl #[.agg #[.int .u8 a0_0, .int .u8 a0_1, .int .u32 a0_2, .string a0_3], .int .i64 1] rfl (by (try simp only [List.map_toArray, List.map_cons, List.map_nil]); first | done | rfl | (simp only [List.length_drop, List.length_take]; rfl)) ?_; (with_reducible refine (nuncioref14_flag.calls a0_0 a0_1 a0_2 a0_3 1 true _ A60.out).mono ?_); rintro e w72 ⟨rfl, hb⟩; refine ⟨_, rfl, ?_⟩; have n0_ := Aside0.mk (blk_below (g := gb251) (o := .cells #[.int .u8 a0_0, .int .u8 a0_1, .int .u32 a0_2, .string a0_3] 24 (0, 0)) (by (with_reducible repeat (first | refine blk_drewN ?_ _ | refine blk_drew ?_ | refine blk_alloc ?_ _)); exact BK251.out) hb); have n1_ := Aside0.mk (below_step (by repeat (first | (with_reducible first | exact HB.out | apply below_alloc | apply pw_below_drewN | apply below_drew1 | refine below_set ?_ GE251.out) | exact HB.out)) hb); clear BK251; clear HB; have BK251 := n0_; have HB := n1_; clear n0_ n1_; (try clear hb); (try clear hb2); (try clear hk); (try clear hi)))
         go_ret2
         exact ⟨by first | rfl | (simp [errW_none, errW_some] <;> rfl) | (simp [*, errW_none, errW_some] <;> rfl), by repeat (first | (with_reducible first | exact HB.out | apply below_alloc | apply pw_below_drewN | apply below_drew1 | refine below_set ?_ GE251.out) | exact HB.out)⟩
       ·
        replace c61 := Bool.eq_false_iff.mpr c61
        subst c61
        have H1 : (if ((a0_3.size : Int) % 6) = 0 then (some (0, 0)) else (some (2, 6))) = some (r1, r2) := by rw [if_neg (show ¬ (false = true) by decide)] at H; exact H
        clear H
        have H := H1
        clear H1
        by_cases c73 : ((a0_3.size : Int) % 6) = 0
        ·
         rw [if_pos c73] at H
         have c73b0 : (((a0_3.size : Int) % 6) == 0) = true := beq_iff_eq.mpr c73
         have c73b1 : (((a0_3.size : Int) % 6) != 0) = false := bne_eq_false_iff_eq.mpr c73
         clear c73
         simp only [Option.some.injEq, Prod.mk.injEq] at H
         obtain ⟨rfl, rfl⟩ := H
         go_enter Try.func14, Try.ntmps14
         go_wp2_with (first | ((with_reducible refine gate_dst (N := 1) rfl ?_); refine box_event ?hg (N := 1) ?hd (cs := #[.int .u8 a0_0, .int .u8 a0_1, .int .u32 a0_2, .string a0_3]) (t := 24) ?hr ?_; (case hd => rfl); (case hg => rfl); (case hr => first | (go_simp; done) | (go_simp; rfl)); intro gb251 hg w74 hbox hb; have n0_ := Aside0.mk (below_step (by repeat (first | (with_reducible first | exact HB.out | apply below_alloc | apply pw_below_drewN | apply below_drew1) | exact HB.out)) hb); have n1_ := Aside0.mk (hbox); have n2_ := Aside0.mk ((by rw [hg]; exact (below_size (by repeat (first | (with_reducible first | exact HB.out | apply below_alloc | apply pw_below_drewN | apply below_drew1) | exact HB.out))) : w.heap.size ≤ gb251)); have n3_ := Aside0.mk ((by rw [hg]; exact (below_size (by repeat (first | (with_reducible first | exact HB.out | apply below_alloc | apply pw_below_drewN | apply below_drew1) | exact HB.out))) : w.heap.size ≤ gb251)); clear HB; have HB := n0_; have BK251 := n1_; have GW251 := n2_; have GE251 := n3_; clear n0_ n1_ n2_ n3_; clear hb hbox hg; have hcz75_0 : w74.cell? ⟨gb251, 0, none⟩ = some (.int .u8 a0_0) := (blk_cell BK251.out 0).trans rfl; have hcz75_1 : w74.cell? ⟨gb251, 1, none⟩ = some (.int .u8 a0_1) := (blk_cell BK251.out 1).trans rfl; have hcz75_2 : w74.cell? ⟨gb251, 2, none⟩ = some (.int .u32 a0_2) := (blk_cell BK251.out 2).trans rfl; have hcz75_3 : w74.cell? ⟨gb251, 3, none⟩ = some (.string a0_3) := (blk_cell BK251.out 3).trans rfl; have hfz75_0 := blk_frozen BK251.out 0; have hfz75_1 := blk_frozen BK251.out 1; have hfz75_2 := blk_frozen BK251.out 2; have hfz75_3 := blk_frozen BK251.out 3) | ((with_reducible refine gate_callee (f := 30) rfl ?_); refine goesL_ (some 59) rfl rfl Try.func30 (by kernel_rfl) rfl #[.agg #[.int .u8 a0_0, .int .u8 a0_1, .int .u32 a0_2, .string a0_3], .int .i64 1] rfl (by (try simp only [List.map_toArray, List.map_cons, List.map_nil]); first | done | rfl | (simp only [List.length_drop, List.length_take]; rfl)) ?_; (with_reducible refine (nuncioref14_flag.calls a0_0 a0_1 a0_2 a0_3 1 false _ A60.out).mono ?_); rintro e w76 ⟨rfl, hb⟩; refine ⟨_, rfl, ?_⟩; have n0_ := Aside0.mk (blk_below (g := gb251) (o := .cells #[.int .u8 a0_0, .int .u8 a0_1, .int .u32 a0_2, .string a0_3] 24 (0, 0)) (by (with_reducible repeat (first | refine blk_drewN ?_ _ | refine blk_drew ?_ | refine blk_alloc ?_ _)); exact BK251.out) hb); have n1_ := Aside0.mk (below_step (by repeat (first | (with_reducible first | exact HB.out | apply below_alloc | apply pw_below_drewN | apply below_drew1 | refine below_set ?_ GE251.out) | exact HB.out)) hb); clear BK251; clear HB; have BK251 := n0_; have HB := n1_; clear n0_ n1_; (try clear hb); (try clear hb2); (try clear hk); (try clear hi)))
         go_ret2
         exact ⟨by first | rfl | (simp [errW_none, errW_some] <;> rfl) | (simp [*, errW_none, errW_some] <;> rfl), by repeat (first | (with_reducible first | exact HB.out | apply below_alloc | apply pw_below_drewN | apply below_drew1 | refine below_set ?_ GE251.out) | exact HB.out)⟩
        ·
         rw [if_neg c73] at H
         have c73b0 : (((a0_3.size : Int) % 6) == 0) = false := beq_eq_false_iff_ne.mpr c73
         have c73b1 : (((a0_3.size : Int) % 6) != 0) = true := bne_iff_ne.mpr c73
         simp only [Option.some.injEq, Prod.mk.injEq] at H
         obtain ⟨rfl, rfl⟩ := H
         go_enter Try.func14, Try.ntmps14
         go_wp2_with (first | ((with_reducible refine gate_dst (N := 1) rfl ?_); refine box_event ?hg (N := 1) ?hd (cs := #[.int .u8 a0_0, .int .u8 a0_1, .int .u32 a0_2, .string a0_3]) (t := 24) ?hr ?_; (case hd => rfl); (case hg => rfl); (case hr => first | (go_simp; done) | (go_simp; rfl)); intro gb251 hg w77 hbox hb; have n0_ := Aside0.mk (below_step (by repeat (first | (with_reducible first | exact HB.out | apply below_alloc | apply pw_below_drewN | apply below_drew1) | exact HB.out)) hb); have n1_ := Aside0.mk (hbox); have n2_ := Aside0.mk ((by rw [hg]; exact (below_size (by repeat (first | (with_reducible first | exact HB.out | apply below_alloc | apply pw_below_drewN | apply below_drew1) | exact HB.out))) : w.heap.size ≤ gb251)); have n3_ := Aside0.mk ((by rw [hg]; exact (below_size (by repeat (first | (with_reducible first | exact HB.out | apply below_alloc | apply pw_below_drewN | apply below_drew1) | exact HB.out))) : w.heap.size ≤ gb251)); clear HB; have HB := n0_; have BK251 := n1_; have GW251 := n2_; have GE251 := n3_; clear n0_ n1_ n2_ n3_; clear hb hbox hg; have hcz78_0 : w77.cell? ⟨gb251, 0, none⟩ = some (.int .u8 a0_0) := (blk_cell BK251.out 0).trans rfl; have hcz78_1 : w77.cell? ⟨gb251, 1, none⟩ = some (.int .u8 a0_1) := (blk_cell BK251.out 1).trans rfl; have hcz78_2 : w77.cell? ⟨gb251, 2, none⟩ = some (.int .u32 a0_2) := (blk_cell BK251.out 2).trans rfl; have hcz78_3 : w77.cell? ⟨gb251, 3, none⟩ = some (.string a0_3) := (blk_cell BK251.out 3).trans rfl; have hfz78_0 := blk_frozen BK251.out 0; have hfz78_1 := blk_frozen BK251.out 1; have hfz78_2 := blk_frozen BK251.out 2; have hfz78_3 := blk_frozen BK251.out 3) | ((with_reducible refine gate_callee (f := 30) rfl ?_); refine goesL_ (some 59) rfl rfl Try.func30 (by kernel_rfl) rfl #[.agg #[.int .u8 a0_0, .int .u8 a0_1, .int .u32 a0_2, .string a0_3], .int .i64 1] rfl (by (try simp only [List.map_toArray, List.map_cons, List.map_nil]); first | done | rfl | (simp only [List.length_drop, List.length_take]; rfl)) ?_; (with_reducible refine (nuncioref14_flag.calls a0_0 a0_1 a0_2 a0_3 1 false _ A60.out).mono ?_); rintro e w79 ⟨rfl, hb⟩; refine ⟨_, rfl, ?_⟩; have n0_ := Aside0.mk (blk_below (g := gb251) (o := .cells #[.int .u8 a0_0, .int .u8 a0_1, .int .u32 a0_2, .string a0_3] 24 (0, 0)) (by (with_reducible repeat (first | refine blk_drewN ?_ _ | refine blk_drew ?_ | refine blk_alloc ?_ _)); exact BK251.out) hb); have n1_ := Aside0.mk (below_step (by repeat (first | (with_reducible first | exact HB.out | apply below_alloc | apply pw_below_drewN | apply below_drew1 | refine below_set ?_ GE251.out) | exact HB.out)) hb); clear BK251; clear HB; have BK251 := n0_; have HB := n1_; clear n0_ n1_; (try clear hb); (try clear hb2); (try clear hk); (try clear hi)))
         go_ret2
         exact ⟨by first | rfl | (simp [errW_none, errW_some] <;> rfl) | (simp [*, errW_none, errW_some] <;> rfl), by repeat (first | (with_reducible first | exact HB.out | apply below_alloc | apply pw_below_drewN | apply below_drew1 | refine below_set ?_ GE251.out) | exact HB.out)⟩
      ·
       rw [if_neg c59] at H
       have c59b0 : (a0_2 == 0) = false := beq_eq_false_iff_ne.mpr c59
       have c59b1 : (a0_2 != 0) = true := bne_iff_ne.mpr c59
       simp only [Option.some.injEq, Prod.mk.injEq] at H
       obtain ⟨rfl, rfl⟩ := H
       go_enter Try.func14, Try.ntmps14
       go_wp2_with (first | ((with_reducible refine gate_dst (N := 1) rfl ?_); refine box_event ?hg (N := 1) ?hd (cs := #[.int .u8 a0_0, .int .u8 a0_1, .int .u32 a0_2, .string a0_3]) (t := 24) ?hr ?_; (case hd => rfl); (case hg => rfl); (case hr => first | (go_simp; done) | (go_simp; rfl)); intro gb251 hg w80 hbox hb; have n0_ := Aside0.mk (below_step (by repeat (first | (with_reducible first | exact HB.out | apply below_alloc | apply pw_below_drewN | apply below_drew1) | exact HB.out)) hb); have n1_ := Aside0.mk (hbox); have n2_ := Aside0.mk ((by rw [hg]; exact (below_size (by repeat (first | (with_reducible first | exact HB.out | apply below_alloc | apply pw_below_drewN | apply below_drew1) | exact HB.out))) : w.heap.size ≤ gb251)); have n3_ := Aside0.mk ((by rw [hg]; exact (below_size (by repeat (first | (with_reducible first | exact HB.out | apply below_alloc | apply pw_below_drewN | apply below_drew1) | exact HB.out))) : w.heap.size ≤ gb251)); clear HB; have HB := n0_; have BK251 := n1_; have GW251 := n2_; have GE251 := n3_; clear n0_ n1_ n2_ n3_; clear hb hbox hg; have hcz81_0 : w80.cell? ⟨gb251, 0, none⟩ = some (.int .u8 a0_0) := (blk_cell BK251.out 0).trans rfl; have hcz81_1 : w80.cell? ⟨gb251, 1, none⟩ = some (.int .u8 a0_1) := (blk_cell BK251.out 1).trans rfl; have hcz81_2 : w80.cell? ⟨gb251, 2, none⟩ = some (.int .u32 a0_2) := (blk_cell BK251.out 2).trans rfl; have hcz81_3 : w80.cell? ⟨gb251, 3, none⟩ = some (.string a0_3) := (blk_cell BK251.out 3).trans rfl; have hfz81_0 := blk_frozen BK251.out 0; have hfz81_1 := blk_frozen BK251.out 1; have hfz81_2 := blk_frozen BK251.out 2; have hfz81_3 := blk_frozen BK251.out 3))
       go_ret2
       exact ⟨by first | rfl | (simp [errW_none, errW_some] <;> rfl) | (simp [*, errW_none, errW_some] <;> rfl), by repeat (first | (with_reducible first | exact HB.out | apply below_alloc | apply pw_below_drewN | apply below_drew1 | refine below_set ?_ GE251.out) | exact HB.out)⟩
     ·
      rw [if_neg c58] at H
      have c58b0 : (a0_0 == 4) = false := beq_eq_false_iff_ne.mpr c58
      have c58b1 : (a0_0 != 4) = true := bne_iff_ne.mpr c58
      by_cases c82 : a0_0 = 5
      ·
       rw [if_pos c82] at H
       have c82b0 : (a0_0 == 5) = true := beq_iff_eq.mpr c82
       have c82b1 : (a0_0 != 5) = false := bne_eq_false_iff_eq.mpr c82
       clear c82
       simp only [Option.some.injEq, Prod.mk.injEq] at H
       obtain ⟨rfl, rfl⟩ := H
       go_enter Try.func14, Try.ntmps14
       go_wp2_with (first | ((with_reducible refine gate_dst (N := 1) rfl ?_); refine box_event ?hg (N := 1) ?hd (cs := #[.int .u8 a0_0, .int .u8 a0_1, .int .u32 a0_2, .string a0_3]) (t := 24) ?hr ?_; (case hd => rfl); (case hg => rfl); (case hr => first | (go_simp; done) | (go_simp; rfl)); intro gb251 hg w83 hbox hb; have n0_ := Aside0.mk (below_step (by repeat (first | (with_reducible first | exact HB.out | apply below_alloc | apply pw_below_drewN | apply below_drew1) | exact HB.out)) hb); have n1_ := Aside0.mk (hbox); have n2_ := Aside0.mk ((by rw [hg]; exact (below_size (by repeat (first | (with_reducible first | exact HB.out | apply below_alloc | apply pw_below_drewN | apply below_drew1) | exact HB.out))) : w.heap.size ≤ gb251)); have n3_ := Aside0.mk ((by rw [hg]; exact (below_size (by repeat (first | (with_reducible first | exact HB.out | apply below_alloc | apply pw_below_drewN | apply below_drew1) | exact HB.out))) : w.heap.size ≤ gb251)); clear HB; have HB := n0_; have BK251 := n1_; have GW251 := n2_; have GE251 := n3_; clear n0_ n1_ n2_ n3_; clear hb hbox hg; have hcz84_0 : w83.cell? ⟨gb251, 0, none⟩ = some (.int .u8 a0_0) := (blk_cell BK251.out 0).trans rfl; have hcz84_1 : w83.cell? ⟨gb251, 1, none⟩ = some (.int .u8 a0_1) := (blk_cell BK251.out 1).trans rfl; have hcz84_2 : w83.cell? ⟨gb251, 2, none⟩ = some (.int .u32 a0_2) := (blk_cell BK251.out 2).trans rfl; have hcz84_3 : w83.cell? ⟨gb251, 3, none⟩ = some (.string a0_3) := (blk_cell BK251.out 3).trans rfl; have hfz84_0 := blk_frozen BK251.out 0; have hfz84_1 := blk_frozen BK251.out 1; have hfz84_2 := blk_frozen BK251.out 2; have hfz84_3 := blk_frozen BK251.out 3))
       go_ret2
       exact ⟨by first | rfl | (simp [errW_none, errW_some] <;> rfl) | (simp [*, errW_none, errW_some] <;> rfl), by repeat (first | (with_reducible first | exact HB.out | apply below_alloc | apply pw_below_drewN | apply below_drew1 | refine below_set ?_ GE251.out) | exact HB.out)⟩
      ·
       rw [if_neg c82] at H
       have c82b0 : (a0_0 == 5) = false := beq_eq_false_iff_ne.mpr c82
       have c82b1 : (a0_0 != 5) = true := bne_iff_ne.mpr c82
       by_cases c85 : a0_0 = 6
       ·
        rw [if_pos c85] at H
        have c85b0 : (a0_0 == 6) = true := beq_iff_eq.mpr c85
        have c85b1 : (a0_0 != 6) = false := bne_eq_false_iff_eq.mpr c85
        clear c85
        by_cases c86 : a0_2 = 0
        ·
         rw [if_pos c86] at H
         have c86b0 : (a0_2 == 0) = true := beq_iff_eq.mpr c86
         have c86b1 : (a0_2 != 0) = false := bne_eq_false_iff_eq.mpr c86
         clear c86
         by_cases c87 : (a0_3.size : Int) = 8
         ·
          rw [if_pos c87] at H
          have c87b0 : ((a0_3.size : Int) == 8) = true := beq_iff_eq.mpr c87
          have c87b1 : ((a0_3.size : Int) != 8) = false := bne_eq_false_iff_eq.mpr c87
          clear c87
          simp only [Option.some.injEq, Prod.mk.injEq] at H
          obtain ⟨rfl, rfl⟩ := H
          go_enter Try.func14, Try.ntmps14
          go_wp2_with (first | ((with_reducible refine gate_dst (N := 1) rfl ?_); refine box_event ?hg (N := 1) ?hd (cs := #[.int .u8 a0_0, .int .u8 a0_1, .int .u32 a0_2, .string a0_3]) (t := 24) ?hr ?_; (case hd => rfl); (case hg => rfl); (case hr => first | (go_simp; done) | (go_simp; rfl)); intro gb251 hg w88 hbox hb; have n0_ := Aside0.mk (below_step (by repeat (first | (with_reducible first | exact HB.out | apply below_alloc | apply pw_below_drewN | apply below_drew1) | exact HB.out)) hb); have n1_ := Aside0.mk (hbox); have n2_ := Aside0.mk ((by rw [hg]; exact (below_size (by repeat (first | (with_reducible first | exact HB.out | apply below_alloc | apply pw_below_drewN | apply below_drew1) | exact HB.out))) : w.heap.size ≤ gb251)); have n3_ := Aside0.mk ((by rw [hg]; exact (below_size (by repeat (first | (with_reducible first | exact HB.out | apply below_alloc | apply pw_below_drewN | apply below_drew1) | exact HB.out))) : w.heap.size ≤ gb251)); clear HB; have HB := n0_; have BK251 := n1_; have GW251 := n2_; have GE251 := n3_; clear n0_ n1_ n2_ n3_; clear hb hbox hg; have hcz89_0 : w88.cell? ⟨gb251, 0, none⟩ = some (.int .u8 a0_0) := (blk_cell BK251.out 0).trans rfl; have hcz89_1 : w88.cell? ⟨gb251, 1, none⟩ = some (.int .u8 a0_1) := (blk_cell BK251.out 1).trans rfl; have hcz89_2 : w88.cell? ⟨gb251, 2, none⟩ = some (.int .u32 a0_2) := (blk_cell BK251.out 2).trans rfl; have hcz89_3 : w88.cell? ⟨gb251, 3, none⟩ = some (.string a0_3) := (blk_cell BK251.out 3).trans rfl; have hfz89_0 := blk_frozen BK251.out 0; have hfz89_1 := blk_frozen BK251.out 1; have hfz89_2 := blk_frozen BK251.out 2; have hfz89_3 := blk_frozen BK251.out 3))
          go_ret2
          exact ⟨by first | rfl | (simp [errW_none, errW_some] <;> rfl) | (simp [*, errW_none, errW_some] <;> rfl), by repeat (first | (with_reducible first | exact HB.out | apply below_alloc | apply pw_below_drewN | apply below_drew1 | refine below_set ?_ GE251.out) | exact HB.out)⟩
         ·
          rw [if_neg c87] at H
          have c87b0 : ((a0_3.size : Int) == 8) = false := beq_eq_false_iff_ne.mpr c87
          have c87b1 : ((a0_3.size : Int) != 8) = true := bne_iff_ne.mpr c87
          simp only [Option.some.injEq, Prod.mk.injEq] at H
          obtain ⟨rfl, rfl⟩ := H
          go_enter Try.func14, Try.ntmps14
          go_wp2_with (first | ((with_reducible refine gate_dst (N := 1) rfl ?_); refine box_event ?hg (N := 1) ?hd (cs := #[.int .u8 a0_0, .int .u8 a0_1, .int .u32 a0_2, .string a0_3]) (t := 24) ?hr ?_; (case hd => rfl); (case hg => rfl); (case hr => first | (go_simp; done) | (go_simp; rfl)); intro gb251 hg w90 hbox hb; have n0_ := Aside0.mk (below_step (by repeat (first | (with_reducible first | exact HB.out | apply below_alloc | apply pw_below_drewN | apply below_drew1) | exact HB.out)) hb); have n1_ := Aside0.mk (hbox); have n2_ := Aside0.mk ((by rw [hg]; exact (below_size (by repeat (first | (with_reducible first | exact HB.out | apply below_alloc | apply pw_below_drewN | apply below_drew1) | exact HB.out))) : w.heap.size ≤ gb251)); have n3_ := Aside0.mk ((by rw [hg]; exact (below_size (by repeat (first | (with_reducible first | exact HB.out | apply below_alloc | apply pw_below_drewN | apply below_drew1) | exact HB.out))) : w.heap.size ≤ gb251)); clear HB; have HB := n0_; have BK251 := n1_; have GW251 := n2_; have GE251 := n3_; clear n0_ n1_ n2_ n3_; clear hb hbox hg; have hcz91_0 : w90.cell? ⟨gb251, 0, none⟩ = some (.int .u8 a0_0) := (blk_cell BK251.out 0).trans rfl; have hcz91_1 : w90.cell? ⟨gb251, 1, none⟩ = some (.int .u8 a0_1) := (blk_cell BK251.out 1).trans rfl; have hcz91_2 : w90.cell? ⟨gb251, 2, none⟩ = some (.int .u32 a0_2) := (blk_cell BK251.out 2).trans rfl; have hcz91_3 : w90.cell? ⟨gb251, 3, none⟩ = some (.string a0_3) := (blk_cell BK251.out 3).trans rfl; have hfz91_0 := blk_frozen BK251.out 0; have hfz91_1 := blk_frozen BK251.out 1; have hfz91_2 := blk_frozen BK251.out 2; have hfz91_3 := blk_frozen BK251.out 3))
          go_ret2
          exact ⟨by first | rfl | (simp [errW_none, errW_some] <;> rfl) | (simp [*, errW_none, errW_some] <;> rfl), by repeat (first | (with_reducible first | exact HB.out | apply below_alloc | apply pw_below_drewN | apply below_drew1 | refine below_set ?_ GE251.out) | exact HB.out)⟩
        ·
         rw [if_neg c86] at H
         have c86b0 : (a0_2 == 0) = false := beq_eq_false_iff_ne.mpr c86
         have c86b1 : (a0_2 != 0) = true := bne_iff_ne.mpr c86
         simp only [Option.some.injEq, Prod.mk.injEq] at H
         obtain ⟨rfl, rfl⟩ := H
         go_enter Try.func14, Try.ntmps14
         go_wp2_with (first | ((with_reducible refine gate_dst (N := 1) rfl ?_); refine box_event ?hg (N := 1) ?hd (cs := #[.int .u8 a0_0, .int .u8 a0_1, .int .u32 a0_2, .string a0_3]) (t := 24) ?hr ?_; (case hd => rfl); (case hg => rfl); (case hr => first | (go_simp; done) | (go_simp; rfl)); intro gb251 hg w92 hbox hb; have n0_ := Aside0.mk (below_step (by repeat (first | (with_reducible first | exact HB.out | apply below_alloc | apply pw_below_drewN | apply below_drew1) | exact HB.out)) hb); have n1_ := Aside0.mk (hbox); have n2_ := Aside0.mk ((by rw [hg]; exact (below_size (by repeat (first | (with_reducible first | exact HB.out | apply below_alloc | apply pw_below_drewN | apply below_drew1) | exact HB.out))) : w.heap.size ≤ gb251)); have n3_ := Aside0.mk ((by rw [hg]; exact (below_size (by repeat (first | (with_reducible first | exact HB.out | apply below_alloc | apply pw_below_drewN | apply below_drew1) | exact HB.out))) : w.heap.size ≤ gb251)); clear HB; have HB := n0_; have BK251 := n1_; have GW251 := n2_; have GE251 := n3_; clear n0_ n1_ n2_ n3_; clear hb hbox hg; have hcz93_0 : w92.cell? ⟨gb251, 0, none⟩ = some (.int .u8 a0_0) := (blk_cell BK251.out 0).trans rfl; have hcz93_1 : w92.cell? ⟨gb251, 1, none⟩ = some (.int .u8 a0_1) := (blk_cell BK251.out 1).trans rfl; have hcz93_2 : w92.cell? ⟨gb251, 2, none⟩ = some (.int .u32 a0_2) := (blk_cell BK251.out 2).trans rfl; have hcz93_3 : w92.cell? ⟨gb251, 3, none⟩ = some (.string a0_3) := (blk_cell BK251.out 3).trans rfl; have hfz93_0 := blk_frozen BK251.out 0; have hfz93_1 := blk_frozen BK251.out 1; have hfz93_2 := blk_frozen BK251.out 2; have hfz93_3 := blk_frozen BK251.out 3))
         go_ret2
         exact ⟨by first | rfl | (simp [errW_none, errW_some] <;> rfl) | (simp [*, errW_none, errW_some] <;> rfl), by repeat (first | (with_reducible first | exact HB.out | apply below_alloc | apply pw_below_drewN | apply below_drew1 | refine below_set ?_ GE251.out) | exact HB.out)⟩
       ·
        rw [if_neg c85] at H
        have c85b0 : (a0_0 == 6) = false := beq_eq_false_iff_ne.mpr c85
        have c85b1 : (a0_0 != 6) = true := bne_iff_ne.mpr c85
        by_cases c94 : a0_0 = 7
        ·
         rw [if_pos c94] at H
         have c94b0 : (a0_0 == 7) = true := beq_iff_eq.mpr c94
         have c94b1 : (a0_0 != 7) = false := bne_eq_false_iff_eq.mpr c94
         clear c94
         by_cases c95 : a0_2 = 0
         ·
          rw [if_pos c95] at H
          have c95b0 : (a0_2 == 0) = true := beq_iff_eq.mpr c95
          have c95b1 : (a0_2 != 0) = false := bne_eq_false_iff_eq.mpr c95
          clear c95
          by_cases c96 : (a0_3.size : Int) < 8
          ·
           rw [if_pos c96] at H
           have c96b0 : decide ((a0_3.size : Int) < 8) = true := decide_eq_true c96
           have c96b1 : decide (a0_3.size < 8) = true := decide_eq_true (by omega)
           clear c96
           simp only [Option.some.injEq, Prod.mk.injEq] at H
           obtain ⟨rfl, rfl⟩ := H
           go_enter Try.func14, Try.ntmps14
           go_wp2_with (first | ((with_reducible refine gate_dst (N := 1) rfl ?_); refine box_event ?hg (N := 1) ?hd (cs := #[.int .u8 a0_0, .int .u8 a0_1, .int .u32 a0_2, .string a0_3]) (t := 24) ?hr ?_; (case hd => rfl); (case hg => rfl); (case hr => first | (go_simp; done) | (go_simp; rfl)); intro gb251 hg w97 hbox hb; have n0_ := Aside0.mk (below_step (by repeat (first | (with_reducible first | exact HB.out | apply below_alloc | apply pw_below_drewN | apply below_drew1) | exact HB.out)) hb); have n1_ := Aside0.mk (hbox); have n2_ := Aside0.mk ((by rw [hg]; exact (below_size (by repeat (first | (with_reducible first | exact HB.out | apply below_alloc | apply pw_below_drewN | apply below_drew1) | exact HB.out))) : w.heap.size ≤ gb251)); have n3_ := Aside0.mk ((by rw [hg]; exact (below_size (by repeat (first | (with_reducible first | exact HB.out | apply below_alloc | apply pw_below_drewN | apply below_drew1) | exact HB.out))) : w.heap.size ≤ gb251)); clear HB; have HB := n0_; have BK251 := n1_; have GW251 := n2_; have GE251 := n3_; clear n0_ n1_ n2_ n3_; clear hb hbox hg; have hcz98_0 : w97.cell? ⟨gb251, 0, none⟩ = some (.int .u8 a0_0) := (blk_cell BK251.out 0).trans rfl; have hcz98_1 : w97.cell? ⟨gb251, 1, none⟩ = some (.int .u8 a0_1) := (blk_cell BK251.out 1).trans rfl; have hcz98_2 : w97.cell? ⟨gb251, 2, none⟩ = some (.int .u32 a0_2) := (blk_cell BK251.out 2).trans rfl; have hcz98_3 : w97.cell? ⟨gb251, 3, none⟩ = some (.string a0_3) := (blk_cell BK251.out 3).trans rfl; have hfz98_0 := blk_frozen BK251.out 0; have hfz98_1 := blk_frozen BK251.out 1; have hfz98_2 := blk_frozen BK251.out 2; have hfz98_3 := blk_frozen BK251.out 3))
           go_ret2
           exact ⟨by first | rfl | (simp [errW_none, errW_some] <;> rfl) | (simp [*, errW_none, errW_some] <;> rfl), by repeat (first | (with_reducible first | exact HB.out | apply below_alloc | apply pw_below_drewN | apply below_drew1 | refine below_set ?_ GE251.out) | exact HB.out)⟩
          ·
           rw [if_neg c96] at H
           have c96b0 : decide ((a0_3.size : Int) < 8) = false := decide_eq_false c96
           have c96b1 : decide (a0_3.size < 8) = false := decide_eq_false (by omega)
           clear c96
           simp only [Option.some.injEq, Prod.mk.injEq] at H
           obtain ⟨rfl, rfl⟩ := H
           go_enter Try.func14, Try.ntmps14
           go_wp2_with (first | ((with_reducible refine gate_dst (N := 1) rfl ?_); refine box_event ?hg (N := 1) ?hd (cs := #[.int .u8 a0_0, .int .u8 a0_1, .int .u32 a0_2, .string a0_3]) (t := 24) ?hr ?_; (case hd => rfl); (case hg => rfl); (case hr => first | (go_simp; done) | (go_simp; rfl)); intro gb251 hg w99 hbox hb; have n0_ := Aside0.mk (below_step (by repeat (first | (with_reducible first | exact HB.out | apply below_alloc | apply pw_below_drewN | apply below_drew1) | exact HB.out)) hb); have n1_ := Aside0.mk (hbox); have n2_ := Aside0.mk ((by rw [hg]; exact (below_size (by repeat (first | (with_reducible first | exact HB.out | apply below_alloc | apply pw_below_drewN | apply below_drew1) | exact HB.out))) : w.heap.size ≤ gb251)); have n3_ := Aside0.mk ((by rw [hg]; exact (below_size (by repeat (first | (with_reducible first | exact HB.out | apply below_alloc | apply pw_below_drewN | apply below_drew1) | exact HB.out))) : w.heap.size ≤ gb251)); clear HB; have HB := n0_; have BK251 := n1_; have GW251 := n2_; have GE251 := n3_; clear n0_ n1_ n2_ n3_; clear hb hbox hg; have hcz100_0 : w99.cell? ⟨gb251, 0, none⟩ = some (.int .u8 a0_0) := (blk_cell BK251.out 0).trans rfl; have hcz100_1 : w99.cell? ⟨gb251, 1, none⟩ = some (.int .u8 a0_1) := (blk_cell BK251.out 1).trans rfl; have hcz100_2 : w99.cell? ⟨gb251, 2, none⟩ = some (.int .u32 a0_2) := (blk_cell BK251.out 2).trans rfl; have hcz100_3 : w99.cell? ⟨gb251, 3, none⟩ = some (.string a0_3) := (blk_cell BK251.out 3).trans rfl; have hfz100_0 := blk_frozen BK251.out 0; have hfz100_1 := blk_frozen BK251.out 1; have hfz100_2 := blk_frozen BK251.out 2; have hfz100_3 := blk_frozen BK251.out 3))
           go_ret2
           exact ⟨by first | rfl | (simp [errW_none, errW_some] <;> rfl) | (simp [*, errW_none, errW_some] <;> rfl), by repeat (first | (with_reducible first | exact HB.out | apply below_alloc | apply pw_below_drewN | apply below_drew1 | refine below_set ?_ GE251.out) | exact HB.out)⟩
         ·
          rw [if_neg c95] at H
          have c95b0 : (a0_2 == 0) = false := beq_eq_false_iff_ne.mpr c95
          have c95b1 : (a0_2 != 0) = true := bne_iff_ne.mpr c95
          simp only [Option.some.injEq, Prod.mk.injEq] at H
          obtain ⟨rfl, rfl⟩ := H
          go_enter Try.func14, Try.ntmps14
          go_wp2_with (first | ((with_reducible refine gate_dst (N := 1) rfl ?_); refine box_event ?hg (N := 1) ?hd (cs := #[.int .u8 a0_0, .int .u8 a0_1, .int .u32 a0_2, .string a0_3]) (t := 24) ?hr ?_; (case hd => rfl); (case hg => rfl); (case hr => first | (go_simp; done) | (go_simp; rfl)); intro gb251 hg w101 hbox hb; have n0_ := Aside0.mk (below_step (by repeat (first | (with_reducible first | exact HB.out | apply below_alloc | apply pw_below_drewN | apply below_drew1) | exact HB.out)) hb); have n1_ := Aside0.mk (hbox); have n2_ := Aside0.mk ((by rw [hg]; exact (below_size (by repeat (first | (with_reducible first | exact HB.out | apply below_alloc | apply pw_below_drewN | apply below_drew1) | exact HB.out))) : w.heap.size ≤ gb251)); have n3_ := Aside0.mk ((by rw [hg]; exact (below_size (by repeat (first | (with_reducible first | exact HB.out | apply below_alloc | apply pw_below_drewN | apply below_drew1) | exact HB.out))) : w.heap.size ≤ gb251)); clear HB; have HB := n0_; have BK251 := n1_; have GW251 := n2_; have GE251 := n3_; clear n0_ n1_ n2_ n3_; clear hb hbox hg; have hcz102_0 : w101.cell? ⟨gb251, 0, none⟩ = some (.int .u8 a0_0) := (blk_cell BK251.out 0).trans rfl; have hcz102_1 : w101.cell? ⟨gb251, 1, none⟩ = some (.int .u8 a0_1) := (blk_cell BK251.out 1).trans rfl; have hcz102_2 : w101.cell? ⟨gb251, 2, none⟩ = some (.int .u32 a0_2) := (blk_cell BK251.out 2).trans rfl; have hcz102_3 : w101.cell? ⟨gb251, 3, none⟩ = some (.string a0_3) := (blk_cell BK251.out 3).trans rfl; have hfz102_0 := blk_frozen BK251.out 0; have hfz102_1 := blk_frozen BK251.out 1; have hfz102_2 := blk_frozen BK251.out 2; have hfz102_3 := blk_frozen BK251.out 3))
          go_ret2
          exact ⟨by first | rfl | (simp [errW_none, errW_some] <;> rfl) | (simp [*, errW_none, errW_some] <;> rfl), by repeat (first | (with_reducible first | exact HB.out | apply below_alloc | apply pw_below_drewN | apply below_drew1 | refine below_set ?_ GE251.out) | exact HB.out)⟩
        ·
         rw [if_neg c94] at H
         have c94b0 : (a0_0 == 7) = false := beq_eq_false_iff_ne.mpr c94
         have c94b1 : (a0_0 != 7) = true := bne_iff_ne.mpr c94
         by_cases c103 : a0_0 = 8
         ·
          rw [if_pos c103] at H
          have c103b0 : (a0_0 == 8) = true := beq_iff_eq.mpr c103
          have c103b1 : (a0_0 != 8) = false := bne_eq_false_iff_eq.mpr c103
          clear c103
          by_cases c104 : (a0_3.size : Int) = 4
          ·
           rw [if_pos c104] at H
           have c104b0 : ((a0_3.size : Int) == 4) = true := beq_iff_eq.mpr c104
           have c104b1 : ((a0_3.size : Int) != 4) = false := bne_eq_false_iff_eq.mpr c104
           clear c104
           have HC105 := Aside0.mk H
           clear H
           go_enter Try.func14, Try.ntmps14
           go_upto_region 44 with (first | ((with_reducible refine gate_dst (N := 1) rfl ?_); refine box_event ?hg (N := 1) ?hd (cs := #[.int .u8 a0_0, .int .u8 a0_1, .int .u32 a0_2, .string a0_3]) (t := 24) ?hr ?_; (case hd => rfl); (case hg => rfl); (case hr => first | (go_simp; done) | (go_simp; rfl)); intro gb251 hg w106 hbox hb; have n0_ := Aside0.mk (below_step (by repeat (first | (with_reducible first | exact HB.out | apply below_alloc | apply pw_below_drewN | apply below_drew1) | exact HB.out)) hb); have n1_ := Aside0.mk (hbox); have n2_ := Aside0.mk ((by rw [hg]; exact (below_size (by repeat (first | (with_reducible first | exact HB.out | apply below_alloc | apply pw_below_drewN | apply below_drew1) | exact HB.out))) : w.heap.size ≤ gb251)); have n3_ := Aside0.mk ((by rw [hg]; exact (below_size (by repeat (first | (with_reducible first | exact HB.out | apply below_alloc | apply pw_below_drewN | apply below_drew1) | exact HB.out))) : w.heap.size ≤ gb251)); clear HB; have HB := n0_; have BK251 := n1_; have GW251 := n2_; have GE251 := n3_; clear n0_ n1_ n2_ n3_; clear hb hbox hg; have hcz107_0 : w106.cell? ⟨gb251, 0, none⟩ = some (.int .u8 a0_0) := (blk_cell BK251.out 0).trans rfl; have hcz107_1 : w106.cell? ⟨gb251, 1, none⟩ = some (.int .u8 a0_1) := (blk_cell BK251.out 1).trans rfl; have hcz107_2 : w106.cell? ⟨gb251, 2, none⟩ = some (.int .u32 a0_2) := (blk_cell BK251.out 2).trans rfl; have hcz107_3 : w106.cell? ⟨gb251, 3, none⟩ = some (.string a0_3) := (blk_cell BK251.out 3).trans rfl; have hfz107_0 := blk_frozen BK251.out 0; have hfz107_1 := blk_frozen BK251.out 1; have hfz107_2 := blk_frozen BK251.out 2; have hfz107_3 := blk_frozen BK251.out 3))
           (try simp only [Act.put, List.setIfInBounds_toArray, List.set_cons_zero, List.set_cons_succ])
           go_cut [98] (fun v98 wc => ∃ (kq : Nat) (x98_104 : Bool), v98 = .bool x98_104 ∧ Aside0 (nuncioref14_Wrong.j1 kq x98_104 a0_0 a0_1 a0_2 a0_3 = some (r1, r2)) ∧ Aside0 (kq ≤ k) ∧ Aside0 (wc.heap[gb251]? = some (.cells #[.int .u8 a0_0, .int .u8 a0_1, .int .u32 a0_2, .string a0_3] 24 (0, 0))) ∧ Aside0 (Below w.heap.size w wc))
           case first =>
            have H := HC105.out
            clear HC105
            replace H := Option.bind_eq_some_iff.mp H
            obtain ⟨t258, A1080, H⟩ := H
            replace H : (if (Int.tmod t258 2147483648) = 0 then (nuncioref14_Wrong.j1 k (a0_2 == 0) a0_0 a0_1 a0_2 a0_3) else (nuncioref14_Wrong.j1 k false a0_0 a0_1 a0_2 a0_3)) = some (r1, r2) := H
            have A108 := Aside0.mk A1080
            clear A1080
            by_cases c109 : (Int.tmod t258 2147483648) = 0
            ·
             rw [if_pos c109] at H
             have c109b0 : ((Int.tmod t258 2147483648) == 0) = true := beq_iff_eq.mpr c109
             have c109b1 : ((Int.tmod t258 2147483648) != 0) = false := bne_eq_false_iff_eq.mpr c109
             clear c109
             (try (have c109b7 := c109b0; rw [Int.tmod_eq_emod_of_nonneg (Int.natCast_nonneg _)] at c109b7))
             (try (have c109b6 := c109b1; rw [Int.tmod_eq_emod_of_nonneg (Int.natCast_nonneg _)] at c109b6))
             (first | rw [c109b0] | (simp only [i64_w, i32_w]; rw [c109b0]) | skip)
             have H' := Aside0.mk H
             clear H
             have hcz110_0 : w106.cell? ⟨gb251, 0, none⟩ = some (.int .u8 a0_0) := (blk_cell BK251.out 0).trans rfl
             have hcz110_1 : w106.cell? ⟨gb251, 1, none⟩ = some (.int .u8 a0_1) := (blk_cell BK251.out 1).trans rfl
             have hcz110_2 : w106.cell? ⟨gb251, 2, none⟩ = some (.int .u32 a0_2) := (blk_cell BK251.out 2).trans rfl
             have hcz110_3 : w106.cell? ⟨gb251, 3, none⟩ = some (.string a0_3) := (blk_cell BK251.out 3).trans rfl
             have hfz110_0 := blk_frozen BK251.out 0
             have hfz110_1 := blk_frozen BK251.out 1
             have hfz110_2 := blk_frozen BK251.out 2
             have hfz110_3 := blk_frozen BK251.out 3
             go_wp2_with (first | ((with_reducible refine gate_callee (f := 24) rfl ?_); refine goesL_ (some 91) rfl rfl Try.func24 (by kernel_rfl) rfl #[.string a0_3, .int .i64 0, .int .i64 4] rfl (by (try simp only [List.map_toArray, List.map_cons, List.map_nil]); first | done | rfl | (simp only [List.length_drop, List.length_take]; rfl)) ?_; (with_reducible refine (nuncioref14_get.calls k a0_3 0 4 t258 _ A108.out).mono ?_); rintro e w' ⟨rfl, ⟨nd, rfl⟩⟩; refine ⟨_, rfl, ?_⟩))
             go_meet
             case rel => exact ⟨_, ((a0_2 == 0)), (by first | rfl | (simp; done) | (simp [*]; done)), H', ⟨by first | omega | exact Nat.le_refl _⟩, ⟨by (with_reducible repeat (first | refine blk_drewN ?_ _ | refine blk_drew ?_ | refine blk_alloc ?_ _)); exact BK251.out⟩, ⟨by repeat (first | (with_reducible first | exact HB.out | apply below_alloc | apply pw_below_drewN | apply below_drew1 | refine below_set ?_ GE251.out) | exact HB.out)⟩⟩
            ·
             rw [if_neg c109] at H
             have c109b0 : ((Int.tmod t258 2147483648) == 0) = false := beq_eq_false_iff_ne.mpr c109
             have c109b1 : ((Int.tmod t258 2147483648) != 0) = true := bne_iff_ne.mpr c109
             (try (have c109b7 := c109b0; rw [Int.tmod_eq_emod_of_nonneg (Int.natCast_nonneg _)] at c109b7))
             (try (have c109b6 := c109b1; rw [Int.tmod_eq_emod_of_nonneg (Int.natCast_nonneg _)] at c109b6))
             (first | rw [c109b0] | (simp only [i64_w, i32_w]; rw [c109b0]) | skip)
             have H' := Aside0.mk H
             clear H
             have hcz111_0 : w106.cell? ⟨gb251, 0, none⟩ = some (.int .u8 a0_0) := (blk_cell BK251.out 0).trans rfl
             have hcz111_1 : w106.cell? ⟨gb251, 1, none⟩ = some (.int .u8 a0_1) := (blk_cell BK251.out 1).trans rfl
             have hcz111_2 : w106.cell? ⟨gb251, 2, none⟩ = some (.int .u32 a0_2) := (blk_cell BK251.out 2).trans rfl
             have hcz111_3 : w106.cell? ⟨gb251, 3, none⟩ = some (.string a0_3) := (blk_cell BK251.out 3).trans rfl
             have hfz111_0 := blk_frozen BK251.out 0
             have hfz111_1 := blk_frozen BK251.out 1
             have hfz111_2 := blk_frozen BK251.out 2
             have hfz111_3 := blk_frozen BK251.out 3
             go_wp2_with (first | ((with_reducible refine gate_callee (f := 24) rfl ?_); refine goesL_ (some 91) rfl rfl Try.func24 (by kernel_rfl) rfl #[.string a0_3, .int .i64 0, .int .i64 4] rfl (by (try simp only [List.map_toArray, List.map_cons, List.map_nil]); first | done | rfl | (simp only [List.length_drop, List.length_take]; rfl)) ?_; (with_reducible refine (nuncioref14_get.calls k a0_3 0 4 t258 _ A108.out).mono ?_); rintro e w' ⟨rfl, ⟨nd, rfl⟩⟩; refine ⟨_, rfl, ?_⟩))
             go_meet
             case rel => exact ⟨_, (false), (by first | rfl | (simp; done) | (simp [*]; done)), H', ⟨by first | omega | exact Nat.le_refl _⟩, ⟨by (with_reducible repeat (first | refine blk_drewN ?_ _ | refine blk_drew ?_ | refine blk_alloc ?_ _)); exact BK251.out⟩, ⟨by repeat (first | (with_reducible first | exact HB.out | apply below_alloc | apply pw_below_drewN | apply below_drew1 | refine below_set ?_ GE251.out) | exact HB.out)⟩⟩
           case rest =>
            clear HC105
            try clear c1
            try clear p1
            try clear q1
            try clear hx1
            try clear qi1
            try clear c2
            try clear c2b0
            try clear c2b1
            try clear p2
            try clear c3
            try clear c3b0
            try clear c3b1
            try clear c4
            try clear c5
            try clear c6
            try clear p6
            try clear c7
            try clear c8
            try clear c9
            try clear c10
            try clear c14
            try clear c15
            try clear c17
            try clear c18
            try clear c18b0
            try clear c18b1
            try clear p19
            try clear q19
            try clear hx19
            try clear qi19
            try clear c20
            try clear c20b0
            try clear c24
            try clear c29
            try clear c29b0
            try clear c29b1
            try clear c30
            try clear c31
            try clear c32
            try clear c34
            try clear c34b0
            try clear c34b1
            try clear c35
            try clear c35b0
            try clear c35b1
            try clear c38
            try clear c38b0
            try clear c38b1
            try clear c40
            try clear c49
            try clear c49b0
            try clear c49b1
            try clear c50
            try clear c50b0
            try clear c50b1
            try clear c53
            try clear c53b0
            try clear c53b1
            try clear c58
            try clear c58b0
            try clear c58b1
            try clear c59
            try clear c59b0
            try clear c59b1
            try clear c61
            try clear c62
            try clear c62b0
            try clear c62b1
            try clear c63
            try clear c63b0
            try clear c63b1
            try clear p64
            try clear c73
            try clear c73b0
            try clear c73b1
            try clear c82
            try clear c82b0
            try clear c82b1
            try clear c85
            try clear c85b0
            try clear c85b1
            try clear c86
            try clear c86b0
            try clear c86b1
            try clear c87
            try clear c87b0
            try clear c87b1
            try clear c94
            try clear c94b0
            try clear c94b1
            try clear c95
            try clear c95b0
            try clear c95b1
            try clear c96
            try clear c96b0
            try clear c96b1
            try clear c103
            try clear c103b0
            try clear c103b1
            try clear c104
            try clear c104b0
            try clear c104b1
            try clear c109
            try clear c109b0
            try clear c109b1
            try clear hcz100_0
            try clear hcz100_1
            try clear hcz100_2
            try clear hcz100_3
            try clear hcz102_0
            try clear hcz102_1
            try clear hcz102_2
            try clear hcz102_3
            try clear hcz107_0
            try clear hcz107_1
            try clear hcz107_2
            try clear hcz107_3
            try clear hcz110_0
            try clear hcz110_1
            try clear hcz110_2
            try clear hcz110_3
            try clear hcz111_0
            try clear hcz111_1
            try clear hcz111_2
            try clear hcz111_3
            try clear hcz11_0
            try clear hcz11_1
            try clear hcz11_2
            try clear hcz11_3
            try clear hcz13_0
            try clear hcz13_1
            try clear hcz13_2
            try clear hcz13_3
            try clear hcz21_0
            try clear hcz21_1
            try clear hcz21_2
            try clear hcz21_3
            try clear hcz23_0
            try clear hcz23_1
            try clear hcz23_2
            try clear hcz23_3
            try clear hcz24_0
            try clear hcz24_1
            try clear hcz24_2
            try clear hcz24_3
            try clear hcz26_0
            try clear hcz26_1
            try clear hcz26_2
            try clear hcz26_3
            try clear hcz27_0
            try clear hcz27_1
            try clear hcz27_2
            try clear hcz27_3
            try clear hcz32_0
            try clear hcz32_1
            try clear hcz32_2
            try clear hcz32_3
            try clear hcz37_0
            try clear hcz37_1
            try clear hcz37_2
            try clear hcz37_3
            try clear hcz42_0
            try clear hcz42_1
            try clear hcz42_2
            try clear hcz42_3
            try clear hcz45_0
            try clear hcz45_1
            try clear hcz45_2
            try clear hcz45_3
            try clear hcz48_0
            try clear hcz48_1
            try clear hcz48_2
            try clear hcz48_3
            try clear hcz52_0
            try clear hcz52_1
            try clear hcz52_2
            try clear hcz52_3
            try clear hcz55_0
            try clear hcz55_1
            try clear hcz55_2
            try clear hcz55_3
            try clear hcz57_0
            try clear hcz57_1
            try clear hcz57_2
            try clear hcz57_3
            try clear hcz5_0
            try clear hcz5_1
            try clear hcz5_2
            try clear hcz5_3
            try clear hcz65_0
            try clear hcz65_1
            try clear hcz65_2
            try clear hcz65_3
            try clear hcz68_0
            try clear hcz68_1
            try clear hcz68_2
            try clear hcz68_3
            try clear hcz71_0
            try clear hcz71_1
            try clear hcz71_2
            try clear hcz71_3
            try clear hcz75_0
            try clear hcz75_1
            try clear hcz75_2
            try clear hcz75_3
            try clear hcz78_0
            try clear hcz78_1
            try clear hcz78_2
            try clear hcz78_3
            try clear hcz81_0
            try clear hcz81_1
            try clear hcz81_2
            try clear hcz81_3
            try clear hcz84_0
            try clear hcz84_1
            try clear hcz84_2
            try clear hcz84_3
            try clear hcz89_0
            try clear hcz89_1
            try clear hcz89_2
            try clear hcz89_3
            try clear hcz8_0
            try clear hcz8_1
            try clear hcz8_2
            try clear hcz8_3
            try clear hcz91_0
            try clear hcz91_1
            try clear hcz91_2
            try clear hcz91_3
            try clear hcz93_0
            try clear hcz93_1
            try clear hcz93_2
            try clear hcz93_3
            try clear hcz98_0
            try clear hcz98_1
            try clear hcz98_2
            try clear hcz98_3
            try clear hfz100_0
            try clear hfz100_1
            try clear hfz100_2
            try clear hfz100_3
            try clear hfz102_0
            try clear hfz102_1
            try clear hfz102_2
            try clear hfz102_3
            try clear hfz107_0
            try clear hfz107_1
            try clear hfz107_2
            try clear hfz107_3
            try clear hfz110_0
            try clear hfz110_1
            try clear hfz110_2
            try clear hfz110_3
            try clear hfz111_0
            try clear hfz111_1
            try clear hfz111_2
            try clear hfz111_3
            try clear hfz11_0
            try clear hfz11_1
            try clear hfz11_2
            try clear hfz11_3
            try clear hfz13_0
            try clear hfz13_1
            try clear hfz13_2
            try clear hfz13_3
            try clear hfz21_0
            try clear hfz21_1
            try clear hfz21_2
            try clear hfz21_3
            try clear hfz23_0
            try clear hfz23_1
            try clear hfz23_2
            try clear hfz23_3
            try clear hfz24_0
            try clear hfz24_1
            try clear hfz24_2
            try clear hfz24_3
            try clear hfz26_0
            try clear hfz26_1
            try clear hfz26_2
            try clear hfz26_3
            try clear hfz27_0
            try clear hfz27_1
            try clear hfz27_2
            try clear hfz27_3
            try clear hfz32_0
            try clear hfz32_1
            try clear hfz32_2
            try clear hfz32_3
            try clear hfz37_0
            try clear hfz37_1
            try clear hfz37_2
            try clear hfz37_3
            try clear hfz42_0
            try clear hfz42_1
            try clear hfz42_2
            try clear hfz42_3
            try clear hfz45_0
            try clear hfz45_1
            try clear hfz45_2
            try clear hfz45_3
            try clear hfz48_0
            try clear hfz48_1
            try clear hfz48_2
            try clear hfz48_3
            try clear hfz52_0
            try clear hfz52_1
            try clear hfz52_2
            try clear hfz52_3
            try clear hfz55_0
            try clear hfz55_1
            try clear hfz55_2
            try clear hfz55_3
            try clear hfz57_0
            try clear hfz57_1
            try clear hfz57_2
            try clear hfz57_3
            try clear hfz5_0
            try clear hfz5_1
            try clear hfz5_2
            try clear hfz5_3
            try clear hfz65_0
            try clear hfz65_1
            try clear hfz65_2
            try clear hfz65_3
            try clear hfz68_0
            try clear hfz68_1
            try clear hfz68_2
            try clear hfz68_3
            try clear hfz71_0
            try clear hfz71_1
            try clear hfz71_2
            try clear hfz71_3
            try clear hfz75_0
            try clear hfz75_1
            try clear hfz75_2
            try clear hfz75_3
            try clear hfz78_0
            try clear hfz78_1
            try clear hfz78_2
            try clear hfz78_3
            try clear hfz81_0
            try clear hfz81_1
            try clear hfz81_2
            try clear hfz81_3
            try clear hfz84_0
            try clear hfz84_1
            try clear hfz84_2
            try clear hfz84_3
            try clear hfz89_0
            try clear hfz89_1
            try clear hfz89_2
            try clear hfz89_3
            try clear hfz8_0
            try clear hfz8_1
            try clear hfz8_2
            try clear hfz8_3
            try clear hfz91_0
            try clear hfz91_1
            try clear hfz91_2
            try clear hfz91_3
            try clear hfz93_0
            try clear hfz93_1
            try clear hfz93_2
            try clear hfz93_3
            try clear hfz98_0
            try clear hfz98_1
            try clear hfz98_2
            try clear hfz98_3
            try clear p19
            try clear p2
            try clear q19
            obtain ⟨kq, x98_104, rfl, HA, HJ104, BK251, HB⟩ := hcut
            cases kq with
            | zero => exact absurd HA.out (by simp [nuncioref14_Wrong.j1])
            | succ kj104 =>
             have H := HA.out
             clear HA
             simp only [nuncioref14_Wrong.j1] at H
             by_cases c112 : x98_104 = true
             ·
              subst c112
              have H1 : (some (2, 1)) = some (r1, r2) := by rw [if_pos rfl] at H; exact H
              clear H
              have H := H1
              clear H1
              simp only [Option.some.injEq, Prod.mk.injEq] at H
              obtain ⟨rfl, rfl⟩ := H
              go_wp2
              go_ret2
              exact ⟨by first | rfl | (simp [errW_none, errW_some] <;> rfl) | (simp [*, errW_none, errW_some] <;> rfl), by repeat (first | (with_reducible first | exact HB.out | apply below_alloc | apply pw_below_drewN | apply below_drew1 | refine below_set ?_ GE251.out) | exact HB.out)⟩
             ·
              replace c112 := Bool.eq_false_iff.mpr c112
              subst c112
              have H1 : ((nuncioref14_get.f kj104 a0_3 0 4).bind fun t259 => (if (Int.tmod t259 2147483648) = 0 then (some (1, 1)) else (some (0, 0)))) = some (r1, r2) := by rw [if_neg (show ¬ (false = true) by decide)] at H; exact H
              clear H
              have H := H1
              clear H1
              replace H := Option.bind_eq_some_iff.mp H
              obtain ⟨t259, A1130, H⟩ := H
              replace H : (if (Int.tmod t259 2147483648) = 0 then (some (1, 1)) else (some (0, 0))) = some (r1, r2) := H
              have A113 := Aside0.mk A1130
              clear A1130
              by_cases c114 : (Int.tmod t259 2147483648) = 0
              ·
               rw [if_pos c114] at H
               have c114b0 : ((Int.tmod t259 2147483648) == 0) = true := beq_iff_eq.mpr c114
               have c114b1 : ((Int.tmod t259 2147483648) != 0) = false := bne_eq_false_iff_eq.mpr c114
               clear c114
               (try (have c114b7 := c114b0; rw [Int.tmod_eq_emod_of_nonneg (Int.natCast_nonneg _)] at c114b7))
               (try (have c114b6 := c114b1; rw [Int.tmod_eq_emod_of_nonneg (Int.natCast_nonneg _)] at c114b6))
               simp only [Option.some.injEq, Prod.mk.injEq] at H
               obtain ⟨rfl, rfl⟩ := H
               have hcz115_0 : wc.cell? ⟨gb251, 0, none⟩ = some (.int .u8 a0_0) := (blk_cell BK251.out 0).trans rfl
               have hcz115_1 : wc.cell? ⟨gb251, 1, none⟩ = some (.int .u8 a0_1) := (blk_cell BK251.out 1).trans rfl
               have hcz115_2 : wc.cell? ⟨gb251, 2, none⟩ = some (.int .u32 a0_2) := (blk_cell BK251.out 2).trans rfl
               have hcz115_3 : wc.cell? ⟨gb251, 3, none⟩ = some (.string a0_3) := (blk_cell BK251.out 3).trans rfl
               have hfz115_0 := blk_frozen BK251.out 0
               have hfz115_1 := blk_frozen BK251.out 1
               have hfz115_2 := blk_frozen BK251.out 2
               have hfz115_3 := blk_frozen BK251.out 3
               go_wp2_with (first | ((with_reducible refine gate_callee (f := 24) rfl ?_); refine goesL_ (some 101) rfl rfl Try.func24 (by kernel_rfl) rfl #[.string a0_3, .int .i64 0, .int .i64 4] rfl (by (try simp only [List.map_toArray, List.map_cons, List.map_nil]); first | done | rfl | (simp only [List.length_drop, List.length_take]; rfl)) ?_; (with_reducible refine (nuncioref14_get.calls kj104 a0_3 0 4 t259 _ A113.out).mono ?_); rintro e w' ⟨rfl, ⟨nd, rfl⟩⟩; refine ⟨_, rfl, ?_⟩))
               go_ret2
               exact ⟨by first | rfl | (simp [errW_none, errW_some] <;> rfl) | (simp [*, errW_none, errW_some] <;> rfl), by repeat (first | (with_reducible first | exact HB.out | apply below_alloc | apply pw_below_drewN | apply below_drew1 | refine below_set ?_ GE251.out) | exact HB.out)⟩
              ·
               rw [if_neg c114] at H
               have c114b0 : ((Int.tmod t259 2147483648) == 0) = false := beq_eq_false_iff_ne.mpr c114
               have c114b1 : ((Int.tmod t259 2147483648) != 0) = true := bne_iff_ne.mpr c114
               (try (have c114b7 := c114b0; rw [Int.tmod_eq_emod_of_nonneg (Int.natCast_nonneg _)] at c114b7))
               (try (have c114b6 := c114b1; rw [Int.tmod_eq_emod_of_nonneg (Int.natCast_nonneg _)] at c114b6))
               simp only [Option.some.injEq, Prod.mk.injEq] at H
               obtain ⟨rfl, rfl⟩ := H
               have hcz116_0 : wc.cell? ⟨gb251, 0, none⟩ = some (.int .u8 a0_0) := (blk_cell BK251.out 0).trans rfl
               have hcz116_1 : wc.cell? ⟨gb251, 1, none⟩ = some (.int .u8 a0_1) := (blk_cell BK251.out 1).trans rfl
               have hcz116_2 : wc.cell? ⟨gb251, 2, none⟩ = some (.int .u32 a0_2) := (blk_cell BK251.out 2).trans rfl
               have hcz116_3 : wc.cell? ⟨gb251, 3, none⟩ = some (.string a0_3) := (blk_cell BK251.out 3).trans rfl
               have hfz116_0 := blk_frozen BK251.out 0
               have hfz116_1 := blk_frozen BK251.out 1
               have hfz116_2 := blk_frozen BK251.out 2
               have hfz116_3 := blk_frozen BK251.out 3
               go_wp2_with (first | ((with_reducible refine gate_callee (f := 24) rfl ?_); refine goesL_ (some 101) rfl rfl Try.func24 (by kernel_rfl) rfl #[.string a0_3, .int .i64 0, .int .i64 4] rfl (by (try simp only [List.map_toArray, List.map_cons, List.map_nil]); first | done | rfl | (simp only [List.length_drop, List.length_take]; rfl)) ?_; (with_reducible refine (nuncioref14_get.calls kj104 a0_3 0 4 t259 _ A113.out).mono ?_); rintro e w' ⟨rfl, ⟨nd, rfl⟩⟩; refine ⟨_, rfl, ?_⟩))
               go_ret2
               exact ⟨by first | rfl | (simp [errW_none, errW_some] <;> rfl) | (simp [*, errW_none, errW_some] <;> rfl), by repeat (first | (with_reducible first | exact HB.out | apply below_alloc | apply pw_below_drewN | apply below_drew1 | refine below_set ?_ GE251.out) | exact HB.out)⟩
          ·
           rw [if_neg c104] at H
           have c104b0 : ((a0_3.size : Int) == 4) = false := beq_eq_false_iff_ne.mpr c104
           have c104b1 : ((a0_3.size : Int) != 4) = true := bne_iff_ne.mpr c104
           simp only [Option.some.injEq, Prod.mk.injEq] at H
           obtain ⟨rfl, rfl⟩ := H
           go_enter Try.func14, Try.ntmps14
           go_wp2_with (first | ((with_reducible refine gate_dst (N := 1) rfl ?_); refine box_event ?hg (N := 1) ?hd (cs := #[.int .u8 a0_0, .int .u8 a0_1, .int .u32 a0_2, .string a0_3]) (t := 24) ?hr ?_; (case hd => rfl); (case hg => rfl); (case hr => first | (go_simp; done) | (go_simp; rfl)); intro gb251 hg w117 hbox hb; have n0_ := Aside0.mk (below_step (by repeat (first | (with_reducible first | exact HB.out | apply below_alloc | apply pw_below_drewN | apply below_drew1) | exact HB.out)) hb); have n1_ := Aside0.mk (hbox); have n2_ := Aside0.mk ((by rw [hg]; exact (below_size (by repeat (first | (with_reducible first | exact HB.out | apply below_alloc | apply pw_below_drewN | apply below_drew1) | exact HB.out))) : w.heap.size ≤ gb251)); have n3_ := Aside0.mk ((by rw [hg]; exact (below_size (by repeat (first | (with_reducible first | exact HB.out | apply below_alloc | apply pw_below_drewN | apply below_drew1) | exact HB.out))) : w.heap.size ≤ gb251)); clear HB; have HB := n0_; have BK251 := n1_; have GW251 := n2_; have GE251 := n3_; clear n0_ n1_ n2_ n3_; clear hb hbox hg; have hcz118_0 : w117.cell? ⟨gb251, 0, none⟩ = some (.int .u8 a0_0) := (blk_cell BK251.out 0).trans rfl; have hcz118_1 : w117.cell? ⟨gb251, 1, none⟩ = some (.int .u8 a0_1) := (blk_cell BK251.out 1).trans rfl; have hcz118_2 : w117.cell? ⟨gb251, 2, none⟩ = some (.int .u32 a0_2) := (blk_cell BK251.out 2).trans rfl; have hcz118_3 : w117.cell? ⟨gb251, 3, none⟩ = some (.string a0_3) := (blk_cell BK251.out 3).trans rfl; have hfz118_0 := blk_frozen BK251.out 0; have hfz118_1 := blk_frozen BK251.out 1; have hfz118_2 := blk_frozen BK251.out 2; have hfz118_3 := blk_frozen BK251.out 3))
           go_ret2
           exact ⟨by first | rfl | (simp [errW_none, errW_some] <;> rfl) | (simp [*, errW_none, errW_some] <;> rfl), by repeat (first | (with_reducible first | exact HB.out | apply below_alloc | apply pw_below_drewN | apply below_drew1 | refine below_set ?_ GE251.out) | exact HB.out)⟩
         ·
          rw [if_neg c103] at H
          have c103b0 : (a0_0 == 8) = false := beq_eq_false_iff_ne.mpr c103
          have c103b1 : (a0_0 != 8) = true := bne_iff_ne.mpr c103
          by_cases c119 : a0_0 = 9
          ·
           rw [if_pos c119] at H
           have c119b0 : (a0_0 == 9) = true := beq_iff_eq.mpr c119
           have c119b1 : (a0_0 != 9) = false := bne_eq_false_iff_eq.mpr c119
           clear c119
           by_cases c120 : a0_2 = 0
           ·
            rw [if_pos c120] at H
            have c120b0 : (a0_2 == 0) = true := beq_iff_eq.mpr c120
            have c120b1 : (a0_2 != 0) = false := bne_eq_false_iff_eq.mpr c120
            clear c120
            simp only [Option.some.injEq, Prod.mk.injEq] at H
            obtain ⟨rfl, rfl⟩ := H
            go_enter Try.func14, Try.ntmps14
            go_wp2_with (first | ((with_reducible refine gate_dst (N := 1) rfl ?_); refine box_event ?hg (N := 1) ?hd (cs := #[.int .u8 a0_0, .int .u8 a0_1, .int .u32 a0_2, .string a0_3]) (t := 24) ?hr ?_; (case hd => rfl); (case hg => rfl); (case hr => first | (go_simp; done) | (go_simp; rfl)); intro gb251 hg w121 hbox hb; have n0_ := Aside0.mk (below_step (by repeat (first | (with_reducible first | exact HB.out | apply below_alloc | apply pw_below_drewN | apply below_drew1) | exact HB.out)) hb); have n1_ := Aside0.mk (hbox); have n2_ := Aside0.mk ((by rw [hg]; exact (below_size (by repeat (first | (with_reducible first | exact HB.out | apply below_alloc | apply pw_below_drewN | apply below_drew1) | exact HB.out))) : w.heap.size ≤ gb251)); have n3_ := Aside0.mk ((by rw [hg]; exact (below_size (by repeat (first | (with_reducible first | exact HB.out | apply below_alloc | apply pw_below_drewN | apply below_drew1) | exact HB.out))) : w.heap.size ≤ gb251)); clear HB; have HB := n0_; have BK251 := n1_; have GW251 := n2_; have GE251 := n3_; clear n0_ n1_ n2_ n3_; clear hb hbox hg; have hcz122_0 : w121.cell? ⟨gb251, 0, none⟩ = some (.int .u8 a0_0) := (blk_cell BK251.out 0).trans rfl; have hcz122_1 : w121.cell? ⟨gb251, 1, none⟩ = some (.int .u8 a0_1) := (blk_cell BK251.out 1).trans rfl; have hcz122_2 : w121.cell? ⟨gb251, 2, none⟩ = some (.int .u32 a0_2) := (blk_cell BK251.out 2).trans rfl; have hcz122_3 : w121.cell? ⟨gb251, 3, none⟩ = some (.string a0_3) := (blk_cell BK251.out 3).trans rfl; have hfz122_0 := blk_frozen BK251.out 0; have hfz122_1 := blk_frozen BK251.out 1; have hfz122_2 := blk_frozen BK251.out 2; have hfz122_3 := blk_frozen BK251.out 3))
            go_ret2
            exact ⟨by first | rfl | (simp [errW_none, errW_some] <;> rfl) | (simp [*, errW_none, errW_some] <;> rfl), by repeat (first | (with_reducible first | exact HB.out | apply below_alloc | apply pw_below_drewN | apply below_drew1 | refine below_set ?_ GE251.out) | exact HB.out)⟩
           ·
            rw [if_neg c120] at H
            have c120b0 : (a0_2 == 0) = false := beq_eq_false_iff_ne.mpr c120
            have c120b1 : (a0_2 != 0) = true := bne_iff_ne.mpr c120
            simp only [Option.some.injEq, Prod.mk.injEq] at H
            obtain ⟨rfl, rfl⟩ := H
            go_enter Try.func14, Try.ntmps14
            go_wp2_with (first | ((with_reducible refine gate_dst (N := 1) rfl ?_); refine box_event ?hg (N := 1) ?hd (cs := #[.int .u8 a0_0, .int .u8 a0_1, .int .u32 a0_2, .string a0_3]) (t := 24) ?hr ?_; (case hd => rfl); (case hg => rfl); (case hr => first | (go_simp; done) | (go_simp; rfl)); intro gb251 hg w123 hbox hb; have n0_ := Aside0.mk (below_step (by repeat (first | (with_reducible first | exact HB.out | apply below_alloc | apply pw_below_drewN | apply below_drew1) | exact HB.out)) hb); have n1_ := Aside0.mk (hbox); have n2_ := Aside0.mk ((by rw [hg]; exact (below_size (by repeat (first | (with_reducible first | exact HB.out | apply below_alloc | apply pw_below_drewN | apply below_drew1) | exact HB.out))) : w.heap.size ≤ gb251)); have n3_ := Aside0.mk ((by rw [hg]; exact (below_size (by repeat (first | (with_reducible first | exact HB.out | apply below_alloc | apply pw_below_drewN | apply below_drew1) | exact HB.out))) : w.heap.size ≤ gb251)); clear HB; have HB := n0_; have BK251 := n1_; have GW251 := n2_; have GE251 := n3_; clear n0_ n1_ n2_ n3_; clear hb hbox hg; have hcz124_0 : w123.cell? ⟨gb251, 0, none⟩ = some (.int .u8 a0_0) := (blk_cell BK251.out 0).trans rfl; have hcz124_1 : w123.cell? ⟨gb251, 1, none⟩ = some (.int .u8 a0_1) := (blk_cell BK251.out 1).trans rfl; have hcz124_2 : w123.cell? ⟨gb251, 2, none⟩ = some (.int .u32 a0_2) := (blk_cell BK251.out 2).trans rfl; have hcz124_3 : w123.cell? ⟨gb251, 3, none⟩ = some (.string a0_3) := (blk_cell BK251.out 3).trans rfl; have hfz124_0 := blk_frozen BK251.out 0; have hfz124_1 := blk_frozen BK251.out 1; have hfz124_2 := blk_frozen BK251.out 2; have hfz124_3 := blk_frozen BK251.out 3))
            go_ret2
            exact ⟨by first | rfl | (simp [errW_none, errW_some] <;> rfl) | (simp [*, errW_none, errW_some] <;> rfl), by repeat (first | (with_reducible first | exact HB.out | apply below_alloc | apply pw_below_drewN | apply below_drew1 | refine below_set ?_ GE251.out) | exact HB.out)⟩
          ·
           rw [if_neg c119] at H
           have c119b0 : (a0_0 == 9) = false := beq_eq_false_iff_ne.mpr c119
           have c119b1 : (a0_0 != 9) = true := bne_iff_ne.mpr c119
           simp only [Option.some.injEq, Prod.mk.injEq] at H
           obtain ⟨rfl, rfl⟩ := H
           go_enter Try.func14, Try.ntmps14
           go_wp2_with (first | ((with_reducible refine gate_dst (N := 1) rfl ?_); refine box_event ?hg (N := 1) ?hd (cs := #[.int .u8 a0_0, .int .u8 a0_1, .int .u32 a0_2, .string a0_3]) (t := 24) ?hr ?_; (case hd => rfl); (case hg => rfl); (case hr => first | (go_simp; done) | (go_simp; rfl)); intro gb251 hg w125 hbox hb; have n0_ := Aside0.mk (below_step (by repeat (first | (with_reducible first | exact HB.out | apply below_alloc | apply pw_below_drewN | apply below_drew1) | exact HB.out)) hb); have n1_ := Aside0.mk (hbox); have n2_ := Aside0.mk ((by rw [hg]; exact (below_size (by repeat (first | (with_reducible first | exact HB.out | apply below_alloc | apply pw_below_drewN | apply below_drew1) | exact HB.out))) : w.heap.size ≤ gb251)); have n3_ := Aside0.mk ((by rw [hg]; exact (below_size (by repeat (first | (with_reducible first | exact HB.out | apply below_alloc | apply pw_below_drewN | apply below_drew1) | exact HB.out))) : w.heap.size ≤ gb251)); clear HB; have HB := n0_; have BK251 := n1_; have GW251 := n2_; have GE251 := n3_; clear n0_ n1_ n2_ n3_; clear hb hbox hg; have hcz126_0 : w125.cell? ⟨gb251, 0, none⟩ = some (.int .u8 a0_0) := (blk_cell BK251.out 0).trans rfl; have hcz126_1 : w125.cell? ⟨gb251, 1, none⟩ = some (.int .u8 a0_1) := (blk_cell BK251.out 1).trans rfl; have hcz126_2 : w125.cell? ⟨gb251, 2, none⟩ = some (.int .u32 a0_2) := (blk_cell BK251.out 2).trans rfl; have hcz126_3 : w125.cell? ⟨gb251, 3, none⟩ = some (.string a0_3) := (blk_cell BK251.out 3).trans rfl; have hfz126_0 := blk_frozen BK251.out 0; have hfz126_1 := blk_frozen BK251.out 1; have hfz126_2 := blk_frozen BK251.out 2; have hfz126_3 := blk_frozen BK251.out 3))
           go_ret2
           exact ⟨by first | rfl | (simp [errW_none, errW_some] <;> rfl) | (simp [*, errW_none, errW_some] <;> rfl), by repeat (first | (with_reducible first | exact HB.out | apply below_alloc | apply pw_below_drewN | apply below_drew1 | refine below_set ?_ GE251.out) | exact HB.out)⟩

end Go.Proofs.Ytimhhacnpjcjnaa.Mine
