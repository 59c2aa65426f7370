-- Written by this repo's own printer (wip/print), which builds on the kit's.
import Derived.Test.YtebnbjnkameicaaMinex0
namespace Go.Proofs.Ytebnbjnkameicaa.Mine
open Go.RowKit Go.Proofs.YtebnbjnkameicaaW.PrintWords Go.Proofs.YtebnbjnkameicaaW.PrintLast Go.Proofs.YtebnbjnkameicaaW.PrintMore
attribute [local go_sem] max2_int min2_int max_two min_two max_three min_three max_four min_four   -- for this text's walks alone
set_option linter.unusedVariables false
set_option linter.unusedSimpArgs false

/-! ### nunciolaw05_Spoil: function 19 -/
mutual
def nunciolaw05_Spoil.l0 : Nat → Int → ByteArray → Int → Int → Int → List ByteArray → List Int → List ByteArray → Option (List ByteArray × List Int × List ByteArray)
 | 0, _, _, _, _, _, _, _, _ => none
 | k + 1, x2, x310000, x310001, x310002, x310003, x310004, x310005, x310006 => if x2 < (x310004.length : Int) then (if 0 ≤ x2 then (nunciolaw05_Spoil.l0 k (wrap64 (x2 + 1)) x310000 x310001 x310002 x310003 (x310004.set (x2 : Int).toNat (⟨#[63]⟩ : ByteArray)) x310005 x310006) else (none)) else (nunciolaw05_Spoil.l1 k 0 x310000 x310001 x310002 x310003 x310004 x310005 x310006)
def nunciolaw05_Spoil.l1 : Nat → Int → ByteArray → Int → Int → Int → List ByteArray → List Int → List ByteArray → Option (List ByteArray × List Int × List ByteArray)
 | 0, _, _, _, _, _, _, _, _ => none
 | k + 1, x3, x310000, x310001, x310002, x310003, x310004, x310005, x310006 => if x3 < (x310005.length : Int) then (if 0 ≤ x3 then (nunciolaw05_Spoil.l1 k (wrap64 (x3 + 1)) x310000 x310001 x310002 x310003 x310004 (x310005.set (x3 : Int).toNat 77) x310006) else (none)) else (nunciolaw05_Spoil.l2 k 0 x310000 x310001 x310002 x310003 x310004 x310005 x310006)
def nunciolaw05_Spoil.l2 : Nat → Int → ByteArray → Int → Int → Int → List ByteArray → List Int → List ByteArray → Option (List ByteArray × List Int × List ByteArray)
 | 0, _, _, _, _, _, _, _, _ => none
 | k + 1, x4, x310000, x310001, x310002, x310003, x310004, x310005, x310006 => if x4 < (x310006.length : Int) then (if 0 ≤ x4 then (nunciolaw05_Spoil.l2 k (wrap64 (x4 + 1)) x310000 x310001 x310002 x310003 x310004 x310005 (x310006.set (x4 : Int).toNat (⟨#[63]⟩ : ByteArray))) else (none)) else (some (x310004, x310005, x310006))
end
def nunciolaw05_Spoil.f (k : Nat) (a0_0 : ByteArray) (a0_1 : Int) (a0_2 : Int) (a0_3 : Int) (l0_4 : List ByteArray) (l0_5 : List Int) (l0_6 : List ByteArray) : Option (List ByteArray × List Int × List ByteArray) := nunciolaw05_Spoil.l0 k 0 a0_0 a0_1 a0_2 a0_3 l0_4 l0_5 l0_6
theorem nunciolaw05_Spoil.mono_l : ∀ k, (∀ y0 y1 y2 y3 y4 y5 y6 y7, LeO (nunciolaw05_Spoil.l0 k y0 y1 y2 y3 y4 y5 y6 y7) (nunciolaw05_Spoil.l0 (k + 1) y0 y1 y2 y3 y4 y5 y6 y7)) ∧ (∀ y0 y1 y2 y3 y4 y5 y6 y7, LeO (nunciolaw05_Spoil.l1 k y0 y1 y2 y3 y4 y5 y6 y7) (nunciolaw05_Spoil.l1 (k + 1) y0 y1 y2 y3 y4 y5 y6 y7)) ∧ (∀ y0 y1 y2 y3 y4 y5 y6 y7, LeO (nunciolaw05_Spoil.l2 k y0 y1 y2 y3 y4 y5 y6 y7) (nunciolaw05_Spoil.l2 (k + 1) y0 y1 y2 y3 y4 y5 y6 y7))
 | 0 => ⟨fun _ _ _ _ _ _ _ _ r h => by simp [nunciolaw05_Spoil.l0] at h, fun _ _ _ _ _ _ _ _ r h => by simp [nunciolaw05_Spoil.l1] at h, fun _ _ _ _ _ _ _ _ r h => by simp [nunciolaw05_Spoil.l2] at h⟩
 | k + 1 => by
  obtain ⟨ih0, ih1, ih2⟩ := nunciolaw05_Spoil.mono_l k
  refine ⟨?_, ?_, ?_⟩
  ·
   intro y0 y1 y2 y3 y4 y5 y6 y7
   unfold nunciolaw05_Spoil.l0
   repeat' first
   | (with_reducible exact ih0 _ _ _ _ _ _ _ _)
   | (with_reducible exact ih1 _ _ _ _ _ _ _ _)
   | (with_reducible exact ih2 _ _ _ _ _ _ _ _)
   | (with_reducible exact LeO.refl _)
   | (with_reducible exact LeO.none _)
   | (with_reducible refine LeO.ite ?_ ?_)
   | (with_reducible refine LeO.bind ?_ (fun _ => ?_))
   | exact ih0 _ _ _ _ _ _ _ _
   | exact ih1 _ _ _ _ _ _ _ _
   | exact ih2 _ _ _ _ _ _ _ _
   | exact LeO.none _
   | refine LeO.ite ?_ ?_
   | refine LeO.bind ?_ (fun _ => ?_)
  ·
   intro y0 y1 y2 y3 y4 y5 y6 y7
   unfold nunciolaw05_Spoil.l1
   repeat' first
   | (with_reducible exact ih0 _ _ _ _ _ _ _ _)
   | (with_reducible exact ih1 _ _ _ _ _ _ _ _)
   | (with_reducible exact ih2 _ _ _ _ _ _ _ _)
   | (with_reducible exact LeO.refl _)
   | (with_reducible exact LeO.none _)
   | (with_reducible refine LeO.ite ?_ ?_)
   | (with_reducible refine LeO.bind ?_ (fun _ => ?_))
   | exact ih0 _ _ _ _ _ _ _ _
   | exact ih1 _ _ _ _ _ _ _ _
   | exact ih2 _ _ _ _ _ _ _ _
   | exact LeO.none _
   | refine LeO.ite ?_ ?_
   | refine LeO.bind ?_ (fun _ => ?_)
  ·
   intro y0 y1 y2 y3 y4 y5 y6 y7
   unfold nunciolaw05_Spoil.l2
   repeat' first
   | (with_reducible exact ih0 _ _ _ _ _ _ _ _)
   | (with_reducible exact ih1 _ _ _ _ _ _ _ _)
   | (with_reducible exact ih2 _ _ _ _ _ _ _ _)
   | (with_reducible exact LeO.refl _)
   | (with_reducible exact LeO.none _)
   | (with_reducible refine LeO.ite ?_ ?_)
   | (with_reducible refine LeO.bind ?_ (fun _ => ?_))
   | exact ih0 _ _ _ _ _ _ _ _
   | exact ih1 _ _ _ _ _ _ _ _
   | exact ih2 _ _ _ _ _ _ _ _
   | exact LeO.none _
   | refine LeO.ite ?_ ?_
   | refine LeO.bind ?_ (fun _ => ?_)
theorem nunciolaw05_Spoil.mono : ∀ a0 a1 a2 a3 a4 a5 a6 k, LeO (nunciolaw05_Spoil.f k a0 a1 a2 a3 a4 a5 a6) (nunciolaw05_Spoil.f (k + 1) a0 a1 a2 a3 a4 a5 a6) := by
 intro a0 a1 a2 a3 a4 a5 a6 k
 obtain ⟨ih0, ih1, ih2⟩ := nunciolaw05_Spoil.mono_l k
 unfold nunciolaw05_Spoil.f
 repeat' first
   | (with_reducible exact ih0 _ _ _ _ _ _ _ _)
   | (with_reducible exact ih1 _ _ _ _ _ _ _ _)
   | (with_reducible exact ih2 _ _ _ _ _ _ _ _)
   | (with_reducible exact LeO.refl _)
   | (with_reducible exact LeO.none _)
   | (with_reducible refine LeO.ite ?_ ?_)
   | (with_reducible refine LeO.bind ?_ (fun _ => ?_))
   | exact ih0 _ _ _ _ _ _ _ _
   | exact ih1 _ _ _ _ _ _ _ _
   | exact ih2 _ _ _ _ _ _ _ _
   | exact LeO.none _
   | refine LeO.ite ?_ ?_
   | refine LeO.bind ?_ (fun _ => ?_)
set_option maxHeartbeats 8000000 in
set_option maxRecDepth 100000 in
theorem nunciolaw05_Spoil.calls (k : Nat) (a0_0 : ByteArray) (a0_1 : Int) (a0_2 : Int) (a0_3 : Int) (P0_4_ : Nat → Prop) (u9000_ : Value) (l0_4 : List ByteArray) (P0_5_ : Nat → Prop) (u9001_ : Value) (l0_5 : List Int) (P0_6_ : Nat → Prop) (u9002_ : Value) (l0_6 : List ByteArray) (r1 : List ByteArray) (r2 : List Int) (r3 : List ByteArray) (w0 w : World) (hB : Below w0.heap.size w0 w) (ho0_4 : Kd.R Kd.string 9 w w0.heap.size P0_4_ u9000_ l0_4) (hp0_4_0_6 : ∀ k_, P0_4_ k_ → ¬ P0_6_ k_) (ho0_5 : Kd.R (Kd.int .u32) 23 w w0.heap.size P0_5_ u9001_ l0_5) (ho0_6 : Kd.R Kd.string 9 w w0.heap.size P0_6_ u9002_ l0_6) (hp0_6_0_4 : ∀ k_, P0_6_ k_ → ¬ P0_4_ k_) (h : nunciolaw05_Spoil.f k a0_0 a0_1 a0_2 a0_3 l0_4 l0_5 l0_6 = some (r1, r2, r3)) :
  Calls Try.prog 19 #[.agg #[.string a0_0, .int .u16 a0_1, .int .u16 a0_2, .int .u32 a0_3, u9000_, u9001_, u9002_]] w fun e w' => e = .returned (.tuple #[]) ∧ Kd.R Kd.string 9 w' w0.heap.size (fun k_ => ((P0_4_ k_ ∨ P0_5_ k_ ∨ P0_6_ k_) ∨ w.heap.size ≤ k_)) u9000_ r1 ∧ Kd.R (Kd.int .u32) 23 w' w0.heap.size (fun k_ => ((P0_4_ k_ ∨ P0_5_ k_ ∨ P0_6_ k_) ∨ w.heap.size ≤ k_)) u9001_ r2 ∧ Kd.R Kd.string 9 w' w0.heap.size (fun k_ => ((P0_4_ k_ ∨ P0_5_ k_ ∨ P0_6_ k_) ∨ w.heap.size ≤ k_)) u9002_ r3 ∧ Below w0.heap.size w0 w' ∧ Kept w w' (fun k_ => P0_4_ k_ ∨ P0_5_ k_ ∨ P0_6_ k_) := by
 have hu27 := Try.underlying27
 have HO0_4 := Aside0.mk (show Kd.R Kd.string 9 w w0.heap.size (fun k_ => ((P0_4_ k_ ∨ P0_5_ k_ ∨ P0_6_ k_) ∨ w.heap.size ≤ k_) ∧ some k_ ≠ (u9002_ : Value).ownBlock) u9000_ l0_4 from Kd.R_mono ho0_4 (fun k_ hk => ⟨(.inl (.inl hk)), fun e_ => hp0_4_0_6 k_ hk (ho0_6.1 k_ e_.symm)⟩))
 have HO0_5 := Aside0.mk (show Kd.R (Kd.int .u32) 23 w w0.heap.size (fun k_ => ((P0_4_ k_ ∨ P0_5_ k_ ∨ P0_6_ k_) ∨ w.heap.size ≤ k_)) u9001_ l0_5 from Kd.R_mono ho0_5 (fun k_ hk => (.inl (.inr (.inl hk)))))
 have HO0_6 := Aside0.mk (show Kd.R Kd.string 9 w w0.heap.size (fun k_ => ((P0_4_ k_ ∨ P0_5_ k_ ∨ P0_6_ k_) ∨ w.heap.size ≤ k_) ∧ some k_ ≠ (u9000_ : Value).ownBlock) u9002_ l0_6 from Kd.R_mono ho0_6 (fun k_ hk => ⟨(.inl (.inr (.inr hk))), fun e_ => hp0_6_0_4 k_ hk (ho0_4.1 k_ e_.symm)⟩))
 have HK := Aside0.mk (Kept.refl w (fun k_ => P0_4_ k_ ∨ P0_5_ k_ ∨ P0_6_ k_))
 have HW0 := Aside0.mk hB.size
 have HB := Aside0.mk hB
 clear hB
 have H : (nunciolaw05_Spoil.l0 k 0 a0_0 a0_1 a0_2 a0_3 l0_4 l0_5 l0_6) = some (r1, r2, r3) := h
 clear h
 have H' := Aside0.mk H
 clear H
 obtain ⟨Ao2, co2, eo2⟩ := Kd.R_slice HO0_4.out
 subst eo2
 obtain ⟨Ao3, co3, eo3⟩ := Kd.R_slice HO0_5.out
 subst eo3
 obtain ⟨Ao4, co4, eo4⟩ := Kd.R_slice HO0_6.out
 subst eo4
 go_enter Try.func19, Try.ntmps19
 go_wp2_with (first | ((with_reducible refine gate_dst (N := 1) rfl ?_); refine box_event ?hg (N := 1) ?hd (cs := #[.string a0_0, .int .u16 a0_1, .int .u16 a0_2, .int .u32 a0_3, .slice Ao2 l0_4.length co2, .slice Ao3 l0_5.length co3, .slice Ao4 l0_6.length co4]) (t := 27) ?hr ?_; (case hd => rfl); (case hg => rfl); (case hr => first | (go_simp; done) | (go_simp; rfl)); intro gb309 hg w5 hbox hb; have n0_ := Aside0.mk (Kd.R_below (by (with_reducible repeat (first | apply Kd.R_alloc | apply Kd.R_drewN | apply Kd.R_drew)); exact HO0_4.out) hb); have n1_ := Aside0.mk (Kd.R_below (by (with_reducible repeat (first | apply Kd.R_alloc | apply Kd.R_drewN | apply Kd.R_drew)); exact HO0_5.out) hb); have n2_ := Aside0.mk (Kd.R_below (by (with_reducible repeat (first | apply Kd.R_alloc | apply Kd.R_drewN | apply Kd.R_drew)); exact HO0_6.out) hb); have n3_ := Aside0.mk (Kept.below (S := (fun k_ => P0_4_ k_ ∨ P0_5_ k_ ∨ P0_6_ k_)) (by repeat (first | (with_reducible first | exact HK.out | apply Kept.alloc | apply Kept.drewN | apply Kept.drew) | exact HK.out)) hb); have n4_ := Aside0.mk (below_step (by repeat (first | (with_reducible first | exact HB.out | apply below_alloc | apply pw_below_drewN | apply below_drew1) | exact HB.out)) hb); have n5_ := Aside0.mk (hbox); have n6_ := Aside0.mk ((by rw [hg]; exact (by first | exact HK.out.1 | exact (show Kept w _ (fun k_ => P0_4_ k_ ∨ P0_5_ k_ ∨ P0_6_ k_) from by repeat (first | (with_reducible first | exact HK.out | apply Kept.alloc | apply Kept.drewN | apply Kept.drew) | exact HK.out)).1) : w.heap.size ≤ gb309)); have n7_ := Aside0.mk ((by rw [hg]; exact (below_size (by repeat (first | (with_reducible first | exact HB.out | apply below_alloc | apply pw_below_drewN | apply below_drew1) | exact HB.out))) : w0.heap.size ≤ gb309)); clear HO0_4; clear HO0_5; clear HO0_6; clear HK; clear HB; have HO0_4 := n0_; have HO0_5 := n1_; have HO0_6 := n2_; have HK := n3_; have HB := n4_; have BK309 := n5_; have GW309 := n6_; have GE309 := n7_; clear n0_ n1_ n2_ n3_ n4_ n5_ n6_ n7_; clear hb hbox hg))
 go_loopg [2] k (fun kq v2 w' => ∃ (x2_1 : Int) (x310004_1 : List ByteArray) (x310006_1 : List ByteArray), v2 = .int .i64 x2_1 ∧ Aside0 (nunciolaw05_Spoil.l0 kq x2_1 a0_0 a0_1 a0_2 a0_3 x310004_1 l0_5 x310006_1 = some (r1, r2, r3)) ∧ Aside0 (kq ≤ k) ∧ Aside0 (Kd.R Kd.string 9 w' w0.heap.size (fun k_ => ((P0_4_ k_ ∨ P0_5_ k_ ∨ P0_6_ k_) ∨ w.heap.size ≤ k_) ∧ some k_ ≠ ((.slice Ao4 l0_6.length co4) : Value).ownBlock) (.slice Ao2 l0_4.length co2) x310004_1) ∧ Aside0 (Kd.R (Kd.int .u32) 23 w' w0.heap.size (fun k_ => ((P0_4_ k_ ∨ P0_5_ k_ ∨ P0_6_ k_) ∨ w.heap.size ≤ k_)) (.slice Ao3 l0_5.length co3) l0_5) ∧ Aside0 (Kd.R Kd.string 9 w' w0.heap.size (fun k_ => ((P0_4_ k_ ∨ P0_5_ k_ ∨ P0_6_ k_) ∨ w.heap.size ≤ k_) ∧ some k_ ≠ ((.slice Ao2 l0_4.length co2) : Value).ownBlock) (.slice Ao4 l0_6.length co4) x310006_1) ∧ Aside0 (w'.heap[gb309]? = some (.cells #[.string a0_0, .int .u16 a0_1, .int .u16 a0_2, .int .u32 a0_3, (.slice Ao2 l0_4.length co2), (.slice Ao3 l0_5.length co3), (.slice Ao4 l0_6.length co4)] 27 (0, 0))) ∧ Aside0 (Kept w w' (fun k_ => P0_4_ k_ ∨ P0_5_ k_ ∨ P0_6_ k_)) ∧ Aside0 (Below w0.heap.size w0 w'))
 case atStart => exact ⟨(0), (l0_4), (l0_6), (by first | rfl | (simp; done) | (simp [*]; done)), H', ⟨Nat.le_refl _⟩, ⟨by (with_reducible repeat (first | apply Kd.R_alloc | apply Kd.R_drewN | apply Kd.R_drew)); exact HO0_4.out⟩, ⟨by (with_reducible repeat (first | apply Kd.R_alloc | apply Kd.R_drewN | apply Kd.R_drew)); exact HO0_5.out⟩, ⟨by (with_reducible repeat (first | apply Kd.R_alloc | apply Kd.R_drewN | apply Kd.R_drew)); exact HO0_6.out⟩, ⟨by (with_reducible repeat (first | refine blk_drewN ?_ _ | refine blk_drew ?_ | refine blk_alloc ?_ _)); exact BK309.out⟩, ⟨by repeat (first | (with_reducible first | exact HK.out | apply Kept.alloc | apply Kept.drewN | apply Kept.drew | refine Kept.setCell ?_ (.inr GW309.out) _) | exact HK.out)⟩, ⟨by repeat (first | (with_reducible first | exact HB.out | apply below_alloc | apply pw_below_drewN | apply below_drew1 | refine below_set ?_ GE309.out) | exact HB.out)⟩⟩
 case round =>
  clear H'
  try clear c1
  try clear p2
  obtain ⟨x2_1, x310004_1, x310006_1, rfl, HA, HK1, HO_310004, HO_310005, HO_310006, BK309, HK, HB⟩ := hrel
  have hl310004_1 := (Kd.R_reads' HO_310004.out).1
  rw [hl310004_1] at HO_310004
  (try simp only [hl310004_1])
  (try simp only [hl310004_1] at BK309)
  (try simp only [hl310004_1] at HO_310005)
  (try simp only [hl310004_1] at HO_310006)
  have hl310006_1 := (Kd.R_reads' HO_310006.out).1
  rw [hl310006_1] at HO_310006
  (try simp only [hl310006_1])
  (try simp only [hl310006_1] at BK309)
  (try simp only [hl310006_1] at HO_310004)
  (try simp only [hl310006_1] at HO_310005)
  cases gk with
  | zero => exact absurd HA.out (by simp [nunciolaw05_Spoil.l0])
  | succ k1 =>
   have H := HA.out
   clear HA
   simp only [nunciolaw05_Spoil.l0] at H
   by_cases c6 : x2_1 < (x310004_1.length : Int)
   ·
    rw [if_pos c6] at H
    have c6b0 : decide (x2_1 < (x310004_1.length : Int)) = true := decide_eq_true c6
    clear c6
    by_cases c7 : 0 ≤ x2_1
    ·
     rw [if_pos c7] at H
     have c7b0 : decide (0 ≤ x2_1) = true := decide_eq_true c7
     clear c7
     obtain ⟨y310, hy310⟩ : ∃ y_ : List ByteArray, y_ = (x310004_1.set (x2_1 : Int).toNat (⟨#[63]⟩ : ByteArray)) := ⟨_, rfl⟩
     replace H : (nunciolaw05_Spoil.l0 k1 (wrap64 (x2_1 + 1)) a0_0 a0_1 a0_2 a0_3 y310 l0_5 x310006_1) = some (r1, r2, r3) := by first | (rw [hy310]; with_reducible exact H) | (have H2_ := (Option.bind_some _ _).symm.trans H; rw [hy310]; with_reducible exact H2_) | (have H2_ := (Option.bind_some _ _).symm.trans H; with_reducible exact H2_) | with_reducible exact H | (rw [hy310]; exact H) | exact H
     have Ny310 := Aside0.mk hy310
     clear hy310
     have H' := Aside0.mk H
     clear H
     have hcz9_0 : wr.cell? ⟨gb309, 0, none⟩ = some (.string a0_0) := (blk_cell BK309.out 0).trans rfl
     have hcz9_1 : wr.cell? ⟨gb309, 1, none⟩ = some (.int .u16 a0_1) := (blk_cell BK309.out 1).trans rfl
     have hcz9_2 : wr.cell? ⟨gb309, 2, none⟩ = some (.int .u16 a0_2) := (blk_cell BK309.out 2).trans rfl
     have hcz9_3 : wr.cell? ⟨gb309, 3, none⟩ = some (.int .u32 a0_3) := (blk_cell BK309.out 3).trans rfl
     have hcz9_4 : wr.cell? ⟨gb309, 4, none⟩ = some (.slice Ao2 x310004_1.length co2) := (blk_cell BK309.out 4).trans rfl
     have hcz9_5 : wr.cell? ⟨gb309, 5, none⟩ = some (.slice Ao3 l0_5.length co3) := (blk_cell BK309.out 5).trans rfl
     have hcz9_6 : wr.cell? ⟨gb309, 6, none⟩ = some (.slice Ao4 x310006_1.length co4) := (blk_cell BK309.out 6).trans rfl
     have hfz9_0 := blk_frozen BK309.out 0
     have hfz9_1 := blk_frozen BK309.out 1
     have hfz9_2 := blk_frozen BK309.out 2
     have hfz9_3 := blk_frozen BK309.out 3
     have hfz9_4 := blk_frozen BK309.out 4
     have hfz9_5 := blk_frozen BK309.out 5
     have hfz9_6 := blk_frozen BK309.out 6
     have p8 : 0 ≤ (x2_1 : Int) := of_decide_eq_true (by first | (with_reducible assumption) | assumption)
     have q8 : (x2_1 : Int) < ((x310004_1.length : Int) : Int) := of_decide_eq_true (by first | (with_reducible assumption) | assumption)
     obtain ⟨go8, co8, eo8, gb8, gl8, cl8, HG8⟩ := Kd.R_form HO_310004.out (by omega)
     (first | cases eo8 | (injection eo8 with ea_ en_ ec_; (first | subst ea_ | (injection ea_ with ea_; subst ea_)); subst ec_; clear en_))
     have GB8 := Aside0.mk gb8
     have GG8 := Aside0.mk HG8
     clear gb8 gl8 HG8
     have HMgo8 := Aside0.mk (show ((P0_4_ go8 ∨ P0_5_ go8 ∨ P0_6_ go8) ∨ w.heap.size ≤ go8) from (HO_310004.out.1 _ rfl).1)
     obtain ⟨hx8_0, hf8_0⟩ := Kd.R_celln (⟨#[]⟩ : ByteArray) HO_310004.out (x2_1 : Int) p8 q8
     replace p8 := eq_true p8
     replace q8 := eq_true q8
     have HP10 := Kd.R_putg HO_310004.out (x2_1 : Int) (⟨#[63]⟩ : ByteArray)
     go_wp2_with (first | ((with_reducible refine gate_store (t := 9) (p := 15) rfl ?_); refine store_event (t := 9) (p := 15) (v := ?vo_w11) (w1 := (wr.setCell ⟨go8, (x2_1 : Int).toNat, none⟩ (.string (⟨#[63]⟩ : ByteArray)))) ?hg ?ho ?hn ?hr ?_; (case ho => rfl); (case hg => rfl); (case hn => rfl); (case hr => first | (go_simp; done) | (go_simp; rfl)); intro w11 hw; have hg : wr.grownBy w11 (some go8) := (by rw [hw]; exact HP10.2); have hp_ : Kd.R Kd.string 9 w11 w0.heap.size (fun k_ => ((P0_4_ k_ ∨ P0_5_ k_ ∨ P0_6_ k_) ∨ w.heap.size ≤ k_) ∧ some k_ ≠ (.slice Ao4 x310006_1.length co4 : Value).ownBlock) (.slice (some ⟨go8, 0, none⟩) x310004_1.length co2) y310 := (by rw [hw, Ny310.out]; exact HP10.1); clear HP10; have n0_ := Aside0.mk (hp_); have n1_ := Aside0.mk (Kd.R_over' (v := (.slice (some ⟨go8, 0, none⟩) x310004_1.length co2)) (by (with_reducible repeat (first | apply Kd.R_alloc | apply Kd.R_drewN | apply Kd.R_drew)); exact HO_310005.out) (Kd.R_typed HO_310004.out) (by decide) hg); have n2_ := Aside0.mk (Kd.R_after (v := (.slice (some ⟨go8, 0, none⟩) x310004_1.length co2)) (v1 := (.slice (some ⟨go8, 0, none⟩) x310004_1.length co2)) (ok := (fun k_ => ((P0_4_ k_ ∨ P0_5_ k_ ∨ P0_6_ k_) ∨ w.heap.size ≤ k_))) (by (with_reducible repeat (first | apply Kd.R_alloc | apply Kd.R_drewN | apply Kd.R_drew)); exact HO_310006.out) hg (.inl rfl)); have n3_ := Aside0.mk (blk_grown (g := gb309) (o := .cells #[.string a0_0, .int .u16 a0_1, .int .u16 a0_2, .int .u32 a0_3, .slice (some ⟨go8, 0, none⟩) x310004_1.length co2, .slice Ao3 l0_5.length co3, .slice Ao4 x310006_1.length co4] 27 (0, 0)) (by (with_reducible repeat (first | refine blk_drewN ?_ _ | refine blk_drew ?_ | refine blk_alloc ?_ _)); exact BK309.out) hg (Kd.R_ne HO_310004.out BK309.out (by decide))); have n4_ := Aside0.mk ((by rw [hw]; exact below_set (HB.out) GB8.out : Below w0.heap.size w0 w11)); have n5_ := Aside0.mk (Kept.of_grown (S := (fun k_ => P0_4_ k_ ∨ P0_5_ k_ ∨ P0_6_ k_)) hg (by repeat (first | (with_reducible first | exact HK.out | apply Kept.alloc | apply Kept.drewN | apply Kept.drew | refine Kept.setCell ?_ (.inr GW309.out) _) | exact HK.out)) (fun k_ e_ => (HO_310004.out.1 k_ e_).1)); clear HO_310004; clear HO_310005; clear HO_310006; clear BK309; clear HB; clear HK; have HO_310004 := n0_; have HO_310005 := n1_; have HO_310006 := n2_; have BK309 := n3_; have HB := n4_; have HK := n5_; clear n0_ n1_ n2_ n3_ n4_ n5_; clear hg hw hp_))
     (try simp only [← hl310004_1, ← hl310006_1])
     go_roundg k1
     case measure => have := HK1.out; omega
     case rel => exact ⟨(wrap64 (x2_1 + 1)), (y310), (x310006_1), (by first | rfl | (simp; done) | (simp [*]; done)), H', ⟨by have := HK1.out; omega⟩, ⟨by (try simp only [hl310004_1]); (try simp only [hl310006_1]); (with_reducible repeat (first | apply Kd.R_alloc | apply Kd.R_drewN | apply Kd.R_drew)); exact HO_310004.out⟩, ⟨by (try simp only [hl310004_1]); (try simp only [hl310006_1]); (with_reducible repeat (first | apply Kd.R_alloc | apply Kd.R_drewN | apply Kd.R_drew)); exact HO_310005.out⟩, ⟨by (try simp only [hl310004_1]); (try simp only [hl310006_1]); (with_reducible repeat (first | apply Kd.R_alloc | apply Kd.R_drewN | apply Kd.R_drew)); exact HO_310006.out⟩, ⟨by (try simp only [hl310004_1]); (try simp only [hl310006_1]); (with_reducible repeat (first | refine blk_drewN ?_ _ | refine blk_drew ?_ | refine blk_alloc ?_ _)); exact BK309.out⟩, ⟨by repeat (first | (with_reducible first | exact HK.out | apply Kept.alloc | apply Kept.drewN | apply Kept.drew | refine Kept.setCell ?_ (.inr GW309.out) _) | exact HK.out)⟩, ⟨by repeat (first | (with_reducible first | exact HB.out | apply below_alloc | apply pw_below_drewN | apply below_drew1 | refine below_set ?_ GE309.out) | exact HB.out)⟩⟩
    ·
     rw [if_neg c7] at H
     exact absurd H (by simp)
   ·
    rw [if_neg c6] at H
    have c6b0 : decide (x2_1 < (x310004_1.length : Int)) = false := decide_eq_false c6
    clear c6
    have H' := Aside0.mk H
    clear H
    have hcz12_0 : wr.cell? ⟨gb309, 0, none⟩ = some (.string a0_0) := (blk_cell BK309.out 0).trans rfl
    have hcz12_1 : wr.cell? ⟨gb309, 1, none⟩ = some (.int .u16 a0_1) := (blk_cell BK309.out 1).trans rfl
    have hcz12_2 : wr.cell? ⟨gb309, 2, none⟩ = some (.int .u16 a0_2) := (blk_cell BK309.out 2).trans rfl
    have hcz12_3 : wr.cell? ⟨gb309, 3, none⟩ = some (.int .u32 a0_3) := (blk_cell BK309.out 3).trans rfl
    have hcz12_4 : wr.cell? ⟨gb309, 4, none⟩ = some (.slice Ao2 x310004_1.length co2) := (blk_cell BK309.out 4).trans rfl
    have hcz12_5 : wr.cell? ⟨gb309, 5, none⟩ = some (.slice Ao3 l0_5.length co3) := (blk_cell BK309.out 5).trans rfl
    have hcz12_6 : wr.cell? ⟨gb309, 6, none⟩ = some (.slice Ao4 x310006_1.length co4) := (blk_cell BK309.out 6).trans rfl
    have hfz12_0 := blk_frozen BK309.out 0
    have hfz12_1 := blk_frozen BK309.out 1
    have hfz12_2 := blk_frozen BK309.out 2
    have hfz12_3 := blk_frozen BK309.out 3
    have hfz12_4 := blk_frozen BK309.out 4
    have hfz12_5 := blk_frozen BK309.out 5
    have hfz12_6 := blk_frozen BK309.out 6
    go_wp2
    go_loopg [3] k1 (fun kq v3 w' => ∃ (x3_2 : Int) (x310005_2 : List Int), v3 = .int .i64 x3_2 ∧ Aside0 (nunciolaw05_Spoil.l1 kq x3_2 a0_0 a0_1 a0_2 a0_3 x310004_1 x310005_2 x310006_1 = some (r1, r2, r3)) ∧ Aside0 (kq ≤ k1) ∧ Aside0 (Kd.R Kd.string 9 w' w0.heap.size (fun k_ => ((P0_4_ k_ ∨ P0_5_ k_ ∨ P0_6_ k_) ∨ w.heap.size ≤ k_) ∧ some k_ ≠ ((.slice Ao4 x310006_1.length co4) : Value).ownBlock) (.slice Ao2 x310004_1.length co2) x310004_1) ∧ Aside0 (Kd.R (Kd.int .u32) 23 w' w0.heap.size (fun k_ => ((P0_4_ k_ ∨ P0_5_ k_ ∨ P0_6_ k_) ∨ w.heap.size ≤ k_)) (.slice Ao3 l0_5.length co3) x310005_2) ∧ Aside0 (Kd.R Kd.string 9 w' w0.heap.size (fun k_ => ((P0_4_ k_ ∨ P0_5_ k_ ∨ P0_6_ k_) ∨ w.heap.size ≤ k_) ∧ some k_ ≠ ((.slice Ao2 x310004_1.length co2) : Value).ownBlock) (.slice Ao4 x310006_1.length co4) x310006_1) ∧ Aside0 (w'.heap[gb309]? = some (.cells #[.string a0_0, .int .u16 a0_1, .int .u16 a0_2, .int .u32 a0_3, (.slice Ao2 x310004_1.length co2), (.slice Ao3 l0_5.length co3), (.slice Ao4 x310006_1.length co4)] 27 (0, 0))) ∧ Aside0 (Kept w w' (fun k_ => P0_4_ k_ ∨ P0_5_ k_ ∨ P0_6_ k_)) ∧ Aside0 (Below w0.heap.size w0 w'))
    case atStart => exact ⟨(0), (l0_5), (by first | rfl | (simp; done) | (simp [*]; done)), H', ⟨Nat.le_refl _⟩, ⟨by (try simp only [hl310004_1]); (try simp only [hl310006_1]); (with_reducible repeat (first | apply Kd.R_alloc | apply Kd.R_drewN | apply Kd.R_drew)); exact HO_310004.out⟩, ⟨by (try simp only [hl310004_1]); (try simp only [hl310006_1]); (with_reducible repeat (first | apply Kd.R_alloc | apply Kd.R_drewN | apply Kd.R_drew)); exact HO_310005.out⟩, ⟨by (try simp only [hl310004_1]); (try simp only [hl310006_1]); (with_reducible repeat (first | apply Kd.R_alloc | apply Kd.R_drewN | apply Kd.R_drew)); exact HO_310006.out⟩, ⟨by (try simp only [hl310004_1]); (try simp only [hl310006_1]); (with_reducible repeat (first | refine blk_drewN ?_ _ | refine blk_drew ?_ | refine blk_alloc ?_ _)); exact BK309.out⟩, ⟨by repeat (first | (with_reducible first | exact HK.out | apply Kept.alloc | apply Kept.drewN | apply Kept.drew | refine Kept.setCell ?_ (.inr GW309.out) _) | exact HK.out)⟩, ⟨by repeat (first | (with_reducible first | exact HB.out | apply below_alloc | apply pw_below_drewN | apply below_drew1 | refine below_set ?_ GE309.out) | exact HB.out)⟩⟩
    case round =>
     clear H'
     try clear c1
     try clear p2
     try clear c6
     try clear c6b0
     try clear p6
     try clear c7
     try clear c7b0
     try clear p8
     try clear q8
     try clear hx8
     try clear hf8
     try clear hcz12_0
     try clear hcz12_1
     try clear hcz12_2
     try clear hcz12_3
     try clear hcz12_4
     try clear hcz12_5
     try clear hcz12_6
     try clear hcz9_0
     try clear hcz9_1
     try clear hcz9_2
     try clear hcz9_3
     try clear hcz9_4
     try clear hcz9_5
     try clear hcz9_6
     try clear hfz12_0
     try clear hfz12_1
     try clear hfz12_2
     try clear hfz12_3
     try clear hfz12_4
     try clear hfz12_5
     try clear hfz12_6
     try clear hfz9_0
     try clear hfz9_1
     try clear hfz9_2
     try clear hfz9_3
     try clear hfz9_4
     try clear hfz9_5
     try clear hfz9_6
     try clear hx8_0
     try clear p2
     try clear p8
     try clear q8
     obtain ⟨x3_2, x310005_2, rfl, HA, HK2, HO_310004, HO_310005, HO_310006, BK309, HK, HB⟩ := hrel
     have hl310005_2 := (Kd.R_reads' HO_310005.out).1
     rw [hl310005_2] at HO_310005
     (try simp only [hl310005_2])
     (try simp only [hl310005_2] at BK309)
     (try simp only [hl310005_2] at HO_310004)
     (try simp only [hl310005_2] at HO_310006)
     cases gk with
     | zero => exact absurd HA.out (by simp [nunciolaw05_Spoil.l1])
     | succ k2 =>
      have H := HA.out
      clear HA
      simp only [nunciolaw05_Spoil.l1] at H
      by_cases c13 : x3_2 < (x310005_2.length : Int)
      ·
       rw [if_pos c13] at H
       have c13b0 : decide (x3_2 < (x310005_2.length : Int)) = true := decide_eq_true c13
       clear c13
       by_cases c14 : 0 ≤ x3_2
       ·
        rw [if_pos c14] at H
        have c14b0 : decide (0 ≤ x3_2) = true := decide_eq_true c14
        clear c14
        obtain ⟨y311, hy311⟩ : ∃ y_ : List Int, y_ = (x310005_2.set (x3_2 : Int).toNat 77) := ⟨_, rfl⟩
        replace H : (nunciolaw05_Spoil.l1 k2 (wrap64 (x3_2 + 1)) a0_0 a0_1 a0_2 a0_3 x310004_1 y311 x310006_1) = some (r1, r2, r3) := by first | (rw [hy311]; with_reducible exact H) | (have H2_ := (Option.bind_some _ _).symm.trans H; rw [hy311]; with_reducible exact H2_) | (have H2_ := (Option.bind_some _ _).symm.trans H; with_reducible exact H2_) | with_reducible exact H | (rw [hy311]; exact H) | exact H
        have Ny311 := Aside0.mk hy311
        clear hy311
        have H' := Aside0.mk H
        clear H
        have hcz16_0 : wr.cell? ⟨gb309, 0, none⟩ = some (.string a0_0) := (blk_cell BK309.out 0).trans rfl
        have hcz16_1 : wr.cell? ⟨gb309, 1, none⟩ = some (.int .u16 a0_1) := (blk_cell BK309.out 1).trans rfl
        have hcz16_2 : wr.cell? ⟨gb309, 2, none⟩ = some (.int .u16 a0_2) := (blk_cell BK309.out 2).trans rfl
        have hcz16_3 : wr.cell? ⟨gb309, 3, none⟩ = some (.int .u32 a0_3) := (blk_cell BK309.out 3).trans rfl
        have hcz16_4 : wr.cell? ⟨gb309, 4, none⟩ = some (.slice Ao2 x310004_1.length co2) := (blk_cell BK309.out 4).trans rfl
        have hcz16_5 : wr.cell? ⟨gb309, 5, none⟩ = some (.slice Ao3 x310005_2.length co3) := (blk_cell BK309.out 5).trans rfl
        have hcz16_6 : wr.cell? ⟨gb309, 6, none⟩ = some (.slice Ao4 x310006_1.length co4) := (blk_cell BK309.out 6).trans rfl
        have hfz16_0 := blk_frozen BK309.out 0
        have hfz16_1 := blk_frozen BK309.out 1
        have hfz16_2 := blk_frozen BK309.out 2
        have hfz16_3 := blk_frozen BK309.out 3
        have hfz16_4 := blk_frozen BK309.out 4
        have hfz16_5 := blk_frozen BK309.out 5
        have hfz16_6 := blk_frozen BK309.out 6
        have p15 : 0 ≤ (x3_2 : Int) := of_decide_eq_true (by first | (with_reducible assumption) | assumption)
        have q15 : (x3_2 : Int) < ((x310005_2.length : Int) : Int) := of_decide_eq_true (by first | (with_reducible assumption) | assumption)
        obtain ⟨go15, co15, eo15, gb15, gl15, cl15, HG15⟩ := Kd.R_form HO_310005.out (by omega)
        (first | cases eo15 | (injection eo15 with ea_ en_ ec_; (first | subst ea_ | (injection ea_ with ea_; subst ea_)); subst ec_; clear en_))
        have GB15 := Aside0.mk gb15
        have GG15 := Aside0.mk HG15
        clear gb15 gl15 HG15
        have HMgo15 := Aside0.mk (show ((P0_4_ go15 ∨ P0_5_ go15 ∨ P0_6_ go15) ∨ w.heap.size ≤ go15) from (HO_310005.out.1 _ rfl))
        obtain ⟨hx15_0, hf15_0⟩ := Kd.R_celln 0 HO_310005.out (x3_2 : Int) p15 q15
        replace p15 := eq_true p15
        replace q15 := eq_true q15
        have HP17 := Kd.R_putg HO_310005.out (x3_2 : Int) 77
        go_wp2_with (first | ((with_reducible refine gate_store (t := 23) (p := 26) rfl ?_); refine store_event (t := 23) (p := 26) (v := ?vo_w18) (w1 := (wr.setCell ⟨go15, (x3_2 : Int).toNat, none⟩ (.int .u32 77))) ?hg ?ho ?hn ?hr ?_; (case ho => rfl); (case hg => rfl); (case hn => rfl); (case hr => first | (go_simp; done) | (go_simp; rfl)); intro w18 hw; have hg : wr.grownBy w18 (some go15) := (by rw [hw]; exact HP17.2); have hp_ : Kd.R (Kd.int .u32) 23 w18 w0.heap.size (fun k_ => ((P0_4_ k_ ∨ P0_5_ k_ ∨ P0_6_ k_) ∨ w.heap.size ≤ k_)) (.slice (some ⟨go15, 0, none⟩) x310005_2.length co3) y311 := (by rw [hw, Ny311.out]; exact HP17.1); clear HP17; have n0_ := Aside0.mk (Kd.R_over' (v := (.slice (some ⟨go15, 0, none⟩) x310005_2.length co3)) (by (with_reducible repeat (first | apply Kd.R_alloc | apply Kd.R_drewN | apply Kd.R_drew)); exact HO_310004.out) (Kd.R_typed HO_310005.out) (by decide) hg); have n1_ := Aside0.mk (hp_); have n2_ := Aside0.mk (Kd.R_over' (v := (.slice (some ⟨go15, 0, none⟩) x310005_2.length co3)) (by (with_reducible repeat (first | apply Kd.R_alloc | apply Kd.R_drewN | apply Kd.R_drew)); exact HO_310006.out) (Kd.R_typed HO_310005.out) (by decide) hg); have n3_ := Aside0.mk (blk_grown (g := gb309) (o := .cells #[.string a0_0, .int .u16 a0_1, .int .u16 a0_2, .int .u32 a0_3, .slice Ao2 x310004_1.length co2, .slice (some ⟨go15, 0, none⟩) x310005_2.length co3, .slice Ao4 x310006_1.length co4] 27 (0, 0)) (by (with_reducible repeat (first | refine blk_drewN ?_ _ | refine blk_drew ?_ | refine blk_alloc ?_ _)); exact BK309.out) hg (Kd.R_ne HO_310005.out BK309.out (by decide))); have n4_ := Aside0.mk ((by rw [hw]; exact below_set (HB.out) GB15.out : Below w0.heap.size w0 w18)); have n5_ := Aside0.mk (Kept.of_grown (S := (fun k_ => P0_4_ k_ ∨ P0_5_ k_ ∨ P0_6_ k_)) hg (by repeat (first | (with_reducible first | exact HK.out | apply Kept.alloc | apply Kept.drewN | apply Kept.drew | refine Kept.setCell ?_ (.inr GW309.out) _) | exact HK.out)) (fun k_ e_ => (HO_310005.out.1 k_ e_))); clear HO_310004; clear HO_310005; clear HO_310006; clear BK309; clear HB; clear HK; have HO_310004 := n0_; have HO_310005 := n1_; have HO_310006 := n2_; have BK309 := n3_; have HB := n4_; have HK := n5_; clear n0_ n1_ n2_ n3_ n4_ n5_; clear hg hw hp_))
        (try simp only [← hl310005_2])
        go_roundg k2
        case measure => have := HK1.out; have := HK2.out; omega
        case rel => exact ⟨(wrap64 (x3_2 + 1)), (y311), (by first | rfl | (simp; done) | (simp [*]; done)), H', ⟨by have := HK1.out; have := HK2.out; omega⟩, ⟨by (try simp only [hl310004_1]); (try simp only [hl310006_1]); (try simp only [hl310005_2]); (with_reducible repeat (first | apply Kd.R_alloc | apply Kd.R_drewN | apply Kd.R_drew)); exact HO_310004.out⟩, ⟨by (try simp only [hl310004_1]); (try simp only [hl310006_1]); (try simp only [hl310005_2]); (with_reducible repeat (first | apply Kd.R_alloc | apply Kd.R_drewN | apply Kd.R_drew)); exact HO_310005.out⟩, ⟨by (try simp only [hl310004_1]); (try simp only [hl310006_1]); (try simp only [hl310005_2]); (with_reducible repeat (first | apply Kd.R_alloc | apply Kd.R_drewN | apply Kd.R_drew)); exact HO_310006.out⟩, ⟨by (try simp only [hl310004_1]); (try simp only [hl310006_1]); (try simp only [hl310005_2]); (with_reducible repeat (first | refine blk_drewN ?_ _ | refine blk_drew ?_ | refine blk_alloc ?_ _)); exact BK309.out⟩, ⟨by repeat (first | (with_reducible first | exact HK.out | apply Kept.alloc | apply Kept.drewN | apply Kept.drew | refine Kept.setCell ?_ (.inr GW309.out) _) | exact HK.out)⟩, ⟨by repeat (first | (with_reducible first | exact HB.out | apply below_alloc | apply pw_below_drewN | apply below_drew1 | refine below_set ?_ GE309.out) | exact HB.out)⟩⟩
       ·
        rw [if_neg c14] at H
        exact absurd H (by simp)
      ·
       rw [if_neg c13] at H
       have c13b0 : decide (x3_2 < (x310005_2.length : Int)) = false := decide_eq_false c13
       clear c13
       have H' := Aside0.mk H
       clear H
       have hcz19_0 : wr.cell? ⟨gb309, 0, none⟩ = some (.string a0_0) := (blk_cell BK309.out 0).trans rfl
       have hcz19_1 : wr.cell? ⟨gb309, 1, none⟩ = some (.int .u16 a0_1) := (blk_cell BK309.out 1).trans rfl
       have hcz19_2 : wr.cell? ⟨gb309, 2, none⟩ = some (.int .u16 a0_2) := (blk_cell BK309.out 2).trans rfl
       have hcz19_3 : wr.cell? ⟨gb309, 3, none⟩ = some (.int .u32 a0_3) := (blk_cell BK309.out 3).trans rfl
       have hcz19_4 : wr.cell? ⟨gb309, 4, none⟩ = some (.slice Ao2 x310004_1.length co2) := (blk_cell BK309.out 4).trans rfl
       have hcz19_5 : wr.cell? ⟨gb309, 5, none⟩ = some (.slice Ao3 x310005_2.length co3) := (blk_cell BK309.out 5).trans rfl
       have hcz19_6 : wr.cell? ⟨gb309, 6, none⟩ = some (.slice Ao4 x310006_1.length co4) := (blk_cell BK309.out 6).trans rfl
       have hfz19_0 := blk_frozen BK309.out 0
       have hfz19_1 := blk_frozen BK309.out 1
       have hfz19_2 := blk_frozen BK309.out 2
       have hfz19_3 := blk_frozen BK309.out 3
       have hfz19_4 := blk_frozen BK309.out 4
       have hfz19_5 := blk_frozen BK309.out 5
       have hfz19_6 := blk_frozen BK309.out 6
       go_wp2
       go_loopg [4] k2 (fun kq v4 w' => ∃ (x4_3 : Int) (x310004_3 : List ByteArray) (x310006_3 : List ByteArray), v4 = .int .i64 x4_3 ∧ Aside0 (nunciolaw05_Spoil.l2 kq x4_3 a0_0 a0_1 a0_2 a0_3 x310004_3 x310005_2 x310006_3 = some (r1, r2, r3)) ∧ Aside0 (kq ≤ k2) ∧ Aside0 (Kd.R Kd.string 9 w' w0.heap.size (fun k_ => ((P0_4_ k_ ∨ P0_5_ k_ ∨ P0_6_ k_) ∨ w.heap.size ≤ k_) ∧ some k_ ≠ ((.slice Ao4 x310006_1.length co4) : Value).ownBlock) (.slice Ao2 x310004_1.length co2) x310004_3) ∧ Aside0 (Kd.R (Kd.int .u32) 23 w' w0.heap.size (fun k_ => ((P0_4_ k_ ∨ P0_5_ k_ ∨ P0_6_ k_) ∨ w.heap.size ≤ k_)) (.slice Ao3 x310005_2.length co3) x310005_2) ∧ Aside0 (Kd.R Kd.string 9 w' w0.heap.size (fun k_ => ((P0_4_ k_ ∨ P0_5_ k_ ∨ P0_6_ k_) ∨ w.heap.size ≤ k_) ∧ some k_ ≠ ((.slice Ao2 x310004_1.length co2) : Value).ownBlock) (.slice Ao4 x310006_1.length co4) x310006_3) ∧ Aside0 (w'.heap[gb309]? = some (.cells #[.string a0_0, .int .u16 a0_1, .int .u16 a0_2, .int .u32 a0_3, (.slice Ao2 x310004_1.length co2), (.slice Ao3 x310005_2.length co3), (.slice Ao4 x310006_1.length co4)] 27 (0, 0))) ∧ Aside0 (Kept w w' (fun k_ => P0_4_ k_ ∨ P0_5_ k_ ∨ P0_6_ k_)) ∧ Aside0 (Below w0.heap.size w0 w'))
       case atStart => exact ⟨(0), (x310004_1), (x310006_1), (by first | rfl | (simp; done) | (simp [*]; done)), H', ⟨Nat.le_refl _⟩, ⟨by (try simp only [hl310004_1]); (try simp only [hl310006_1]); (try simp only [hl310005_2]); (with_reducible repeat (first | apply Kd.R_alloc | apply Kd.R_drewN | apply Kd.R_drew)); exact HO_310004.out⟩, ⟨by (try simp only [hl310004_1]); (try simp only [hl310006_1]); (try simp only [hl310005_2]); (with_reducible repeat (first | apply Kd.R_alloc | apply Kd.R_drewN | apply Kd.R_drew)); exact HO_310005.out⟩, ⟨by (try simp only [hl310004_1]); (try simp only [hl310006_1]); (try simp only [hl310005_2]); (with_reducible repeat (first | apply Kd.R_alloc | apply Kd.R_drewN | apply Kd.R_drew)); exact HO_310006.out⟩, ⟨by (try simp only [hl310004_1]); (try simp only [hl310006_1]); (try simp only [hl310005_2]); (with_reducible repeat (first | refine blk_drewN ?_ _ | refine blk_drew ?_ | refine blk_alloc ?_ _)); exact BK309.out⟩, ⟨by repeat (first | (with_reducible first | exact HK.out | apply Kept.alloc | apply Kept.drewN | apply Kept.drew | refine Kept.setCell ?_ (.inr GW309.out) _) | exact HK.out)⟩, ⟨by repeat (first | (with_reducible first | exact HB.out | apply below_alloc | apply pw_below_drewN | apply below_drew1 | refine below_set ?_ GE309.out) | exact HB.out)⟩⟩
       case round =>
        clear H'
        try clear c1
        try clear p1
        try clear q1
        try clear hx1
        try clear hf1
        try clear p2
        try clear c6
        try clear c6b0
        try clear p6
        try clear c7
        try clear c7b0
        try clear p8
        try clear q8
        try clear hx8
        try clear hf8
        try clear c13
        try clear c13b0
        try clear c14
        try clear c14b0
        try clear p15
        try clear q15
        try clear hx15
        try clear hf15
        try clear c19
        try clear hcz12_0
        try clear hcz12_1
        try clear hcz12_2
        try clear hcz12_3
        try clear hcz12_4
        try clear hcz12_5
        try clear hcz12_6
        try clear hcz16_0
        try clear hcz16_1
        try clear hcz16_2
        try clear hcz16_3
        try clear hcz16_4
        try clear hcz16_5
        try clear hcz16_6
        try clear hcz19_0
        try clear hcz19_1
        try clear hcz19_2
        try clear hcz19_3
        try clear hcz19_4
        try clear hcz19_5
        try clear hcz19_6
        try clear hcz9_0
        try clear hcz9_1
        try clear hcz9_2
        try clear hcz9_3
        try clear hcz9_4
        try clear hcz9_5
        try clear hcz9_6
        try clear hfz12_0
        try clear hfz12_1
        try clear hfz12_2
        try clear hfz12_3
        try clear hfz12_4
        try clear hfz12_5
        try clear hfz12_6
        try clear hfz16_0
        try clear hfz16_1
        try clear hfz16_2
        try clear hfz16_3
        try clear hfz16_4
        try clear hfz16_5
        try clear hfz16_6
        try clear hfz19_0
        try clear hfz19_1
        try clear hfz19_2
        try clear hfz19_3
        try clear hfz19_4
        try clear hfz19_5
        try clear hfz19_6
        try clear hfz9_0
        try clear hfz9_1
        try clear hfz9_2
        try clear hfz9_3
        try clear hfz9_4
        try clear hfz9_5
        try clear hfz9_6
        try clear hx15_0
        try clear hx8_0
        try clear p15
        try clear p2
        try clear p6
        try clear p8
        try clear q15
        try clear q8
        obtain ⟨x4_3, x310004_3, x310006_3, rfl, HA, HK3, HO_310004, HO_310005, HO_310006, BK309, HK, HB⟩ := hrel
        have hl310004_3 := (Kd.R_reads' HO_310004.out).1
        rw [hl310004_3] at HO_310004
        (try simp only [hl310004_3])
        (try simp only [hl310004_3] at BK309)
        (try simp only [hl310004_3] at HO_310005)
        (try simp only [hl310004_3] at HO_310006)
        have hl310006_3 := (Kd.R_reads' HO_310006.out).1
        rw [hl310006_3] at HO_310006
        (try simp only [hl310006_3])
        (try simp only [hl310006_3] at BK309)
        (try simp only [hl310006_3] at HO_310004)
        (try simp only [hl310006_3] at HO_310005)
        cases gk with
        | zero => exact absurd HA.out (by simp [nunciolaw05_Spoil.l2])
        | succ k3 =>
         have H := HA.out
         clear HA
         simp only [nunciolaw05_Spoil.l2] at H
         by_cases c20 : x4_3 < (x310006_3.length : Int)
         ·
          rw [if_pos c20] at H
          have c20b0 : decide (x4_3 < (x310006_3.length : Int)) = true := decide_eq_true c20
          clear c20
          by_cases c21 : 0 ≤ x4_3
          ·
           rw [if_pos c21] at H
           have c21b0 : decide (0 ≤ x4_3) = true := decide_eq_true c21
           clear c21
           obtain ⟨y312, hy312⟩ : ∃ y_ : List ByteArray, y_ = (x310006_3.set (x4_3 : Int).toNat (⟨#[63]⟩ : ByteArray)) := ⟨_, rfl⟩
           replace H : (nunciolaw05_Spoil.l2 k3 (wrap64 (x4_3 + 1)) a0_0 a0_1 a0_2 a0_3 x310004_3 x310005_2 y312) = some (r1, r2, r3) := by first | (rw [hy312]; with_reducible exact H) | (have H2_ := (Option.bind_some _ _).symm.trans H; rw [hy312]; with_reducible exact H2_) | (have H2_ := (Option.bind_some _ _).symm.trans H; with_reducible exact H2_) | with_reducible exact H | (rw [hy312]; exact H) | exact H
           have Ny312 := Aside0.mk hy312
           clear hy312
           have H' := Aside0.mk H
           clear H
           have hcz23_0 : wr.cell? ⟨gb309, 0, none⟩ = some (.string a0_0) := (blk_cell BK309.out 0).trans rfl
           have hcz23_1 : wr.cell? ⟨gb309, 1, none⟩ = some (.int .u16 a0_1) := (blk_cell BK309.out 1).trans rfl
           have hcz23_2 : wr.cell? ⟨gb309, 2, none⟩ = some (.int .u16 a0_2) := (blk_cell BK309.out 2).trans rfl
           have hcz23_3 : wr.cell? ⟨gb309, 3, none⟩ = some (.int .u32 a0_3) := (blk_cell BK309.out 3).trans rfl
           have hcz23_4 : wr.cell? ⟨gb309, 4, none⟩ = some (.slice Ao2 x310004_3.length co2) := (blk_cell BK309.out 4).trans rfl
           have hcz23_5 : wr.cell? ⟨gb309, 5, none⟩ = some (.slice Ao3 x310005_2.length co3) := (blk_cell BK309.out 5).trans rfl
           have hcz23_6 : wr.cell? ⟨gb309, 6, none⟩ = some (.slice Ao4 x310006_3.length co4) := (blk_cell BK309.out 6).trans rfl
           have hfz23_0 := blk_frozen BK309.out 0
           have hfz23_1 := blk_frozen BK309.out 1
           have hfz23_2 := blk_frozen BK309.out 2
           have hfz23_3 := blk_frozen BK309.out 3
           have hfz23_4 := blk_frozen BK309.out 4
           have hfz23_5 := blk_frozen BK309.out 5
           have hfz23_6 := blk_frozen BK309.out 6
           have p22 : 0 ≤ (x4_3 : Int) := of_decide_eq_true (by first | (with_reducible assumption) | assumption)
           have q22 : (x4_3 : Int) < ((x310006_3.length : Int) : Int) := of_decide_eq_true (by first | (with_reducible assumption) | assumption)
           obtain ⟨go22, co22, eo22, gb22, gl22, cl22, HG22⟩ := Kd.R_form HO_310006.out (by omega)
           (first | cases eo22 | (injection eo22 with ea_ en_ ec_; (first | subst ea_ | (injection ea_ with ea_; subst ea_)); subst ec_; clear en_))
           have GB22 := Aside0.mk gb22
           have GG22 := Aside0.mk HG22
           clear gb22 gl22 HG22
           have HMgo22 := Aside0.mk (show ((P0_4_ go22 ∨ P0_5_ go22 ∨ P0_6_ go22) ∨ w.heap.size ≤ go22) from (HO_310006.out.1 _ rfl).1)
           obtain ⟨hx22_0, hf22_0⟩ := Kd.R_celln (⟨#[]⟩ : ByteArray) HO_310006.out (x4_3 : Int) p22 q22
           replace p22 := eq_true p22
           replace q22 := eq_true q22
           have HP24 := Kd.R_putg HO_310006.out (x4_3 : Int) (⟨#[63]⟩ : ByteArray)
           go_wp2_with (first | ((with_reducible refine gate_store (t := 9) (p := 37) rfl ?_); refine store_event (t := 9) (p := 37) (v := ?vo_w25) (w1 := (wr.setCell ⟨go22, (x4_3 : Int).toNat, none⟩ (.string (⟨#[63]⟩ : ByteArray)))) ?hg ?ho ?hn ?hr ?_; (case ho => rfl); (case hg => rfl); (case hn => rfl); (case hr => first | (go_simp; done) | (go_simp; rfl)); intro w25 hw; have hg : wr.grownBy w25 (some go22) := (by rw [hw]; exact HP24.2); have hp_ : Kd.R Kd.string 9 w25 w0.heap.size (fun k_ => ((P0_4_ k_ ∨ P0_5_ k_ ∨ P0_6_ k_) ∨ w.heap.size ≤ k_) ∧ some k_ ≠ (.slice Ao2 x310004_3.length co2 : Value).ownBlock) (.slice (some ⟨go22, 0, none⟩) x310006_3.length co4) y312 := (by rw [hw, Ny312.out]; exact HP24.1); clear HP24; have n0_ := Aside0.mk (Kd.R_after (v := (.slice (some ⟨go22, 0, none⟩) x310006_3.length co4)) (v1 := (.slice (some ⟨go22, 0, none⟩) x310006_3.length co4)) (ok := (fun k_ => ((P0_4_ k_ ∨ P0_5_ k_ ∨ P0_6_ k_) ∨ w.heap.size ≤ k_))) (by (with_reducible repeat (first | apply Kd.R_alloc | apply Kd.R_drewN | apply Kd.R_drew)); exact HO_310004.out) hg (.inl rfl)); have n1_ := Aside0.mk (Kd.R_over' (v := (.slice (some ⟨go22, 0, none⟩) x310006_3.length co4)) (by (with_reducible repeat (first | apply Kd.R_alloc | apply Kd.R_drewN | apply Kd.R_drew)); exact HO_310005.out) (Kd.R_typed HO_310006.out) (by decide) hg); have n2_ := Aside0.mk (hp_); have n3_ := Aside0.mk (blk_grown (g := gb309) (o := .cells #[.string a0_0, .int .u16 a0_1, .int .u16 a0_2, .int .u32 a0_3, .slice Ao2 x310004_3.length co2, .slice Ao3 x310005_2.length co3, .slice (some ⟨go22, 0, none⟩) x310006_3.length co4] 27 (0, 0)) (by (with_reducible repeat (first | refine blk_drewN ?_ _ | refine blk_drew ?_ | refine blk_alloc ?_ _)); exact BK309.out) hg (Kd.R_ne HO_310006.out BK309.out (by decide))); have n4_ := Aside0.mk ((by rw [hw]; exact below_set (HB.out) GB22.out : Below w0.heap.size w0 w25)); have n5_ := Aside0.mk (Kept.of_grown (S := (fun k_ => P0_4_ k_ ∨ P0_5_ k_ ∨ P0_6_ k_)) hg (by repeat (first | (with_reducible first | exact HK.out | apply Kept.alloc | apply Kept.drewN | apply Kept.drew | refine Kept.setCell ?_ (.inr GW309.out) _) | exact HK.out)) (fun k_ e_ => (HO_310006.out.1 k_ e_).1)); clear HO_310004; clear HO_310005; clear HO_310006; clear BK309; clear HB; clear HK; have HO_310004 := n0_; have HO_310005 := n1_; have HO_310006 := n2_; have BK309 := n3_; have HB := n4_; have HK := n5_; clear n0_ n1_ n2_ n3_ n4_ n5_; clear hg hw hp_))
           (try simp only [← hl310004_3, ← hl310006_3])
           go_roundg k3
           case measure => have := HK1.out; have := HK2.out; have := HK3.out; omega
           case rel => exact ⟨(wrap64 (x4_3 + 1)), (x310004_3), (y312), (by first | rfl | (simp; done) | (simp [*]; done)), H', ⟨by have := HK1.out; have := HK2.out; have := HK3.out; omega⟩, ⟨by (try simp only [hl310004_1]); (try simp only [hl310006_1]); (try simp only [hl310005_2]); (try simp only [hl310004_3]); (try simp only [hl310006_3]); (with_reducible repeat (first | apply Kd.R_alloc | apply Kd.R_drewN | apply Kd.R_drew)); exact HO_310004.out⟩, ⟨by (try simp only [hl310004_1]); (try simp only [hl310006_1]); (try simp only [hl310005_2]); (try simp only [hl310004_3]); (try simp only [hl310006_3]); (with_reducible repeat (first | apply Kd.R_alloc | apply Kd.R_drewN | apply Kd.R_drew)); exact HO_310005.out⟩, ⟨by (try simp only [hl310004_1]); (try simp only [hl310006_1]); (try simp only [hl310005_2]); (try simp only [hl310004_3]); (try simp only [hl310006_3]); (with_reducible repeat (first | apply Kd.R_alloc | apply Kd.R_drewN | apply Kd.R_drew)); exact HO_310006.out⟩, ⟨by (try simp only [hl310004_1]); (try simp only [hl310006_1]); (try simp only [hl310005_2]); (try simp only [hl310004_3]); (try simp only [hl310006_3]); (with_reducible repeat (first | refine blk_drewN ?_ _ | refine blk_drew ?_ | refine blk_alloc ?_ _)); exact BK309.out⟩, ⟨by repeat (first | (with_reducible first | exact HK.out | apply Kept.alloc | apply Kept.drewN | apply Kept.drew | refine Kept.setCell ?_ (.inr GW309.out) _) | exact HK.out)⟩, ⟨by repeat (first | (with_reducible first | exact HB.out | apply below_alloc | apply pw_below_drewN | apply below_drew1 | refine below_set ?_ GE309.out) | exact HB.out)⟩⟩
          ·
           rw [if_neg c21] at H
           exact absurd H (by simp)
         ·
          rw [if_neg c20] at H
          have c20b0 : decide (x4_3 < (x310006_3.length : Int)) = false := decide_eq_false c20
          clear c20
          simp only [Option.some.injEq, Prod.mk.injEq] at H
          obtain ⟨rfl, rfl, rfl⟩ := H
          have hcz26_0 : wr.cell? ⟨gb309, 0, none⟩ = some (.string a0_0) := (blk_cell BK309.out 0).trans rfl
          have hcz26_1 : wr.cell? ⟨gb309, 1, none⟩ = some (.int .u16 a0_1) := (blk_cell BK309.out 1).trans rfl
          have hcz26_2 : wr.cell? ⟨gb309, 2, none⟩ = some (.int .u16 a0_2) := (blk_cell BK309.out 2).trans rfl
          have hcz26_3 : wr.cell? ⟨gb309, 3, none⟩ = some (.int .u32 a0_3) := (blk_cell BK309.out 3).trans rfl
          have hcz26_4 : wr.cell? ⟨gb309, 4, none⟩ = some (.slice Ao2 x310004_3.length co2) := (blk_cell BK309.out 4).trans rfl
          have hcz26_5 : wr.cell? ⟨gb309, 5, none⟩ = some (.slice Ao3 x310005_2.length co3) := (blk_cell BK309.out 5).trans rfl
          have hcz26_6 : wr.cell? ⟨gb309, 6, none⟩ = some (.slice Ao4 x310006_3.length co4) := (blk_cell BK309.out 6).trans rfl
          have hfz26_0 := blk_frozen BK309.out 0
          have hfz26_1 := blk_frozen BK309.out 1
          have hfz26_2 := blk_frozen BK309.out 2
          have hfz26_3 := blk_frozen BK309.out 3
          have hfz26_4 := blk_frozen BK309.out 4
          have hfz26_5 := blk_frozen BK309.out 5
          have hfz26_6 := blk_frozen BK309.out 6
          go_wp2
          first | go_end0 | ((try simp only [Exit.inBlock, Exit.then]); refine bodyPost_ret (results_none rfl _ _ _) rfl ?_)
          exact ⟨by first | rfl | (simp [errW_none, errW_some] <;> rfl) | (simp [*, errW_none, errW_some] <;> rfl), (by first | exact (by (with_reducible repeat (first | apply Kd.R_alloc | apply Kd.R_drewN | apply Kd.R_drew)); exact Kd.R_mono HO_310004.out (fun _ hk => hk.1)) | (simp only [hl310004_1, hl310006_1, hl310005_2, hl310004_3, hl310006_3]; exact (by (with_reducible repeat (first | apply Kd.R_alloc | apply Kd.R_drewN | apply Kd.R_drew)); exact Kd.R_mono HO_310004.out (fun _ hk => hk.1)))), (by first | exact (by (with_reducible repeat (first | apply Kd.R_alloc | apply Kd.R_drewN | apply Kd.R_drew)); exact HO_310005.out) | (simp only [hl310004_1, hl310006_1, hl310005_2, hl310004_3, hl310006_3]; exact (by (with_reducible repeat (first | apply Kd.R_alloc | apply Kd.R_drewN | apply Kd.R_drew)); exact HO_310005.out))), (by first | exact (by (with_reducible repeat (first | apply Kd.R_alloc | apply Kd.R_drewN | apply Kd.R_drew)); exact Kd.R_mono HO_310006.out (fun _ hk => hk.1)) | (simp only [hl310004_1, hl310006_1, hl310005_2, hl310004_3, hl310006_3]; exact (by (with_reducible repeat (first | apply Kd.R_alloc | apply Kd.R_drewN | apply Kd.R_drew)); exact Kd.R_mono HO_310006.out (fun _ hk => hk.1)))), by repeat (first | (with_reducible first | exact HB.out | apply below_alloc | apply pw_below_drewN | apply below_drew1 | refine below_set ?_ GE309.out) | exact HB.out), by repeat (first | (with_reducible first | exact HK.out | apply Kept.alloc | apply Kept.drewN | apply Kept.drew | refine Kept.setCell ?_ (.inr GW309.out) _) | exact HK.out)⟩

end Go.Proofs.Ytebnbjnkameicaa.Mine
