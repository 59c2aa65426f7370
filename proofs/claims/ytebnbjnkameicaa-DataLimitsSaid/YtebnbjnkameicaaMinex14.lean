-- Written by this repo's own printer (wip/print), which builds on the kit's.
import Derived.Test.YtebnbjnkameicaaMinex0
namespace Go.Proofs.Ytebnbjnkameicaa.Mine
open Go.RowKit Go.Proofs.YtebnbjnkameicaaW.PrintWords Go.Proofs.YtebnbjnkameicaaW.PrintLast Go.Proofs.YtebnbjnkameicaaW.PrintMore
attribute [local go_sem] max2_int min2_int max_two min_two max_three min_three max_four min_four   -- for this text's walks alone
set_option linter.unusedVariables false
set_option linter.unusedSimpArgs false

/-! ### nunciolaw04_Few: function 20 -/
def nunciolaw04_Few.l0 : Nat → List ByteArray → Int → Int → Option (Bool)
 | 0, _, _, _ => none
 | k + 1, x0, x3, x4 => if x4 < (x0.length : Int) then (if x3 < 5000 then (if 0 ≤ x4 then (nunciolaw04_Few.l0 k x0 (wrap64 (x3 + (mn ((rdOf ByteArray.empty x0 x4).size : Int) 5000))) (wrap64 (x4 + 1))) else (none)) else (some (decide (x3 < 5000)))) else (some (decide (x3 < 5000)))
def nunciolaw04_Few.f (k : Nat) (l0 : List ByteArray) : Option (Bool) := nunciolaw04_Few.l0 k l0 (mn (l0.length : Int) 5000) 0
theorem nunciolaw04_Few.mono_l : ∀ k, (∀ y0 y1 y2, LeO (nunciolaw04_Few.l0 k y0 y1 y2) (nunciolaw04_Few.l0 (k + 1) y0 y1 y2))
 | 0 => fun _ _ _ r h => by simp [nunciolaw04_Few.l0] at h
 | k + 1 => by
  have ih0 := nunciolaw04_Few.mono_l k
  ·
   intro y0 y1 y2
   unfold nunciolaw04_Few.l0
   repeat' first
   | (with_reducible exact ih0 _ _ _)
   | (with_reducible exact LeO.refl _)
   | (with_reducible exact LeO.none _)
   | (with_reducible refine LeO.ite ?_ ?_)
   | (with_reducible refine LeO.bind ?_ (fun _ => ?_))
   | exact ih0 _ _ _
   | exact LeO.none _
   | refine LeO.ite ?_ ?_
   | refine LeO.bind ?_ (fun _ => ?_)
theorem nunciolaw04_Few.mono : ∀ a0 k, LeO (nunciolaw04_Few.f k a0) (nunciolaw04_Few.f (k + 1) a0) := by
 intro a0 k
 have ih0 := nunciolaw04_Few.mono_l k
 unfold nunciolaw04_Few.f
 repeat' first
   | (with_reducible exact ih0 _ _ _)
   | (with_reducible exact LeO.refl _)
   | (with_reducible exact LeO.none _)
   | (with_reducible refine LeO.ite ?_ ?_)
   | (with_reducible refine LeO.bind ?_ (fun _ => ?_))
   | exact ih0 _ _ _
   | exact LeO.none _
   | refine LeO.ite ?_ ?_
   | refine LeO.bind ?_ (fun _ => ?_)
set_option maxHeartbeats 8000000 in
set_option maxRecDepth 100000 in
theorem nunciolaw04_Few.calls (k : Nat) (A0 : Option Addr) (c0 : Nat) (l0 : List ByteArray) (r : Bool) (w : World) (hr0 : Kd.C Kd.string w A0 l0.length l0) (hc0 : l0.length ≤ c0) (h : nunciolaw04_Few.f k l0 = some r) :
  Calls Try.prog 20 #[.slice A0 l0.length c0] w fun e w' => e = .returned (.bool r) ∧ Below w.heap.size w w' := by
 have HR0 := Aside0.mk hr0
 have HC0 := Aside0.mk hc0
 clear hr0 hc0
 have HB := Aside0.mk (Below.refl w.heap.size w)
 have H : (nunciolaw04_Few.l0 k l0 (mn (l0.length : Int) 5000) 0) = some r := h
 clear h
 obtain ⟨ji2, hji2⟩ : ∃ j_ : Int, (mn (l0.length : Int) 5000) = j_ := ⟨_, rfl⟩
 replace H : (nunciolaw04_Few.l0 k l0 ji2 0) = some r := by first | (rw [hji2] at H; exact H) | (simp only [hji2] at H ⊢; exact H)
 (try (have hji2h : ji2 ≤ 5000 := by (rw [← hji2]; unfold mn; (repeat' split) <;> omega)))
 (try (have hji2g : ji2 ≤ 64 := by omega))
 (try (have hji2l : 0 ≤ ji2 := by (rw [← hji2]; unfold mn; (repeat' split) <;> omega)))
 (try (have hji2m : 0 ≤ ji2 := by omega))
 have hji2_ : (if 5000 < (l0.length : Int) then 5000 else (l0.length : Int)) = ji2 := hji2
 have H' := Aside0.mk H
 clear H
 go_enter Try.func20, Try.ntmps20
 go_wp2
 go_loopg [3, 4] k (fun kq v3 v4 w' => ∃ (x3_1 : Int) (x4_1 : Int), v3 = .int .i64 x3_1 ∧ v4 = .int .i64 x4_1 ∧ Aside0 (nunciolaw04_Few.l0 kq l0 x3_1 x4_1 = some r) ∧ Aside0 (kq ≤ k) ∧ Aside0 (Below w.heap.size w w'))
 case atStart => exact ⟨(ji2), (0), (by first | rfl | (simp; done) | (simp only [← hji2] <;> (first | rfl | simp)) | (simp [*]; done)), (by first | rfl | (simp; done) | (simp [*]; done)), H', ⟨Nat.le_refl _⟩, ⟨by repeat (first | (with_reducible first | exact HB.out | apply below_alloc | apply pw_below_drewN | apply below_drew1) | exact HB.out)⟩⟩
 case round =>
  clear H'
  try clear c2
  try clear p2
  obtain ⟨x3_1, x4_1, rfl, rfl, HA, HK1, HB⟩ := hrel
  cases gk with
  | zero => exact absurd HA.out (by simp [nunciolaw04_Few.l0])
  | succ k1 =>
   have H := HA.out
   clear HA
   simp only [nunciolaw04_Few.l0] at H
   by_cases c3 : x4_1 < (l0.length : Int)
   ·
    rw [if_pos c3] at H
    have c3b0 : decide (x4_1 < (l0.length : Int)) = true := decide_eq_true c3
    clear c3
    by_cases c4 : x3_1 < 5000
    ·
     rw [if_pos c4] at H
     have c4b0 : decide (x3_1 < 5000) = true := decide_eq_true c4
     clear c4
     by_cases c5 : 0 ≤ x4_1
     ·
      rw [if_pos c5] at H
      have c5b0 : decide (0 ≤ x4_1) = true := decide_eq_true c5
      clear c5
      obtain ⟨ji6, hji6⟩ : ∃ j_ : Int, (mn ((rdOf ByteArray.empty l0 x4_1).size : Int) 5000) = j_ := ⟨_, rfl⟩
      replace H : (nunciolaw04_Few.l0 k1 l0 (wrap64 (x3_1 + (ji6))) (wrap64 (x4_1 + 1))) = some r := by first | (rw [hji6] at H; exact H) | (simp only [hji6] at H ⊢; exact H)
      have hji6_ : (if 5000 < ((rdOf ByteArray.empty l0 x4_1).size : Int) then 5000 else ((rdOf ByteArray.empty l0 x4_1).size : Int)) = ji6 := hji6
      have H' := Aside0.mk H
      clear H
      have p218 : 0 ≤ (x4_1 : Int) := of_decide_eq_true (by first | (with_reducible assumption) | assumption)
      have q218 : x4_1 < (l0.length : Int) := of_decide_eq_true (by first | (with_reducible assumption) | assumption)
      obtain ⟨ad218, e218, hx218_0⟩ := Kd.at_string HR0.out x4_1 p218 q218
      cases e218
      replace hx218_0 := (HB.out.cell (World.block_lt_of_cell? w _ hx218_0)).trans hx218_0
      replace p218 := eq_true p218
      replace q218 := eq_true q218
      go_wp2
      go_roundg k1
      case measure => have := HK1.out; omega
      case rel => exact ⟨(wrap64 (x3_1 + (ji6))), (wrap64 (x4_1 + 1)), (by first | rfl | (simp; done) | (simp only [← hji6] <;> (first | rfl | simp)) | (simp [*]; done)), (by first | rfl | (simp; done) | (simp [*]; done)), H', ⟨by have := HK1.out; omega⟩, ⟨by repeat (first | (with_reducible first | exact HB.out | apply below_alloc | apply pw_below_drewN | apply below_drew1) | exact HB.out)⟩⟩
     ·
      rw [if_neg c5] at H
      exact absurd H (by simp)
    ·
     rw [if_neg c4] at H
     have c4b0 : decide (x3_1 < 5000) = false := decide_eq_false c4
     clear c4
     obtain rfl := Option.some.inj H
     go_wp2
     go_ret
     exact ⟨by first | rfl | (simp [errW_none, errW_some] <;> rfl) | (simp only [← hji2]; first | rfl | (simp [errW_none, errW_some] <;> rfl)) | (simp [*, errW_none, errW_some] <;> rfl), by repeat (first | (with_reducible first | exact HB.out | apply below_alloc | apply pw_below_drewN | apply below_drew1) | exact HB.out)⟩
   ·
    rw [if_neg c3] at H
    have c3b0 : decide (x4_1 < (l0.length : Int)) = false := decide_eq_false c3
    clear c3
    obtain rfl := Option.some.inj H
    go_wp2
    go_ret
    exact ⟨by first | rfl | (simp [errW_none, errW_some] <;> rfl) | (simp only [← hji2]; first | rfl | (simp [errW_none, errW_some] <;> rfl)) | (simp [*, errW_none, errW_some] <;> rfl), by repeat (first | (with_reducible first | exact HB.out | apply below_alloc | apply pw_below_drewN | apply below_drew1) | exact HB.out)⟩

/-! ### nunciolaw05_Few: function 8 -/
def nunciolaw05_Few.f (k : Nat) (a0_0 : ByteArray) (a0_1 : Int) (a0_2 : Int) (a0_3 : Int) (l0_4 : List ByteArray) (l0_5 : List Int) (l0_6 : List ByteArray) : Option (Bool) := (nunciolaw04_Few.f k l0_4).bind fun t220 => (if t220 = true then ((nunciolaw04_Few.f k l0_6).bind fun t221 => (if t221 = true then (if (l0_5.length : Int) ≤ 5000 then (some (decide ((a0_0.size : Int) ≤ 5000))) else (some false)) else (some false))) else (some false))
theorem nunciolaw05_Few.mono : ∀ a0 a1 a2 a3 a4 a5 a6 k, LeO (nunciolaw05_Few.f k a0 a1 a2 a3 a4 a5 a6) (nunciolaw05_Few.f (k + 1) a0 a1 a2 a3 a4 a5 a6) := by
 intro a0 a1 a2 a3 a4 a5 a6 k
 unfold nunciolaw05_Few.f
 repeat' first
   | (with_reducible exact nunciolaw04_Few.mono _ _)
   | (with_reducible exact LeO.refl _)
   | (with_reducible exact LeO.none _)
   | (with_reducible refine LeO.ite ?_ ?_)
   | (with_reducible refine LeO.bind ?_ (fun _ => ?_))
   | exact nunciolaw04_Few.mono _ _
   | exact LeO.none _
   | refine LeO.ite ?_ ?_
   | refine LeO.bind ?_ (fun _ => ?_)
set_option maxHeartbeats 8000000 in
set_option maxRecDepth 100000 in
theorem nunciolaw05_Few.calls (k : Nat) (a0_0 : ByteArray) (a0_1 : Int) (a0_2 : Int) (a0_3 : Int) (A0_4 : Option Addr) (c0_4 : Nat) (l0_4 : List ByteArray) (A0_5 : Option Addr) (c0_5 : Nat) (l0_5 : List Int) (A0_6 : Option Addr) (c0_6 : Nat) (l0_6 : List ByteArray) (r : Bool) (w : World) (hr0_4 : Kd.C Kd.string w A0_4 l0_4.length l0_4) (hc0_4 : l0_4.length ≤ c0_4) (hr0_5 : Kd.C (Kd.int .u32) w A0_5 l0_5.length l0_5) (hc0_5 : l0_5.length ≤ c0_5) (hr0_6 : Kd.C Kd.string w A0_6 l0_6.length l0_6) (hc0_6 : l0_6.length ≤ c0_6) (h : nunciolaw05_Few.f k a0_0 a0_1 a0_2 a0_3 l0_4 l0_5 l0_6 = some r) :
  Calls Try.prog 8 #[.agg #[.string a0_0, .int .u16 a0_1, .int .u16 a0_2, .int .u32 a0_3, .slice A0_4 l0_4.length c0_4, .slice A0_5 l0_5.length c0_5, .slice A0_6 l0_6.length c0_6]] w fun e w' => e = .returned (.bool r) ∧ Below w.heap.size w w' := by
 have hu27 := Try.underlying27
 have HR0_4 := Aside0.mk hr0_4
 have HC0_4 := Aside0.mk hc0_4
 clear hr0_4 hc0_4
 have HR0_5 := Aside0.mk hr0_5
 have HC0_5 := Aside0.mk hc0_5
 clear hr0_5 hc0_5
 have HR0_6 := Aside0.mk hr0_6
 have HC0_6 := Aside0.mk hc0_6
 clear hr0_6 hc0_6
 have HB := Aside0.mk (Below.refl w.heap.size w)
 have H : ((nunciolaw04_Few.f k l0_4).bind fun t220 => (if t220 = true then ((nunciolaw04_Few.f k l0_6).bind fun t221 => (if t221 = true then (if (l0_5.length : Int) ≤ 5000 then (some (decide ((a0_0.size : Int) ≤ 5000))) else (some false)) else (some false))) else (some false))) = some r := h
 clear h
 replace H := Option.bind_eq_some_iff.mp H
 obtain ⟨t220, A20, H⟩ := H
 replace H : (if t220 = true then ((nunciolaw04_Few.f k l0_6).bind fun t221 => (if t221 = true then (if (l0_5.length : Int) ≤ 5000 then (some (decide ((a0_0.size : Int) ≤ 5000))) else (some false)) else (some false))) else (some false)) = some r := H
 have A2 := Aside0.mk A20
 clear A20
 by_cases c3 : t220 = true
 ·
  subst c3
  have H1 : ((nunciolaw04_Few.f k l0_6).bind fun t221 => (if t221 = true then (if (l0_5.length : Int) ≤ 5000 then (some (decide ((a0_0.size : Int) ≤ 5000))) else (some false)) else (some false))) = some r := by rw [if_pos rfl] at H; exact H
  clear H
  have H := H1
  clear H1
  replace H := Option.bind_eq_some_iff.mp H
  obtain ⟨t221, A40, H⟩ := H
  replace H : (if t221 = true then (if (l0_5.length : Int) ≤ 5000 then (some (decide ((a0_0.size : Int) ≤ 5000))) else (some false)) else (some false)) = some r := H
  have A4 := Aside0.mk A40
  clear A40
  by_cases c5 : t221 = true
  ·
   subst c5
   have H1 : (if (l0_5.length : Int) ≤ 5000 then (some (decide ((a0_0.size : Int) ≤ 5000))) else (some false)) = some r := by rw [if_pos rfl] at H; exact H
   clear H
   have H := H1
   clear H1
   by_cases c6 : (l0_5.length : Int) ≤ 5000
   ·
    rw [if_pos c6] at H
    have c6b0 : decide ((l0_5.length : Int) ≤ 5000) = true := decide_eq_true c6
    have c6b1 : decide (l0_5.length ≤ 5000) = true := decide_eq_true (by omega)
    clear c6
    obtain rfl := Option.some.inj H
    go_enter Try.func8, Try.ntmps8
    have tk13 : True := trivial
    have tk14 : True := trivial
    go_wp2_with (first | ((with_reducible refine gate_dst (N := 1) rfl ?_); (try (refine gate_guard (by rfl) ?_; dsimp only)); refine box_event ?hg (N := 1) ?hd (cs := #[.string a0_0, .int .u16 a0_1, .int .u16 a0_2, .int .u32 a0_3, .slice A0_4 l0_4.length c0_4, .slice A0_5 l0_5.length c0_5, .slice A0_6 l0_6.length c0_6]) (t := 27) ?hr ?_; (case hd => rfl); (case hg => rfl); (case hr => first | (go_simp; done) | (go_simp; rfl)); intro gb219 hg w7 hbox hb; have n0_ := Aside0.mk (below_step (by repeat (first | (with_reducible first | exact HB.out | apply below_alloc | apply pw_below_drewN | apply below_drew1) | exact HB.out)) hb); have n1_ := Aside0.mk (hbox); have n2_ := Aside0.mk ((by rw [hg]; exact (below_size (by repeat (first | (with_reducible first | exact HB.out | apply below_alloc | apply pw_below_drewN | apply below_drew1) | exact HB.out))) : w.heap.size ≤ gb219)); have n3_ := Aside0.mk ((by rw [hg]; exact (below_size (by repeat (first | (with_reducible first | exact HB.out | apply below_alloc | apply pw_below_drewN | apply below_drew1) | exact HB.out))) : w.heap.size ≤ gb219)); clear HB; have HB := n0_; have BK219 := n1_; have GW219 := n2_; have GE219 := n3_; clear n0_ n1_ n2_ n3_; clear hb hbox hg; have hcz8_0 : w7.cell? ⟨gb219, 0, none⟩ = some (.string a0_0) := (blk_cell BK219.out 0).trans rfl; have hcz8_1 : w7.cell? ⟨gb219, 1, none⟩ = some (.int .u16 a0_1) := (blk_cell BK219.out 1).trans rfl; have hcz8_2 : w7.cell? ⟨gb219, 2, none⟩ = some (.int .u16 a0_2) := (blk_cell BK219.out 2).trans rfl; have hcz8_3 : w7.cell? ⟨gb219, 3, none⟩ = some (.int .u32 a0_3) := (blk_cell BK219.out 3).trans rfl; have hcz8_4 : w7.cell? ⟨gb219, 4, none⟩ = some (.slice A0_4 l0_4.length c0_4) := (blk_cell BK219.out 4).trans rfl; have hcz8_5 : w7.cell? ⟨gb219, 5, none⟩ = some (.slice A0_5 l0_5.length c0_5) := (blk_cell BK219.out 5).trans rfl; have hcz8_6 : w7.cell? ⟨gb219, 6, none⟩ = some (.slice A0_6 l0_6.length c0_6) := (blk_cell BK219.out 6).trans rfl; have hfz8_0 := blk_frozen BK219.out 0; have hfz8_1 := blk_frozen BK219.out 1; have hfz8_2 := blk_frozen BK219.out 2; have hfz8_3 := blk_frozen BK219.out 3; have hfz8_4 := blk_frozen BK219.out 4; have hfz8_5 := blk_frozen BK219.out 5; have hfz8_6 := blk_frozen BK219.out 6) | (have _t : True := tk13; clear tk13 _t; (with_reducible refine gate_callee (f := 20) rfl ?_); refine goesL_ (some 5) rfl rfl Try.func20 (by kernel_rfl) rfl #[.slice A0_4 l0_4.length c0_4] rfl (by (try simp only [List.map_toArray, List.map_cons, List.map_nil]); first | done | rfl | (simp only [List.length_drop, List.length_take]; rfl)) ?_; (with_reducible refine (nunciolaw04_Few.calls k _ _ l0_4 true _ ?side1 ?side2 A2.out).mono ?_); (case side1 => repeat (first | exact (Kd.C_below HR0_4.out HB.out) | (with_reducible refine Kd.C_alloc ?_ _) | (with_reducible refine Kd.C_drewN ?_ _) | (with_reducible refine Kd.C_drew ?_))); (case side2 => exact HC0_4.out); rintro e w9 ⟨rfl, hb⟩; refine ⟨_, rfl, ?_⟩; have n0_ := Aside0.mk (blk_below (g := gb219) (o := .cells #[.string a0_0, .int .u16 a0_1, .int .u16 a0_2, .int .u32 a0_3, .slice A0_4 l0_4.length c0_4, .slice A0_5 l0_5.length c0_5, .slice A0_6 l0_6.length c0_6] 27 (0, 0)) (by (with_reducible repeat (first | refine blk_drewN ?_ _ | refine blk_drew ?_ | refine blk_alloc ?_ _)); exact BK219.out) hb); have n1_ := Aside0.mk (below_step (by repeat (first | (with_reducible first | exact HB.out | apply below_alloc | apply pw_below_drewN | apply below_drew1 | refine below_set ?_ GE219.out) | exact HB.out)) hb); clear BK219; clear HB; have BK219 := n0_; have HB := n1_; clear n0_ n1_; (try clear hb); (try clear hb2); (try clear hk); (try clear hi); have hcz10_0 : w9.cell? ⟨gb219, 0, none⟩ = some (.string a0_0) := (blk_cell BK219.out 0).trans rfl; have hcz10_1 : w9.cell? ⟨gb219, 1, none⟩ = some (.int .u16 a0_1) := (blk_cell BK219.out 1).trans rfl; have hcz10_2 : w9.cell? ⟨gb219, 2, none⟩ = some (.int .u16 a0_2) := (blk_cell BK219.out 2).trans rfl; have hcz10_3 : w9.cell? ⟨gb219, 3, none⟩ = some (.int .u32 a0_3) := (blk_cell BK219.out 3).trans rfl; have hcz10_4 : w9.cell? ⟨gb219, 4, none⟩ = some (.slice A0_4 l0_4.length c0_4) := (blk_cell BK219.out 4).trans rfl; have hcz10_5 : w9.cell? ⟨gb219, 5, none⟩ = some (.slice A0_5 l0_5.length c0_5) := (blk_cell BK219.out 5).trans rfl; have hcz10_6 : w9.cell? ⟨gb219, 6, none⟩ = some (.slice A0_6 l0_6.length c0_6) := (blk_cell BK219.out 6).trans rfl; have hfz10_0 := blk_frozen BK219.out 0; have hfz10_1 := blk_frozen BK219.out 1; have hfz10_2 := blk_frozen BK219.out 2; have hfz10_3 := blk_frozen BK219.out 3; have hfz10_4 := blk_frozen BK219.out 4; have hfz10_5 := blk_frozen BK219.out 5; have hfz10_6 := blk_frozen BK219.out 6) | (have _t : True := tk14; clear tk14 _t; go_at_call 20; (with_reducible refine (nunciolaw04_Few.calls k _ _ l0_6 true _ ?side1 ?side2 A4.out).mono ?_); (case side1 => repeat (first | exact (Kd.C_below HR0_6.out HB.out) | (with_reducible refine Kd.C_alloc ?_ _) | (with_reducible refine Kd.C_drewN ?_ _) | (with_reducible refine Kd.C_drew ?_))); (case side2 => exact HC0_6.out); rintro e w11 ⟨rfl, hb⟩; have n0_ := Aside0.mk (blk_below (g := gb219) (o := .cells #[.string a0_0, .int .u16 a0_1, .int .u16 a0_2, .int .u32 a0_3, .slice A0_4 l0_4.length c0_4, .slice A0_5 l0_5.length c0_5, .slice A0_6 l0_6.length c0_6] 27 (0, 0)) (by (with_reducible repeat (first | refine blk_drewN ?_ _ | refine blk_drew ?_ | refine blk_alloc ?_ _)); exact BK219.out) hb); have n1_ := Aside0.mk (below_step (by repeat (first | (with_reducible first | exact HB.out | apply below_alloc | apply pw_below_drewN | apply below_drew1 | refine below_set ?_ GE219.out) | exact HB.out)) hb); clear BK219; clear HB; have BK219 := n0_; have HB := n1_; clear n0_ n1_; (try clear hb); (try clear hb2); (try clear hk); (try clear hi); have hcz12_0 : w11.cell? ⟨gb219, 0, none⟩ = some (.string a0_0) := (blk_cell BK219.out 0).trans rfl; have hcz12_1 : w11.cell? ⟨gb219, 1, none⟩ = some (.int .u16 a0_1) := (blk_cell BK219.out 1).trans rfl; have hcz12_2 : w11.cell? ⟨gb219, 2, none⟩ = some (.int .u16 a0_2) := (blk_cell BK219.out 2).trans rfl; have hcz12_3 : w11.cell? ⟨gb219, 3, none⟩ = some (.int .u32 a0_3) := (blk_cell BK219.out 3).trans rfl; have hcz12_4 : w11.cell? ⟨gb219, 4, none⟩ = some (.slice A0_4 l0_4.length c0_4) := (blk_cell BK219.out 4).trans rfl; have hcz12_5 : w11.cell? ⟨gb219, 5, none⟩ = some (.slice A0_5 l0_5.length c0_5) := (blk_cell BK219.out 5).trans rfl; have hcz12_6 : w11.cell? ⟨gb219, 6, none⟩ = some (.slice A0_6 l0_6.length c0_6) := (blk_cell BK219.out 6).trans rfl; have hfz12_0 := blk_frozen BK219.out 0; have hfz12_1 := blk_frozen BK219.out 1; have hfz12_2 := blk_frozen BK219.out 2; have hfz12_3 := blk_frozen BK219.out 3; have hfz12_4 := blk_frozen BK219.out 4; have hfz12_5 := blk_frozen BK219.out 5; have hfz12_6 := blk_frozen BK219.out 6))
    go_ret
    exact ⟨by first | rfl | (simp [errW_none, errW_some] <;> rfl) | (simp [*, errW_none, errW_some] <;> rfl), by repeat (first | (with_reducible first | exact HB.out | apply below_alloc | apply pw_below_drewN | apply below_drew1 | refine below_set ?_ GE219.out) | exact HB.out)⟩
   ·
    rw [if_neg c6] at H
    have c6b0 : decide ((l0_5.length : Int) ≤ 5000) = false := decide_eq_false c6
    have c6b1 : decide (l0_5.length ≤ 5000) = false := decide_eq_false (by omega)
    clear c6
    obtain rfl := Option.some.inj H
    go_enter Try.func8, Try.ntmps8
    have tk21 : True := trivial
    have tk22 : True := trivial
    go_wp2_with (first | ((with_reducible refine gate_dst (N := 1) rfl ?_); (try (refine gate_guard (by rfl) ?_; dsimp only)); refine box_event ?hg (N := 1) ?hd (cs := #[.string a0_0, .int .u16 a0_1, .int .u16 a0_2, .int .u32 a0_3, .slice A0_4 l0_4.length c0_4, .slice A0_5 l0_5.length c0_5, .slice A0_6 l0_6.length c0_6]) (t := 27) ?hr ?_; (case hd => rfl); (case hg => rfl); (case hr => first | (go_simp; done) | (go_simp; rfl)); intro gb219 hg w15 hbox hb; have n0_ := Aside0.mk (below_step (by repeat (first | (with_reducible first | exact HB.out | apply below_alloc | apply pw_below_drewN | apply below_drew1) | exact HB.out)) hb); have n1_ := Aside0.mk (hbox); have n2_ := Aside0.mk ((by rw [hg]; exact (below_size (by repeat (first | (with_reducible first | exact HB.out | apply below_alloc | apply pw_below_drewN | apply below_drew1) | exact HB.out))) : w.heap.size ≤ gb219)); have n3_ := Aside0.mk ((by rw [hg]; exact (below_size (by repeat (first | (with_reducible first | exact HB.out | apply below_alloc | apply pw_below_drewN | apply below_drew1) | exact HB.out))) : w.heap.size ≤ gb219)); clear HB; have HB := n0_; have BK219 := n1_; have GW219 := n2_; have GE219 := n3_; clear n0_ n1_ n2_ n3_; clear hb hbox hg; have hcz16_0 : w15.cell? ⟨gb219, 0, none⟩ = some (.string a0_0) := (blk_cell BK219.out 0).trans rfl; have hcz16_1 : w15.cell? ⟨gb219, 1, none⟩ = some (.int .u16 a0_1) := (blk_cell BK219.out 1).trans rfl; have hcz16_2 : w15.cell? ⟨gb219, 2, none⟩ = some (.int .u16 a0_2) := (blk_cell BK219.out 2).trans rfl; have hcz16_3 : w15.cell? ⟨gb219, 3, none⟩ = some (.int .u32 a0_3) := (blk_cell BK219.out 3).trans rfl; have hcz16_4 : w15.cell? ⟨gb219, 4, none⟩ = some (.slice A0_4 l0_4.length c0_4) := (blk_cell BK219.out 4).trans rfl; have hcz16_5 : w15.cell? ⟨gb219, 5, none⟩ = some (.slice A0_5 l0_5.length c0_5) := (blk_cell BK219.out 5).trans rfl; have hcz16_6 : w15.cell? ⟨gb219, 6, none⟩ = some (.slice A0_6 l0_6.length c0_6) := (blk_cell BK219.out 6).trans rfl; have hfz16_0 := blk_frozen BK219.out 0; have hfz16_1 := blk_frozen BK219.out 1; have hfz16_2 := blk_frozen BK219.out 2; have hfz16_3 := blk_frozen BK219.out 3; have hfz16_4 := blk_frozen BK219.out 4; have hfz16_5 := blk_frozen BK219.out 5; have hfz16_6 := blk_frozen BK219.out 6) | (have _t : True := tk21; clear tk21 _t; (with_reducible refine gate_callee (f := 20) rfl ?_); refine goesL_ (some 5) rfl rfl Try.func20 (by kernel_rfl) rfl #[.slice A0_4 l0_4.length c0_4] rfl (by (try simp only [List.map_toArray, List.map_cons, List.map_nil]); first | done | rfl | (simp only [List.length_drop, List.length_take]; rfl)) ?_; (with_reducible refine (nunciolaw04_Few.calls k _ _ l0_4 true _ ?side1 ?side2 A2.out).mono ?_); (case side1 => repeat (first | exact (Kd.C_below HR0_4.out HB.out) | (with_reducible refine Kd.C_alloc ?_ _) | (with_reducible refine Kd.C_drewN ?_ _) | (with_reducible refine Kd.C_drew ?_))); (case side2 => exact HC0_4.out); rintro e w17 ⟨rfl, hb⟩; refine ⟨_, rfl, ?_⟩; have n0_ := Aside0.mk (blk_below (g := gb219) (o := .cells #[.string a0_0, .int .u16 a0_1, .int .u16 a0_2, .int .u32 a0_3, .slice A0_4 l0_4.length c0_4, .slice A0_5 l0_5.length c0_5, .slice A0_6 l0_6.length c0_6] 27 (0, 0)) (by (with_reducible repeat (first | refine blk_drewN ?_ _ | refine blk_drew ?_ | refine blk_alloc ?_ _)); exact BK219.out) hb); have n1_ := Aside0.mk (below_step (by repeat (first | (with_reducible first | exact HB.out | apply below_alloc | apply pw_below_drewN | apply below_drew1 | refine below_set ?_ GE219.out) | exact HB.out)) hb); clear BK219; clear HB; have BK219 := n0_; have HB := n1_; clear n0_ n1_; (try clear hb); (try clear hb2); (try clear hk); (try clear hi); have hcz18_0 : w17.cell? ⟨gb219, 0, none⟩ = some (.string a0_0) := (blk_cell BK219.out 0).trans rfl; have hcz18_1 : w17.cell? ⟨gb219, 1, none⟩ = some (.int .u16 a0_1) := (blk_cell BK219.out 1).trans rfl; have hcz18_2 : w17.cell? ⟨gb219, 2, none⟩ = some (.int .u16 a0_2) := (blk_cell BK219.out 2).trans rfl; have hcz18_3 : w17.cell? ⟨gb219, 3, none⟩ = some (.int .u32 a0_3) := (blk_cell BK219.out 3).trans rfl; have hcz18_4 : w17.cell? ⟨gb219, 4, none⟩ = some (.slice A0_4 l0_4.length c0_4) := (blk_cell BK219.out 4).trans rfl; have hcz18_5 : w17.cell? ⟨gb219, 5, none⟩ = some (.slice A0_5 l0_5.length c0_5) := (blk_cell BK219.out 5).trans rfl; have hcz18_6 : w17.cell? ⟨gb219, 6, none⟩ = some (.slice A0_6 l0_6.length c0_6) := (blk_cell BK219.out 6).trans rfl; have hfz18_0 := blk_frozen BK219.out 0; have hfz18_1 := blk_frozen BK219.out 1; have hfz18_2 := blk_frozen BK219.out 2; have hfz18_3 := blk_frozen BK219.out 3; have hfz18_4 := blk_frozen BK219.out 4; have hfz18_5 := blk_frozen BK219.out 5; have hfz18_6 := blk_frozen BK219.out 6) | (have _t : True := tk22; clear tk22 _t; go_at_call 20; (with_reducible refine (nunciolaw04_Few.calls k _ _ l0_6 true _ ?side1 ?side2 A4.out).mono ?_); (case side1 => repeat (first | exact (Kd.C_below HR0_6.out HB.out) | (with_reducible refine Kd.C_alloc ?_ _) | (with_reducible refine Kd.C_drewN ?_ _) | (with_reducible refine Kd.C_drew ?_))); (case side2 => exact HC0_6.out); rintro e w19 ⟨rfl, hb⟩; have n0_ := Aside0.mk (blk_below (g := gb219) (o := .cells #[.string a0_0, .int .u16 a0_1, .int .u16 a0_2, .int .u32 a0_3, .slice A0_4 l0_4.length c0_4, .slice A0_5 l0_5.length c0_5, .slice A0_6 l0_6.length c0_6] 27 (0, 0)) (by (with_reducible repeat (first | refine blk_drewN ?_ _ | refine blk_drew ?_ | refine blk_alloc ?_ _)); exact BK219.out) hb); have n1_ := Aside0.mk (below_step (by repeat (first | (with_reducible first | exact HB.out | apply below_alloc | apply pw_below_drewN | apply below_drew1 | refine below_set ?_ GE219.out) | exact HB.out)) hb); clear BK219; clear HB; have BK219 := n0_; have HB := n1_; clear n0_ n1_; (try clear hb); (try clear hb2); (try clear hk); (try clear hi); have hcz20_0 : w19.cell? ⟨gb219, 0, none⟩ = some (.string a0_0) := (blk_cell BK219.out 0).trans rfl; have hcz20_1 : w19.cell? ⟨gb219, 1, none⟩ = some (.int .u16 a0_1) := (blk_cell BK219.out 1).trans rfl; have hcz20_2 : w19.cell? ⟨gb219, 2, none⟩ = some (.int .u16 a0_2) := (blk_cell BK219.out 2).trans rfl; have hcz20_3 : w19.cell? ⟨gb219, 3, none⟩ = some (.int .u32 a0_3) := (blk_cell BK219.out 3).trans rfl; have hcz20_4 : w19.cell? ⟨gb219, 4, none⟩ = some (.slice A0_4 l0_4.length c0_4) := (blk_cell BK219.out 4).trans rfl; have hcz20_5 : w19.cell? ⟨gb219, 5, none⟩ = some (.slice A0_5 l0_5.length c0_5) := (blk_cell BK219.out 5).trans rfl; have hcz20_6 : w19.cell? ⟨gb219, 6, none⟩ = some (.slice A0_6 l0_6.length c0_6) := (blk_cell BK219.out 6).trans rfl; have hfz20_0 := blk_frozen BK219.out 0; have hfz20_1 := blk_frozen BK219.out 1; have hfz20_2 := blk_frozen BK219.out 2; have hfz20_3 := blk_frozen BK219.out 3; have hfz20_4 := blk_frozen BK219.out 4; have hfz20_5 := blk_frozen BK219.out 5; have hfz20_6 := blk_frozen BK219.out 6))
    go_ret
    exact ⟨by first | rfl | (simp [errW_none, errW_some] <;> rfl) | (simp [*, errW_none, errW_some] <;> rfl), by repeat (first | (with_reducible first | exact HB.out | apply below_alloc | apply pw_below_drewN | apply below_drew1 | refine below_set ?_ GE219.out) | exact HB.out)⟩
  ·
   replace c5 := Bool.eq_false_iff.mpr c5
   subst c5
   have H1 : (some false) = some r := by rw [if_neg (show ¬ (false = true) by decide)] at H; exact H
   clear H
   have H := H1
   clear H1
   obtain rfl := Option.some.inj H
   go_enter Try.func8, Try.ntmps8
   have tk28 : True := trivial
   have tk29 : True := trivial
   go_wp2_with (first | ((with_reducible refine gate_dst (N := 1) rfl ?_); (try (refine gate_guard (by rfl) ?_; dsimp only)); refine box_event ?hg (N := 1) ?hd (cs := #[.string a0_0, .int .u16 a0_1, .int .u16 a0_2, .int .u32 a0_3, .slice A0_4 l0_4.length c0_4, .slice A0_5 l0_5.length c0_5, .slice A0_6 l0_6.length c0_6]) (t := 27) ?hr ?_; (case hd => rfl); (case hg => rfl); (case hr => first | (go_simp; done) | (go_simp; rfl)); intro gb219 hg w23 hbox hb; have n0_ := Aside0.mk (below_step (by repeat (first | (with_reducible first | exact HB.out | apply below_alloc | apply pw_below_drewN | apply below_drew1) | exact HB.out)) hb); have n1_ := Aside0.mk (hbox); have n2_ := Aside0.mk ((by rw [hg]; exact (below_size (by repeat (first | (with_reducible first | exact HB.out | apply below_alloc | apply pw_below_drewN | apply below_drew1) | exact HB.out))) : w.heap.size ≤ gb219)); have n3_ := Aside0.mk ((by rw [hg]; exact (below_size (by repeat (first | (with_reducible first | exact HB.out | apply below_alloc | apply pw_below_drewN | apply below_drew1) | exact HB.out))) : w.heap.size ≤ gb219)); clear HB; have HB := n0_; have BK219 := n1_; have GW219 := n2_; have GE219 := n3_; clear n0_ n1_ n2_ n3_; clear hb hbox hg; have hcz24_0 : w23.cell? ⟨gb219, 0, none⟩ = some (.string a0_0) := (blk_cell BK219.out 0).trans rfl; have hcz24_1 : w23.cell? ⟨gb219, 1, none⟩ = some (.int .u16 a0_1) := (blk_cell BK219.out 1).trans rfl; have hcz24_2 : w23.cell? ⟨gb219, 2, none⟩ = some (.int .u16 a0_2) := (blk_cell BK219.out 2).trans rfl; have hcz24_3 : w23.cell? ⟨gb219, 3, none⟩ = some (.int .u32 a0_3) := (blk_cell BK219.out 3).trans rfl; have hcz24_4 : w23.cell? ⟨gb219, 4, none⟩ = some (.slice A0_4 l0_4.length c0_4) := (blk_cell BK219.out 4).trans rfl; have hcz24_5 : w23.cell? ⟨gb219, 5, none⟩ = some (.slice A0_5 l0_5.length c0_5) := (blk_cell BK219.out 5).trans rfl; have hcz24_6 : w23.cell? ⟨gb219, 6, none⟩ = some (.slice A0_6 l0_6.length c0_6) := (blk_cell BK219.out 6).trans rfl; have hfz24_0 := blk_frozen BK219.out 0; have hfz24_1 := blk_frozen BK219.out 1; have hfz24_2 := blk_frozen BK219.out 2; have hfz24_3 := blk_frozen BK219.out 3; have hfz24_4 := blk_frozen BK219.out 4; have hfz24_5 := blk_frozen BK219.out 5; have hfz24_6 := blk_frozen BK219.out 6) | (have _t : True := tk28; clear tk28 _t; (with_reducible refine gate_callee (f := 20) rfl ?_); refine goesL_ (some 5) rfl rfl Try.func20 (by kernel_rfl) rfl #[.slice A0_4 l0_4.length c0_4] rfl (by (try simp only [List.map_toArray, List.map_cons, List.map_nil]); first | done | rfl | (simp only [List.length_drop, List.length_take]; rfl)) ?_; (with_reducible refine (nunciolaw04_Few.calls k _ _ l0_4 true _ ?side1 ?side2 A2.out).mono ?_); (case side1 => repeat (first | exact (Kd.C_below HR0_4.out HB.out) | (with_reducible refine Kd.C_alloc ?_ _) | (with_reducible refine Kd.C_drewN ?_ _) | (with_reducible refine Kd.C_drew ?_))); (case side2 => exact HC0_4.out); rintro e w25 ⟨rfl, hb⟩; refine ⟨_, rfl, ?_⟩; have n0_ := Aside0.mk (blk_below (g := gb219) (o := .cells #[.string a0_0, .int .u16 a0_1, .int .u16 a0_2, .int .u32 a0_3, .slice A0_4 l0_4.length c0_4, .slice A0_5 l0_5.length c0_5, .slice A0_6 l0_6.length c0_6] 27 (0, 0)) (by (with_reducible repeat (first | refine blk_drewN ?_ _ | refine blk_drew ?_ | refine blk_alloc ?_ _)); exact BK219.out) hb); have n1_ := Aside0.mk (below_step (by repeat (first | (with_reducible first | exact HB.out | apply below_alloc | apply pw_below_drewN | apply below_drew1 | refine below_set ?_ GE219.out) | exact HB.out)) hb); clear BK219; clear HB; have BK219 := n0_; have HB := n1_; clear n0_ n1_; (try clear hb); (try clear hb2); (try clear hk); (try clear hi); have hcz26_0 : w25.cell? ⟨gb219, 0, none⟩ = some (.string a0_0) := (blk_cell BK219.out 0).trans rfl; have hcz26_1 : w25.cell? ⟨gb219, 1, none⟩ = some (.int .u16 a0_1) := (blk_cell BK219.out 1).trans rfl; have hcz26_2 : w25.cell? ⟨gb219, 2, none⟩ = some (.int .u16 a0_2) := (blk_cell BK219.out 2).trans rfl; have hcz26_3 : w25.cell? ⟨gb219, 3, none⟩ = some (.int .u32 a0_3) := (blk_cell BK219.out 3).trans rfl; have hcz26_4 : w25.cell? ⟨gb219, 4, none⟩ = some (.slice A0_4 l0_4.length c0_4) := (blk_cell BK219.out 4).trans rfl; have hcz26_5 : w25.cell? ⟨gb219, 5, none⟩ = some (.slice A0_5 l0_5.length c0_5) := (blk_cell BK219.out 5).trans rfl; have hcz26_6 : w25.cell? ⟨gb219, 6, none⟩ = some (.slice A0_6 l0_6.length c0_6) := (blk_cell BK219.out 6).trans rfl; have hfz26_0 := blk_frozen BK219.out 0; have hfz26_1 := blk_frozen BK219.out 1; have hfz26_2 := blk_frozen BK219.out 2; have hfz26_3 := blk_frozen BK219.out 3; have hfz26_4 := blk_frozen BK219.out 4; have hfz26_5 := blk_frozen BK219.out 5; have hfz26_6 := blk_frozen BK219.out 6) | (have _t : True := tk29; clear tk29 _t; go_at_call 20; (with_reducible refine (nunciolaw04_Few.calls k _ _ l0_6 false _ ?side1 ?side2 A4.out).mono ?_); (case side1 => repeat (first | exact (Kd.C_below HR0_6.out HB.out) | (with_reducible refine Kd.C_alloc ?_ _) | (with_reducible refine Kd.C_drewN ?_ _) | (with_reducible refine Kd.C_drew ?_))); (case side2 => exact HC0_6.out); rintro e w27 ⟨rfl, hb⟩; have n0_ := Aside0.mk (blk_below (g := gb219) (o := .cells #[.string a0_0, .int .u16 a0_1, .int .u16 a0_2, .int .u32 a0_3, .slice A0_4 l0_4.length c0_4, .slice A0_5 l0_5.length c0_5, .slice A0_6 l0_6.length c0_6] 27 (0, 0)) (by (with_reducible repeat (first | refine blk_drewN ?_ _ | refine blk_drew ?_ | refine blk_alloc ?_ _)); exact BK219.out) hb); have n1_ := Aside0.mk (below_step (by repeat (first | (with_reducible first | exact HB.out | apply below_alloc | apply pw_below_drewN | apply below_drew1 | refine below_set ?_ GE219.out) | exact HB.out)) hb); clear BK219; clear HB; have BK219 := n0_; have HB := n1_; clear n0_ n1_; (try clear hb); (try clear hb2); (try clear hk); (try clear hi)))
   go_ret
   exact ⟨by first | rfl | (simp [errW_none, errW_some] <;> rfl) | (simp [*, errW_none, errW_some] <;> rfl), by repeat (first | (with_reducible first | exact HB.out | apply below_alloc | apply pw_below_drewN | apply below_drew1 | refine below_set ?_ GE219.out) | exact HB.out)⟩
 ·
  replace c3 := Bool.eq_false_iff.mpr c3
  subst c3
  have H1 : (some false) = some r := by rw [if_neg (show ¬ (false = true) by decide)] at H; exact H
  clear H
  have H := H1
  clear H1
  obtain rfl := Option.some.inj H
  go_enter Try.func8, Try.ntmps8
  go_wp2_with (first | ((with_reducible refine gate_dst (N := 1) rfl ?_); (try (refine gate_guard (by rfl) ?_; dsimp only)); refine box_event ?hg (N := 1) ?hd (cs := #[.string a0_0, .int .u16 a0_1, .int .u16 a0_2, .int .u32 a0_3, .slice A0_4 l0_4.length c0_4, .slice A0_5 l0_5.length c0_5, .slice A0_6 l0_6.length c0_6]) (t := 27) ?hr ?_; (case hd => rfl); (case hg => rfl); (case hr => first | (go_simp; done) | (go_simp; rfl)); intro gb219 hg w30 hbox hb; have n0_ := Aside0.mk (below_step (by repeat (first | (with_reducible first | exact HB.out | apply below_alloc | apply pw_below_drewN | apply below_drew1) | exact HB.out)) hb); have n1_ := Aside0.mk (hbox); have n2_ := Aside0.mk ((by rw [hg]; exact (below_size (by repeat (first | (with_reducible first | exact HB.out | apply below_alloc | apply pw_below_drewN | apply below_drew1) | exact HB.out))) : w.heap.size ≤ gb219)); have n3_ := Aside0.mk ((by rw [hg]; exact (below_size (by repeat (first | (with_reducible first | exact HB.out | apply below_alloc | apply pw_below_drewN | apply below_drew1) | exact HB.out))) : w.heap.size ≤ gb219)); clear HB; have HB := n0_; have BK219 := n1_; have GW219 := n2_; have GE219 := n3_; clear n0_ n1_ n2_ n3_; clear hb hbox hg; have hcz31_0 : w30.cell? ⟨gb219, 0, none⟩ = some (.string a0_0) := (blk_cell BK219.out 0).trans rfl; have hcz31_1 : w30.cell? ⟨gb219, 1, none⟩ = some (.int .u16 a0_1) := (blk_cell BK219.out 1).trans rfl; have hcz31_2 : w30.cell? ⟨gb219, 2, none⟩ = some (.int .u16 a0_2) := (blk_cell BK219.out 2).trans rfl; have hcz31_3 : w30.cell? ⟨gb219, 3, none⟩ = some (.int .u32 a0_3) := (blk_cell BK219.out 3).trans rfl; have hcz31_4 : w30.cell? ⟨gb219, 4, none⟩ = some (.slice A0_4 l0_4.length c0_4) := (blk_cell BK219.out 4).trans rfl; have hcz31_5 : w30.cell? ⟨gb219, 5, none⟩ = some (.slice A0_5 l0_5.length c0_5) := (blk_cell BK219.out 5).trans rfl; have hcz31_6 : w30.cell? ⟨gb219, 6, none⟩ = some (.slice A0_6 l0_6.length c0_6) := (blk_cell BK219.out 6).trans rfl; have hfz31_0 := blk_frozen BK219.out 0; have hfz31_1 := blk_frozen BK219.out 1; have hfz31_2 := blk_frozen BK219.out 2; have hfz31_3 := blk_frozen BK219.out 3; have hfz31_4 := blk_frozen BK219.out 4; have hfz31_5 := blk_frozen BK219.out 5; have hfz31_6 := blk_frozen BK219.out 6) | ((with_reducible refine gate_callee (f := 20) rfl ?_); refine goesL_ (some 5) rfl rfl Try.func20 (by kernel_rfl) rfl #[.slice A0_4 l0_4.length c0_4] rfl (by (try simp only [List.map_toArray, List.map_cons, List.map_nil]); first | done | rfl | (simp only [List.length_drop, List.length_take]; rfl)) ?_; (with_reducible refine (nunciolaw04_Few.calls k _ _ l0_4 false _ ?side1 ?side2 A2.out).mono ?_); (case side1 => repeat (first | exact (Kd.C_below HR0_4.out HB.out) | (with_reducible refine Kd.C_alloc ?_ _) | (with_reducible refine Kd.C_drewN ?_ _) | (with_reducible refine Kd.C_drew ?_))); (case side2 => exact HC0_4.out); rintro e w32 ⟨rfl, hb⟩; refine ⟨_, rfl, ?_⟩; have n0_ := Aside0.mk (blk_below (g := gb219) (o := .cells #[.string a0_0, .int .u16 a0_1, .int .u16 a0_2, .int .u32 a0_3, .slice A0_4 l0_4.length c0_4, .slice A0_5 l0_5.length c0_5, .slice A0_6 l0_6.length c0_6] 27 (0, 0)) (by (with_reducible repeat (first | refine blk_drewN ?_ _ | refine blk_drew ?_ | refine blk_alloc ?_ _)); exact BK219.out) hb); have n1_ := Aside0.mk (below_step (by repeat (first | (with_reducible first | exact HB.out | apply below_alloc | apply pw_below_drewN | apply below_drew1 | refine below_set ?_ GE219.out) | exact HB.out)) hb); clear BK219; clear HB; have BK219 := n0_; have HB := n1_; clear n0_ n1_; (try clear hb); (try clear hb2); (try clear hk); (try clear hi)))
  go_ret
  exact ⟨by first | rfl | (simp [errW_none, errW_some] <;> rfl) | (simp [*, errW_none, errW_some] <;> rfl), by repeat (first | (with_reducible first | exact HB.out | apply below_alloc | apply pw_below_drewN | apply below_drew1 | refine below_set ?_ GE219.out) | exact HB.out)⟩

end Go.Proofs.Ytebnbjnkameicaa.Mine
