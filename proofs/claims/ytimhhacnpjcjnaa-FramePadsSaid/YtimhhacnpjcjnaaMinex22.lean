-- Written by this repo's own printer (wip/print), which builds on the kit's.
import Derived.Test.YtimhhacnpjcjnaaMinex0
import Derived.Test.YtimhhacnpjcjnaaMinex18
import Derived.Test.YtimhhacnpjcjnaaMinex19
import Derived.Test.YtimhhacnpjcjnaaMinex21
namespace Go.Proofs.Ytimhhacnpjcjnaa.Mine
open Go.RowKit Go.Proofs.YtimhhacnpjcjnaaW.PrintWords Go.Proofs.YtimhhacnpjcjnaaW.PrintLast Go.Proofs.YtimhhacnpjcjnaaW.PrintMore
attribute [local go_sem] max2_int min2_int max_two min_two max_three min_three max_four min_four   -- for this text's walks alone
set_option linter.unusedVariables false
set_option linter.unusedSimpArgs false

/-! ### nuncioref14_Content: function 16 -/
def nuncioref14_Content.j0 : Nat → Bool → Int → Int → Int → ByteArray → Option (ByteArray)
 | 0, _, _, _, _, _ => none
 | k + 1, x17, x261000, x261001, x261002, x261003 => if x17 = true then (some x261003) else ((nuncioref14_flag.f x261000 x261001 x261002 x261003 8).bind fun t263 => (if t263 = true then (if 0 < (x261003.size : Int) then ((nuncioref14_ahead.f x261000 x261001 x261002 x261003).bind fun t264 => (if 0 ≤ t264 then (if t264 ≤ (wrap64 ((x261003.size : Int) - (wrap64 (bt x261003 0)))) then (if (wrap64 ((x261003.size : Int) - (wrap64 (bt x261003 0)))) ≤ (x261003.size : Int) then (some (x261003.extract (t264 : Int).toNat ((wrap64 ((x261003.size : Int) - (wrap64 (bt x261003 0)))) : Int).toNat)) else (none)) else (none)) else (none))) else (none)) else ((nuncioref14_ahead.f x261000 x261001 x261002 x261003).bind fun t265 => (if 0 ≤ t265 then (if t265 ≤ (x261003.size : Int) then (if (x261003.size : Int) ≤ (x261003.size : Int) then (some (x261003.extract (t265 : Int).toNat ((x261003.size : Int) : Int).toNat)) else (none)) else (none)) else (none)))))
def nuncioref14_Content.f (k : Nat) (a0_0 : Int) (a0_1 : Int) (a0_2 : Int) (a0_3 : ByteArray) : Option (ByteArray) := (nuncioref14_Wrong.f k a0_0 a0_1 a0_2 a0_3).bind fun bt261 => (if a0_0 > 1 then (nuncioref14_Content.j0 k true a0_0 a0_1 a0_2 a0_3) else (nuncioref14_Content.j0 k (bt261.1 == 2) a0_0 a0_1 a0_2 a0_3))
theorem nuncioref14_Content.mono_l : ∀ k, (∀ y0 y1 y2 y3 y4, LeO (nuncioref14_Content.j0 k y0 y1 y2 y3 y4) (nuncioref14_Content.j0 (k + 1) y0 y1 y2 y3 y4))
 | 0 => fun _ _ _ _ _ r h => by simp [nuncioref14_Content.j0] at h
 | k + 1 => by
  have ih0 := nuncioref14_Content.mono_l k
  ·
   intro y0 y1 y2 y3 y4
   unfold nuncioref14_Content.j0
   repeat' first
   | (with_reducible exact ih0 _ _ _ _ _)
   | (with_reducible exact nuncioref14_Wrong.mono _ _ _ _ _)
   | (with_reducible exact LeO.refl _)
   | (with_reducible exact LeO.none _)
   | (with_reducible refine LeO.ite ?_ ?_)
   | (with_reducible refine LeO.bind ?_ (fun _ => ?_))
   | exact ih0 _ _ _ _ _
   | exact nuncioref14_Wrong.mono _ _ _ _ _
   | exact LeO.none _
   | refine LeO.ite ?_ ?_
   | refine LeO.bind ?_ (fun _ => ?_)
theorem nuncioref14_Content.mono : ∀ a0 a1 a2 a3 k, LeO (nuncioref14_Content.f k a0 a1 a2 a3) (nuncioref14_Content.f (k + 1) a0 a1 a2 a3) := by
 intro a0 a1 a2 a3 k
 have ih0 := nuncioref14_Content.mono_l k
 unfold nuncioref14_Content.f
 repeat' first
   | (with_reducible exact ih0 _ _ _ _ _)
   | (with_reducible exact nuncioref14_Wrong.mono _ _ _ _ _)
   | (with_reducible exact LeO.refl _)
   | (with_reducible exact LeO.none _)
   | (with_reducible refine LeO.ite ?_ ?_)
   | (with_reducible refine LeO.bind ?_ (fun _ => ?_))
   | exact ih0 _ _ _ _ _
   | exact nuncioref14_Wrong.mono _ _ _ _ _
   | exact LeO.none _
   | refine LeO.ite ?_ ?_
   | refine LeO.bind ?_ (fun _ => ?_)
set_option maxHeartbeats 8000000 in
set_option maxRecDepth 100000 in
theorem nuncioref14_Content.calls (k : Nat) (a0_0 : Int) (a0_1 : Int) (a0_2 : Int) (a0_3 : ByteArray) (r : ByteArray) (w : World) (h : nuncioref14_Content.f k a0_0 a0_1 a0_2 a0_3 = some r) :
  Calls Try.prog 16 #[.agg #[.int .u8 a0_0, .int .u8 a0_1, .int .u32 a0_2, .string a0_3]] w fun e w' => e = .returned (.string r) ∧ Below w.heap.size w w' := by
 have hu24 := Try.underlying24
 have HB := Aside0.mk (Below.refl w.heap.size w)
 have H : ((nuncioref14_Wrong.f k a0_0 a0_1 a0_2 a0_3).bind fun bt261 => (if a0_0 > 1 then (nuncioref14_Content.j0 k true a0_0 a0_1 a0_2 a0_3) else (nuncioref14_Content.j0 k (bt261.1 == 2) a0_0 a0_1 a0_2 a0_3))) = some r := h
 clear h
 replace H := Option.bind_eq_some_iff.mp H
 obtain ⟨⟨t261, t262⟩, A20, H⟩ := H
 replace H : (if a0_0 > 1 then (nuncioref14_Content.j0 k true a0_0 a0_1 a0_2 a0_3) else (nuncioref14_Content.j0 k (t261 == 2) a0_0 a0_1 a0_2 a0_3)) = some r := H
 have A2 := Aside0.mk A20
 clear A20
 have HC3 := Aside0.mk H
 clear H
 go_enter Try.func16, Try.ntmps16
 go_upto_region 2 with (first | ((with_reducible refine gate_dst (N := 1) rfl ?_); refine box_event ?hg (N := 1) ?hd (cs := #[.int .u8 a0_0, .int .u8 a0_1, .int .u32 a0_2, .string a0_3]) (t := 24) ?hr ?_; (case hd => rfl); (case hg => rfl); (case hr => first | (go_simp; done) | (go_simp; rfl)); intro gb260 hg w4 hbox hb; have n0_ := Aside0.mk (below_step (by repeat (first | (with_reducible first | exact HB.out | apply below_alloc | apply pw_below_drewN | apply below_drew1) | exact HB.out)) hb); have n1_ := Aside0.mk (hbox); have n2_ := Aside0.mk ((by rw [hg]; exact (below_size (by repeat (first | (with_reducible first | exact HB.out | apply below_alloc | apply pw_below_drewN | apply below_drew1) | exact HB.out))) : w.heap.size ≤ gb260)); have n3_ := Aside0.mk ((by rw [hg]; exact (below_size (by repeat (first | (with_reducible first | exact HB.out | apply below_alloc | apply pw_below_drewN | apply below_drew1) | exact HB.out))) : w.heap.size ≤ gb260)); clear HB; have HB := n0_; have BK260 := n1_; have GW260 := n2_; have GE260 := n3_; clear n0_ n1_ n2_ n3_; clear hb hbox hg; have hcz5_0 : w4.cell? ⟨gb260, 0, none⟩ = some (.int .u8 a0_0) := (blk_cell BK260.out 0).trans rfl; have hcz5_1 : w4.cell? ⟨gb260, 1, none⟩ = some (.int .u8 a0_1) := (blk_cell BK260.out 1).trans rfl; have hcz5_2 : w4.cell? ⟨gb260, 2, none⟩ = some (.int .u32 a0_2) := (blk_cell BK260.out 2).trans rfl; have hcz5_3 : w4.cell? ⟨gb260, 3, none⟩ = some (.string a0_3) := (blk_cell BK260.out 3).trans rfl; have hfz5_0 := blk_frozen BK260.out 0; have hfz5_1 := blk_frozen BK260.out 1; have hfz5_2 := blk_frozen BK260.out 2; have hfz5_3 := blk_frozen BK260.out 3) | ((with_reducible refine gate_callee (f := 14) rfl ?_); refine goesL_ (some 8) rfl rfl Try.func14 (by kernel_rfl) rfl #[.agg #[.int .u8 a0_0, .int .u8 a0_1, .int .u32 a0_2, .string a0_3]] rfl (by (try simp only [List.map_toArray, List.map_cons, List.map_nil]); first | done | rfl | (simp only [List.length_drop, List.length_take]; rfl)) ?_; (with_reducible refine (nuncioref14_Wrong.calls k a0_0 a0_1 a0_2 a0_3 t261 t262 _ A2.out).mono ?_); rintro e w6 ⟨rfl, hb⟩; refine ⟨_, rfl, ?_⟩; have n0_ := Aside0.mk (blk_below (g := gb260) (o := .cells #[.int .u8 a0_0, .int .u8 a0_1, .int .u32 a0_2, .string a0_3] 24 (0, 0)) (by (with_reducible repeat (first | refine blk_drewN ?_ _ | refine blk_drew ?_ | refine blk_alloc ?_ _)); exact BK260.out) hb); have n1_ := Aside0.mk (below_step (by repeat (first | (with_reducible first | exact HB.out | apply below_alloc | apply pw_below_drewN | apply below_drew1 | refine below_set ?_ GE260.out) | exact HB.out)) hb); clear BK260; clear HB; have BK260 := n0_; have HB := n1_; clear n0_ n1_; (try clear hb); (try clear hb2); (try clear hk); (try clear hi)))
 (try simp only [Act.put, List.setIfInBounds_toArray, List.set_cons_zero, List.set_cons_succ])
 go_cut [17] (fun v17 wc => ∃ (kq : Nat) (x17_2 : Bool), v17 = .bool x17_2 ∧ Aside0 (nuncioref14_Content.j0 kq x17_2 a0_0 a0_1 a0_2 a0_3 = some r) ∧ Aside0 (kq ≤ k) ∧ Aside0 (wc.heap[gb260]? = some (.cells #[.int .u8 a0_0, .int .u8 a0_1, .int .u32 a0_2, .string a0_3] 24 (0, 0))) ∧ Aside0 (Below w.heap.size w wc))
 case first =>
  have H := HC3.out
  clear HC3
  by_cases c7 : a0_0 > 1
  ·
   rw [if_pos c7] at H
   have c7b0 : decide (1 < a0_0) = true := decide_eq_true c7
   clear c7
   (first | rw [c7b0] | (simp only [i64_w, i32_w]; rw [c7b0]) | skip)
   have H' := Aside0.mk H
   clear H
   have hcz8_0 : w6.cell? ⟨gb260, 0, none⟩ = some (.int .u8 a0_0) := (blk_cell BK260.out 0).trans rfl
   have hcz8_1 : w6.cell? ⟨gb260, 1, none⟩ = some (.int .u8 a0_1) := (blk_cell BK260.out 1).trans rfl
   have hcz8_2 : w6.cell? ⟨gb260, 2, none⟩ = some (.int .u32 a0_2) := (blk_cell BK260.out 2).trans rfl
   have hcz8_3 : w6.cell? ⟨gb260, 3, none⟩ = some (.string a0_3) := (blk_cell BK260.out 3).trans rfl
   have hfz8_0 := blk_frozen BK260.out 0
   have hfz8_1 := blk_frozen BK260.out 1
   have hfz8_2 := blk_frozen BK260.out 2
   have hfz8_3 := blk_frozen BK260.out 3
   go_wp2
   go_meet
   case rel => exact ⟨_, (true), (by first | rfl | (simp; done) | (simp [*]; done)), H', ⟨by first | omega | exact Nat.le_refl _⟩, ⟨by (with_reducible repeat (first | refine blk_drewN ?_ _ | refine blk_drew ?_ | refine blk_alloc ?_ _)); exact BK260.out⟩, ⟨by repeat (first | (with_reducible first | exact HB.out | apply below_alloc | apply pw_below_drewN | apply below_drew1 | refine below_set ?_ GE260.out) | exact HB.out)⟩⟩
  ·
   rw [if_neg c7] at H
   have c7b0 : decide (1 < a0_0) = false := decide_eq_false c7
   clear c7
   (first | rw [c7b0] | (simp only [i64_w, i32_w]; rw [c7b0]) | skip)
   have H' := Aside0.mk H
   clear H
   have hcz9_0 : w6.cell? ⟨gb260, 0, none⟩ = some (.int .u8 a0_0) := (blk_cell BK260.out 0).trans rfl
   have hcz9_1 : w6.cell? ⟨gb260, 1, none⟩ = some (.int .u8 a0_1) := (blk_cell BK260.out 1).trans rfl
   have hcz9_2 : w6.cell? ⟨gb260, 2, none⟩ = some (.int .u32 a0_2) := (blk_cell BK260.out 2).trans rfl
   have hcz9_3 : w6.cell? ⟨gb260, 3, none⟩ = some (.string a0_3) := (blk_cell BK260.out 3).trans rfl
   have hfz9_0 := blk_frozen BK260.out 0
   have hfz9_1 := blk_frozen BK260.out 1
   have hfz9_2 := blk_frozen BK260.out 2
   have hfz9_3 := blk_frozen BK260.out 3
   go_wp2
   go_meet
   case rel => exact ⟨_, ((t261 == 2)), (by first | rfl | (simp; done) | (simp [*]; done)), H', ⟨by first | omega | exact Nat.le_refl _⟩, ⟨by (with_reducible repeat (first | refine blk_drewN ?_ _ | refine blk_drew ?_ | refine blk_alloc ?_ _)); exact BK260.out⟩, ⟨by repeat (first | (with_reducible first | exact HB.out | apply below_alloc | apply pw_below_drewN | apply below_drew1 | refine below_set ?_ GE260.out) | exact HB.out)⟩⟩
 case rest =>
  clear HC3
  try clear c1
  try clear p2
  try clear c7
  try clear c7b0
  try clear hcz5_0
  try clear hcz5_1
  try clear hcz5_2
  try clear hcz5_3
  try clear hcz8_0
  try clear hcz8_1
  try clear hcz8_2
  try clear hcz8_3
  try clear hcz9_0
  try clear hcz9_1
  try clear hcz9_2
  try clear hcz9_3
  try clear hfz5_0
  try clear hfz5_1
  try clear hfz5_2
  try clear hfz5_3
  try clear hfz8_0
  try clear hfz8_1
  try clear hfz8_2
  try clear hfz8_3
  try clear hfz9_0
  try clear hfz9_1
  try clear hfz9_2
  try clear hfz9_3
  obtain ⟨kq, x17_2, rfl, HA, HJ2, BK260, HB⟩ := hcut
  cases kq with
  | zero => exact absurd HA.out (by simp [nuncioref14_Content.j0])
  | succ kj2 =>
   have H := HA.out
   clear HA
   simp only [nuncioref14_Content.j0] at H
   by_cases c10 : x17_2 = true
   ·
    subst c10
    have H1 : (some a0_3) = some r := by rw [if_pos rfl] at H; exact H
    clear H
    have H := H1
    clear H1
    obtain rfl := Option.some.inj H
    have hcz11_0 : wc.cell? ⟨gb260, 0, none⟩ = some (.int .u8 a0_0) := (blk_cell BK260.out 0).trans rfl
    have hcz11_1 : wc.cell? ⟨gb260, 1, none⟩ = some (.int .u8 a0_1) := (blk_cell BK260.out 1).trans rfl
    have hcz11_2 : wc.cell? ⟨gb260, 2, none⟩ = some (.int .u32 a0_2) := (blk_cell BK260.out 2).trans rfl
    have hcz11_3 : wc.cell? ⟨gb260, 3, none⟩ = some (.string a0_3) := (blk_cell BK260.out 3).trans rfl
    have hfz11_0 := blk_frozen BK260.out 0
    have hfz11_1 := blk_frozen BK260.out 1
    have hfz11_2 := blk_frozen BK260.out 2
    have hfz11_3 := blk_frozen BK260.out 3
    go_wp2
    go_ret
    exact ⟨by first | rfl | (simp [errW_none, errW_some] <;> rfl) | (simp [*, errW_none, errW_some] <;> rfl), by repeat (first | (with_reducible first | exact HB.out | apply below_alloc | apply pw_below_drewN | apply below_drew1 | refine below_set ?_ GE260.out) | exact HB.out)⟩
   ·
    replace c10 := Bool.eq_false_iff.mpr c10
    subst c10
    have H1 : ((nuncioref14_flag.f a0_0 a0_1 a0_2 a0_3 8).bind fun t263 => (if t263 = true then (if 0 < (a0_3.size : Int) then ((nuncioref14_ahead.f a0_0 a0_1 a0_2 a0_3).bind fun t264 => (if 0 ≤ t264 then (if t264 ≤ (wrap64 ((a0_3.size : Int) - (wrap64 (bt a0_3 0)))) then (if (wrap64 ((a0_3.size : Int) - (wrap64 (bt a0_3 0)))) ≤ (a0_3.size : Int) then (some (a0_3.extract (t264 : Int).toNat ((wrap64 ((a0_3.size : Int) - (wrap64 (bt a0_3 0)))) : Int).toNat)) else (none)) else (none)) else (none))) else (none)) else ((nuncioref14_ahead.f a0_0 a0_1 a0_2 a0_3).bind fun t265 => (if 0 ≤ t265 then (if t265 ≤ (a0_3.size : Int) then (if (a0_3.size : Int) ≤ (a0_3.size : Int) then (some (a0_3.extract (t265 : Int).toNat ((a0_3.size : Int) : Int).toNat)) else (none)) else (none)) else (none))))) = some r := by rw [if_neg (show ¬ (false = true) by decide)] at H; exact H
    clear H
    have H := H1
    clear H1
    replace H := Option.bind_eq_some_iff.mp H
    obtain ⟨t263, A120, H⟩ := H
    replace H : (if t263 = true then (if 0 < (a0_3.size : Int) then ((nuncioref14_ahead.f a0_0 a0_1 a0_2 a0_3).bind fun t264 => (if 0 ≤ t264 then (if t264 ≤ (wrap64 ((a0_3.size : Int) - (wrap64 (bt a0_3 0)))) then (if (wrap64 ((a0_3.size : Int) - (wrap64 (bt a0_3 0)))) ≤ (a0_3.size : Int) then (some (a0_3.extract (t264 : Int).toNat ((wrap64 ((a0_3.size : Int) - (wrap64 (bt a0_3 0)))) : Int).toNat)) else (none)) else (none)) else (none))) else (none)) else ((nuncioref14_ahead.f a0_0 a0_1 a0_2 a0_3).bind fun t265 => (if 0 ≤ t265 then (if t265 ≤ (a0_3.size : Int) then (if (a0_3.size : Int) ≤ (a0_3.size : Int) then (some (a0_3.extract (t265 : Int).toNat ((a0_3.size : Int) : Int).toNat)) else (none)) else (none)) else (none)))) = some r := H
    have A12 := Aside0.mk A120
    clear A120
    by_cases c13 : t263 = true
    ·
     subst c13
     have H1 : (if 0 < (a0_3.size : Int) then ((nuncioref14_ahead.f a0_0 a0_1 a0_2 a0_3).bind fun t264 => (if 0 ≤ t264 then (if t264 ≤ (wrap64 ((a0_3.size : Int) - (wrap64 (bt a0_3 0)))) then (if (wrap64 ((a0_3.size : Int) - (wrap64 (bt a0_3 0)))) ≤ (a0_3.size : Int) then (some (a0_3.extract (t264 : Int).toNat ((wrap64 ((a0_3.size : Int) - (wrap64 (bt a0_3 0)))) : Int).toNat)) else (none)) else (none)) else (none))) else (none)) = some r := by rw [if_pos rfl] at H; exact H
     clear H
     have H := H1
     clear H1
     by_cases c14 : 0 < (a0_3.size : Int)
     ·
      rw [if_pos c14] at H
      have c14b0 : decide (0 < (a0_3.size : Int)) = true := decide_eq_true c14
      have c14b1 : decide (0 < a0_3.size) = true := decide_eq_true (by omega)
      clear c14
      replace H := Option.bind_eq_some_iff.mp H
      obtain ⟨t264, A160, H⟩ := H
      replace H : (if 0 ≤ t264 then (if t264 ≤ (wrap64 ((a0_3.size : Int) - (wrap64 (bt a0_3 0)))) then (if (wrap64 ((a0_3.size : Int) - (wrap64 (bt a0_3 0)))) ≤ (a0_3.size : Int) then (some (a0_3.extract (t264 : Int).toNat ((wrap64 ((a0_3.size : Int) - (wrap64 (bt a0_3 0)))) : Int).toNat)) else (none)) else (none)) else (none)) = some r := H
      have A16 := Aside0.mk A160
      clear A160
      by_cases c17 : 0 ≤ t264
      ·
       rw [if_pos c17] at H
       have c17b0 := eq_true c17
       have c17b1 : decide (0 ≤ t264) = true := decide_eq_true c17
       clear c17
       by_cases c18 : t264 ≤ (wrap64 ((a0_3.size : Int) - (wrap64 (bt a0_3 0))))
       ·
        rw [if_pos c18] at H
        have c18b0 := eq_true c18
        have c18b1 : decide (t264 ≤ (wrap64 ((a0_3.size : Int) - (wrap64 (bt a0_3 0))))) = true := decide_eq_true c18
        clear c18
        by_cases c19 : (wrap64 ((a0_3.size : Int) - (wrap64 (bt a0_3 0)))) ≤ (a0_3.size : Int)
        ·
         rw [if_pos c19] at H
         have c19b0 := eq_true c19
         have c19b1 : decide ((wrap64 ((a0_3.size : Int) - (wrap64 (bt a0_3 0)))) ≤ (a0_3.size : Int)) = true := decide_eq_true c19
         clear c19
         obtain rfl := Option.some.inj H
         have hcz20_0 : wc.cell? ⟨gb260, 0, none⟩ = some (.int .u8 a0_0) := (blk_cell BK260.out 0).trans rfl
         have hcz20_1 : wc.cell? ⟨gb260, 1, none⟩ = some (.int .u8 a0_1) := (blk_cell BK260.out 1).trans rfl
         have hcz20_2 : wc.cell? ⟨gb260, 2, none⟩ = some (.int .u32 a0_2) := (blk_cell BK260.out 2).trans rfl
         have hcz20_3 : wc.cell? ⟨gb260, 3, none⟩ = some (.string a0_3) := (blk_cell BK260.out 3).trans rfl
         have hfz20_0 := blk_frozen BK260.out 0
         have hfz20_1 := blk_frozen BK260.out 1
         have hfz20_2 := blk_frozen BK260.out 2
         have hfz20_3 := blk_frozen BK260.out 3
         try go_wp2_with (first | ((with_reducible refine gate_callee (f := 30) rfl ?_); refine goesL_ (some 24) rfl rfl Try.func30 (by kernel_rfl) rfl #[.agg #[.int .u8 a0_0, .int .u8 a0_1, .int .u32 a0_2, .string a0_3], .int .i64 8] rfl (by (try simp only [List.map_toArray, List.map_cons, List.map_nil]); first | done | rfl | (simp only [List.length_drop, List.length_take]; rfl)) ?_; (with_reducible refine (nuncioref14_flag.calls a0_0 a0_1 a0_2 a0_3 8 true _ A12.out).mono ?_); rintro e w21 ⟨rfl, hb⟩; refine ⟨_, rfl, ?_⟩; have n0_ := Aside0.mk (blk_below (g := gb260) (o := .cells #[.int .u8 a0_0, .int .u8 a0_1, .int .u32 a0_2, .string a0_3] 24 (0, 0)) (by (with_reducible repeat (first | refine blk_drewN ?_ _ | refine blk_drew ?_ | refine blk_alloc ?_ _)); exact BK260.out) hb); have n1_ := Aside0.mk (below_step (by repeat (first | (with_reducible first | exact HB.out | apply below_alloc | apply pw_below_drewN | apply below_drew1 | refine below_set ?_ GE260.out) | exact HB.out)) hb); clear BK260; clear HB; have BK260 := n0_; have HB := n1_; clear n0_ n1_; (try clear hb); (try clear hb2); (try clear hk); (try clear hi); have hcz22_0 : w21.cell? ⟨gb260, 0, none⟩ = some (.int .u8 a0_0) := (blk_cell BK260.out 0).trans rfl; have hcz22_1 : w21.cell? ⟨gb260, 1, none⟩ = some (.int .u8 a0_1) := (blk_cell BK260.out 1).trans rfl; have hcz22_2 : w21.cell? ⟨gb260, 2, none⟩ = some (.int .u32 a0_2) := (blk_cell BK260.out 2).trans rfl; have hcz22_3 : w21.cell? ⟨gb260, 3, none⟩ = some (.string a0_3) := (blk_cell BK260.out 3).trans rfl; have hfz22_0 := blk_frozen BK260.out 0; have hfz22_1 := blk_frozen BK260.out 1; have hfz22_2 := blk_frozen BK260.out 2; have hfz22_3 := blk_frozen BK260.out 3; have p15 : 0 ≤ (0 : Int) := (by omega); have q15 : 0 < a0_3.size := (by have : (0 : Int) < (a0_3.size : Int) := of_decide_eq_true (by first | (with_reducible assumption) | assumption); omega); have hx15 : ∀ h : 0 < a0_3.size, ((a0_3[0]'h).toNat : Int) = bt a0_3 0 := bt_at a0_3 0; clear p15; have qi15 : (0 < (a0_3.size : Int)) = True := eq_true (of_decide_eq_true (by first | (with_reducible assumption) | assumption)); replace q15 := eq_true q15))
         have n0_ := Aside0.mk (blk_drew BK260.out)
         have n1_ := Aside0.mk (below_drew1 HB.out)
         clear BK260
         clear HB
         have BK260 := n0_
         have HB := n1_
         clear n0_ n1_
         refine start_ (n := 7) (S := fun w' => w'.cell? ⟨gb260, 0, none⟩ = some (.int .u8 a0_0) ∧ w'.cell? ⟨gb260, 1, none⟩ = some (.int .u8 a0_1) ∧ w'.cell? ⟨gb260, 2, none⟩ = some (.int .u32 a0_2) ∧ w'.cell? ⟨gb260, 3, none⟩ = some (.string a0_3)) (ds := []) #[false, false, false, false, false, false, false] (by kernel_rfl) rfl rfl ⟨(blk_cell BK260.out 0).trans rfl, (blk_cell BK260.out 1).trans rfl, (blk_cell BK260.out 2).trans rfl, (blk_cell BK260.out 3).trans rfl⟩ (fun hHeld => ?_)
         generalize w21.drew = w23 at BK260 HB hHeld ⊢
         refine pure_ (i := 0) (N := some 31) (v := ?_) (a' := ?_) #[true, false, false, false, false, false, false] rfl rfl (by kernel_rfl) (fun _ _ _ h => h) (Or.inl ⟨by rfl, ?_⟩) ?_ ?_
         rotate_left
         ·
          intro w'
          go_simp
          with_reducible rfl
         rotate_left
         ·
          simp only [Act.put, List.setIfInBounds_toArray, List.set_cons_zero, List.set_cons_succ, i64_w, i32_w]
          rfl
         refine pure_ (i := 4) (N := some 35) (v := ?_) (a' := ?_) #[true, false, false, false, true, false, false] rfl rfl (by kernel_rfl) (fun _ _ _ h => h) (Or.inl ⟨by rfl, ?_⟩) ?_ ?_
         rotate_left
         ·
          intro w'
          go_simp
          with_reducible rfl
         rotate_left
         ·
          simp only [Act.put, List.setIfInBounds_toArray, List.set_cons_zero, List.set_cons_succ, i64_w, i32_w]
          rfl
         refine take_ (i := 1) (N := some 32) (v := ?_) (a' := ?_) #[true, true, false, false, true, false, false] rfl rfl (by kernel_rfl) (fun _ _ _ h => h) (Or.inl ⟨by rfl, ?_⟩) hHeld ?_ ?_
         rotate_left
         ·
          rintro w' ⟨s0, s1, s2, s3⟩
          go_simp
          with_reducible rfl
         rotate_left
         ·
          simp only [Act.put, List.setIfInBounds_toArray, List.set_cons_zero, List.set_cons_succ, i64_w, i32_w]
          rfl
         refine take_ (i := 2) (N := some 33) (v := ?_) (a' := ?_) #[true, true, true, false, true, false, false] rfl rfl (by kernel_rfl) (fun _ _ _ h => h) (Or.inl ⟨by rfl, ?_⟩) hHeld ?_ ?_
         rotate_left
         ·
          rintro w' ⟨s0, s1, s2, s3⟩
          go_simp
          with_reducible rfl
         rotate_left
         ·
          simp only [Act.put, List.setIfInBounds_toArray, List.set_cons_zero, List.set_cons_succ, i64_w, i32_w]
          rfl
         refine one_ (i := 3) (N := some 34) #[true, true, true, true, true, false, false] rfl rfl (by kernel_rfl) (by decide) (fun K hK => ?_)
         refine goes_ Try.func34 (by kernel_rfl) rfl #[.agg #[.int .u8 a0_0, .int .u8 a0_1, .int .u32 a0_2, .string a0_3]] (by rfl) rfl rfl (by (try simp only [List.map_toArray, List.map_cons, List.map_nil]); first | done | rfl | (simp only [List.length_drop, List.length_take]; rfl)) ?_
         with_reducible refine (nuncioref14_ahead.calls a0_0 a0_1 a0_2 a0_3 t264 _ A16.out).mono ?_
         rintro e w24 ⟨rfl, hb⟩
         refine ⟨_, rfl, ?_⟩
         have n0_ := Aside0.mk (blk_below (g := gb260) (o := .cells #[.int .u8 a0_0, .int .u8 a0_1, .int .u32 a0_2, .string a0_3] 24 (0, 0)) (by (with_reducible repeat (first | refine blk_drewN ?_ _ | refine blk_drew ?_ | refine blk_alloc ?_ _)); exact BK260.out) hb)
         have n1_ := Aside0.mk (below_step (by repeat (first | (with_reducible first | exact HB.out | apply below_alloc | apply pw_below_drewN | apply below_drew1 | refine below_set ?_ GE260.out) | exact HB.out)) hb)
         clear BK260
         clear HB
         have BK260 := n0_
         have HB := n1_
         clear n0_ n1_
         (try clear hb)
         (try clear hb2)
         (try clear hk)
         (try clear hi)
         refine hK.out _ _ ⟨(blk_cell BK260.out 0).trans rfl, (blk_cell BK260.out 1).trans rfl, (blk_cell BK260.out 2).trans rfl, (blk_cell BK260.out 3).trans rfl⟩ (fun hHeld => ?_)
         clear hK K
         refine norm_ (a' := ?_) ?_ ?_
         rotate_left
         ·
          show Act.put _ (some 34) _ = _
          simp only [Act.put, List.setIfInBounds_toArray, List.set_cons_zero, List.set_cons_succ, i64_w, i32_w]
          rfl
         refine pure_ (i := 5) (N := some 36) (v := ?_) (a' := ?_) #[true, true, true, true, true, true, false] rfl rfl (by kernel_rfl) (fun _ _ _ h => h) (Or.inl ⟨by rfl, ?_⟩) ?_ ?_
         rotate_left
         ·
          intro w'
          go_simp
          with_reducible rfl
         rotate_left
         ·
          simp only [Act.put, List.setIfInBounds_toArray, List.set_cons_zero, List.set_cons_succ, i64_w, i32_w]
          rfl
         refine pure_ (i := 6) (N := some 2) (v := ?_) (a' := ?_) #[true, true, true, true, true, true, true] rfl rfl (by kernel_rfl) (fun _ _ _ h => h) (Or.inl ⟨by rfl, ?_⟩) ?_ ?_
         rotate_left
         ·
          intro w'
          go_simp
          with_reducible rfl
         rotate_left
         ·
          simp only [Act.put, List.setIfInBounds_toArray, List.set_cons_zero, List.set_cons_succ, i64_w, i32_w]
          rfl
         refine done_ (by kernel_rfl) ?_
         try go_wp2
         go_ret
         exact ⟨by first | rfl | (simp [errW_none, errW_some] <;> rfl) | (simp [*, errW_none, errW_some] <;> rfl), by repeat (first | (with_reducible first | exact HB.out | apply below_alloc | apply pw_below_drewN | apply below_drew1 | refine below_set ?_ GE260.out) | exact HB.out)⟩
        ·
         rw [if_neg c19] at H
         exact absurd H (by simp)
       ·
        rw [if_neg c18] at H
        exact absurd H (by simp)
      ·
       rw [if_neg c17] at H
       exact absurd H (by simp)
     ·
      rw [if_neg c14] at H
      exact absurd H (by simp)
    ·
     replace c13 := Bool.eq_false_iff.mpr c13
     subst c13
     have H1 : ((nuncioref14_ahead.f a0_0 a0_1 a0_2 a0_3).bind fun t265 => (if 0 ≤ t265 then (if t265 ≤ (a0_3.size : Int) then (if (a0_3.size : Int) ≤ (a0_3.size : Int) then (some (a0_3.extract (t265 : Int).toNat ((a0_3.size : Int) : Int).toNat)) else (none)) else (none)) else (none))) = some r := by rw [if_neg (show ¬ (false = true) by decide)] at H; exact H
     clear H
     have H := H1
     clear H1
     replace H := Option.bind_eq_some_iff.mp H
     obtain ⟨t265, A250, H⟩ := H
     replace H : (if 0 ≤ t265 then (if t265 ≤ (a0_3.size : Int) then (if (a0_3.size : Int) ≤ (a0_3.size : Int) then (some (a0_3.extract (t265 : Int).toNat ((a0_3.size : Int) : Int).toNat)) else (none)) else (none)) else (none)) = some r := H
     have A25 := Aside0.mk A250
     clear A250
     by_cases c26 : 0 ≤ t265
     ·
      rw [if_pos c26] at H
      have c26b0 := eq_true c26
      have c26b1 : decide (0 ≤ t265) = true := decide_eq_true c26
      clear c26
      by_cases c27 : t265 ≤ (a0_3.size : Int)
      ·
       rw [if_pos c27] at H
       have c27b0 := eq_true c27
       have c27b1 : decide (t265 ≤ (a0_3.size : Int)) = true := decide_eq_true c27
       clear c27
       by_cases c28 : (a0_3.size : Int) ≤ (a0_3.size : Int)
       ·
        rw [if_pos c28] at H
        have c28b0 := eq_true c28
        have c28b1 : decide ((a0_3.size : Int) ≤ (a0_3.size : Int)) = true := decide_eq_true c28
        clear c28
        obtain rfl := Option.some.inj H
        have hcz29_0 : wc.cell? ⟨gb260, 0, none⟩ = some (.int .u8 a0_0) := (blk_cell BK260.out 0).trans rfl
        have hcz29_1 : wc.cell? ⟨gb260, 1, none⟩ = some (.int .u8 a0_1) := (blk_cell BK260.out 1).trans rfl
        have hcz29_2 : wc.cell? ⟨gb260, 2, none⟩ = some (.int .u32 a0_2) := (blk_cell BK260.out 2).trans rfl
        have hcz29_3 : wc.cell? ⟨gb260, 3, none⟩ = some (.string a0_3) := (blk_cell BK260.out 3).trans rfl
        have hfz29_0 := blk_frozen BK260.out 0
        have hfz29_1 := blk_frozen BK260.out 1
        have hfz29_2 := blk_frozen BK260.out 2
        have hfz29_3 := blk_frozen BK260.out 3
        try go_wp2_with (first | ((with_reducible refine gate_callee (f := 30) rfl ?_); refine goesL_ (some 24) rfl rfl Try.func30 (by kernel_rfl) rfl #[.agg #[.int .u8 a0_0, .int .u8 a0_1, .int .u32 a0_2, .string a0_3], .int .i64 8] rfl (by (try simp only [List.map_toArray, List.map_cons, List.map_nil]); first | done | rfl | (simp only [List.length_drop, List.length_take]; rfl)) ?_; (with_reducible refine (nuncioref14_flag.calls a0_0 a0_1 a0_2 a0_3 8 false _ A12.out).mono ?_); rintro e w30 ⟨rfl, hb⟩; refine ⟨_, rfl, ?_⟩; have n0_ := Aside0.mk (blk_below (g := gb260) (o := .cells #[.int .u8 a0_0, .int .u8 a0_1, .int .u32 a0_2, .string a0_3] 24 (0, 0)) (by (with_reducible repeat (first | refine blk_drewN ?_ _ | refine blk_drew ?_ | refine blk_alloc ?_ _)); exact BK260.out) hb); have n1_ := Aside0.mk (below_step (by repeat (first | (with_reducible first | exact HB.out | apply below_alloc | apply pw_below_drewN | apply below_drew1 | refine below_set ?_ GE260.out) | exact HB.out)) hb); clear BK260; clear HB; have BK260 := n0_; have HB := n1_; clear n0_ n1_; (try clear hb); (try clear hb2); (try clear hk); (try clear hi)))
        have n0_ := Aside0.mk (blk_drew BK260.out)
        have n1_ := Aside0.mk (below_drew1 HB.out)
        clear BK260
        clear HB
        have BK260 := n0_
        have HB := n1_
        clear n0_ n1_
        refine start_ (n := 7) (S := fun w' => w'.cell? ⟨gb260, 0, none⟩ = some (.int .u8 a0_0) ∧ w'.cell? ⟨gb260, 1, none⟩ = some (.int .u8 a0_1) ∧ w'.cell? ⟨gb260, 2, none⟩ = some (.int .u32 a0_2) ∧ w'.cell? ⟨gb260, 3, none⟩ = some (.string a0_3)) (ds := []) #[false, false, false, false, false, false, false] (by kernel_rfl) rfl rfl ⟨(blk_cell BK260.out 0).trans rfl, (blk_cell BK260.out 1).trans rfl, (blk_cell BK260.out 2).trans rfl, (blk_cell BK260.out 3).trans rfl⟩ (fun hHeld => ?_)
        generalize w30.drew = w31 at BK260 HB hHeld ⊢
        refine pure_ (i := 0) (N := some 31) (v := ?_) (a' := ?_) #[true, false, false, false, false, false, false] rfl rfl (by kernel_rfl) (fun _ _ _ h => h) (Or.inl ⟨by rfl, ?_⟩) ?_ ?_
        rotate_left
        ·
         intro w'
         go_simp
         with_reducible rfl
        rotate_left
        ·
         simp only [Act.put, List.setIfInBounds_toArray, List.set_cons_zero, List.set_cons_succ, i64_w, i32_w]
         rfl
        refine pure_ (i := 4) (N := some 35) (v := ?_) (a' := ?_) #[true, false, false, false, true, false, false] rfl rfl (by kernel_rfl) (fun _ _ _ h => h) (Or.inl ⟨by rfl, ?_⟩) ?_ ?_
        rotate_left
        ·
         intro w'
         go_simp
         with_reducible rfl
        rotate_left
        ·
         simp only [Act.put, List.setIfInBounds_toArray, List.set_cons_zero, List.set_cons_succ, i64_w, i32_w]
         rfl
        refine take_ (i := 1) (N := some 32) (v := ?_) (a' := ?_) #[true, true, false, false, true, false, false] rfl rfl (by kernel_rfl) (fun _ _ _ h => h) (Or.inl ⟨by rfl, ?_⟩) hHeld ?_ ?_
        rotate_left
        ·
         rintro w' ⟨s0, s1, s2, s3⟩
         go_simp
         with_reducible rfl
        rotate_left
        ·
         simp only [Act.put, List.setIfInBounds_toArray, List.set_cons_zero, List.set_cons_succ, i64_w, i32_w]
         rfl
        refine take_ (i := 2) (N := some 33) (v := ?_) (a' := ?_) #[true, true, true, false, true, false, false] rfl rfl (by kernel_rfl) (fun _ _ _ h => h) (Or.inl ⟨by rfl, ?_⟩) hHeld ?_ ?_
        rotate_left
        ·
         rintro w' ⟨s0, s1, s2, s3⟩
         go_simp
         with_reducible rfl
        rotate_left
        ·
         simp only [Act.put, List.setIfInBounds_toArray, List.set_cons_zero, List.set_cons_succ, i64_w, i32_w]
         rfl
        refine one_ (i := 3) (N := some 34) #[true, true, true, true, true, false, false] rfl rfl (by kernel_rfl) (by decide) (fun K hK => ?_)
        refine goes_ Try.func34 (by kernel_rfl) rfl #[.agg #[.int .u8 a0_0, .int .u8 a0_1, .int .u32 a0_2, .string a0_3]] (by rfl) rfl rfl (by (try simp only [List.map_toArray, List.map_cons, List.map_nil]); first | done | rfl | (simp only [List.length_drop, List.length_take]; rfl)) ?_
        with_reducible refine (nuncioref14_ahead.calls a0_0 a0_1 a0_2 a0_3 t265 _ A25.out).mono ?_
        rintro e w32 ⟨rfl, hb⟩
        refine ⟨_, rfl, ?_⟩
        have n0_ := Aside0.mk (blk_below (g := gb260) (o := .cells #[.int .u8 a0_0, .int .u8 a0_1, .int .u32 a0_2, .string a0_3] 24 (0, 0)) (by (with_reducible repeat (first | refine blk_drewN ?_ _ | refine blk_drew ?_ | refine blk_alloc ?_ _)); exact BK260.out) hb)
        have n1_ := Aside0.mk (below_step (by repeat (first | (with_reducible first | exact HB.out | apply below_alloc | apply pw_below_drewN | apply below_drew1 | refine below_set ?_ GE260.out) | exact HB.out)) hb)
        clear BK260
        clear HB
        have BK260 := n0_
        have HB := n1_
        clear n0_ n1_
        (try clear hb)
        (try clear hb2)
        (try clear hk)
        (try clear hi)
        refine hK.out _ _ ⟨(blk_cell BK260.out 0).trans rfl, (blk_cell BK260.out 1).trans rfl, (blk_cell BK260.out 2).trans rfl, (blk_cell BK260.out 3).trans rfl⟩ (fun hHeld => ?_)
        clear hK K
        refine norm_ (a' := ?_) ?_ ?_
        rotate_left
        ·
         show Act.put _ (some 34) _ = _
         simp only [Act.put, List.setIfInBounds_toArray, List.set_cons_zero, List.set_cons_succ, i64_w, i32_w]
         rfl
        refine pure_ (i := 5) (N := some 36) (v := ?_) (a' := ?_) #[true, true, true, true, true, true, false] rfl rfl (by kernel_rfl) (fun _ _ _ h => h) (Or.inl ⟨by rfl, ?_⟩) ?_ ?_
        rotate_left
        ·
         intro w'
         go_simp
         with_reducible rfl
        rotate_left
        ·
         simp only [Act.put, List.setIfInBounds_toArray, List.set_cons_zero, List.set_cons_succ, i64_w, i32_w]
         rfl
        refine pure_ (i := 6) (N := some 2) (v := ?_) (a' := ?_) #[true, true, true, true, true, true, true] rfl rfl (by kernel_rfl) (fun _ _ _ h => h) (Or.inl ⟨by rfl, ?_⟩) ?_ ?_
        rotate_left
        ·
         intro w'
         go_simp
         with_reducible rfl
        rotate_left
        ·
         simp only [Act.put, List.setIfInBounds_toArray, List.set_cons_zero, List.set_cons_succ, i64_w, i32_w]
         rfl
        refine done_ (by kernel_rfl) ?_
        try go_wp2
        go_ret
        exact ⟨by first | rfl | (simp [errW_none, errW_some] <;> rfl) | (simp [*, errW_none, errW_some] <;> rfl), by repeat (first | (with_reducible first | exact HB.out | apply below_alloc | apply pw_below_drewN | apply below_drew1 | refine below_set ?_ GE260.out) | exact HB.out)⟩
       ·
        rw [if_neg c28] at H
        exact absurd H (by simp)
      ·
       rw [if_neg c27] at H
       exact absurd H (by simp)
     ·
      rw [if_neg c26] at H
      exact absurd H (by simp)

end Go.Proofs.Ytimhhacnpjcjnaa.Mine
