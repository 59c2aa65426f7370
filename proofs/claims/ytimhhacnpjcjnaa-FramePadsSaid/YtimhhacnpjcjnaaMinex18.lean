-- Written by this repo's own printer (wip/print), which builds on the kit's.
import Derived.Test.YtimhhacnpjcjnaaMinex0
import Derived.Test.YtimhhacnpjcjnaaMinex1
import Derived.Test.YtimhhacnpjcjnaaMinex3
import Derived.Test.YtimhhacnpjcjnaaMinex5
import Derived.Test.YtimhhacnpjcjnaaMinex13
import Derived.Test.YtimhhacnpjcjnaaMinex14
import Derived.Test.YtimhhacnpjcjnaaMinex15
import Derived.Test.YtimhhacnpjcjnaaMinex17
namespace Go.Proofs.Ytimhhacnpjcjnaa.Mine
open Go.RowKit Go.Proofs.YtimhhacnpjcjnaaW.PrintWords Go.Proofs.YtimhhacnpjcjnaaW.PrintLast Go.Proofs.YtimhhacnpjcjnaaW.PrintMore
attribute [local go_sem] max2_int min2_int max_two min_two max_three min_three max_four min_four   -- for this text's walks alone
set_option linter.unusedVariables false
set_option linter.unusedSimpArgs false

attribute [local go_sem high] eqA24
/-! ### nunciolaw14_FrameParses: function 3 -/
def nunciolaw14_FrameParses.j0 : Nat → ByteArray → Bool → Int → Int → Int → ByteArray → Option (Bool)
 | 0, _, _, _, _, _, _ => none
 | k + 1, x0, x25, x220000, x220001, x220002, x220003 => if x25 = true then (some true) else ((frame_Parse.f k x0).bind fun bt221 => ((nuncioref14_Parse.f k x0).bind fun bt228 => ((frame_Print.f k x220000 x220001 x220002 x220003).bind fun bt235 => ((nuncioref14_Print.f k x220000 x220001 x220002 x220003).bind fun bt237 => (if (bt221.1 == bt228.1 && (bt221.2.1 == bt228.2.1 && (bt221.2.2.1 == bt228.2.2.1 && (bt221.2.2.2.1.toList == bt228.2.2.2.1.toList)))) = true then (if bt221.2.2.2.2.1 = bt228.2.2.2.2.1 then (if bt221.2.2.2.2.2 = bt228.2.2.2.2.2 then (if bt235.1.toList = bt237.1.toList then (some (bt235.2 == bt237.2)) else (some false)) else (some false)) else (some false)) else (some false))))))
def nunciolaw14_FrameParses.f (k : Nat) (a0 : ByteArray) (a1_0 : Int) (a1_1 : Int) (a1_2 : Int) (a1_3 : ByteArray) : Option (Bool) := (nunciolaw14_awake.f k).bind fun t220 => (if t220 = true then (if (a0.size : Int) > 40000 then (nunciolaw14_FrameParses.j0 k a0 true a1_0 a1_1 a1_2 a1_3) else (nunciolaw14_FrameParses.j0 k a0 (decide ((a1_3.size : Int) > 40000)) a1_0 a1_1 a1_2 a1_3)) else (some false))
theorem nunciolaw14_FrameParses.mono_l : ∀ k, (∀ y0 y1 y2 y3 y4 y5, LeO (nunciolaw14_FrameParses.j0 k y0 y1 y2 y3 y4 y5) (nunciolaw14_FrameParses.j0 (k + 1) y0 y1 y2 y3 y4 y5))
 | 0 => fun _ _ _ _ _ _ r h => by simp [nunciolaw14_FrameParses.j0] at h
 | k + 1 => by
  have ih0 := nunciolaw14_FrameParses.mono_l k
  ·
   intro y0 y1 y2 y3 y4 y5
   unfold nunciolaw14_FrameParses.j0
   repeat' first
   | (with_reducible exact ih0 _ _ _ _ _ _)
   | (with_reducible exact frame_Parse.mono _ _)
   | (with_reducible exact frame_Print.mono _ _ _ _ _)
   | (with_reducible exact nunciolaw14_awake.mono _)
   | (with_reducible exact nuncioref14_Parse.mono _ _)
   | (with_reducible exact nuncioref14_Print.mono _ _ _ _ _)
   | (with_reducible exact LeO.refl _)
   | (with_reducible exact LeO.none _)
   | (with_reducible refine LeO.ite ?_ ?_)
   | (with_reducible refine LeO.bind ?_ (fun _ => ?_))
   | exact ih0 _ _ _ _ _ _
   | exact frame_Parse.mono _ _
   | exact frame_Print.mono _ _ _ _ _
   | exact nunciolaw14_awake.mono _
   | exact nuncioref14_Parse.mono _ _
   | exact nuncioref14_Print.mono _ _ _ _ _
   | exact LeO.none _
   | refine LeO.ite ?_ ?_
   | refine LeO.bind ?_ (fun _ => ?_)
theorem nunciolaw14_FrameParses.mono : ∀ a0 a1 a2 a3 a4 k, LeO (nunciolaw14_FrameParses.f k a0 a1 a2 a3 a4) (nunciolaw14_FrameParses.f (k + 1) a0 a1 a2 a3 a4) := by
 intro a0 a1 a2 a3 a4 k
 have ih0 := nunciolaw14_FrameParses.mono_l k
 unfold nunciolaw14_FrameParses.f
 repeat' first
   | (with_reducible exact ih0 _ _ _ _ _ _)
   | (with_reducible exact frame_Parse.mono _ _)
   | (with_reducible exact frame_Print.mono _ _ _ _ _)
   | (with_reducible exact nunciolaw14_awake.mono _)
   | (with_reducible exact nuncioref14_Parse.mono _ _)
   | (with_reducible exact nuncioref14_Print.mono _ _ _ _ _)
   | (with_reducible exact LeO.refl _)
   | (with_reducible exact LeO.none _)
   | (with_reducible refine LeO.ite ?_ ?_)
   | (with_reducible refine LeO.bind ?_ (fun _ => ?_))
   | exact ih0 _ _ _ _ _ _
   | exact frame_Parse.mono _ _
   | exact frame_Print.mono _ _ _ _ _
   | exact nunciolaw14_awake.mono _
   | exact nuncioref14_Parse.mono _ _
   | exact nuncioref14_Print.mono _ _ _ _ _
   | exact LeO.none _
   | refine LeO.ite ?_ ?_
   | refine LeO.bind ?_ (fun _ => ?_)
set_option maxHeartbeats 8000000 in
set_option maxRecDepth 100000 in
theorem nunciolaw14_FrameParses.calls (k : Nat) (a0 : ByteArray) (a1_0 : Int) (a1_1 : Int) (a1_2 : Int) (a1_3 : ByteArray) (r : Bool) (w : World) (h : nunciolaw14_FrameParses.f k a0 a1_0 a1_1 a1_2 a1_3 = some r) (hT : r = true) :
  Calls Try.prog 3 #[.string a0, .agg #[.int .u8 a1_0, .int .u8 a1_1, .int .u32 a1_2, .string a1_3]] w fun e w' => e = .returned (.bool r) ∧ Below w.heap.size w w' := by
 have hu24 := Try.underlying24
 have HB := Aside0.mk (Below.refl w.heap.size w)
 have HT := Aside0.mk hT
 clear hT
 have H : ((nunciolaw14_awake.f k).bind fun t220 => (if t220 = true then (if (a0.size : Int) > 40000 then (nunciolaw14_FrameParses.j0 k a0 true a1_0 a1_1 a1_2 a1_3) else (nunciolaw14_FrameParses.j0 k a0 (decide ((a1_3.size : Int) > 40000)) a1_0 a1_1 a1_2 a1_3)) else (some false))) = some r := h
 clear h
 replace H := Option.bind_eq_some_iff.mp H
 obtain ⟨t220, A30, H⟩ := H
 replace H : (if t220 = true then (if (a0.size : Int) > 40000 then (nunciolaw14_FrameParses.j0 k a0 true a1_0 a1_1 a1_2 a1_3) else (nunciolaw14_FrameParses.j0 k a0 (decide ((a1_3.size : Int) > 40000)) a1_0 a1_1 a1_2 a1_3)) else (some false)) = some r := H
 have A3 := Aside0.mk A30
 clear A30
 by_cases c4 : t220 = true
 ·
  subst c4
  have H1 : (if (a0.size : Int) > 40000 then (nunciolaw14_FrameParses.j0 k a0 true a1_0 a1_1 a1_2 a1_3) else (nunciolaw14_FrameParses.j0 k a0 (decide ((a1_3.size : Int) > 40000)) a1_0 a1_1 a1_2 a1_3)) = some r := by rw [if_pos rfl] at H; exact H
  clear H
  have H := H1
  clear H1
  have HC5 := Aside0.mk H
  clear H
  go_enter Try.func3, Try.ntmps3
  go_upto_region 3 with (first | ((with_reducible refine gate_dst (N := 3) rfl ?_); (try (refine gate_guard (by rfl) ?_; dsimp only)); refine box_event ?hg (N := 3) ?hd (cs := #[.int .u8 a1_0, .int .u8 a1_1, .int .u32 a1_2, .string a1_3]) (t := 24) ?hr ?_; (case hd => rfl); (case hg => rfl); (case hr => first | (go_simp; done) | (go_simp; rfl)); intro gb219 hg w6 hbox hb; have n0_ := Aside0.mk (below_step (by repeat (first | (with_reducible first | exact HB.out | apply below_alloc | apply pw_below_drewN | apply below_drew1) | exact HB.out)) hb); have n1_ := Aside0.mk (hbox); have n2_ := Aside0.mk ((by rw [hg]; exact (below_size (by repeat (first | (with_reducible first | exact HB.out | apply below_alloc | apply pw_below_drewN | apply below_drew1) | exact HB.out))) : w.heap.size ≤ gb219)); have n3_ := Aside0.mk ((by rw [hg]; exact (below_size (by repeat (first | (with_reducible first | exact HB.out | apply below_alloc | apply pw_below_drewN | apply below_drew1) | exact HB.out))) : w.heap.size ≤ gb219)); clear HB; have HB := n0_; have BK219 := n1_; have GW219 := n2_; have GE219 := n3_; clear n0_ n1_ n2_ n3_; clear hb hbox hg) | ((with_reducible refine gate_callee (f := 8) rfl ?_); refine goesL_ (some 15) rfl rfl Try.func8 (by kernel_rfl) rfl #[] rfl (by (try simp only [List.map_toArray, List.map_cons, List.map_nil]); first | done | rfl | (simp only [List.length_drop, List.length_take]; rfl)) ?_; (with_reducible refine (nunciolaw14_awake.calls k  true _ A3.out).mono ?_); rintro e w7 ⟨rfl, hb⟩; refine ⟨_, rfl, ?_⟩; have n0_ := Aside0.mk (blk_below (g := gb219) (o := .cells #[.int .u8 a1_0, .int .u8 a1_1, .int .u32 a1_2, .string a1_3] 24 (0, 0)) (by (with_reducible repeat (first | refine blk_drewN ?_ _ | refine blk_drew ?_ | refine blk_alloc ?_ _)); exact BK219.out) hb); have n1_ := Aside0.mk (below_step (by repeat (first | (with_reducible first | exact HB.out | apply below_alloc | apply pw_below_drewN | apply below_drew1 | refine below_set ?_ GE219.out) | exact HB.out)) hb); clear BK219; clear HB; have BK219 := n0_; have HB := n1_; clear n0_ n1_; (try clear hb); (try clear hb2); (try clear hk); (try clear hi)))
  (try simp only [Act.put, List.setIfInBounds_toArray, List.set_cons_zero, List.set_cons_succ])
  go_cut [25] (fun v25 wc => ∃ (kq : Nat) (x25_4 : Bool), v25 = .bool x25_4 ∧ Aside0 (nunciolaw14_FrameParses.j0 kq a0 x25_4 a1_0 a1_1 a1_2 a1_3 = some r) ∧ Aside0 (kq ≤ k) ∧ Aside0 (wc.heap[gb219]? = some (.cells #[.int .u8 a1_0, .int .u8 a1_1, .int .u32 a1_2, .string a1_3] 24 (0, 0))) ∧ Aside0 (Below w.heap.size w wc))
  case first =>
   have H := HC5.out
   clear HC5
   by_cases c8 : (a0.size : Int) > 40000
   ·
    rw [if_pos c8] at H
    have c8b0 : decide (40000 < (a0.size : Int)) = true := decide_eq_true c8
    have c8b1 : decide (40000 < a0.size) = true := decide_eq_true (by omega)
    clear c8
    (first | rw [c8b0] | (simp only [i64_w, i32_w]; rw [c8b0]) | skip)
    have H' := Aside0.mk H
    clear H
    go_wp2
    go_meet
    case rel => exact ⟨_, (true), (by first | rfl | (simp; done) | (simp [*]; done)), H', ⟨by first | omega | exact Nat.le_refl _⟩, ⟨by (with_reducible repeat (first | refine blk_drewN ?_ _ | refine blk_drew ?_ | refine blk_alloc ?_ _)); exact BK219.out⟩, ⟨by repeat (first | (with_reducible first | exact HB.out | apply below_alloc | apply pw_below_drewN | apply below_drew1 | refine below_set ?_ GE219.out) | exact HB.out)⟩⟩
   ·
    rw [if_neg c8] at H
    have c8b0 : decide (40000 < (a0.size : Int)) = false := decide_eq_false c8
    have c8b1 : decide (40000 < a0.size) = false := decide_eq_false (by omega)
    clear c8
    (first | rw [c8b0] | (simp only [i64_w, i32_w]; rw [c8b0]) | skip)
    have H' := Aside0.mk H
    clear H
    have hcz9_0 : w7.cell? ⟨gb219, 0, none⟩ = some (.int .u8 a1_0) := (blk_cell BK219.out 0).trans rfl
    have hcz9_1 : w7.cell? ⟨gb219, 1, none⟩ = some (.int .u8 a1_1) := (blk_cell BK219.out 1).trans rfl
    have hcz9_2 : w7.cell? ⟨gb219, 2, none⟩ = some (.int .u32 a1_2) := (blk_cell BK219.out 2).trans rfl
    have hcz9_3 : w7.cell? ⟨gb219, 3, none⟩ = some (.string a1_3) := (blk_cell BK219.out 3).trans rfl
    have hfz9_0 := blk_frozen BK219.out 0
    have hfz9_1 := blk_frozen BK219.out 1
    have hfz9_2 := blk_frozen BK219.out 2
    have hfz9_3 := blk_frozen BK219.out 3
    go_wp2
    go_meet
    case rel => exact ⟨_, (decide ((a1_3.size : Int) > 40000)), (by first | rfl | (simp; done) | (simp [*]; done)), H', ⟨by first | omega | exact Nat.le_refl _⟩, ⟨by (with_reducible repeat (first | refine blk_drewN ?_ _ | refine blk_drew ?_ | refine blk_alloc ?_ _)); exact BK219.out⟩, ⟨by repeat (first | (with_reducible first | exact HB.out | apply below_alloc | apply pw_below_drewN | apply below_drew1 | refine below_set ?_ GE219.out) | exact HB.out)⟩⟩
  case rest =>
   clear HC5
   try clear p2
   try clear c3
   try clear c4
   try clear c8
   try clear c8b0
   try clear c8b1
   try clear hcz9_0
   try clear hcz9_1
   try clear hcz9_2
   try clear hcz9_3
   try clear hfz9_0
   try clear hfz9_1
   try clear hfz9_2
   try clear hfz9_3
   obtain ⟨kq, x25_4, rfl, HA, HJ4, BK219, HB⟩ := hcut
   cases kq with
   | zero => exact absurd HA.out (by simp [nunciolaw14_FrameParses.j0])
   | succ kj4 =>
    have H := HA.out
    clear HA
    simp only [nunciolaw14_FrameParses.j0] at H
    by_cases c10 : x25_4 = true
    ·
     subst c10
     have H1 : (some true) = some r := by rw [if_pos rfl] at H; exact H
     clear H
     have H := H1
     clear H1
     obtain rfl := Option.some.inj H
     go_wp2
     go_ret
     exact ⟨by first | rfl | (simp [errW_none, errW_some] <;> rfl) | (simp [*, errW_none, errW_some] <;> rfl), by repeat (first | (with_reducible first | exact HB.out | apply below_alloc | apply pw_below_drewN | apply below_drew1 | refine below_set ?_ GE219.out) | exact HB.out)⟩
    ·
     replace c10 := Bool.eq_false_iff.mpr c10
     subst c10
     have H1 : ((frame_Parse.f kj4 a0).bind fun bt221 => ((nuncioref14_Parse.f kj4 a0).bind fun bt228 => ((frame_Print.f kj4 a1_0 a1_1 a1_2 a1_3).bind fun bt235 => ((nuncioref14_Print.f kj4 a1_0 a1_1 a1_2 a1_3).bind fun bt237 => (if (bt221.1 == bt228.1 && (bt221.2.1 == bt228.2.1 && (bt221.2.2.1 == bt228.2.2.1 && (bt221.2.2.2.1.toList == bt228.2.2.2.1.toList)))) = true then (if bt221.2.2.2.2.1 = bt228.2.2.2.2.1 then (if bt221.2.2.2.2.2 = bt228.2.2.2.2.2 then (if bt235.1.toList = bt237.1.toList then (some (bt235.2 == bt237.2)) else (some false)) else (some false)) else (some false)) else (some false)))))) = some r := by rw [if_neg (show ¬ (false = true) by decide)] at H; exact H
     clear H
     have H := H1
     clear H1
     replace H := Option.bind_eq_some_iff.mp H
     obtain ⟨⟨t221, t222, t223, t224, t225, t226⟩, A110, H⟩ := H
     replace H : ((nuncioref14_Parse.f kj4 a0).bind fun bt228 => ((frame_Print.f kj4 a1_0 a1_1 a1_2 a1_3).bind fun bt235 => ((nuncioref14_Print.f kj4 a1_0 a1_1 a1_2 a1_3).bind fun bt237 => (if (t221 == bt228.1 && (t222 == bt228.2.1 && (t223 == bt228.2.2.1 && (t224.toList == bt228.2.2.2.1.toList)))) = true then (if t225 = bt228.2.2.2.2.1 then (if t226 = bt228.2.2.2.2.2 then (if bt235.1.toList = bt237.1.toList then (some (bt235.2 == bt237.2)) else (some false)) else (some false)) else (some false)) else (some false))))) = some r := H
     have A11 := Aside0.mk A110
     clear A110
     replace H := Option.bind_eq_some_iff.mp H
     obtain ⟨⟨t228, t229, t230, t231, t232, t233⟩, A120, H⟩ := H
     replace H : ((frame_Print.f kj4 a1_0 a1_1 a1_2 a1_3).bind fun bt235 => ((nuncioref14_Print.f kj4 a1_0 a1_1 a1_2 a1_3).bind fun bt237 => (if (t221 == t228 && (t222 == t229 && (t223 == t230 && (t224.toList == t231.toList)))) = true then (if t225 = t232 then (if t226 = t233 then (if bt235.1.toList = bt237.1.toList then (some (bt235.2 == bt237.2)) else (some false)) else (some false)) else (some false)) else (some false)))) = some r := H
     have A12 := Aside0.mk A120
     clear A120
     replace H := Option.bind_eq_some_iff.mp H
     obtain ⟨⟨t235, t236⟩, A130, H⟩ := H
     replace H : ((nuncioref14_Print.f kj4 a1_0 a1_1 a1_2 a1_3).bind fun bt237 => (if (t221 == t228 && (t222 == t229 && (t223 == t230 && (t224.toList == t231.toList)))) = true then (if t225 = t232 then (if t226 = t233 then (if t235.toList = bt237.1.toList then (some (t236 == bt237.2)) else (some false)) else (some false)) else (some false)) else (some false))) = some r := H
     have A13 := Aside0.mk A130
     clear A130
     replace H := Option.bind_eq_some_iff.mp H
     obtain ⟨⟨t237, t238⟩, A140, H⟩ := H
     replace H : (if (t221 == t228 && (t222 == t229 && (t223 == t230 && (t224.toList == t231.toList)))) = true then (if t225 = t232 then (if t226 = t233 then (if t235.toList = t237.toList then (some (t236 == t238)) else (some false)) else (some false)) else (some false)) else (some false)) = some r := H
     have A14 := Aside0.mk A140
     clear A140
     by_cases c15 : (t221 == t228 && (t222 == t229 && (t223 == t230 && (t224.toList == t231.toList)))) = true
     ·
      rw [if_pos c15] at H
      have c15b0 : (t221 == t228 && (t222 == t229 && (t223 == t230 && (t224.toList == t231.toList)))) = true := c15
      (try (have c15b1 : decide (t221 = t228 && (t222 == t229 && (t223 == t230 && (t224.toList == t231.toList)))) = true := by simpa using c15))
      (try (have c15b2 : (t221 == t228 && (t222 == t229 && (t223 == t230 && (t224.toList == t231.toList)))) = true := by simpa using c15))
      clear c15
      (try (have c15b9 := c15b0; simp only [beq_true, beq_false] at c15b9))
      by_cases c16 : t225 = t232
      ·
       rw [if_pos c16] at H
       have c16b0 : (t225 == t232) = true := beq_iff_eq.mpr c16
       have c16b1 : (t225 != t232) = false := bne_eq_false_iff_eq.mpr c16
       clear c16
       by_cases c17 : t226 = t233
       ·
        rw [if_pos c17] at H
        have c17b0 : (t226 == t233) = true := beq_iff_eq.mpr c17
        have c17b1 : (t226 != t233) = false := bne_eq_false_iff_eq.mpr c17
        clear c17
        by_cases c18 : t235.toList = t237.toList
        ·
         rw [if_pos c18] at H
         have c18b0 : (t235.toList == t237.toList) = true := beq_iff_eq.mpr c18
         have c18b1 : (t235.toList != t237.toList) = false := bne_eq_false_iff_eq.mpr c18
         clear c18
         obtain rfl := Option.some.inj H
         go_wp2_with (first | ((with_reducible refine gate_callee (f := 9) rfl ?_); refine goesL_ (some 28) rfl rfl Try.func9 (by kernel_rfl) rfl #[.string a0] rfl (by (try simp only [List.map_toArray, List.map_cons, List.map_nil]); first | done | rfl | (simp only [List.length_drop, List.length_take]; rfl)) ?_; (with_reducible refine (frame_Parse.calls kj4 a0 t221 t222 t223 t224 t225 t226 _ A11.out).mono ?_); rintro e w19 ⟨rfl, hb⟩; refine ⟨_, rfl, ?_⟩; have n0_ := Aside0.mk (blk_below (g := gb219) (o := .cells #[.int .u8 a1_0, .int .u8 a1_1, .int .u32 a1_2, .string a1_3] 24 (0, 0)) (by (with_reducible repeat (first | refine blk_drewN ?_ _ | refine blk_drew ?_ | refine blk_alloc ?_ _)); exact BK219.out) hb); have n1_ := Aside0.mk (below_step (by repeat (first | (with_reducible first | exact HB.out | apply below_alloc | apply pw_below_drewN | apply below_drew1 | refine below_set ?_ GE219.out) | exact HB.out)) hb); clear BK219; clear HB; have BK219 := n0_; have HB := n1_; clear n0_ n1_; (try clear hb); (try clear hb2); (try clear hk); (try clear hi)) | ((with_reducible refine gate_dst (N := 5) rfl ?_); (try (refine gate_guard (by rfl) ?_; dsimp only)); refine box_event ?hg (N := 5) ?hd (cs := #[.int .u8 0, .int .u8 0, .int .u32 0, .string (⟨#[]⟩ : ByteArray)]) (t := 24) ?hr ?_; (case hd => rfl); (case hg => rfl); (case hr => first | (go_simp; done) | (go_simp; rfl)); intro gb227 hg w20 hbox hb; have n0_ := Aside0.mk (blk_below (g := gb219) (o := .cells #[.int .u8 a1_0, .int .u8 a1_1, .int .u32 a1_2, .string a1_3] 24 (0, 0)) (by (with_reducible repeat (first | refine blk_drewN ?_ _ | refine blk_drew ?_ | refine blk_alloc ?_ _)); exact BK219.out) hb); have n1_ := Aside0.mk (below_step (by repeat (first | (with_reducible first | exact HB.out | apply below_alloc | apply pw_below_drewN | apply below_drew1 | refine below_set ?_ GE219.out) | exact HB.out)) hb); have n2_ := Aside0.mk (hbox); have n3_ := Aside0.mk ((by rw [hg]; exact (below_size (by repeat (first | (with_reducible first | exact HB.out | apply below_alloc | apply pw_below_drewN | apply below_drew1 | refine below_set ?_ GE219.out) | exact HB.out))) : w.heap.size ≤ gb227)); have n4_ := Aside0.mk ((by rw [hg]; exact (below_size (by repeat (first | (with_reducible first | exact HB.out | apply below_alloc | apply pw_below_drewN | apply below_drew1 | refine below_set ?_ GE219.out) | exact HB.out))) : w.heap.size ≤ gb227)); have n5_ := Aside0.mk ((by rw [hg]; exact Nat.ne_of_lt (blk_lt (g := gb219) (o := .cells #[.int .u8 a1_0, .int .u8 a1_1, .int .u32 a1_2, .string a1_3] 24 (0, 0)) (by (with_reducible repeat (first | refine blk_drewN ?_ _ | refine blk_drew ?_ | refine blk_alloc ?_ _)); exact BK219.out)) : gb219 ≠ gb227)); have n6_ := Aside0.mk ((by rw [hg]; exact Nat.ne_of_gt (blk_lt (g := gb219) (o := .cells #[.int .u8 a1_0, .int .u8 a1_1, .int .u32 a1_2, .string a1_3] 24 (0, 0)) (by (with_reducible repeat (first | refine blk_drewN ?_ _ | refine blk_drew ?_ | refine blk_alloc ?_ _)); exact BK219.out)) : gb227 ≠ gb219)); clear BK219; clear HB; have BK219 := n0_; have HB := n1_; have BK227 := n2_; have GW227 := n3_; have GE227 := n4_; have NB219_227 := n5_; have NB227_219 := n6_; clear n0_ n1_ n2_ n3_ n4_ n5_ n6_; clear hb hbox hg; have hnb21 := NB227_219.out; have hnc21 := NB219_227.out; have hcz22_0 : w20.cell? ⟨gb227, 0, none⟩ = some (.int .u8 0) := (blk_cell BK227.out 0).trans rfl; have hcz22_1 : w20.cell? ⟨gb227, 1, none⟩ = some (.int .u8 0) := (blk_cell BK227.out 1).trans rfl; have hcz22_2 : w20.cell? ⟨gb227, 2, none⟩ = some (.int .u32 0) := (blk_cell BK227.out 2).trans rfl; have hcz22_3 : w20.cell? ⟨gb227, 3, none⟩ = some (.string (⟨#[]⟩ : ByteArray)) := (blk_cell BK227.out 3).trans rfl; have hfz22_0 := blk_frozen BK227.out 0; have hfz22_1 := blk_frozen BK227.out 1; have hfz22_2 := blk_frozen BK227.out 2; have hfz22_3 := blk_frozen BK227.out 3) | ((with_reducible refine gate_callee (f := 10) rfl ?_); refine goesL_ (some 34) rfl rfl Try.func10 (by kernel_rfl) rfl #[.string a0] rfl (by (try simp only [List.map_toArray, List.map_cons, List.map_nil]); first | done | rfl | (simp only [List.length_drop, List.length_take]; rfl)) ?_; (with_reducible refine (nuncioref14_Parse.calls kj4 a0 t228 t229 t230 t231 t232 t233 _ A12.out).mono ?_); rintro e w23 ⟨rfl, hb⟩; refine ⟨_, rfl, ?_⟩; have n0_ := Aside0.mk (blk_below (g := gb219) (o := .cells #[.int .u8 a1_0, .int .u8 a1_1, .int .u32 a1_2, .string a1_3] 24 (0, 0)) (by (with_reducible repeat (first | refine blk_drewN ?_ _ | refine blk_drew ?_ | refine blk_alloc ?_ _)); refine blk_far ?_ NB219_227.out _; (with_reducible repeat (first | refine blk_drewN ?_ _ | refine blk_drew ?_ | refine blk_alloc ?_ _)); refine blk_far ?_ NB219_227.out _; (with_reducible repeat (first | refine blk_drewN ?_ _ | refine blk_drew ?_ | refine blk_alloc ?_ _)); refine blk_far ?_ NB219_227.out _; (with_reducible repeat (first | refine blk_drewN ?_ _ | refine blk_drew ?_ | refine blk_alloc ?_ _)); refine blk_far ?_ NB219_227.out _; (with_reducible repeat (first | refine blk_drewN ?_ _ | refine blk_drew ?_ | refine blk_alloc ?_ _)); exact BK219.out) hb); have n1_ := Aside0.mk (blk_below (g := gb227) (o := .cells #[.int .u8 t221, .int .u8 t222, .int .u32 t223, .string t224] 24 (0, 0)) (by (with_reducible repeat (first | refine blk_drewN ?_ _ | refine blk_drew ?_ | refine blk_alloc ?_ _)); refine blk_put (cs := #[.int .u8 t221, .int .u8 t222, .int .u32 t223, .string (⟨#[]⟩ : ByteArray)]) ?_ 3 _ rfl; (with_reducible repeat (first | refine blk_drewN ?_ _ | refine blk_drew ?_ | refine blk_alloc ?_ _)); refine blk_put (cs := #[.int .u8 t221, .int .u8 t222, .int .u32 0, .string (⟨#[]⟩ : ByteArray)]) ?_ 2 _ rfl; (with_reducible repeat (first | refine blk_drewN ?_ _ | refine blk_drew ?_ | refine blk_alloc ?_ _)); refine blk_put (cs := #[.int .u8 t221, .int .u8 0, .int .u32 0, .string (⟨#[]⟩ : ByteArray)]) ?_ 1 _ rfl; (with_reducible repeat (first | refine blk_drewN ?_ _ | refine blk_drew ?_ | refine blk_alloc ?_ _)); refine blk_put (cs := #[.int .u8 0, .int .u8 0, .int .u32 0, .string (⟨#[]⟩ : ByteArray)]) ?_ 0 _ rfl; (with_reducible repeat (first | refine blk_drewN ?_ _ | refine blk_drew ?_ | refine blk_alloc ?_ _)); exact BK227.out) hb); have n2_ := Aside0.mk (below_step (by repeat (first | (with_reducible first | exact HB.out | apply below_alloc | apply pw_below_drewN | apply below_drew1 | refine below_set ?_ GE219.out | refine below_set ?_ GE227.out) | exact HB.out)) hb); clear BK219; clear BK227; clear HB; have BK219 := n0_; have BK227 := n1_; have HB := n2_; clear n0_ n1_ n2_; (try clear hb); (try clear hb2); (try clear hk); (try clear hi)) | ((with_reducible refine gate_dst (N := 8) rfl ?_); (try (refine gate_guard (by rfl) ?_; dsimp only)); refine box_event ?hg (N := 8) ?hd (cs := #[.int .u8 0, .int .u8 0, .int .u32 0, .string (⟨#[]⟩ : ByteArray)]) (t := 24) ?hr ?_; (case hd => rfl); (case hg => rfl); (case hr => first | (go_simp; done) | (go_simp; rfl)); intro gb234 hg w24 hbox hb; have n0_ := Aside0.mk (blk_below (g := gb219) (o := .cells #[.int .u8 a1_0, .int .u8 a1_1, .int .u32 a1_2, .string a1_3] 24 (0, 0)) (by (with_reducible repeat (first | refine blk_drewN ?_ _ | refine blk_drew ?_ | refine blk_alloc ?_ _)); exact BK219.out) hb); have n1_ := Aside0.mk (blk_below (g := gb227) (o := .cells #[.int .u8 t221, .int .u8 t222, .int .u32 t223, .string t224] 24 (0, 0)) (by (with_reducible repeat (first | refine blk_drewN ?_ _ | refine blk_drew ?_ | refine blk_alloc ?_ _)); exact BK227.out) hb); have n2_ := Aside0.mk (below_step (by repeat (first | (with_reducible first | exact HB.out | apply below_alloc | apply pw_below_drewN | apply below_drew1 | refine below_set ?_ GE219.out | refine below_set ?_ GE227.out) | exact HB.out)) hb); have n3_ := Aside0.mk (hbox); have n4_ := Aside0.mk ((by rw [hg]; exact (below_size (by repeat (first | (with_reducible first | exact HB.out | apply below_alloc | apply pw_below_drewN | apply below_drew1 | refine below_set ?_ GE219.out | refine below_set ?_ GE227.out) | exact HB.out))) : w.heap.size ≤ gb234)); have n5_ := Aside0.mk ((by rw [hg]; exact (below_size (by repeat (first | (with_reducible first | exact HB.out | apply below_alloc | apply pw_below_drewN | apply below_drew1 | refine below_set ?_ GE219.out | refine below_set ?_ GE227.out) | exact HB.out))) : w.heap.size ≤ gb234)); have n6_ := Aside0.mk ((by rw [hg]; exact Nat.ne_of_lt (blk_lt (g := gb219) (o := .cells #[.int .u8 a1_0, .int .u8 a1_1, .int .u32 a1_2, .string a1_3] 24 (0, 0)) (by (with_reducible repeat (first | refine blk_drewN ?_ _ | refine blk_drew ?_ | refine blk_alloc ?_ _)); exact BK219.out)) : gb219 ≠ gb234)); have n7_ := Aside0.mk ((by rw [hg]; exact Nat.ne_of_gt (blk_lt (g := gb219) (o := .cells #[.int .u8 a1_0, .int .u8 a1_1, .int .u32 a1_2, .string a1_3] 24 (0, 0)) (by (with_reducible repeat (first | refine blk_drewN ?_ _ | refine blk_drew ?_ | refine blk_alloc ?_ _)); exact BK219.out)) : gb234 ≠ gb219)); have n8_ := Aside0.mk ((by rw [hg]; exact Nat.ne_of_lt (blk_lt (g := gb227) (o := .cells #[.int .u8 t221, .int .u8 t222, .int .u32 t223, .string t224] 24 (0, 0)) (by (with_reducible repeat (first | refine blk_drewN ?_ _ | refine blk_drew ?_ | refine blk_alloc ?_ _)); exact BK227.out)) : gb227 ≠ gb234)); have n9_ := Aside0.mk ((by rw [hg]; exact Nat.ne_of_gt (blk_lt (g := gb227) (o := .cells #[.int .u8 t221, .int .u8 t222, .int .u32 t223, .string t224] 24 (0, 0)) (by (with_reducible repeat (first | refine blk_drewN ?_ _ | refine blk_drew ?_ | refine blk_alloc ?_ _)); exact BK227.out)) : gb234 ≠ gb227)); clear BK219; clear BK227; clear HB; have BK219 := n0_; have BK227 := n1_; have HB := n2_; have BK234 := n3_; have GW234 := n4_; have GE234 := n5_; have NB219_234 := n6_; have NB234_219 := n7_; have NB227_234 := n8_; have NB234_227 := n9_; clear n0_ n1_ n2_ n3_ n4_ n5_ n6_ n7_ n8_ n9_; clear hb hbox hg; have hnb25 := NB234_219.out; have hnc25 := NB219_234.out; have hnb26 := NB234_227.out; have hnc26 := NB227_234.out; have hcz27_0 : w24.cell? ⟨gb234, 0, none⟩ = some (.int .u8 0) := (blk_cell BK234.out 0).trans rfl; have hcz27_1 : w24.cell? ⟨gb234, 1, none⟩ = some (.int .u8 0) := (blk_cell BK234.out 1).trans rfl; have hcz27_2 : w24.cell? ⟨gb234, 2, none⟩ = some (.int .u32 0) := (blk_cell BK234.out 2).trans rfl; have hcz27_3 : w24.cell? ⟨gb234, 3, none⟩ = some (.string (⟨#[]⟩ : ByteArray)) := (blk_cell BK234.out 3).trans rfl; have hfz27_0 := blk_frozen BK234.out 0; have hfz27_1 := blk_frozen BK234.out 1; have hfz27_2 := blk_frozen BK234.out 2; have hfz27_3 := blk_frozen BK234.out 3; have hcz28_0 : w24.cell? ⟨gb219, 0, none⟩ = some (.int .u8 a1_0) := (blk_cell BK219.out 0).trans rfl; have hcz28_1 : w24.cell? ⟨gb219, 1, none⟩ = some (.int .u8 a1_1) := (blk_cell BK219.out 1).trans rfl; have hcz28_2 : w24.cell? ⟨gb219, 2, none⟩ = some (.int .u32 a1_2) := (blk_cell BK219.out 2).trans rfl; have hcz28_3 : w24.cell? ⟨gb219, 3, none⟩ = some (.string a1_3) := (blk_cell BK219.out 3).trans rfl; have hfz28_0 := blk_frozen BK219.out 0; have hfz28_1 := blk_frozen BK219.out 1; have hfz28_2 := blk_frozen BK219.out 2; have hfz28_3 := blk_frozen BK219.out 3) | ((with_reducible refine gate_callee (f := 11) rfl ?_); refine goesL_ (some 40) rfl rfl Try.func11 (by kernel_rfl) rfl #[.agg #[.int .u8 a1_0, .int .u8 a1_1, .int .u32 a1_2, .string a1_3]] rfl (by (try simp only [List.map_toArray, List.map_cons, List.map_nil]); first | done | rfl | (simp only [List.length_drop, List.length_take]; rfl)) ?_; (with_reducible refine (frame_Print.calls kj4 a1_0 a1_1 a1_2 a1_3 t235 t236 _ A13.out).mono ?_); rintro e w29 ⟨rfl, hb⟩; refine ⟨_, rfl, ?_⟩; have n0_ := Aside0.mk (blk_below (g := gb219) (o := .cells #[.int .u8 a1_0, .int .u8 a1_1, .int .u32 a1_2, .string a1_3] 24 (0, 0)) (by (with_reducible repeat (first | refine blk_drewN ?_ _ | refine blk_drew ?_ | refine blk_alloc ?_ _)); refine blk_far ?_ NB219_234.out _; (with_reducible repeat (first | refine blk_drewN ?_ _ | refine blk_drew ?_ | refine blk_alloc ?_ _)); refine blk_far ?_ NB219_234.out _; (with_reducible repeat (first | refine blk_drewN ?_ _ | refine blk_drew ?_ | refine blk_alloc ?_ _)); refine blk_far ?_ NB219_234.out _; (with_reducible repeat (first | refine blk_drewN ?_ _ | refine blk_drew ?_ | refine blk_alloc ?_ _)); refine blk_far ?_ NB219_234.out _; (with_reducible repeat (first | refine blk_drewN ?_ _ | refine blk_drew ?_ | refine blk_alloc ?_ _)); exact BK219.out) hb); have n1_ := Aside0.mk (blk_below (g := gb227) (o := .cells #[.int .u8 t221, .int .u8 t222, .int .u32 t223, .string t224] 24 (0, 0)) (by (with_reducible repeat (first | refine blk_drewN ?_ _ | refine blk_drew ?_ | refine blk_alloc ?_ _)); refine blk_far ?_ NB227_234.out _; (with_reducible repeat (first | refine blk_drewN ?_ _ | refine blk_drew ?_ | refine blk_alloc ?_ _)); refine blk_far ?_ NB227_234.out _; (with_reducible repeat (first | refine blk_drewN ?_ _ | refine blk_drew ?_ | refine blk_alloc ?_ _)); refine blk_far ?_ NB227_234.out _; (with_reducible repeat (first | refine blk_drewN ?_ _ | refine blk_drew ?_ | refine blk_alloc ?_ _)); refine blk_far ?_ NB227_234.out _; (with_reducible repeat (first | refine blk_drewN ?_ _ | refine blk_drew ?_ | refine blk_alloc ?_ _)); exact BK227.out) hb); have n2_ := Aside0.mk (blk_below (g := gb234) (o := .cells #[.int .u8 t228, .int .u8 t229, .int .u32 t230, .string t231] 24 (0, 0)) (by (with_reducible repeat (first | refine blk_drewN ?_ _ | refine blk_drew ?_ | refine blk_alloc ?_ _)); refine blk_put (cs := #[.int .u8 t228, .int .u8 t229, .int .u32 t230, .string (⟨#[]⟩ : ByteArray)]) ?_ 3 _ rfl; (with_reducible repeat (first | refine blk_drewN ?_ _ | refine blk_drew ?_ | refine blk_alloc ?_ _)); refine blk_put (cs := #[.int .u8 t228, .int .u8 t229, .int .u32 0, .string (⟨#[]⟩ : ByteArray)]) ?_ 2 _ rfl; (with_reducible repeat (first | refine blk_drewN ?_ _ | refine blk_drew ?_ | refine blk_alloc ?_ _)); refine blk_put (cs := #[.int .u8 t228, .int .u8 0, .int .u32 0, .string (⟨#[]⟩ : ByteArray)]) ?_ 1 _ rfl; (with_reducible repeat (first | refine blk_drewN ?_ _ | refine blk_drew ?_ | refine blk_alloc ?_ _)); refine blk_put (cs := #[.int .u8 0, .int .u8 0, .int .u32 0, .string (⟨#[]⟩ : ByteArray)]) ?_ 0 _ rfl; (with_reducible repeat (first | refine blk_drewN ?_ _ | refine blk_drew ?_ | refine blk_alloc ?_ _)); exact BK234.out) hb); have n3_ := Aside0.mk (below_step (by repeat (first | (with_reducible first | exact HB.out | apply below_alloc | apply pw_below_drewN | apply below_drew1 | refine below_set ?_ GE219.out | refine below_set ?_ GE227.out | refine below_set ?_ GE234.out) | exact HB.out)) hb); clear BK219; clear BK227; clear BK234; clear HB; have BK219 := n0_; have BK227 := n1_; have BK234 := n2_; have HB := n3_; clear n0_ n1_ n2_ n3_; (try clear hb); (try clear hb2); (try clear hk); (try clear hi); have hcz30_0 : w29.cell? ⟨gb219, 0, none⟩ = some (.int .u8 a1_0) := (blk_cell BK219.out 0).trans rfl; have hcz30_1 : w29.cell? ⟨gb219, 1, none⟩ = some (.int .u8 a1_1) := (blk_cell BK219.out 1).trans rfl; have hcz30_2 : w29.cell? ⟨gb219, 2, none⟩ = some (.int .u32 a1_2) := (blk_cell BK219.out 2).trans rfl; have hcz30_3 : w29.cell? ⟨gb219, 3, none⟩ = some (.string a1_3) := (blk_cell BK219.out 3).trans rfl; have hfz30_0 := blk_frozen BK219.out 0; have hfz30_1 := blk_frozen BK219.out 1; have hfz30_2 := blk_frozen BK219.out 2; have hfz30_3 := blk_frozen BK219.out 3) | ((with_reducible refine gate_callee (f := 12) rfl ?_); refine goesL_ (some 45) rfl rfl Try.func12 (by kernel_rfl) rfl #[.agg #[.int .u8 a1_0, .int .u8 a1_1, .int .u32 a1_2, .string a1_3]] rfl (by (try simp only [List.map_toArray, List.map_cons, List.map_nil]); first | done | rfl | (simp only [List.length_drop, List.length_take]; rfl)) ?_; (with_reducible refine (nuncioref14_Print.calls kj4 a1_0 a1_1 a1_2 a1_3 t237 t238 _ A14.out).mono ?_); rintro e w31 ⟨rfl, hb⟩; refine ⟨_, rfl, ?_⟩; have n0_ := Aside0.mk (blk_below (g := gb219) (o := .cells #[.int .u8 a1_0, .int .u8 a1_1, .int .u32 a1_2, .string a1_3] 24 (0, 0)) (by (with_reducible repeat (first | refine blk_drewN ?_ _ | refine blk_drew ?_ | refine blk_alloc ?_ _)); exact BK219.out) hb); have n1_ := Aside0.mk (blk_below (g := gb227) (o := .cells #[.int .u8 t221, .int .u8 t222, .int .u32 t223, .string t224] 24 (0, 0)) (by (with_reducible repeat (first | refine blk_drewN ?_ _ | refine blk_drew ?_ | refine blk_alloc ?_ _)); exact BK227.out) hb); have n2_ := Aside0.mk (blk_below (g := gb234) (o := .cells #[.int .u8 t228, .int .u8 t229, .int .u32 t230, .string t231] 24 (0, 0)) (by (with_reducible repeat (first | refine blk_drewN ?_ _ | refine blk_drew ?_ | refine blk_alloc ?_ _)); exact BK234.out) hb); have n3_ := Aside0.mk (below_step (by repeat (first | (with_reducible first | exact HB.out | apply below_alloc | apply pw_below_drewN | apply below_drew1 | refine below_set ?_ GE219.out | refine below_set ?_ GE227.out | refine below_set ?_ GE234.out) | exact HB.out)) hb); clear BK219; clear BK227; clear BK234; clear HB; have BK219 := n0_; have BK227 := n1_; have BK234 := n2_; have HB := n3_; clear n0_ n1_ n2_ n3_; (try clear hb); (try clear hb2); (try clear hk); (try clear hi); have hcz32_0 : w31.cell? ⟨gb227, 0, none⟩ = some (.int .u8 t221) := (blk_cell BK227.out 0).trans rfl; have hcz32_1 : w31.cell? ⟨gb227, 1, none⟩ = some (.int .u8 t222) := (blk_cell BK227.out 1).trans rfl; have hcz32_2 : w31.cell? ⟨gb227, 2, none⟩ = some (.int .u32 t223) := (blk_cell BK227.out 2).trans rfl; have hcz32_3 : w31.cell? ⟨gb227, 3, none⟩ = some (.string t224) := (blk_cell BK227.out 3).trans rfl; have hfz32_0 := blk_frozen BK227.out 0; have hfz32_1 := blk_frozen BK227.out 1; have hfz32_2 := blk_frozen BK227.out 2; have hfz32_3 := blk_frozen BK227.out 3; have hcz33_0 : w31.cell? ⟨gb234, 0, none⟩ = some (.int .u8 t228) := (blk_cell BK234.out 0).trans rfl; have hcz33_1 : w31.cell? ⟨gb234, 1, none⟩ = some (.int .u8 t229) := (blk_cell BK234.out 1).trans rfl; have hcz33_2 : w31.cell? ⟨gb234, 2, none⟩ = some (.int .u32 t230) := (blk_cell BK234.out 2).trans rfl; have hcz33_3 : w31.cell? ⟨gb234, 3, none⟩ = some (.string t231) := (blk_cell BK234.out 3).trans rfl; have hfz33_0 := blk_frozen BK234.out 0; have hfz33_1 := blk_frozen BK234.out 1; have hfz33_2 := blk_frozen BK234.out 2; have hfz33_3 := blk_frozen BK234.out 3))
         go_ret
         exact ⟨by first | rfl | (simp [errW_none, errW_some] <;> rfl) | (simp [*, errW_none, errW_some] <;> rfl), by repeat (first | (with_reducible first | exact HB.out | apply below_alloc | apply pw_below_drewN | apply below_drew1 | refine below_set ?_ GE219.out | refine below_set ?_ GE227.out | refine below_set ?_ GE234.out) | exact HB.out)⟩
        ·
         rw [if_neg c18] at H
         have c18b0 : (t235.toList == t237.toList) = false := beq_eq_false_iff_ne.mpr c18
         have c18b1 : (t235.toList != t237.toList) = true := bne_iff_ne.mpr c18
         exact absurd ((Option.some.inj H).trans HT.out) (by decide)
       ·
        rw [if_neg c17] at H
        have c17b0 : (t226 == t233) = false := beq_eq_false_iff_ne.mpr c17
        have c17b1 : (t226 != t233) = true := bne_iff_ne.mpr c17
        exact absurd ((Option.some.inj H).trans HT.out) (by decide)
      ·
       rw [if_neg c16] at H
       have c16b0 : (t225 == t232) = false := beq_eq_false_iff_ne.mpr c16
       have c16b1 : (t225 != t232) = true := bne_iff_ne.mpr c16
       exact absurd ((Option.some.inj H).trans HT.out) (by decide)
     ·
      rw [if_neg c15] at H
      have c15b0 : (t221 == t228 && (t222 == t229 && (t223 == t230 && (t224.toList == t231.toList)))) = false := by simpa using c15
      (try (have c15b1 : decide (t221 = t228 && (t222 == t229 && (t223 == t230 && (t224.toList == t231.toList)))) = false := by simpa using c15))
      (try (have c15b2 : (t221 == t228 && (t222 == t229 && (t223 == t230 && (t224.toList == t231.toList)))) = false := by simpa using c15))
      (try (have c15b3 : ¬ (t221 = t228 && (t222 == t229 && (t223 == t230 && (t224.toList == t231.toList)))) := by simpa using c15))
      clear c15
      (try (have c15b9 := c15b0; simp only [beq_true, beq_false] at c15b9))
      exact absurd ((Option.some.inj H).trans HT.out) (by decide)
 ·
  replace c4 := Bool.eq_false_iff.mpr c4
  subst c4
  have H1 : (some false) = some r := by rw [if_neg (show ¬ (false = true) by decide)] at H; exact H
  clear H
  have H := H1
  clear H1
  exact absurd ((Option.some.inj H).trans HT.out) (by decide)

def k24_wf (x : S24) : Prop := ((Lit.int .u8 x.f0).wf = true) ∧ ((Lit.int .u8 x.f1).wf = true) ∧ ((Lit.int .u32 x.f2).wf = true) ∧ (x.f3.size ≤ 140737488351232)
theorem k24_opens : Opens Try.prog 24 k24 k24_wf := by
 refine Opens.struct (P := Try.prog) (d := (Kd.pair (Kd.int .u8) (Kd.pair (Kd.int .u8) (Kd.pair (Kd.int .u32) Kd.string)))) (wf := (fun x => ((Lit.int .u8 x.1).wf = true) ∧ (fun x => ((Lit.int .u8 x.1).wf = true) ∧ (fun x => ((Lit.int .u32 x.1).wf = true) ∧ (fun x => x.size ≤ 140737488351232) x.2) x.2) x.2)) (f := fun x : S24 => (x.f0, x.f1, x.f2, x.f3)) (g := fun y => (⟨y.1, y.2.1, y.2.2.1, y.2.2.2⟩ : S24)) ?_ Try.underlying24 (by kernel_rfl) (fun _ => rfl)
 exact (OpensCells.cons (Opens.int Try.underlying5) (by kernel_rfl) (OpensCells.cons (Opens.int Try.underlying5) (by kernel_rfl) (OpensCells.cons (Opens.int Try.underlying22) (by kernel_rfl) (OpensCells.one (Opens.string Try.underlying9) (by kernel_rfl)) rfl) rfl) rfl)
/-- THE ONE PURE STATEMENT of nunciolaw14_FrameParses: yours. -/
def nunciolaw14_FrameParses.Pure : Prop := ∀ (a0 : ByteArray) (a1_0 : Int) (a1_1 : Int) (a1_2 : Int) (a1_3 : ByteArray), (a0.size ≤ 140737488351232) → ((Lit.int .u8 a1_0).wf = true) → ((Lit.int .u8 a1_1).wf = true) → ((Lit.int .u32 a1_2).wf = true) → (a1_3.size ≤ 140737488351232) → ∃ k, nunciolaw14_FrameParses.f k a0 a1_0 a1_1 a1_2 a1_3 = some true
theorem nunciolaw14_FrameParses.walk (P : nunciolaw14_FrameParses.Pure) (a0 : ByteArray) (a1_0 : Int) (a1_1 : Int) (a1_2 : Int) (a1_3 : ByteArray) (w : World) (w0 : a0.size ≤ 140737488351232) (w1_0 : (Lit.int .u8 a1_0).wf = true) (w1_1 : (Lit.int .u8 a1_1).wf = true) (w1_2 : (Lit.int .u32 a1_2).wf = true) (w1_3 : a1_3.size ≤ 140737488351232) :
  Calls Try.prog 3 #[.string a0, .agg #[.int .u8 a1_0, .int .u8 a1_1, .int .u32 a1_2, .string a1_3]] w fun e w' => e = .returned (.bool true) ∧ Below w.heap.size w w' := by
 obtain ⟨k, h⟩ := P a0 a1_0 a1_1 a1_2 a1_3 w0 w1_0 w1_1 w1_2 w1_3
 refine (nunciolaw14_FrameParses.calls k a0 a1_0 a1_1 a1_2 a1_3 true w h rfl).mono ?_
 rintro e w' ⟨rfl, hd⟩
 exact ⟨rfl, hd⟩

/-! ### nuncioref14_flag: function 30 -/
def nuncioref14_flag.f (a0_0 : Int) (a0_1 : Int) (a0_2 : Int) (a0_3 : ByteArray) (a1 : Int) : Option (Bool) := if a1 = 0 then (none) else (some ((Int.tmod (wrap64 (Int.tdiv (wrap64 (a0_1)) a1)) 2) == 1))
set_option maxHeartbeats 8000000 in
set_option maxRecDepth 100000 in
theorem nuncioref14_flag.calls (a0_0 : Int) (a0_1 : Int) (a0_2 : Int) (a0_3 : ByteArray) (a1 : Int) (r : Bool) (w : World) (h : nuncioref14_flag.f a0_0 a0_1 a0_2 a0_3 a1 = some r) :
  Calls Try.prog 30 #[.agg #[.int .u8 a0_0, .int .u8 a0_1, .int .u32 a0_2, .string a0_3], .int .i64 a1] w fun e w' => e = .returned (.bool r) ∧ Below w.heap.size w w' := by
 have hu24 := Try.underlying24
 have HB := Aside0.mk (Below.refl w.heap.size w)
 have H : (if a1 = 0 then (none) else (some ((Int.tmod (wrap64 (Int.tdiv (wrap64 (a0_1)) a1)) 2) == 1))) = some r := h
 clear h
 by_cases c3 : a1 = 0
 ·
  rw [if_pos c3] at H
  exact absurd H (by simp)
 ·
  rw [if_neg c3] at H
  have c3b0 : (a1 == 0) = false := beq_eq_false_iff_ne.mpr c3
  have c3b1 : (a1 != 0) = true := bne_iff_ne.mpr c3
  obtain rfl := Option.some.inj H
  go_enter Try.func30, Try.ntmps30
  go_wp2_with (first | ((with_reducible refine gate_dst (N := 2) rfl ?_); refine box_event ?hg (N := 2) ?hd (cs := #[.int .u8 a0_0, .int .u8 a0_1, .int .u32 a0_2, .string a0_3]) (t := 24) ?hr ?_; (case hd => rfl); (case hg => rfl); (case hr => first | (go_simp; done) | (go_simp; rfl)); intro gb239 hg w4 hbox hb; have n0_ := Aside0.mk (below_step (by repeat (first | (with_reducible first | exact HB.out | apply below_alloc | apply pw_below_drewN | apply below_drew1) | exact HB.out)) hb); have n1_ := Aside0.mk (hbox); have n2_ := Aside0.mk ((by rw [hg]; exact (below_size (by repeat (first | (with_reducible first | exact HB.out | apply below_alloc | apply pw_below_drewN | apply below_drew1) | exact HB.out))) : w.heap.size ≤ gb239)); have n3_ := Aside0.mk ((by rw [hg]; exact (below_size (by repeat (first | (with_reducible first | exact HB.out | apply below_alloc | apply pw_below_drewN | apply below_drew1) | exact HB.out))) : w.heap.size ≤ gb239)); clear HB; have HB := n0_; have BK239 := n1_; have GW239 := n2_; have GE239 := n3_; clear n0_ n1_ n2_ n3_; clear hb hbox hg; have hcz5_0 : w4.cell? ⟨gb239, 0, none⟩ = some (.int .u8 a0_0) := (blk_cell BK239.out 0).trans rfl; have hcz5_1 : w4.cell? ⟨gb239, 1, none⟩ = some (.int .u8 a0_1) := (blk_cell BK239.out 1).trans rfl; have hcz5_2 : w4.cell? ⟨gb239, 2, none⟩ = some (.int .u32 a0_2) := (blk_cell BK239.out 2).trans rfl; have hcz5_3 : w4.cell? ⟨gb239, 3, none⟩ = some (.string a0_3) := (blk_cell BK239.out 3).trans rfl; have hfz5_0 := blk_frozen BK239.out 0; have hfz5_1 := blk_frozen BK239.out 1; have hfz5_2 := blk_frozen BK239.out 2; have hfz5_3 := blk_frozen BK239.out 3))
  go_ret
  exact ⟨by first | rfl | (simp [errW_none, errW_some] <;> rfl) | (simp [*, errW_none, errW_some] <;> rfl), by repeat (first | (with_reducible first | exact HB.out | apply below_alloc | apply pw_below_drewN | apply below_drew1 | refine below_set ?_ GE239.out) | exact HB.out)⟩

/-! ### nuncioref14_self: function 32 -/
def nuncioref14_self.f (k : Nat) (a0_0 : Int) (a0_1 : Int) (a0_2 : Int) (a0_3 : ByteArray) (a1 : Int) : Option (Bool) := (nuncioref14_get.f k a0_3 a1 4).bind fun t241 => (some (((Int.tmod t241 2147483648) % 4294967296) == a0_2))
theorem nuncioref14_self.mono : ∀ a0 a1 a2 a3 a4 k, LeO (nuncioref14_self.f k a0 a1 a2 a3 a4) (nuncioref14_self.f (k + 1) a0 a1 a2 a3 a4) := by
 intro a0 a1 a2 a3 a4 k
 unfold nuncioref14_self.f
 repeat' first
   | (with_reducible exact nuncioref14_get.mono _ _ _ _)
   | (with_reducible exact LeO.refl _)
   | (with_reducible exact LeO.none _)
   | (with_reducible refine LeO.ite ?_ ?_)
   | (with_reducible refine LeO.bind ?_ (fun _ => ?_))
   | exact nuncioref14_get.mono _ _ _ _
   | exact LeO.none _
   | refine LeO.ite ?_ ?_
   | refine LeO.bind ?_ (fun _ => ?_)
set_option maxHeartbeats 8000000 in
set_option maxRecDepth 100000 in
theorem nuncioref14_self.calls (k : Nat) (a0_0 : Int) (a0_1 : Int) (a0_2 : Int) (a0_3 : ByteArray) (a1 : Int) (r : Bool) (w : World) (h : nuncioref14_self.f k a0_0 a0_1 a0_2 a0_3 a1 = some r) :
  Calls Try.prog 32 #[.agg #[.int .u8 a0_0, .int .u8 a0_1, .int .u32 a0_2, .string a0_3], .int .i64 a1] w fun e w' => e = .returned (.bool r) ∧ Below w.heap.size w w' := by
 have hu24 := Try.underlying24
 have HB := Aside0.mk (Below.refl w.heap.size w)
 have H : ((nuncioref14_get.f k a0_3 a1 4).bind fun t241 => (some (((Int.tmod t241 2147483648) % 4294967296) == a0_2))) = some r := h
 clear h
 replace H := Option.bind_eq_some_iff.mp H
 obtain ⟨t241, A30, H⟩ := H
 replace H : (some (((Int.tmod t241 2147483648) % 4294967296) == a0_2)) = some r := H
 have A3 := Aside0.mk A30
 clear A30
 obtain rfl := Option.some.inj H
 go_enter Try.func32, Try.ntmps32
 go_wp2_with (first | ((with_reducible refine gate_dst (N := 2) rfl ?_); refine box_event ?hg (N := 2) ?hd (cs := #[.int .u8 a0_0, .int .u8 a0_1, .int .u32 a0_2, .string a0_3]) (t := 24) ?hr ?_; (case hd => rfl); (case hg => rfl); (case hr => first | (go_simp; done) | (go_simp; rfl)); intro gb240 hg w4 hbox hb; have n0_ := Aside0.mk (below_step (by repeat (first | (with_reducible first | exact HB.out | apply below_alloc | apply pw_below_drewN | apply below_drew1) | exact HB.out)) hb); have n1_ := Aside0.mk (hbox); have n2_ := Aside0.mk ((by rw [hg]; exact (below_size (by repeat (first | (with_reducible first | exact HB.out | apply below_alloc | apply pw_below_drewN | apply below_drew1) | exact HB.out))) : w.heap.size ≤ gb240)); have n3_ := Aside0.mk ((by rw [hg]; exact (below_size (by repeat (first | (with_reducible first | exact HB.out | apply below_alloc | apply pw_below_drewN | apply below_drew1) | exact HB.out))) : w.heap.size ≤ gb240)); clear HB; have HB := n0_; have BK240 := n1_; have GW240 := n2_; have GE240 := n3_; clear n0_ n1_ n2_ n3_; clear hb hbox hg; have hcz5_0 : w4.cell? ⟨gb240, 0, none⟩ = some (.int .u8 a0_0) := (blk_cell BK240.out 0).trans rfl; have hcz5_1 : w4.cell? ⟨gb240, 1, none⟩ = some (.int .u8 a0_1) := (blk_cell BK240.out 1).trans rfl; have hcz5_2 : w4.cell? ⟨gb240, 2, none⟩ = some (.int .u32 a0_2) := (blk_cell BK240.out 2).trans rfl; have hcz5_3 : w4.cell? ⟨gb240, 3, none⟩ = some (.string a0_3) := (blk_cell BK240.out 3).trans rfl; have hfz5_0 := blk_frozen BK240.out 0; have hfz5_1 := blk_frozen BK240.out 1; have hfz5_2 := blk_frozen BK240.out 2; have hfz5_3 := blk_frozen BK240.out 3) | (go_at_call 24; (with_reducible refine (nuncioref14_get.calls k a0_3 a1 4 t241 _ A3.out).mono ?_); rintro e w' ⟨rfl, ⟨nd, rfl⟩⟩; (try first | exact ⟨rfl, _, World.drewN_drewN _ _ _⟩ | exact ⟨rfl, _, Eq.trans (World.drewN_drewN _ _ _) (congrArg (World.drewN _) (Nat.add_assoc _ _ _))⟩)))
 repeat (go_quiet (first | ((with_reducible refine gate_dst (N := 2) rfl ?_); refine box_event ?hg (N := 2) ?hd (cs := #[.int .u8 a0_0, .int .u8 a0_1, .int .u32 a0_2, .string a0_3]) (t := 24) ?hr ?_; (case hd => rfl); (case hg => rfl); (case hr => first | (go_simp; done) | (go_simp; rfl)); intro gb240 hg w4 hbox hb; have n0_ := Aside0.mk (below_step (by repeat (first | (with_reducible first | exact HB.out | apply below_alloc | apply pw_below_drewN | apply below_drew1) | exact HB.out)) hb); have n1_ := Aside0.mk (hbox); have n2_ := Aside0.mk ((by rw [hg]; exact (below_size (by repeat (first | (with_reducible first | exact HB.out | apply below_alloc | apply pw_below_drewN | apply below_drew1) | exact HB.out))) : w.heap.size ≤ gb240)); have n3_ := Aside0.mk ((by rw [hg]; exact (below_size (by repeat (first | (with_reducible first | exact HB.out | apply below_alloc | apply pw_below_drewN | apply below_drew1) | exact HB.out))) : w.heap.size ≤ gb240)); clear HB; have HB := n0_; have BK240 := n1_; have GW240 := n2_; have GE240 := n3_; clear n0_ n1_ n2_ n3_; clear hb hbox hg; have hcz5_0 : w4.cell? ⟨gb240, 0, none⟩ = some (.int .u8 a0_0) := (blk_cell BK240.out 0).trans rfl; have hcz5_1 : w4.cell? ⟨gb240, 1, none⟩ = some (.int .u8 a0_1) := (blk_cell BK240.out 1).trans rfl; have hcz5_2 : w4.cell? ⟨gb240, 2, none⟩ = some (.int .u32 a0_2) := (blk_cell BK240.out 2).trans rfl; have hcz5_3 : w4.cell? ⟨gb240, 3, none⟩ = some (.string a0_3) := (blk_cell BK240.out 3).trans rfl; have hfz5_0 := blk_frozen BK240.out 0; have hfz5_1 := blk_frozen BK240.out 1; have hfz5_2 := blk_frozen BK240.out 2; have hfz5_3 := blk_frozen BK240.out 3) | (go_at_call 24; (with_reducible refine (nuncioref14_get.calls k a0_3 a1 4 t241 _ A3.out).mono ?_); rintro e w' ⟨rfl, ⟨nd, rfl⟩⟩; (try first | exact ⟨rfl, _, World.drewN_drewN _ _ _⟩ | exact ⟨rfl, _, Eq.trans (World.drewN_drewN _ _ _) (congrArg (World.drewN _) (Nat.add_assoc _ _ _))⟩))); try go_wp2_with (first | ((with_reducible refine gate_dst (N := 2) rfl ?_); refine box_event ?hg (N := 2) ?hd (cs := #[.int .u8 a0_0, .int .u8 a0_1, .int .u32 a0_2, .string a0_3]) (t := 24) ?hr ?_; (case hd => rfl); (case hg => rfl); (case hr => first | (go_simp; done) | (go_simp; rfl)); intro gb240 hg w4 hbox hb; have n0_ := Aside0.mk (below_step (by repeat (first | (with_reducible first | exact HB.out | apply below_alloc | apply pw_below_drewN | apply below_drew1) | exact HB.out)) hb); have n1_ := Aside0.mk (hbox); have n2_ := Aside0.mk ((by rw [hg]; exact (below_size (by repeat (first | (with_reducible first | exact HB.out | apply below_alloc | apply pw_below_drewN | apply below_drew1) | exact HB.out))) : w.heap.size ≤ gb240)); have n3_ := Aside0.mk ((by rw [hg]; exact (below_size (by repeat (first | (with_reducible first | exact HB.out | apply below_alloc | apply pw_below_drewN | apply below_drew1) | exact HB.out))) : w.heap.size ≤ gb240)); clear HB; have HB := n0_; have BK240 := n1_; have GW240 := n2_; have GE240 := n3_; clear n0_ n1_ n2_ n3_; clear hb hbox hg; have hcz5_0 : w4.cell? ⟨gb240, 0, none⟩ = some (.int .u8 a0_0) := (blk_cell BK240.out 0).trans rfl; have hcz5_1 : w4.cell? ⟨gb240, 1, none⟩ = some (.int .u8 a0_1) := (blk_cell BK240.out 1).trans rfl; have hcz5_2 : w4.cell? ⟨gb240, 2, none⟩ = some (.int .u32 a0_2) := (blk_cell BK240.out 2).trans rfl; have hcz5_3 : w4.cell? ⟨gb240, 3, none⟩ = some (.string a0_3) := (blk_cell BK240.out 3).trans rfl; have hfz5_0 := blk_frozen BK240.out 0; have hfz5_1 := blk_frozen BK240.out 1; have hfz5_2 := blk_frozen BK240.out 2; have hfz5_3 := blk_frozen BK240.out 3) | (go_at_call 24; (with_reducible refine (nuncioref14_get.calls k a0_3 a1 4 t241 _ A3.out).mono ?_); rintro e w' ⟨rfl, ⟨nd, rfl⟩⟩; (try first | exact ⟨rfl, _, World.drewN_drewN _ _ _⟩ | exact ⟨rfl, _, Eq.trans (World.drewN_drewN _ _ _) (congrArg (World.drewN _) (Nat.add_assoc _ _ _))⟩))))
 go_ret
 exact ⟨by first | rfl | (simp [errW_none, errW_some] <;> rfl) | (simp [*, errW_none, errW_some] <;> rfl), by repeat (first | (with_reducible first | exact HB.out | apply below_alloc | apply pw_below_drewN | apply below_drew1 | refine below_set ?_ GE240.out) | exact HB.out)⟩

end Go.Proofs.Ytimhhacnpjcjnaa.Mine
