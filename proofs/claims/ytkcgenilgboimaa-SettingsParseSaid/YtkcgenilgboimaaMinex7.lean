-- Written by this repo's own printer (wip/print), which builds on the kit's.
import Derived.Test.YtkcgenilgboimaaMinex0
import Derived.Test.YtkcgenilgboimaaMinex1
import Derived.Test.YtkcgenilgboimaaMinex4
import Derived.Test.YtkcgenilgboimaaMinex6
namespace Go.Proofs.Ytkcgenilgboimaa.Mine
open Go.RowKit Go.Proofs.YtkcgenilgboimaaW.PrintWords Go.Proofs.YtkcgenilgboimaaW.PrintLast Go.Proofs.YtkcgenilgboimaaW.PrintMore
attribute [local go_sem] max2_int min2_int max_two min_two max_three min_three max_four min_four   -- for this text's walks alone
set_option linter.unusedVariables false
set_option linter.unusedSimpArgs false

attribute [local go_sem high] eqA26
/-! ### nunciolaw16_SettingsRight: function 5 -/
mutual
def nunciolaw16_SettingsRight.l0 : Nat → Bool → List (List (S42)) → Int → Int → Int → Int → Int → Int → Bool → Option (Bool)
  | 0, _, _, _, _, _, _, _, _, _ => none
  | k + 1, x0, x1, x6, x216000, x216001, x216002, x216003, x216004, x216005 => if x6 < (x1.length : Int) then (if 0 ≤ x6 then (if ((rd_L4 x1 x6).length : Int) > 200 then (some true) else ((settings_Apply.f k x216000 x216001 x216002 x216003 x216004 x216005 x0 (rd_L4 x1 x6)).bind fun bt218 => (if bt218.2.2.2.2.2.2 = 0 then (nunciolaw16_SettingsRight.j1 k x0 x1 x6 false bt218.1 bt218.2.1 bt218.2.2.1 bt218.2.2.2.1 bt218.2.2.2.2.1 bt218.2.2.2.2.2.1) else (if (!(bt218.1 == x216000) || (!(bt218.2.1 == x216001) || (!(bt218.2.2.1 == x216002) || (!(bt218.2.2.2.1 == x216003) || (!(bt218.2.2.2.2.1 == x216004) || (!(bt218.2.2.2.2.2.1 == x216005))))))) = true then (nunciolaw16_SettingsRight.j1 k x0 x1 x6 true bt218.1 bt218.2.1 bt218.2.2.1 bt218.2.2.2.1 bt218.2.2.2.2.1 bt218.2.2.2.2.2.1) else (if bt218.2.2.2.2.2.2 = 1 then (nunciolaw16_SettingsRight.j1 k x0 x1 x6 false bt218.1 bt218.2.1 bt218.2.2.1 bt218.2.2.2.1 bt218.2.2.2.2.1 bt218.2.2.2.2.2.1) else (nunciolaw16_SettingsRight.j1 k x0 x1 x6 (bt218.2.2.2.2.2.2 != 3) bt218.1 bt218.2.1 bt218.2.2.1 bt218.2.2.2.1 bt218.2.2.2.2.1 bt218.2.2.2.2.2.1)))))) else (none)) else (some true)
def nunciolaw16_SettingsRight.j1 : Nat → Bool → List (List (S42)) → Int → Bool → Int → Int → Int → Int → Int → Bool → Option (Bool)
  | 0, _, _, _, _, _, _, _, _, _, _ => none
  | k + 1, x0, x1, x6, x58, x226000, x226001, x226002, x226003, x226004, x226005 => if x58 = true then (some false) else (if x226002 > 2147483647 then (some false) else (if x226003 < 16384 then (some false) else (if x226003 > 16777215 then (some false) else (if x0 = true then (if x226005 = true then (some false) else (nunciolaw16_SettingsRight.l0 k x0 x1 (wrap64 (x6 + 1)) x226000 x226001 x226002 x226003 x226004 x226005)) else (nunciolaw16_SettingsRight.l0 k x0 x1 (wrap64 (x6 + 1)) x226000 x226001 x226002 x226003 x226004 x226005)))))
end
def nunciolaw16_SettingsRight.f (k : Nat) (a0 : Bool) (l1 : List (List (S42))) : Option (Bool) := (nunciolaw16_awake.f k).bind fun t208 => (if t208 = true then (if (l1.length : Int) > 50 then (some true) else ((settings_Defaults.f).bind fun bt209 => (nunciolaw16_SettingsRight.l0 k a0 l1 0 bt209.1 bt209.2.1 bt209.2.2.1 bt209.2.2.2.1 bt209.2.2.2.2.1 (!a0)))) else (some false))
theorem nunciolaw16_SettingsRight.mono_l : ∀ k, (∀ y0 y1 y2 y3 y4 y5 y6 y7 y8, LeO (nunciolaw16_SettingsRight.l0 k y0 y1 y2 y3 y4 y5 y6 y7 y8) (nunciolaw16_SettingsRight.l0 (k + 1) y0 y1 y2 y3 y4 y5 y6 y7 y8)) ∧ (∀ y0 y1 y2 y3 y4 y5 y6 y7 y8 y9, LeO (nunciolaw16_SettingsRight.j1 k y0 y1 y2 y3 y4 y5 y6 y7 y8 y9) (nunciolaw16_SettingsRight.j1 (k + 1) y0 y1 y2 y3 y4 y5 y6 y7 y8 y9))
  | 0 => ⟨fun _ _ _ _ _ _ _ _ _ r h => by simp [nunciolaw16_SettingsRight.l0] at h, fun _ _ _ _ _ _ _ _ _ _ r h => by simp [nunciolaw16_SettingsRight.j1] at h⟩
  | k + 1 => by
    obtain ⟨ih0, ih1⟩ := nunciolaw16_SettingsRight.mono_l k
    refine ⟨?_, ?_⟩
    · intro y0 y1 y2 y3 y4 y5 y6 y7 y8
      unfold nunciolaw16_SettingsRight.l0
      repeat' first
      | (with_reducible exact ih0 _ _ _ _ _ _ _ _ _)
      | (with_reducible exact ih1 _ _ _ _ _ _ _ _ _ _)
      | (with_reducible exact nunciolaw16_awake.mono _)
      | (with_reducible exact settings_Apply.mono _ _ _ _ _ _ _ _ _)
      | (with_reducible exact LeO.refl _)
      | (with_reducible exact LeO.none _)
      | (with_reducible refine LeO.ite ?_ ?_)
      | (with_reducible refine LeO.bind ?_ (fun _ => ?_))
      | exact ih0 _ _ _ _ _ _ _ _ _
      | exact ih1 _ _ _ _ _ _ _ _ _ _
      | exact nunciolaw16_awake.mono _
      | exact settings_Apply.mono _ _ _ _ _ _ _ _ _
      | exact LeO.none _
      | refine LeO.ite ?_ ?_
      | refine LeO.bind ?_ (fun _ => ?_)
    · intro y0 y1 y2 y3 y4 y5 y6 y7 y8 y9
      unfold nunciolaw16_SettingsRight.j1
      repeat' first
      | (with_reducible exact ih0 _ _ _ _ _ _ _ _ _)
      | (with_reducible exact ih1 _ _ _ _ _ _ _ _ _ _)
      | (with_reducible exact nunciolaw16_awake.mono _)
      | (with_reducible exact settings_Apply.mono _ _ _ _ _ _ _ _ _)
      | (with_reducible exact LeO.refl _)
      | (with_reducible exact LeO.none _)
      | (with_reducible refine LeO.ite ?_ ?_)
      | (with_reducible refine LeO.bind ?_ (fun _ => ?_))
      | exact ih0 _ _ _ _ _ _ _ _ _
      | exact ih1 _ _ _ _ _ _ _ _ _ _
      | exact nunciolaw16_awake.mono _
      | exact settings_Apply.mono _ _ _ _ _ _ _ _ _
      | exact LeO.none _
      | refine LeO.ite ?_ ?_
      | refine LeO.bind ?_ (fun _ => ?_)
theorem nunciolaw16_SettingsRight.mono : ∀ a0 a1 k, LeO (nunciolaw16_SettingsRight.f k a0 a1) (nunciolaw16_SettingsRight.f (k + 1) a0 a1) := by
  intro a0 a1 k
  obtain ⟨ih0, ih1⟩ := nunciolaw16_SettingsRight.mono_l k
  unfold nunciolaw16_SettingsRight.f
  repeat' first
      | (with_reducible exact ih0 _ _ _ _ _ _ _ _ _)
      | (with_reducible exact ih1 _ _ _ _ _ _ _ _ _ _)
      | (with_reducible exact nunciolaw16_awake.mono _)
      | (with_reducible exact settings_Apply.mono _ _ _ _ _ _ _ _ _)
      | (with_reducible exact LeO.refl _)
      | (with_reducible exact LeO.none _)
      | (with_reducible refine LeO.ite ?_ ?_)
      | (with_reducible refine LeO.bind ?_ (fun _ => ?_))
      | exact ih0 _ _ _ _ _ _ _ _ _
      | exact ih1 _ _ _ _ _ _ _ _ _ _
      | exact nunciolaw16_awake.mono _
      | exact settings_Apply.mono _ _ _ _ _ _ _ _ _
      | exact LeO.none _
      | refine LeO.ite ?_ ?_
      | refine LeO.bind ?_ (fun _ => ?_)
def nunciolaw16_SettingsRight.T12 : Bool × List (List Nat × List Nat) := (true, [([], []), ([], []), ([], []), ([], []), ([2, 3], [2, 3]), ([4], [4]), ([0, 1, 5], [0, 1, 5]), ([6], [6]), ([7], [7]), ([7], [7]), ([], []), ([10, 8, 6, 0, 1, 2, 3, 4, 5, 6, 7, 8, 10], [8, 10]), ([9, 11, 0, 1, 2, 3, 4, 5, 6, 7, 8, 9, 10, 11], [9])])
def nunciolaw16_SettingsRight.B12 : List Nat := [0, 0, 0, 0, 12, 28, 63, 127, 255, 255, 0, 1535, 4095]
theorem nunciolaw16_SettingsRight.tab12 : rtab .any (opsOf Try.f5 12) = nunciolaw16_SettingsRight.T12 := by kernel_rfl
theorem nunciolaw16_SettingsRight.bits12 : waitsOk nunciolaw16_SettingsRight.T12.2 nunciolaw16_SettingsRight.B12 = true := by kernel_rfl
set_option maxHeartbeats 8000000 in
set_option maxRecDepth 100000 in
theorem nunciolaw16_SettingsRight.calls (k : Nat) (a0 : Bool) (A1 : Option Addr) (c1 : Nat) (l1 : List (List (S42))) (r : Bool) (w : World) (hr1 : Kd.C (Kd.slice 42 k42) w A1 l1.length l1) (hc1 : l1.length ≤ c1) (h : nunciolaw16_SettingsRight.f k a0 l1 = some r) :
    Calls Try.prog 5 #[.bool a0, .slice A1 l1.length c1] w fun e w' => e = .returned (.bool r) ∧ Below w.heap.size w w' := by
  have hu26 := Try.underlying26
  have HR1 := Aside0.mk hr1
  have HC1 := Aside0.mk hc1
  clear hr1 hc1
  have HB := Aside0.mk (Below.refl w.heap.size w)
  have H : ((nunciolaw16_awake.f k).bind fun t208 => (if t208 = true then (if (l1.length : Int) > 50 then (some true) else ((settings_Defaults.f).bind fun bt209 => (nunciolaw16_SettingsRight.l0 k a0 l1 0 bt209.1 bt209.2.1 bt209.2.2.1 bt209.2.2.2.1 bt209.2.2.2.2.1 (!a0)))) else (some false))) = some r := h
  clear h
  replace H := Option.bind_eq_some_iff.mp H
  obtain ⟨t208, A30, H⟩ := H
  replace H : (if t208 = true then (if (l1.length : Int) > 50 then (some true) else ((settings_Defaults.f).bind fun bt209 => (nunciolaw16_SettingsRight.l0 k a0 l1 0 bt209.1 bt209.2.1 bt209.2.2.1 bt209.2.2.2.1 bt209.2.2.2.2.1 (!a0)))) else (some false)) = some r := H
  have A3 := Aside0.mk A30
  clear A30
  by_cases c4 : t208 = true
  · subst c4
    have H1 : (if (l1.length : Int) > 50 then (some true) else ((settings_Defaults.f).bind fun bt209 => (nunciolaw16_SettingsRight.l0 k a0 l1 0 bt209.1 bt209.2.1 bt209.2.2.1 bt209.2.2.2.1 bt209.2.2.2.2.1 (!a0)))) = some r := by rw [if_pos rfl] at H; exact H
    clear H
    have H := H1
    clear H1
    by_cases c5 : (l1.length : Int) > 50
    · rw [if_pos c5] at H
      have c5b0 : decide (50 < (l1.length : Int)) = true := decide_eq_true c5
      have c5b1 : decide (50 < l1.length) = true := decide_eq_true (by omega)
      clear c5
      obtain rfl := Option.some.inj H
      go_enter Try.func5, Try.ntmps5
      go_wp2_with (first | ((with_reducible refine gate_callee (f := 8) rfl ?_); refine goesL_ (some 9) rfl rfl Try.func8 (by kernel_rfl) rfl #[] rfl (by (try simp only [List.map_toArray, List.map_cons, List.map_nil]); first | done | rfl | (simp only [List.length_drop, List.length_take]; rfl)) ?_; (with_reducible refine (nunciolaw16_awake.calls k  true _ A3.out).mono ?_); rintro e w6 ⟨rfl, hb⟩; refine ⟨_, rfl, ?_⟩; have n0_ := Aside0.mk (below_step (by repeat (first | (with_reducible first | exact HB.out | apply below_alloc | apply pw_below_drewN | apply below_drew1) | exact HB.out)) hb); clear HB; have HB := n0_; clear n0_; (try clear hb); (try clear hb2); (try clear hk); (try clear hi)))
      go_ret
      exact ⟨by first | rfl | (simp [errW_none, errW_some] <;> rfl) | (simp [*, errW_none, errW_some] <;> rfl), by repeat (first | (with_reducible first | exact HB.out | apply below_alloc | apply pw_below_drewN | apply below_drew1) | exact HB.out)⟩
    · rw [if_neg c5] at H
      have c5b0 : decide (50 < (l1.length : Int)) = false := decide_eq_false c5
      have c5b1 : decide (50 < l1.length) = false := decide_eq_false (by omega)
      clear c5
      replace H := Option.bind_eq_some_iff.mp H
      obtain ⟨⟨t209, t210, t211, t212, t213, t214⟩, A70, H⟩ := H
      replace H : (nunciolaw16_SettingsRight.l0 k a0 l1 0 t209 t210 t211 t212 t213 (!a0)) = some r := H
      have A7 := Aside0.mk A70
      clear A70
      have H' := Aside0.mk H
      clear H
      go_enter Try.func5, Try.ntmps5
      go_wp2_with (first | ((with_reducible refine gate_callee (f := 8) rfl ?_); refine goesL_ (some 9) rfl rfl Try.func8 (by kernel_rfl) rfl #[] rfl (by (try simp only [List.map_toArray, List.map_cons, List.map_nil]); first | done | rfl | (simp only [List.length_drop, List.length_take]; rfl)) ?_; (with_reducible refine (nunciolaw16_awake.calls k  true _ A3.out).mono ?_); rintro e w8 ⟨rfl, hb⟩; refine ⟨_, rfl, ?_⟩; have n0_ := Aside0.mk (below_step (by repeat (first | (with_reducible first | exact HB.out | apply below_alloc | apply pw_below_drewN | apply below_drew1) | exact HB.out)) hb); clear HB; have HB := n0_; clear n0_; (try clear hb); (try clear hb2); (try clear hk); (try clear hi)) | ((with_reducible refine gate_callee (f := 10) rfl ?_); refine goesL_ (some 14) rfl rfl Try.func10 (by kernel_rfl) rfl #[] rfl (by (try simp only [List.map_toArray, List.map_cons, List.map_nil]); first | done | rfl | (simp only [List.length_drop, List.length_take]; rfl)) ?_; (with_reducible refine (settings_Defaults.calls  t209 t210 t211 t212 t213 t214 _ A7.out).mono ?_); rintro e w9 ⟨rfl, hb⟩; refine ⟨_, rfl, ?_⟩; have n0_ := Aside0.mk (below_step (by repeat (first | (with_reducible first | exact HB.out | apply below_alloc | apply pw_below_drewN | apply below_drew1) | exact HB.out)) hb); clear HB; have HB := n0_; clear n0_; (try clear hb); (try clear hb2); (try clear hk); (try clear hi)) | ((with_reducible refine gate_dst (N := 5) rfl ?_); refine box_event ?hg (N := 5) ?hd (cs := #[.int .u32 0, .int .u32 0, .int .u32 0, .int .u32 0, .int .u32 0, .bool false]) (t := 26) ?hr ?_; (case hd => rfl); (case hg => rfl); (case hr => first | (go_simp; done) | (go_simp; rfl)); intro gb215 hg w10 hbox hb; have n0_ := Aside0.mk (below_step (by repeat (first | (with_reducible first | exact HB.out | apply below_alloc | apply pw_below_drewN | apply below_drew1) | exact HB.out)) hb); have n1_ := Aside0.mk (hbox); have n2_ := Aside0.mk ((by rw [hg]; exact (below_size (by repeat (first | (with_reducible first | exact HB.out | apply below_alloc | apply pw_below_drewN | apply below_drew1) | exact HB.out))) : w.heap.size ≤ gb215)); have n3_ := Aside0.mk ((by rw [hg]; exact (below_size (by repeat (first | (with_reducible first | exact HB.out | apply below_alloc | apply pw_below_drewN | apply below_drew1) | exact HB.out))) : w.heap.size ≤ gb215)); clear HB; have HB := n0_; have BK215 := n1_; have GW215 := n2_; have GE215 := n3_; clear n0_ n1_ n2_ n3_; clear hb hbox hg; have hcz11_0 : w10.cell? ⟨gb215, 0, none⟩ = some (.int .u32 0) := (blk_cell BK215.out 0).trans rfl; have hcz11_1 : w10.cell? ⟨gb215, 1, none⟩ = some (.int .u32 0) := (blk_cell BK215.out 1).trans rfl; have hcz11_2 : w10.cell? ⟨gb215, 2, none⟩ = some (.int .u32 0) := (blk_cell BK215.out 2).trans rfl; have hcz11_3 : w10.cell? ⟨gb215, 3, none⟩ = some (.int .u32 0) := (blk_cell BK215.out 3).trans rfl; have hcz11_4 : w10.cell? ⟨gb215, 4, none⟩ = some (.int .u32 0) := (blk_cell BK215.out 4).trans rfl; have hcz11_5 : w10.cell? ⟨gb215, 5, none⟩ = some (.bool false) := (blk_cell BK215.out 5).trans rfl; have hfz11_0 := blk_frozen BK215.out 0; have hfz11_1 := blk_frozen BK215.out 1; have hfz11_2 := blk_frozen BK215.out 2; have hfz11_3 := blk_frozen BK215.out 3; have hfz11_4 := blk_frozen BK215.out 4; have hfz11_5 := blk_frozen BK215.out 5))
      go_loopg [6] k (fun kq v6 w' => ∃ (x6_1 : Int) (x216000_1 : Int) (x216001_1 : Int) (x216002_1 : Int) (x216003_1 : Int) (x216004_1 : Int) (x216005_1 : Bool), v6 = .int .i64 x6_1 ∧ Aside0 (nunciolaw16_SettingsRight.l0 kq a0 l1 x6_1 x216000_1 x216001_1 x216002_1 x216003_1 x216004_1 x216005_1 = some r) ∧ Aside0 (kq ≤ k) ∧ Aside0 (w'.heap[gb215]? = some (.cells #[.int .u32 x216000_1, .int .u32 x216001_1, .int .u32 x216002_1, .int .u32 x216003_1, .int .u32 x216004_1, .bool x216005_1] 26 (0, 0))) ∧ Aside0 (Below w.heap.size w w'))
      case atStart => exact ⟨(0), (t209), (t210), (t211), (t212), (t213), (!a0), (by first | rfl | (simp; done) | (simp [*]; done)), H', ⟨Nat.le_refl _⟩, ⟨by (with_reducible repeat (first | refine blk_drewN ?_ _ | refine blk_drew ?_ | refine blk_alloc ?_ _)); refine blk_put (cs := #[.int .u32 t209, .int .u32 t210, .int .u32 t211, .int .u32 t212, .int .u32 t213, .bool t214]) ?_ 5 _ rfl; (with_reducible repeat (first | refine blk_drewN ?_ _ | refine blk_drew ?_ | refine blk_alloc ?_ _)); refine blk_put (cs := #[.int .u32 t209, .int .u32 t210, .int .u32 t211, .int .u32 t212, .int .u32 t213, .bool false]) ?_ 5 _ rfl; (with_reducible repeat (first | refine blk_drewN ?_ _ | refine blk_drew ?_ | refine blk_alloc ?_ _)); refine blk_put (cs := #[.int .u32 t209, .int .u32 t210, .int .u32 t211, .int .u32 t212, .int .u32 0, .bool false]) ?_ 4 _ rfl; (with_reducible repeat (first | refine blk_drewN ?_ _ | refine blk_drew ?_ | refine blk_alloc ?_ _)); refine blk_put (cs := #[.int .u32 t209, .int .u32 t210, .int .u32 t211, .int .u32 0, .int .u32 0, .bool false]) ?_ 3 _ rfl; (with_reducible repeat (first | refine blk_drewN ?_ _ | refine blk_drew ?_ | refine blk_alloc ?_ _)); refine blk_put (cs := #[.int .u32 t209, .int .u32 t210, .int .u32 0, .int .u32 0, .int .u32 0, .bool false]) ?_ 2 _ rfl; (with_reducible repeat (first | refine blk_drewN ?_ _ | refine blk_drew ?_ | refine blk_alloc ?_ _)); refine blk_put (cs := #[.int .u32 t209, .int .u32 0, .int .u32 0, .int .u32 0, .int .u32 0, .bool false]) ?_ 1 _ rfl; (with_reducible repeat (first | refine blk_drewN ?_ _ | refine blk_drew ?_ | refine blk_alloc ?_ _)); refine blk_put (cs := #[.int .u32 0, .int .u32 0, .int .u32 0, .int .u32 0, .int .u32 0, .bool false]) ?_ 0 _ rfl; (with_reducible repeat (first | refine blk_drewN ?_ _ | refine blk_drew ?_ | refine blk_alloc ?_ _)); exact BK215.out⟩, ⟨by repeat (first | (with_reducible first | exact HB.out | apply below_alloc | apply pw_below_drewN | apply below_drew1 | refine below_set ?_ GE215.out) | exact HB.out)⟩⟩
      case round =>
        clear H'
        try clear c1
        try clear p2
        try clear c4
        try clear c5
        try clear c5b0
        try clear c5b1
        try clear c8
        try clear c10
        try clear hcz11_0
        try clear hcz11_1
        try clear hcz11_2
        try clear hcz11_3
        try clear hcz11_4
        try clear hcz11_5
        try clear hfz11_0
        try clear hfz11_1
        try clear hfz11_2
        try clear hfz11_3
        try clear hfz11_4
        try clear hfz11_5
        obtain ⟨x6_1, x216000_1, x216001_1, x216002_1, x216003_1, x216004_1, x216005_1, rfl, HA, HK1, BK215, HB⟩ := hrel
        cases gk with
        | zero => exact absurd HA.out (by simp [nunciolaw16_SettingsRight.l0])
        | succ k1 =>
          have H := HA.out
          clear HA
          simp only [nunciolaw16_SettingsRight.l0] at H
          by_cases c12 : x6_1 < (l1.length : Int)
          · rw [if_pos c12] at H
            have c12b0 : decide (x6_1 < (l1.length : Int)) = true := decide_eq_true c12
            clear c12
            by_cases c13 : 0 ≤ x6_1
            · rw [if_pos c13] at H
              have c13b0 : decide (0 ≤ x6_1) = true := decide_eq_true c13
              clear c13
              by_cases c14 : ((rd_L4 l1 x6_1).length : Int) > 200
              · rw [if_pos c14] at H
                have c14b0 : decide (200 < ((rd_L4 l1 x6_1).length : Int)) = true := decide_eq_true c14
                have c14b1 : decide (200 < (rd_L4 l1 x6_1).length) = true := decide_eq_true (by omega)
                clear c14
                obtain rfl := Option.some.inj H
                have p216 : 0 ≤ (x6_1 : Int) := of_decide_eq_true (by first | (with_reducible assumption) | assumption)
                have q216 : x6_1 < (l1.length : Int) := of_decide_eq_true (by first | (with_reducible assumption) | assumption)
                obtain ⟨ad216, A216_0, c216_0, e216, hx216_0, hl216_0, hi216_0⟩ := at_L4 HR1.out x6_1 p216 q216
                cases e216
                replace hx216_0 := (HB.out.cell (World.block_lt_of_cell? w _ hx216_0)).trans hx216_0
                have HR216_0 := Aside0.mk hi216_0
                have HC216_0 := Aside0.mk hl216_0
                clear hi216_0 hl216_0
                replace p216 := eq_true p216
                replace q216 := eq_true q216
                go_wp2
                go_ret
                exact ⟨by first | rfl | (simp [errW_none, errW_some] <;> rfl) | (simp [*, errW_none, errW_some] <;> rfl), by repeat (first | (with_reducible first | exact HB.out | apply below_alloc | apply pw_below_drewN | apply below_drew1 | refine below_set ?_ GE215.out) | exact HB.out)⟩
              · rw [if_neg c14] at H
                have c14b0 : decide (200 < ((rd_L4 l1 x6_1).length : Int)) = false := decide_eq_false c14
                have c14b1 : decide (200 < (rd_L4 l1 x6_1).length) = false := decide_eq_false (by omega)
                clear c14
                replace H := Option.bind_eq_some_iff.mp H
                obtain ⟨⟨t218, t219, t220, t221, t222, t223, t224⟩, A150, H⟩ := H
                replace H : (if t224 = 0 then (nunciolaw16_SettingsRight.j1 k1 a0 l1 x6_1 false t218 t219 t220 t221 t222 t223) else (if (!(t218 == x216000_1) || (!(t219 == x216001_1) || (!(t220 == x216002_1) || (!(t221 == x216003_1) || (!(t222 == x216004_1) || (!(t223 == x216005_1))))))) = true then (nunciolaw16_SettingsRight.j1 k1 a0 l1 x6_1 true t218 t219 t220 t221 t222 t223) else (if t224 = 1 then (nunciolaw16_SettingsRight.j1 k1 a0 l1 x6_1 false t218 t219 t220 t221 t222 t223) else (nunciolaw16_SettingsRight.j1 k1 a0 l1 x6_1 (t224 != 3) t218 t219 t220 t221 t222 t223)))) = some r := H
                have A15 := Aside0.mk A150
                clear A150
                have HC16 := Aside0.mk H
                clear H
                have p216 : 0 ≤ (x6_1 : Int) := of_decide_eq_true (by first | (with_reducible assumption) | assumption)
                have q216 : x6_1 < (l1.length : Int) := of_decide_eq_true (by first | (with_reducible assumption) | assumption)
                obtain ⟨ad216, A216_0, c216_0, e216, hx216_0, hl216_0, hi216_0⟩ := at_L4 HR1.out x6_1 p216 q216
                cases e216
                replace hx216_0 := (HB.out.cell (World.block_lt_of_cell? w _ hx216_0)).trans hx216_0
                have HR216_0 := Aside0.mk hi216_0
                have HC216_0 := Aside0.mk hl216_0
                clear hi216_0 hl216_0
                replace p216 := eq_true p216
                replace q216 := eq_true q216
                try go_wp2
                have n0_ := Aside0.mk (blk_drew BK215.out)
                have n1_ := Aside0.mk (below_drew1 HB.out)
                clear BK215
                clear HB
                have BK215 := n0_
                have HB := n1_
                clear n0_ n1_
                have p217 : 0 ≤ (x6_1 : Int) := of_decide_eq_true (by first | (with_reducible assumption) | assumption)
                have q217 : x6_1 < (l1.length : Int) := of_decide_eq_true (by first | (with_reducible assumption) | assumption)
                obtain ⟨ad217, A217_0, c217_0, e217, hx217_0, hl217_0, hi217_0⟩ := at_L4 HR1.out x6_1 p217 q217
                have hw217_0 := hx217_0
                obtain rfl : ad216 = ad217 := (by injection e217)
                replace hx217_0 := (HB.out.cell (World.block_lt_of_cell? w _ hx217_0)).trans hx217_0
                have HR217_0 := Aside0.mk hi217_0
                have HC217_0 := Aside0.mk hl217_0
                clear hi217_0 hl217_0
                replace p217 := eq_true p217
                replace q217 := eq_true q217
                refine start_ (n := 13) (S := fun w' => w'.cell? ⟨gb215, 0, none⟩ = some (.int .u32 x216000_1) ∧ w'.cell? ⟨gb215, 1, none⟩ = some (.int .u32 x216001_1) ∧ w'.cell? ⟨gb215, 2, none⟩ = some (.int .u32 x216002_1) ∧ w'.cell? ⟨gb215, 3, none⟩ = some (.int .u32 x216003_1) ∧ w'.cell? ⟨gb215, 4, none⟩ = some (.int .u32 x216004_1) ∧ w'.cell? ⟨gb215, 5, none⟩ = some (.bool x216005_1) ∧ w'.cell? (ad216.add (x6_1).toNat) = some (.slice A217_0 (rd_L4 l1 x6_1).length c217_0)) (ds := []) #[false, false, false, false, false, false, false, false, false, false, false, false, false] (by kernel_rfl) rfl rfl ⟨(blk_cell BK215.out 0).trans rfl, (blk_cell BK215.out 1).trans rfl, (blk_cell BK215.out 2).trans rfl, (blk_cell BK215.out 3).trans rfl, (blk_cell BK215.out 4).trans rfl, (blk_cell BK215.out 5).trans rfl, ((HB.out.cell (World.block_lt_of_cell? w _ hw217_0)).trans hw217_0)⟩ (fun hHeld => ?_); refine with_tabW nunciolaw16_SettingsRight.tab12 nunciolaw16_SettingsRight.bits12 (fun HT_ HW_ => ?_)
                generalize wr.drew = w17 at BK215 HB HR217_0 hx217_0 hHeld ⊢
                refine pure_ (i := 1) (N := some 32) (v := ?_) (a' := ?_) #[false, true, false, false, false, false, false, false, false, false, false, false, false] rfl rfl (any_of HT_.out (by kernel_rfl)) (fun _ _ _ h => h) (Or.inl ⟨by rfl, ?_⟩) ?_ ?_
                rotate_left
                · intro w'
                  go_simp
                  with_reducible rfl
                rotate_left
                · simp only [Act.put, List.setIfInBounds_toArray, List.set_cons_zero, List.set_cons_succ, i64_w, i32_w]
                  rfl
                refine pure_ (i := 2) (N := some 33) (v := ?_) (a' := ?_) #[false, true, true, false, false, false, false, false, false, false, false, false, false] rfl rfl (any_of HT_.out (by kernel_rfl)) (fun _ _ _ h => h) (Or.inl ⟨by rfl, ?_⟩) ?_ ?_
                rotate_left
                · intro w'
                  go_simp
                  with_reducible rfl
                rotate_left
                · simp only [Act.put, List.setIfInBounds_toArray, List.set_cons_zero, List.set_cons_succ, i64_w, i32_w]
                  rfl
                refine pure_ (i := 3) (N := some 34) (v := ?_) (a' := ?_) #[false, true, true, true, false, false, false, false, false, false, false, false, false] rfl rfl (any_of HT_.out (by kernel_rfl)) (fun _ _ _ h => h) (Or.inl ⟨by rfl, ?_⟩) ?_ ?_
                rotate_left
                · intro w'
                  go_simp
                  with_reducible rfl
                rotate_left
                · simp only [Act.put, List.setIfInBounds_toArray, List.set_cons_zero, List.set_cons_succ, i64_w, i32_w]
                  rfl
                refine pure_ (i := 4) (N := some 35) (v := ?_) (a' := ?_) #[false, true, true, true, true, false, false, false, false, false, false, false, false] rfl rfl (any_of HT_.out (by kernel_rfl)) (fun _ _ _ h => h) (Or.inl ⟨by rfl, ?_⟩) ?_ ?_
                rotate_left
                · intro w'
                  go_simp
                  with_reducible rfl
                rotate_left
                · simp only [Act.put, List.setIfInBounds_toArray, List.set_cons_zero, List.set_cons_succ, i64_w, i32_w]
                  rfl
                refine take_ (i := 0) (N := some 31) (v := ?_) (a' := ?_) #[true, true, true, true, true, false, false, false, false, false, false, false, false] rfl rfl (take_ofW HT_.out HW_.out (by kernel_rfl)) (fun _ _ _ h => h) (Or.inl ⟨by rfl, ?_⟩) hHeld ?_ ?_
                rotate_left
                · rintro w' ⟨s0, s1, s2, s3, s4, s5, s6⟩
                  go_simp
                  with_reducible rfl
                rotate_left
                · simp only [Act.put, List.setIfInBounds_toArray, List.set_cons_zero, List.set_cons_succ, i64_w, i32_w]
                  rfl
                refine take_ (i := 5) (N := some 36) (v := ?_) (a' := ?_) #[true, true, true, true, true, true, false, false, false, false, false, false, false] rfl rfl (take_ofW HT_.out HW_.out (by kernel_rfl)) (fun _ _ _ h => h) (Or.inl ⟨by rfl, ?_⟩) hHeld ?_ ?_
                rotate_left
                · rintro w' ⟨s0, s1, s2, s3, s4, s5, s6⟩
                  go_simp
                  with_reducible rfl
                rotate_left
                · simp only [Act.put, List.setIfInBounds_toArray, List.set_cons_zero, List.set_cons_succ, i64_w, i32_w]
                  rfl
                refine join_ (σ := Nat) 2 #[true, true, true, true, true, true, true, true, true, true, true, false, false] (fun s_ => [(37, .tuple #[.agg #[.int .u32 t218, .int .u32 t219, .int .u32 t220, .int .u32 t221, .int .u32 t222, .bool t223], .int .u32 t224]), (7, .pointer (some ⟨s_, 0, none⟩)), (30, .tuple #[.agg #[.int .u32 t218, .int .u32 t219, .int .u32 t220, .int .u32 t221, .int .u32 t222, .bool t223], .int .u32 t224]), (38, .agg #[.int .u32 t218, .int .u32 t219, .int .u32 t220, .int .u32 t221, .int .u32 t222, .bool t223]), (39, .int .u32 t224)]) (fun s_ w' => (w'.cell? ⟨gb215, 0, none⟩ = some (.int .u32 x216000_1) ∧ w'.cell? ⟨gb215, 1, none⟩ = some (.int .u32 x216001_1) ∧ w'.cell? ⟨gb215, 2, none⟩ = some (.int .u32 x216002_1) ∧ w'.cell? ⟨gb215, 3, none⟩ = some (.int .u32 x216003_1) ∧ w'.cell? ⟨gb215, 4, none⟩ = some (.int .u32 x216004_1) ∧ w'.cell? ⟨gb215, 5, none⟩ = some (.bool x216005_1) ∧ w'.cell? (ad216.add (x6_1).toNat) = some (.slice A217_0 (rd_L4 l1 x6_1).length c217_0)) ∧ (w'.heap[gb215]? = some (.cells #[.int .u32 x216000_1, .int .u32 x216001_1, .int .u32 x216002_1, .int .u32 x216003_1, .int .u32 x216004_1, .bool x216005_1] 26 (0, 0))) ∧ (w'.heap[s_]? = some (.cells #[.int .u32 0, .int .u32 0, .int .u32 0, .int .u32 0, .int .u32 0, .bool false] 26 (0, 0))) ∧ (w.heap.size ≤ s_) ∧ (w.heap.size ≤ s_) ∧ (gb215 ≠ s_) ∧ (s_ ≠ gb215) ∧ (Below w.heap.size w w')) ?_ ?_
                rotate_left
                · intro hCont
                  refine two_ (i := 6) (j := 10) (Ni := some 37) (Nj := some 7) #[true, true, true, true, true, true, true, false, false, false, false, false, false] #[true, true, true, true, true, true, false, false, false, false, true, false, false] rfl rfl rfl rfl (two_of HT_.out (by kernel_rfl)) (by decide) (by decide) (fun K hK => ?_) (fun K hK => ?_)
                  · skip
                    refine goes_ Try.func9 (by kernel_rfl) rfl #[.agg #[.int .u32 x216000_1, .int .u32 x216001_1, .int .u32 x216002_1, .int .u32 x216003_1, .int .u32 x216004_1, .bool x216005_1], .bool a0, .slice A217_0 (rd_L4 l1 x6_1).length c217_0] (by rfl) rfl rfl (by (try simp only [List.map_toArray, List.map_cons, List.map_nil]); first | done | rfl | (simp only [List.length_drop, List.length_take]; rfl)) ?_
                    with_reducible refine (settings_Apply.calls k1 x216000_1 x216001_1 x216002_1 x216003_1 x216004_1 x216005_1 a0 _ _ (rd_L4 l1 x6_1) t218 t219 t220 t221 t222 t223 t224 _ ?side1 ?side2 A15.out).mono ?_
                    (case side1 => repeat (first | exact (Kd.C_below HR217_0.out HB.out) | (with_reducible refine Kd.C_alloc ?_ _) | (with_reducible refine Kd.C_drewN ?_ _) | (with_reducible refine Kd.C_drew ?_)))
                    (case side2 => exact HC217_0.out)
                    rintro e w18 ⟨rfl, hb⟩
                    refine ⟨_, rfl, ?_⟩
                    have n0_ := Aside0.mk (blk_below (g := gb215) (o := .cells #[.int .u32 x216000_1, .int .u32 x216001_1, .int .u32 x216002_1, .int .u32 x216003_1, .int .u32 x216004_1, .bool x216005_1] 26 (0, 0)) (by (with_reducible repeat (first | refine blk_drewN ?_ _ | refine blk_drew ?_ | refine blk_alloc ?_ _)); exact BK215.out) hb)
                    have n1_ := Aside0.mk (below_step (by repeat (first | (with_reducible first | exact HB.out | apply below_alloc | apply pw_below_drewN | apply below_drew1 | refine below_set ?_ GE215.out) | exact HB.out)) hb)
                    clear BK215
                    clear HB
                    have BK215 := n0_
                    have HB := n1_
                    clear n0_ n1_
                    (try clear hb)
                    (try clear hb2)
                    (try clear hk)
                    (try clear hi)
                    refine hK.out _ _ ⟨(blk_cell BK215.out 0).trans rfl, (blk_cell BK215.out 1).trans rfl, (blk_cell BK215.out 2).trans rfl, (blk_cell BK215.out 3).trans rfl, (blk_cell BK215.out 4).trans rfl, (blk_cell BK215.out 5).trans rfl, ((HB.out.cell (World.block_lt_of_cell? w _ hw217_0)).trans hw217_0)⟩ (fun hHeld => ?_)
                    clear hK K
                    refine norm_ (a' := ?_) ?_ ?_
                    rotate_left
                    · show Act.put _ (some 37) _ = _
                      simp only [Act.put, List.setIfInBounds_toArray, List.set_cons_zero, List.set_cons_succ, i64_w, i32_w]
                      rfl
                    refine pure_ (i := 7) (N := some 30) (v := ?_) (a' := ?_) #[true, true, true, true, true, true, true, true, false, false, false, false, false] rfl rfl (any_of HT_.out (by kernel_rfl)) (fun _ _ _ h => h) (Or.inl ⟨by rfl, ?_⟩) ?_ ?_
                    rotate_left
                    · intro w'
                      go_simp
                      with_reducible rfl
                    rotate_left
                    · simp only [Act.put, List.setIfInBounds_toArray, List.set_cons_zero, List.set_cons_succ, i64_w, i32_w]
                      rfl
                    refine pure_ (i := 8) (N := some 38) (v := ?_) (a' := ?_) #[true, true, true, true, true, true, true, true, true, false, false, false, false] rfl rfl (any_of HT_.out (by kernel_rfl)) (fun _ _ _ h => h) (Or.inl ⟨by rfl, ?_⟩) ?_ ?_
                    rotate_left
                    · intro w'
                      go_simp
                      with_reducible rfl
                    rotate_left
                    · simp only [Act.put, List.setIfInBounds_toArray, List.set_cons_zero, List.set_cons_succ, i64_w, i32_w]
                      rfl
                    refine pure_ (i := 9) (N := some 39) (v := ?_) (a' := ?_) #[true, true, true, true, true, true, true, true, true, true, false, false, false] rfl rfl (any_of HT_.out (by kernel_rfl)) (fun _ _ _ h => h) (Or.inl ⟨by rfl, ?_⟩) ?_ ?_
                    rotate_left
                    · intro w'
                      go_simp
                      with_reducible rfl
                    rotate_left
                    · simp only [Act.put, List.setIfInBounds_toArray, List.set_cons_zero, List.set_cons_succ, i64_w, i32_w]
                      rfl
                    refine one_ (i := 10) (N := some 7) #[true, true, true, true, true, true, true, true, true, true, true, false, false] rfl rfl (one_of HT_.out (by kernel_rfl)) (by decide) (fun K hK => ?_)
                    refine box_step ?hg (N := 7) ?hd (cs := #[.int .u32 0, .int .u32 0, .int .u32 0, .int .u32 0, .int .u32 0, .bool false]) (t := 26) ?hr ?_; (case hd => rfl); (case hg => rfl); (case hr => first | (go_simp; done) | (go_simp; rfl))
                    intro gb225 hg w19 hbox hb
                    have n0_ := Aside0.mk (blk_below (g := gb215) (o := .cells #[.int .u32 x216000_1, .int .u32 x216001_1, .int .u32 x216002_1, .int .u32 x216003_1, .int .u32 x216004_1, .bool x216005_1] 26 (0, 0)) (by (with_reducible repeat (first | refine blk_drewN ?_ _ | refine blk_drew ?_ | refine blk_alloc ?_ _)); exact BK215.out) hb)
                    have n1_ := Aside0.mk (below_step (by repeat (first | (with_reducible first | exact HB.out | apply below_alloc | apply pw_below_drewN | apply below_drew1 | refine below_set ?_ GE215.out) | exact HB.out)) hb)
                    have n2_ := Aside0.mk (hbox)
                    have n3_ := Aside0.mk ((by rw [hg]; exact (below_size (by repeat (first | (with_reducible first | exact HB.out | apply below_alloc | apply pw_below_drewN | apply below_drew1 | refine below_set ?_ GE215.out) | exact HB.out))) : w.heap.size ≤ gb225))
                    have n4_ := Aside0.mk ((by rw [hg]; exact (below_size (by repeat (first | (with_reducible first | exact HB.out | apply below_alloc | apply pw_below_drewN | apply below_drew1 | refine below_set ?_ GE215.out) | exact HB.out))) : w.heap.size ≤ gb225))
                    have n5_ := Aside0.mk ((by rw [hg]; exact Nat.ne_of_lt (blk_lt (g := gb215) (o := .cells #[.int .u32 x216000_1, .int .u32 x216001_1, .int .u32 x216002_1, .int .u32 x216003_1, .int .u32 x216004_1, .bool x216005_1] 26 (0, 0)) (by (with_reducible repeat (first | refine blk_drewN ?_ _ | refine blk_drew ?_ | refine blk_alloc ?_ _)); exact BK215.out)) : gb215 ≠ gb225))
                    have n6_ := Aside0.mk ((by rw [hg]; exact Nat.ne_of_gt (blk_lt (g := gb215) (o := .cells #[.int .u32 x216000_1, .int .u32 x216001_1, .int .u32 x216002_1, .int .u32 x216003_1, .int .u32 x216004_1, .bool x216005_1] 26 (0, 0)) (by (with_reducible repeat (first | refine blk_drewN ?_ _ | refine blk_drew ?_ | refine blk_alloc ?_ _)); exact BK215.out)) : gb225 ≠ gb215))
                    clear BK215
                    clear HB
                    have BK215 := n0_
                    have HB := n1_
                    have BK225 := n2_
                    have GW225 := n3_
                    have GE225 := n4_
                    have NB215_225 := n5_
                    have NB225_215 := n6_
                    clear n0_ n1_ n2_ n3_ n4_ n5_ n6_
                    clear hb hbox hg
                    refine hK.out _ _ ⟨(blk_cell BK215.out 0).trans rfl, (blk_cell BK215.out 1).trans rfl, (blk_cell BK215.out 2).trans rfl, (blk_cell BK215.out 3).trans rfl, (blk_cell BK215.out 4).trans rfl, (blk_cell BK215.out 5).trans rfl, ((HB.out.cell (World.block_lt_of_cell? w _ hw217_0)).trans hw217_0)⟩ (fun hHeld => ?_)
                    clear hK K
                    refine norm_ (a' := ?_) ?_ ?_
                    rotate_left
                    · show Act.put _ (some 7) _ = _
                      simp only [Act.put, List.setIfInBounds_toArray, List.set_cons_zero, List.set_cons_succ, i64_w, i32_w]
                      rfl
                    exact norm_ (by simp only [putAll, Act.put, List.setIfInBounds_toArray, List.set_cons_zero, List.set_cons_succ]) (hCont (gb225) _ ⟨hHeld, (by (with_reducible repeat (first | refine blk_drewN ?_ _ | refine blk_drew ?_ | refine blk_alloc ?_ _)); exact BK215.out), (by (with_reducible repeat (first | refine blk_drewN ?_ _ | refine blk_drew ?_ | refine blk_alloc ?_ _)); exact BK225.out), GW225.out, GE225.out, NB215_225.out, NB225_215.out, (by repeat (first | (with_reducible first | exact HB.out | apply below_alloc | apply pw_below_drewN | apply below_drew1 | refine below_set ?_ GE215.out | refine below_set ?_ GE225.out) | exact HB.out))⟩)
                  · skip
                    refine box_step ?hg (N := 7) ?hd (cs := #[.int .u32 0, .int .u32 0, .int .u32 0, .int .u32 0, .int .u32 0, .bool false]) (t := 26) ?hr ?_; (case hd => rfl); (case hg => rfl); (case hr => first | (go_simp; done) | (go_simp; rfl))
                    intro gb225 hg w18 hbox hb
                    have n0_ := Aside0.mk (blk_below (g := gb215) (o := .cells #[.int .u32 x216000_1, .int .u32 x216001_1, .int .u32 x216002_1, .int .u32 x216003_1, .int .u32 x216004_1, .bool x216005_1] 26 (0, 0)) (by (with_reducible repeat (first | refine blk_drewN ?_ _ | refine blk_drew ?_ | refine blk_alloc ?_ _)); exact BK215.out) hb)
                    have n1_ := Aside0.mk (below_step (by repeat (first | (with_reducible first | exact HB.out | apply below_alloc | apply pw_below_drewN | apply below_drew1 | refine below_set ?_ GE215.out) | exact HB.out)) hb)
                    have n2_ := Aside0.mk (hbox)
                    have n3_ := Aside0.mk ((by rw [hg]; exact (below_size (by repeat (first | (with_reducible first | exact HB.out | apply below_alloc | apply pw_below_drewN | apply below_drew1 | refine below_set ?_ GE215.out) | exact HB.out))) : w.heap.size ≤ gb225))
                    have n4_ := Aside0.mk ((by rw [hg]; exact (below_size (by repeat (first | (with_reducible first | exact HB.out | apply below_alloc | apply pw_below_drewN | apply below_drew1 | refine below_set ?_ GE215.out) | exact HB.out))) : w.heap.size ≤ gb225))
                    have n5_ := Aside0.mk ((by rw [hg]; exact Nat.ne_of_lt (blk_lt (g := gb215) (o := .cells #[.int .u32 x216000_1, .int .u32 x216001_1, .int .u32 x216002_1, .int .u32 x216003_1, .int .u32 x216004_1, .bool x216005_1] 26 (0, 0)) (by (with_reducible repeat (first | refine blk_drewN ?_ _ | refine blk_drew ?_ | refine blk_alloc ?_ _)); exact BK215.out)) : gb215 ≠ gb225))
                    have n6_ := Aside0.mk ((by rw [hg]; exact Nat.ne_of_gt (blk_lt (g := gb215) (o := .cells #[.int .u32 x216000_1, .int .u32 x216001_1, .int .u32 x216002_1, .int .u32 x216003_1, .int .u32 x216004_1, .bool x216005_1] 26 (0, 0)) (by (with_reducible repeat (first | refine blk_drewN ?_ _ | refine blk_drew ?_ | refine blk_alloc ?_ _)); exact BK215.out)) : gb225 ≠ gb215))
                    clear BK215
                    clear HB
                    have BK215 := n0_
                    have HB := n1_
                    have BK225 := n2_
                    have GW225 := n3_
                    have GE225 := n4_
                    have NB215_225 := n5_
                    have NB225_215 := n6_
                    clear n0_ n1_ n2_ n3_ n4_ n5_ n6_
                    clear hb hbox hg
                    refine hK.out _ _ ⟨(blk_cell BK215.out 0).trans rfl, (blk_cell BK215.out 1).trans rfl, (blk_cell BK215.out 2).trans rfl, (blk_cell BK215.out 3).trans rfl, (blk_cell BK215.out 4).trans rfl, (blk_cell BK215.out 5).trans rfl, ((HB.out.cell (World.block_lt_of_cell? w _ hw217_0)).trans hw217_0)⟩ (fun hHeld => ?_)
                    clear hK K
                    refine norm_ (a' := ?_) ?_ ?_
                    rotate_left
                    · show Act.put _ (some 7) _ = _
                      simp only [Act.put, List.setIfInBounds_toArray, List.set_cons_zero, List.set_cons_succ, i64_w, i32_w]
                      rfl
                    refine one_ (i := 6) (N := some 37) #[true, true, true, true, true, true, true, false, false, false, true, false, false] rfl rfl (one_of HT_.out (by kernel_rfl)) (by decide) (fun K hK => ?_)
                    refine goes_ Try.func9 (by kernel_rfl) rfl #[.agg #[.int .u32 x216000_1, .int .u32 x216001_1, .int .u32 x216002_1, .int .u32 x216003_1, .int .u32 x216004_1, .bool x216005_1], .bool a0, .slice A217_0 (rd_L4 l1 x6_1).length c217_0] (by rfl) rfl rfl (by (try simp only [List.map_toArray, List.map_cons, List.map_nil]); first | done | rfl | (simp only [List.length_drop, List.length_take]; rfl)) ?_
                    with_reducible refine (settings_Apply.calls k1 x216000_1 x216001_1 x216002_1 x216003_1 x216004_1 x216005_1 a0 _ _ (rd_L4 l1 x6_1) t218 t219 t220 t221 t222 t223 t224 _ ?side1 ?side2 A15.out).mono ?_
                    (case side1 => repeat (first | exact (Kd.C_below HR217_0.out HB.out) | (with_reducible refine Kd.C_alloc ?_ _) | (with_reducible refine Kd.C_drewN ?_ _) | (with_reducible refine Kd.C_drew ?_)))
                    (case side2 => exact HC217_0.out)
                    rintro e w19 ⟨rfl, hb⟩
                    refine ⟨_, rfl, ?_⟩
                    have n0_ := Aside0.mk (blk_below (g := gb215) (o := .cells #[.int .u32 x216000_1, .int .u32 x216001_1, .int .u32 x216002_1, .int .u32 x216003_1, .int .u32 x216004_1, .bool x216005_1] 26 (0, 0)) (by (with_reducible repeat (first | refine blk_drewN ?_ _ | refine blk_drew ?_ | refine blk_alloc ?_ _)); exact BK215.out) hb)
                    have n1_ := Aside0.mk (blk_below (g := gb225) (o := .cells #[.int .u32 0, .int .u32 0, .int .u32 0, .int .u32 0, .int .u32 0, .bool false] 26 (0, 0)) (by (with_reducible repeat (first | refine blk_drewN ?_ _ | refine blk_drew ?_ | refine blk_alloc ?_ _)); exact BK225.out) hb)
                    have n2_ := Aside0.mk (below_step (by repeat (first | (with_reducible first | exact HB.out | apply below_alloc | apply pw_below_drewN | apply below_drew1 | refine below_set ?_ GE215.out | refine below_set ?_ GE225.out) | exact HB.out)) hb)
                    clear BK215
                    clear BK225
                    clear HB
                    have BK215 := n0_
                    have BK225 := n1_
                    have HB := n2_
                    clear n0_ n1_ n2_
                    (try clear hb)
                    (try clear hb2)
                    (try clear hk)
                    (try clear hi)
                    refine hK.out _ _ ⟨(blk_cell BK215.out 0).trans rfl, (blk_cell BK215.out 1).trans rfl, (blk_cell BK215.out 2).trans rfl, (blk_cell BK215.out 3).trans rfl, (blk_cell BK215.out 4).trans rfl, (blk_cell BK215.out 5).trans rfl, ((HB.out.cell (World.block_lt_of_cell? w _ hw217_0)).trans hw217_0)⟩ (fun hHeld => ?_)
                    clear hK K
                    refine norm_ (a' := ?_) ?_ ?_
                    rotate_left
                    · show Act.put _ (some 37) _ = _
                      simp only [Act.put, List.setIfInBounds_toArray, List.set_cons_zero, List.set_cons_succ, i64_w, i32_w]
                      rfl
                    refine pure_ (i := 7) (N := some 30) (v := ?_) (a' := ?_) #[true, true, true, true, true, true, true, true, false, false, true, false, false] rfl rfl (any_of HT_.out (by kernel_rfl)) (fun _ _ _ h => h) (Or.inl ⟨by rfl, ?_⟩) ?_ ?_
                    rotate_left
                    · intro w'
                      go_simp
                      with_reducible rfl
                    rotate_left
                    · simp only [Act.put, List.setIfInBounds_toArray, List.set_cons_zero, List.set_cons_succ, i64_w, i32_w]
                      rfl
                    refine pure_ (i := 8) (N := some 38) (v := ?_) (a' := ?_) #[true, true, true, true, true, true, true, true, true, false, true, false, false] rfl rfl (any_of HT_.out (by kernel_rfl)) (fun _ _ _ h => h) (Or.inl ⟨by rfl, ?_⟩) ?_ ?_
                    rotate_left
                    · intro w'
                      go_simp
                      with_reducible rfl
                    rotate_left
                    · simp only [Act.put, List.setIfInBounds_toArray, List.set_cons_zero, List.set_cons_succ, i64_w, i32_w]
                      rfl
                    refine pure_ (i := 9) (N := some 39) (v := ?_) (a' := ?_) #[true, true, true, true, true, true, true, true, true, true, true, false, false] rfl rfl (any_of HT_.out (by kernel_rfl)) (fun _ _ _ h => h) (Or.inl ⟨by rfl, ?_⟩) ?_ ?_
                    rotate_left
                    · intro w'
                      go_simp
                      with_reducible rfl
                    rotate_left
                    · simp only [Act.put, List.setIfInBounds_toArray, List.set_cons_zero, List.set_cons_succ, i64_w, i32_w]
                      rfl
                    exact norm_ (by simp only [putAll, Act.put, List.setIfInBounds_toArray, List.set_cons_zero, List.set_cons_succ]) (hCont (gb225) _ ⟨hHeld, (by (with_reducible repeat (first | refine blk_drewN ?_ _ | refine blk_drew ?_ | refine blk_alloc ?_ _)); exact BK215.out), (by (with_reducible repeat (first | refine blk_drewN ?_ _ | refine blk_drew ?_ | refine blk_alloc ?_ _)); exact BK225.out), GW225.out, GE225.out, NB215_225.out, NB225_215.out, (by repeat (first | (with_reducible first | exact HB.out | apply below_alloc | apply pw_below_drewN | apply below_drew1 | refine below_set ?_ GE215.out | refine below_set ?_ GE225.out) | exact HB.out))⟩)
                rintro gb225 w20 ⟨hS_, h0_, h1_, h2_, h3_, h4_, h5_, h6_⟩
                have n0_ : Aside0 (w20.heap[gb215]? = some (.cells #[.int .u32 x216000_1, .int .u32 x216001_1, .int .u32 x216002_1, .int .u32 x216003_1, .int .u32 x216004_1, .bool x216005_1] 26 (0, 0))) := ⟨h0_⟩
                have n1_ : Aside0 (w20.heap[gb225]? = some (.cells #[.int .u32 0, .int .u32 0, .int .u32 0, .int .u32 0, .int .u32 0, .bool false] 26 (0, 0))) := ⟨h1_⟩
                have n2_ : Aside0 (w.heap.size ≤ gb225) := ⟨h2_⟩
                have n3_ : Aside0 (w.heap.size ≤ gb225) := ⟨h3_⟩
                have n4_ : Aside0 (gb215 ≠ gb225) := ⟨h4_⟩
                have n5_ : Aside0 (gb225 ≠ gb215) := ⟨h5_⟩
                have n6_ : Aside0 (Below w.heap.size w w20) := ⟨h6_⟩
                clear BK215
                clear HB
                clear h0_ h1_ h2_ h3_ h4_ h5_ h6_
                have BK215 := n0_
                have BK225 := n1_
                have GW225 := n2_
                have GE225 := n3_
                have NB215_225 := n4_
                have NB225_215 := n5_
                have HB := n6_
                clear n0_ n1_ n2_ n3_ n4_ n5_ n6_
                have hHeld : w20.cell? ⟨gb215, 0, none⟩ = some (.int .u32 x216000_1) ∧ w20.cell? ⟨gb215, 1, none⟩ = some (.int .u32 x216001_1) ∧ w20.cell? ⟨gb215, 2, none⟩ = some (.int .u32 x216002_1) ∧ w20.cell? ⟨gb215, 3, none⟩ = some (.int .u32 x216003_1) ∧ w20.cell? ⟨gb215, 4, none⟩ = some (.int .u32 x216004_1) ∧ w20.cell? ⟨gb215, 5, none⟩ = some (.bool x216005_1) ∧ w20.cell? (ad216.add (x6_1).toNat) = some (.slice A217_0 (rd_L4 l1 x6_1).length c217_0) := hS_
                refine norm_ (a' := ?_) ?_ ?_
                rotate_left
                · simp only [putAll, Act.put, List.setIfInBounds_toArray, List.set_cons_zero, List.set_cons_succ]
                  rfl
                refine one_ (i := 11) (N := none) #[true, true, true, true, true, true, true, true, true, true, true, true, false] rfl rfl (one_of HT_.out (by kernel_rfl)) (by decide) (fun K hK => ?_)
                have hs21 : w20.cell? ⟨gb225, 0, none⟩ = some (.int .u32 0) := (blk_cell BK225.out 0).trans rfl
                have hfs21 := blk_frozen BK225.out 0
                have hns21_0 := NB215_225.out
                have hms21_0 := NB225_215.out
                have hs22 : w20.cell? ⟨gb225, 1, none⟩ = some (.int .u32 0) := (blk_cell BK225.out 1).trans rfl
                have hfs22 := blk_frozen BK225.out 1
                have hns22_0 := NB215_225.out
                have hms22_0 := NB225_215.out
                have hs23 : w20.cell? ⟨gb225, 2, none⟩ = some (.int .u32 0) := (blk_cell BK225.out 2).trans rfl
                have hfs23 := blk_frozen BK225.out 2
                have hns23_0 := NB215_225.out
                have hms23_0 := NB225_215.out
                have hs24 : w20.cell? ⟨gb225, 3, none⟩ = some (.int .u32 0) := (blk_cell BK225.out 3).trans rfl
                have hfs24 := blk_frozen BK225.out 3
                have hns24_0 := NB215_225.out
                have hms24_0 := NB225_215.out
                have hs25 : w20.cell? ⟨gb225, 4, none⟩ = some (.int .u32 0) := (blk_cell BK225.out 4).trans rfl
                have hfs25 := blk_frozen BK225.out 4
                have hns25_0 := NB215_225.out
                have hms25_0 := NB225_215.out
                have hs26 : w20.cell? ⟨gb225, 5, none⟩ = some (.bool false) := (blk_cell BK225.out 5).trans rfl
                have hfs26 := blk_frozen BK225.out 5
                have hns26_0 := NB215_225.out
                have hms26_0 := NB225_215.out
                refine skip_ (w1 := ?_) (by rfl) rfl ?_ ?_
                rotate_left
                · go_simp
                  rfl
                refine hK.out _ _ ⟨((cell_far (p := ⟨gb225, _, none⟩) NB215_225.out _).trans (((cell_far (p := ⟨gb225, _, none⟩) NB215_225.out _).trans (((cell_far (p := ⟨gb225, _, none⟩) NB215_225.out _).trans (((cell_far (p := ⟨gb225, _, none⟩) NB215_225.out _).trans (((cell_far (p := ⟨gb225, _, none⟩) NB215_225.out _).trans (((cell_far (p := ⟨gb225, _, none⟩) NB215_225.out _).trans (hHeld.1)))))))))))), ((cell_far (p := ⟨gb225, _, none⟩) NB215_225.out _).trans (((cell_far (p := ⟨gb225, _, none⟩) NB215_225.out _).trans (((cell_far (p := ⟨gb225, _, none⟩) NB215_225.out _).trans (((cell_far (p := ⟨gb225, _, none⟩) NB215_225.out _).trans (((cell_far (p := ⟨gb225, _, none⟩) NB215_225.out _).trans (((cell_far (p := ⟨gb225, _, none⟩) NB215_225.out _).trans (hHeld.2.1)))))))))))), ((cell_far (p := ⟨gb225, _, none⟩) NB215_225.out _).trans (((cell_far (p := ⟨gb225, _, none⟩) NB215_225.out _).trans (((cell_far (p := ⟨gb225, _, none⟩) NB215_225.out _).trans (((cell_far (p := ⟨gb225, _, none⟩) NB215_225.out _).trans (((cell_far (p := ⟨gb225, _, none⟩) NB215_225.out _).trans (((cell_far (p := ⟨gb225, _, none⟩) NB215_225.out _).trans (hHeld.2.2.1)))))))))))), ((cell_far (p := ⟨gb225, _, none⟩) NB215_225.out _).trans (((cell_far (p := ⟨gb225, _, none⟩) NB215_225.out _).trans (((cell_far (p := ⟨gb225, _, none⟩) NB215_225.out _).trans (((cell_far (p := ⟨gb225, _, none⟩) NB215_225.out _).trans (((cell_far (p := ⟨gb225, _, none⟩) NB215_225.out _).trans (((cell_far (p := ⟨gb225, _, none⟩) NB215_225.out _).trans (hHeld.2.2.2.1)))))))))))), ((cell_far (p := ⟨gb225, _, none⟩) NB215_225.out _).trans (((cell_far (p := ⟨gb225, _, none⟩) NB215_225.out _).trans (((cell_far (p := ⟨gb225, _, none⟩) NB215_225.out _).trans (((cell_far (p := ⟨gb225, _, none⟩) NB215_225.out _).trans (((cell_far (p := ⟨gb225, _, none⟩) NB215_225.out _).trans (((cell_far (p := ⟨gb225, _, none⟩) NB215_225.out _).trans (hHeld.2.2.2.2.1)))))))))))), ((cell_far (p := ⟨gb225, _, none⟩) NB215_225.out _).trans (((cell_far (p := ⟨gb225, _, none⟩) NB215_225.out _).trans (((cell_far (p := ⟨gb225, _, none⟩) NB215_225.out _).trans (((cell_far (p := ⟨gb225, _, none⟩) NB215_225.out _).trans (((cell_far (p := ⟨gb225, _, none⟩) NB215_225.out _).trans (((cell_far (p := ⟨gb225, _, none⟩) NB215_225.out _).trans (hHeld.2.2.2.2.2.1)))))))))))), ((cell_far (p := ⟨gb225, _, none⟩) (by first | exact Nat.ne_of_lt (Nat.lt_of_lt_of_le (by have := World.block_lt_of_cell? _ _ hw217_0; first | rwa [add_block] at this | exact this) GW225.out) | (rw [add_block]; exact Nat.ne_of_lt (Nat.lt_of_lt_of_le (by have := World.block_lt_of_cell? _ _ hw217_0; first | rwa [add_block] at this | exact this) GW225.out)) | (show (Addr.add _ _).block ≠ _; rw [add_block]; exact Nat.ne_of_lt (Nat.lt_of_lt_of_le (by have := World.block_lt_of_cell? _ _ hw217_0; first | rwa [add_block] at this | exact this) GW225.out)) | (dsimp only; exact Nat.ne_of_lt (Nat.lt_of_lt_of_le (by have := World.block_lt_of_cell? _ _ hw217_0; first | rwa [add_block] at this | exact this) GW225.out))) _).trans (((cell_far (p := ⟨gb225, _, none⟩) (by first | exact Nat.ne_of_lt (Nat.lt_of_lt_of_le (by have := World.block_lt_of_cell? _ _ hw217_0; first | rwa [add_block] at this | exact this) GW225.out) | (rw [add_block]; exact Nat.ne_of_lt (Nat.lt_of_lt_of_le (by have := World.block_lt_of_cell? _ _ hw217_0; first | rwa [add_block] at this | exact this) GW225.out)) | (show (Addr.add _ _).block ≠ _; rw [add_block]; exact Nat.ne_of_lt (Nat.lt_of_lt_of_le (by have := World.block_lt_of_cell? _ _ hw217_0; first | rwa [add_block] at this | exact this) GW225.out)) | (dsimp only; exact Nat.ne_of_lt (Nat.lt_of_lt_of_le (by have := World.block_lt_of_cell? _ _ hw217_0; first | rwa [add_block] at this | exact this) GW225.out))) _).trans (((cell_far (p := ⟨gb225, _, none⟩) (by first | exact Nat.ne_of_lt (Nat.lt_of_lt_of_le (by have := World.block_lt_of_cell? _ _ hw217_0; first | rwa [add_block] at this | exact this) GW225.out) | (rw [add_block]; exact Nat.ne_of_lt (Nat.lt_of_lt_of_le (by have := World.block_lt_of_cell? _ _ hw217_0; first | rwa [add_block] at this | exact this) GW225.out)) | (show (Addr.add _ _).block ≠ _; rw [add_block]; exact Nat.ne_of_lt (Nat.lt_of_lt_of_le (by have := World.block_lt_of_cell? _ _ hw217_0; first | rwa [add_block] at this | exact this) GW225.out)) | (dsimp only; exact Nat.ne_of_lt (Nat.lt_of_lt_of_le (by have := World.block_lt_of_cell? _ _ hw217_0; first | rwa [add_block] at this | exact this) GW225.out))) _).trans (((cell_far (p := ⟨gb225, _, none⟩) (by first | exact Nat.ne_of_lt (Nat.lt_of_lt_of_le (by have := World.block_lt_of_cell? _ _ hw217_0; first | rwa [add_block] at this | exact this) GW225.out) | (rw [add_block]; exact Nat.ne_of_lt (Nat.lt_of_lt_of_le (by have := World.block_lt_of_cell? _ _ hw217_0; first | rwa [add_block] at this | exact this) GW225.out)) | (show (Addr.add _ _).block ≠ _; rw [add_block]; exact Nat.ne_of_lt (Nat.lt_of_lt_of_le (by have := World.block_lt_of_cell? _ _ hw217_0; first | rwa [add_block] at this | exact this) GW225.out)) | (dsimp only; exact Nat.ne_of_lt (Nat.lt_of_lt_of_le (by have := World.block_lt_of_cell? _ _ hw217_0; first | rwa [add_block] at this | exact this) GW225.out))) _).trans (((cell_far (p := ⟨gb225, _, none⟩) (by first | exact Nat.ne_of_lt (Nat.lt_of_lt_of_le (by have := World.block_lt_of_cell? _ _ hw217_0; first | rwa [add_block] at this | exact this) GW225.out) | (rw [add_block]; exact Nat.ne_of_lt (Nat.lt_of_lt_of_le (by have := World.block_lt_of_cell? _ _ hw217_0; first | rwa [add_block] at this | exact this) GW225.out)) | (show (Addr.add _ _).block ≠ _; rw [add_block]; exact Nat.ne_of_lt (Nat.lt_of_lt_of_le (by have := World.block_lt_of_cell? _ _ hw217_0; first | rwa [add_block] at this | exact this) GW225.out)) | (dsimp only; exact Nat.ne_of_lt (Nat.lt_of_lt_of_le (by have := World.block_lt_of_cell? _ _ hw217_0; first | rwa [add_block] at this | exact this) GW225.out))) _).trans (((cell_far (p := ⟨gb225, _, none⟩) (by first | exact Nat.ne_of_lt (Nat.lt_of_lt_of_le (by have := World.block_lt_of_cell? _ _ hw217_0; first | rwa [add_block] at this | exact this) GW225.out) | (rw [add_block]; exact Nat.ne_of_lt (Nat.lt_of_lt_of_le (by have := World.block_lt_of_cell? _ _ hw217_0; first | rwa [add_block] at this | exact this) GW225.out)) | (show (Addr.add _ _).block ≠ _; rw [add_block]; exact Nat.ne_of_lt (Nat.lt_of_lt_of_le (by have := World.block_lt_of_cell? _ _ hw217_0; first | rwa [add_block] at this | exact this) GW225.out)) | (dsimp only; exact Nat.ne_of_lt (Nat.lt_of_lt_of_le (by have := World.block_lt_of_cell? _ _ hw217_0; first | rwa [add_block] at this | exact this) GW225.out))) _).trans (hHeld.2.2.2.2.2.2))))))))))))⟩ (fun hHeld => ?_)
                clear hK K
                refine pure_ (i := 12) (N := some 8) (v := ?_) (a' := ?_) #[true, true, true, true, true, true, true, true, true, true, true, true, true] rfl rfl (any_of HT_.out (by kernel_rfl)) (fun _ _ _ h => h) (Or.inl ⟨by rfl, ?_⟩) ?_ ?_
                rotate_left
                · intro w'
                  go_simp
                  with_reducible rfl
                rotate_left
                · simp only [Act.put, List.setIfInBounds_toArray, List.set_cons_zero, List.set_cons_succ, i64_w, i32_w]
                  rfl
                refine done_ (done_of HT_.out (by kernel_rfl)) ?_
                go_upto_region 13 with (fail)
                go_cut [58] (fun v58 wc => ∃ (kq : Nat) (x58_15 : Bool), v58 = .bool x58_15 ∧ Aside0 (nunciolaw16_SettingsRight.j1 kq a0 l1 x6_1 x58_15 t218 t219 t220 t221 t222 t223 = some r) ∧ Aside0 (kq ≤ k1) ∧ Aside0 (wc.heap[gb215]? = some (.cells #[.int .u32 x216000_1, .int .u32 x216001_1, .int .u32 x216002_1, .int .u32 x216003_1, .int .u32 x216004_1, .bool x216005_1] 26 (0, 0))) ∧ Aside0 (wc.heap[gb225]? = some (.cells #[.int .u32 t218, .int .u32 t219, .int .u32 t220, .int .u32 t221, .int .u32 t222, .bool t223] 26 (0, 0))) ∧ Aside0 (Below w.heap.size w wc))
                case first =>
                  have H := HC16.out
                  clear HC16
                  by_cases c27 : t224 = 0
                  · rw [if_pos c27] at H
                    have c27b0 : (t224 == 0) = true := beq_iff_eq.mpr c27
                    have c27b1 : (t224 != 0) = false := bne_eq_false_iff_eq.mpr c27
                    clear c27
                    (first | rw [c27b0] | (simp only [i64_w, i32_w]; rw [c27b0]) | skip)
                    have H' := Aside0.mk H
                    clear H
                    go_wp2
                    go_meet
                    case rel => exact ⟨_, (false), (by first | rfl | (simp; done) | (simp [*]; done)), H', ⟨by have := HK1.out; first | omega | exact Nat.le_refl _⟩, ⟨by (with_reducible repeat (first | refine blk_drewN ?_ _ | refine blk_drew ?_ | refine blk_alloc ?_ _)); refine blk_far ?_ NB215_225.out _; (with_reducible repeat (first | refine blk_drewN ?_ _ | refine blk_drew ?_ | refine blk_alloc ?_ _)); refine blk_far ?_ NB215_225.out _; (with_reducible repeat (first | refine blk_drewN ?_ _ | refine blk_drew ?_ | refine blk_alloc ?_ _)); refine blk_far ?_ NB215_225.out _; (with_reducible repeat (first | refine blk_drewN ?_ _ | refine blk_drew ?_ | refine blk_alloc ?_ _)); refine blk_far ?_ NB215_225.out _; (with_reducible repeat (first | refine blk_drewN ?_ _ | refine blk_drew ?_ | refine blk_alloc ?_ _)); refine blk_far ?_ NB215_225.out _; (with_reducible repeat (first | refine blk_drewN ?_ _ | refine blk_drew ?_ | refine blk_alloc ?_ _)); refine blk_far ?_ NB215_225.out _; (with_reducible repeat (first | refine blk_drewN ?_ _ | refine blk_drew ?_ | refine blk_alloc ?_ _)); exact BK215.out⟩, ⟨by (with_reducible repeat (first | refine blk_drewN ?_ _ | refine blk_drew ?_ | refine blk_alloc ?_ _)); refine blk_put (cs := #[.int .u32 t218, .int .u32 t219, .int .u32 t220, .int .u32 t221, .int .u32 t222, .bool false]) ?_ 5 _ rfl; (with_reducible repeat (first | refine blk_drewN ?_ _ | refine blk_drew ?_ | refine blk_alloc ?_ _)); refine blk_put (cs := #[.int .u32 t218, .int .u32 t219, .int .u32 t220, .int .u32 t221, .int .u32 0, .bool false]) ?_ 4 _ rfl; (with_reducible repeat (first | refine blk_drewN ?_ _ | refine blk_drew ?_ | refine blk_alloc ?_ _)); refine blk_put (cs := #[.int .u32 t218, .int .u32 t219, .int .u32 t220, .int .u32 0, .int .u32 0, .bool false]) ?_ 3 _ rfl; (with_reducible repeat (first | refine blk_drewN ?_ _ | refine blk_drew ?_ | refine blk_alloc ?_ _)); refine blk_put (cs := #[.int .u32 t218, .int .u32 t219, .int .u32 0, .int .u32 0, .int .u32 0, .bool false]) ?_ 2 _ rfl; (with_reducible repeat (first | refine blk_drewN ?_ _ | refine blk_drew ?_ | refine blk_alloc ?_ _)); refine blk_put (cs := #[.int .u32 t218, .int .u32 0, .int .u32 0, .int .u32 0, .int .u32 0, .bool false]) ?_ 1 _ rfl; (with_reducible repeat (first | refine blk_drewN ?_ _ | refine blk_drew ?_ | refine blk_alloc ?_ _)); refine blk_put (cs := #[.int .u32 0, .int .u32 0, .int .u32 0, .int .u32 0, .int .u32 0, .bool false]) ?_ 0 _ rfl; (with_reducible repeat (first | refine blk_drewN ?_ _ | refine blk_drew ?_ | refine blk_alloc ?_ _)); exact BK225.out⟩, ⟨by repeat (first | (with_reducible first | exact HB.out | apply below_alloc | apply pw_below_drewN | apply below_drew1 | refine below_set ?_ GE215.out | refine below_set ?_ GE225.out) | exact HB.out)⟩⟩
                  · rw [if_neg c27] at H
                    have c27b0 : (t224 == 0) = false := beq_eq_false_iff_ne.mpr c27
                    have c27b1 : (t224 != 0) = true := bne_iff_ne.mpr c27
                    (first | rw [c27b0] | (simp only [i64_w, i32_w]; rw [c27b0]) | skip)
                    by_cases c28 : (!(t218 == x216000_1) || (!(t219 == x216001_1) || (!(t220 == x216002_1) || (!(t221 == x216003_1) || (!(t222 == x216004_1) || (!(t223 == x216005_1))))))) = true
                    · rw [if_pos c28] at H
                      have c28b0 : (!(t218 == x216000_1) || (!(t219 == x216001_1) || (!(t220 == x216002_1) || (!(t221 == x216003_1) || (!(t222 == x216004_1) || (!(t223 == x216005_1))))))) = true := c28
                      clear c28
                      (try (have c28b9 := c28b0; simp only [beq_true, beq_false] at c28b9))
                      have H' := Aside0.mk H
                      clear H
                      have hnb29 := NB225_215.out
                      have hnc29 := NB215_225.out
                      have hcz30_0 : w20.cell? ⟨gb225, 0, none⟩ = some (.int .u32 0) := (blk_cell BK225.out 0).trans rfl
                      have hcz30_1 : w20.cell? ⟨gb225, 1, none⟩ = some (.int .u32 0) := (blk_cell BK225.out 1).trans rfl
                      have hcz30_2 : w20.cell? ⟨gb225, 2, none⟩ = some (.int .u32 0) := (blk_cell BK225.out 2).trans rfl
                      have hcz30_3 : w20.cell? ⟨gb225, 3, none⟩ = some (.int .u32 0) := (blk_cell BK225.out 3).trans rfl
                      have hcz30_4 : w20.cell? ⟨gb225, 4, none⟩ = some (.int .u32 0) := (blk_cell BK225.out 4).trans rfl
                      have hcz30_5 : w20.cell? ⟨gb225, 5, none⟩ = some (.bool false) := (blk_cell BK225.out 5).trans rfl
                      have hfz30_0 := blk_frozen BK225.out 0
                      have hfz30_1 := blk_frozen BK225.out 1
                      have hfz30_2 := blk_frozen BK225.out 2
                      have hfz30_3 := blk_frozen BK225.out 3
                      have hfz30_4 := blk_frozen BK225.out 4
                      have hfz30_5 := blk_frozen BK225.out 5
                      have hcz31_0 : w20.cell? ⟨gb215, 0, none⟩ = some (.int .u32 x216000_1) := (blk_cell BK215.out 0).trans rfl
                      have hcz31_1 : w20.cell? ⟨gb215, 1, none⟩ = some (.int .u32 x216001_1) := (blk_cell BK215.out 1).trans rfl
                      have hcz31_2 : w20.cell? ⟨gb215, 2, none⟩ = some (.int .u32 x216002_1) := (blk_cell BK215.out 2).trans rfl
                      have hcz31_3 : w20.cell? ⟨gb215, 3, none⟩ = some (.int .u32 x216003_1) := (blk_cell BK215.out 3).trans rfl
                      have hcz31_4 : w20.cell? ⟨gb215, 4, none⟩ = some (.int .u32 x216004_1) := (blk_cell BK215.out 4).trans rfl
                      have hcz31_5 : w20.cell? ⟨gb215, 5, none⟩ = some (.bool x216005_1) := (blk_cell BK215.out 5).trans rfl
                      have hfz31_0 := blk_frozen BK215.out 0
                      have hfz31_1 := blk_frozen BK215.out 1
                      have hfz31_2 := blk_frozen BK215.out 2
                      have hfz31_3 := blk_frozen BK215.out 3
                      have hfz31_4 := blk_frozen BK215.out 4
                      have hfz31_5 := blk_frozen BK215.out 5
                      go_wp2
                      go_meet
                      case rel => exact ⟨_, (true), (by first | rfl | (simp; done) | (simp [*]; done)), H', ⟨by have := HK1.out; first | omega | exact Nat.le_refl _⟩, ⟨by (with_reducible repeat (first | refine blk_drewN ?_ _ | refine blk_drew ?_ | refine blk_alloc ?_ _)); refine blk_far ?_ NB215_225.out _; (with_reducible repeat (first | refine blk_drewN ?_ _ | refine blk_drew ?_ | refine blk_alloc ?_ _)); refine blk_far ?_ NB215_225.out _; (with_reducible repeat (first | refine blk_drewN ?_ _ | refine blk_drew ?_ | refine blk_alloc ?_ _)); refine blk_far ?_ NB215_225.out _; (with_reducible repeat (first | refine blk_drewN ?_ _ | refine blk_drew ?_ | refine blk_alloc ?_ _)); refine blk_far ?_ NB215_225.out _; (with_reducible repeat (first | refine blk_drewN ?_ _ | refine blk_drew ?_ | refine blk_alloc ?_ _)); refine blk_far ?_ NB215_225.out _; (with_reducible repeat (first | refine blk_drewN ?_ _ | refine blk_drew ?_ | refine blk_alloc ?_ _)); refine blk_far ?_ NB215_225.out _; (with_reducible repeat (first | refine blk_drewN ?_ _ | refine blk_drew ?_ | refine blk_alloc ?_ _)); exact BK215.out⟩, ⟨by (with_reducible repeat (first | refine blk_drewN ?_ _ | refine blk_drew ?_ | refine blk_alloc ?_ _)); refine blk_put (cs := #[.int .u32 t218, .int .u32 t219, .int .u32 t220, .int .u32 t221, .int .u32 t222, .bool false]) ?_ 5 _ rfl; (with_reducible repeat (first | refine blk_drewN ?_ _ | refine blk_drew ?_ | refine blk_alloc ?_ _)); refine blk_put (cs := #[.int .u32 t218, .int .u32 t219, .int .u32 t220, .int .u32 t221, .int .u32 0, .bool false]) ?_ 4 _ rfl; (with_reducible repeat (first | refine blk_drewN ?_ _ | refine blk_drew ?_ | refine blk_alloc ?_ _)); refine blk_put (cs := #[.int .u32 t218, .int .u32 t219, .int .u32 t220, .int .u32 0, .int .u32 0, .bool false]) ?_ 3 _ rfl; (with_reducible repeat (first | refine blk_drewN ?_ _ | refine blk_drew ?_ | refine blk_alloc ?_ _)); refine blk_put (cs := #[.int .u32 t218, .int .u32 t219, .int .u32 0, .int .u32 0, .int .u32 0, .bool false]) ?_ 2 _ rfl; (with_reducible repeat (first | refine blk_drewN ?_ _ | refine blk_drew ?_ | refine blk_alloc ?_ _)); refine blk_put (cs := #[.int .u32 t218, .int .u32 0, .int .u32 0, .int .u32 0, .int .u32 0, .bool false]) ?_ 1 _ rfl; (with_reducible repeat (first | refine blk_drewN ?_ _ | refine blk_drew ?_ | refine blk_alloc ?_ _)); refine blk_put (cs := #[.int .u32 0, .int .u32 0, .int .u32 0, .int .u32 0, .int .u32 0, .bool false]) ?_ 0 _ rfl; (with_reducible repeat (first | refine blk_drewN ?_ _ | refine blk_drew ?_ | refine blk_alloc ?_ _)); exact BK225.out⟩, ⟨by repeat (first | (with_reducible first | exact HB.out | apply below_alloc | apply pw_below_drewN | apply below_drew1 | refine below_set ?_ GE215.out | refine below_set ?_ GE225.out) | exact HB.out)⟩⟩
                    · rw [if_neg c28] at H
                      have c28b0 : (!(t218 == x216000_1) || (!(t219 == x216001_1) || (!(t220 == x216002_1) || (!(t221 == x216003_1) || (!(t222 == x216004_1) || (!(t223 == x216005_1))))))) = false := by simpa using c28
                      clear c28
                      (try (have c28b9 := c28b0; simp only [beq_true, beq_false] at c28b9))
                      by_cases c32 : t224 = 1
                      · rw [if_pos c32] at H
                        have c32b0 : (t224 == 1) = true := beq_iff_eq.mpr c32
                        have c32b1 : (t224 != 1) = false := bne_eq_false_iff_eq.mpr c32
                        clear c32
                        have H' := Aside0.mk H
                        clear H
                        have hnb33 := NB225_215.out
                        have hnc33 := NB215_225.out
                        have hcz34_0 : w20.cell? ⟨gb225, 0, none⟩ = some (.int .u32 0) := (blk_cell BK225.out 0).trans rfl
                        have hcz34_1 : w20.cell? ⟨gb225, 1, none⟩ = some (.int .u32 0) := (blk_cell BK225.out 1).trans rfl
                        have hcz34_2 : w20.cell? ⟨gb225, 2, none⟩ = some (.int .u32 0) := (blk_cell BK225.out 2).trans rfl
                        have hcz34_3 : w20.cell? ⟨gb225, 3, none⟩ = some (.int .u32 0) := (blk_cell BK225.out 3).trans rfl
                        have hcz34_4 : w20.cell? ⟨gb225, 4, none⟩ = some (.int .u32 0) := (blk_cell BK225.out 4).trans rfl
                        have hcz34_5 : w20.cell? ⟨gb225, 5, none⟩ = some (.bool false) := (blk_cell BK225.out 5).trans rfl
                        have hfz34_0 := blk_frozen BK225.out 0
                        have hfz34_1 := blk_frozen BK225.out 1
                        have hfz34_2 := blk_frozen BK225.out 2
                        have hfz34_3 := blk_frozen BK225.out 3
                        have hfz34_4 := blk_frozen BK225.out 4
                        have hfz34_5 := blk_frozen BK225.out 5
                        have hcz35_0 : w20.cell? ⟨gb215, 0, none⟩ = some (.int .u32 x216000_1) := (blk_cell BK215.out 0).trans rfl
                        have hcz35_1 : w20.cell? ⟨gb215, 1, none⟩ = some (.int .u32 x216001_1) := (blk_cell BK215.out 1).trans rfl
                        have hcz35_2 : w20.cell? ⟨gb215, 2, none⟩ = some (.int .u32 x216002_1) := (blk_cell BK215.out 2).trans rfl
                        have hcz35_3 : w20.cell? ⟨gb215, 3, none⟩ = some (.int .u32 x216003_1) := (blk_cell BK215.out 3).trans rfl
                        have hcz35_4 : w20.cell? ⟨gb215, 4, none⟩ = some (.int .u32 x216004_1) := (blk_cell BK215.out 4).trans rfl
                        have hcz35_5 : w20.cell? ⟨gb215, 5, none⟩ = some (.bool x216005_1) := (blk_cell BK215.out 5).trans rfl
                        have hfz35_0 := blk_frozen BK215.out 0
                        have hfz35_1 := blk_frozen BK215.out 1
                        have hfz35_2 := blk_frozen BK215.out 2
                        have hfz35_3 := blk_frozen BK215.out 3
                        have hfz35_4 := blk_frozen BK215.out 4
                        have hfz35_5 := blk_frozen BK215.out 5
                        go_wp2
                        go_meet
                        case rel => exact ⟨_, (false), (by first | rfl | (simp; done) | (simp [*]; done)), H', ⟨by have := HK1.out; first | omega | exact Nat.le_refl _⟩, ⟨by (with_reducible repeat (first | refine blk_drewN ?_ _ | refine blk_drew ?_ | refine blk_alloc ?_ _)); refine blk_far ?_ NB215_225.out _; (with_reducible repeat (first | refine blk_drewN ?_ _ | refine blk_drew ?_ | refine blk_alloc ?_ _)); refine blk_far ?_ NB215_225.out _; (with_reducible repeat (first | refine blk_drewN ?_ _ | refine blk_drew ?_ | refine blk_alloc ?_ _)); refine blk_far ?_ NB215_225.out _; (with_reducible repeat (first | refine blk_drewN ?_ _ | refine blk_drew ?_ | refine blk_alloc ?_ _)); refine blk_far ?_ NB215_225.out _; (with_reducible repeat (first | refine blk_drewN ?_ _ | refine blk_drew ?_ | refine blk_alloc ?_ _)); refine blk_far ?_ NB215_225.out _; (with_reducible repeat (first | refine blk_drewN ?_ _ | refine blk_drew ?_ | refine blk_alloc ?_ _)); refine blk_far ?_ NB215_225.out _; (with_reducible repeat (first | refine blk_drewN ?_ _ | refine blk_drew ?_ | refine blk_alloc ?_ _)); exact BK215.out⟩, ⟨by (with_reducible repeat (first | refine blk_drewN ?_ _ | refine blk_drew ?_ | refine blk_alloc ?_ _)); refine blk_put (cs := #[.int .u32 t218, .int .u32 t219, .int .u32 t220, .int .u32 t221, .int .u32 t222, .bool false]) ?_ 5 _ rfl; (with_reducible repeat (first | refine blk_drewN ?_ _ | refine blk_drew ?_ | refine blk_alloc ?_ _)); refine blk_put (cs := #[.int .u32 t218, .int .u32 t219, .int .u32 t220, .int .u32 t221, .int .u32 0, .bool false]) ?_ 4 _ rfl; (with_reducible repeat (first | refine blk_drewN ?_ _ | refine blk_drew ?_ | refine blk_alloc ?_ _)); refine blk_put (cs := #[.int .u32 t218, .int .u32 t219, .int .u32 t220, .int .u32 0, .int .u32 0, .bool false]) ?_ 3 _ rfl; (with_reducible repeat (first | refine blk_drewN ?_ _ | refine blk_drew ?_ | refine blk_alloc ?_ _)); refine blk_put (cs := #[.int .u32 t218, .int .u32 t219, .int .u32 0, .int .u32 0, .int .u32 0, .bool false]) ?_ 2 _ rfl; (with_reducible repeat (first | refine blk_drewN ?_ _ | refine blk_drew ?_ | refine blk_alloc ?_ _)); refine blk_put (cs := #[.int .u32 t218, .int .u32 0, .int .u32 0, .int .u32 0, .int .u32 0, .bool false]) ?_ 1 _ rfl; (with_reducible repeat (first | refine blk_drewN ?_ _ | refine blk_drew ?_ | refine blk_alloc ?_ _)); refine blk_put (cs := #[.int .u32 0, .int .u32 0, .int .u32 0, .int .u32 0, .int .u32 0, .bool false]) ?_ 0 _ rfl; (with_reducible repeat (first | refine blk_drewN ?_ _ | refine blk_drew ?_ | refine blk_alloc ?_ _)); exact BK225.out⟩, ⟨by repeat (first | (with_reducible first | exact HB.out | apply below_alloc | apply pw_below_drewN | apply below_drew1 | refine below_set ?_ GE215.out | refine below_set ?_ GE225.out) | exact HB.out)⟩⟩
                      · rw [if_neg c32] at H
                        have c32b0 : (t224 == 1) = false := beq_eq_false_iff_ne.mpr c32
                        have c32b1 : (t224 != 1) = true := bne_iff_ne.mpr c32
                        have H' := Aside0.mk H
                        clear H
                        have hnb36 := NB225_215.out
                        have hnc36 := NB215_225.out
                        have hcz37_0 : w20.cell? ⟨gb225, 0, none⟩ = some (.int .u32 0) := (blk_cell BK225.out 0).trans rfl
                        have hcz37_1 : w20.cell? ⟨gb225, 1, none⟩ = some (.int .u32 0) := (blk_cell BK225.out 1).trans rfl
                        have hcz37_2 : w20.cell? ⟨gb225, 2, none⟩ = some (.int .u32 0) := (blk_cell BK225.out 2).trans rfl
                        have hcz37_3 : w20.cell? ⟨gb225, 3, none⟩ = some (.int .u32 0) := (blk_cell BK225.out 3).trans rfl
                        have hcz37_4 : w20.cell? ⟨gb225, 4, none⟩ = some (.int .u32 0) := (blk_cell BK225.out 4).trans rfl
                        have hcz37_5 : w20.cell? ⟨gb225, 5, none⟩ = some (.bool false) := (blk_cell BK225.out 5).trans rfl
                        have hfz37_0 := blk_frozen BK225.out 0
                        have hfz37_1 := blk_frozen BK225.out 1
                        have hfz37_2 := blk_frozen BK225.out 2
                        have hfz37_3 := blk_frozen BK225.out 3
                        have hfz37_4 := blk_frozen BK225.out 4
                        have hfz37_5 := blk_frozen BK225.out 5
                        have hcz38_0 : w20.cell? ⟨gb215, 0, none⟩ = some (.int .u32 x216000_1) := (blk_cell BK215.out 0).trans rfl
                        have hcz38_1 : w20.cell? ⟨gb215, 1, none⟩ = some (.int .u32 x216001_1) := (blk_cell BK215.out 1).trans rfl
                        have hcz38_2 : w20.cell? ⟨gb215, 2, none⟩ = some (.int .u32 x216002_1) := (blk_cell BK215.out 2).trans rfl
                        have hcz38_3 : w20.cell? ⟨gb215, 3, none⟩ = some (.int .u32 x216003_1) := (blk_cell BK215.out 3).trans rfl
                        have hcz38_4 : w20.cell? ⟨gb215, 4, none⟩ = some (.int .u32 x216004_1) := (blk_cell BK215.out 4).trans rfl
                        have hcz38_5 : w20.cell? ⟨gb215, 5, none⟩ = some (.bool x216005_1) := (blk_cell BK215.out 5).trans rfl
                        have hfz38_0 := blk_frozen BK215.out 0
                        have hfz38_1 := blk_frozen BK215.out 1
                        have hfz38_2 := blk_frozen BK215.out 2
                        have hfz38_3 := blk_frozen BK215.out 3
                        have hfz38_4 := blk_frozen BK215.out 4
                        have hfz38_5 := blk_frozen BK215.out 5
                        go_wp2
                        go_meet
                        case rel => exact ⟨_, ((t224 != 3)), (by first | rfl | (simp; done) | (simp [*]; done)), H', ⟨by have := HK1.out; first | omega | exact Nat.le_refl _⟩, ⟨by (with_reducible repeat (first | refine blk_drewN ?_ _ | refine blk_drew ?_ | refine blk_alloc ?_ _)); refine blk_far ?_ NB215_225.out _; (with_reducible repeat (first | refine blk_drewN ?_ _ | refine blk_drew ?_ | refine blk_alloc ?_ _)); refine blk_far ?_ NB215_225.out _; (with_reducible repeat (first | refine blk_drewN ?_ _ | refine blk_drew ?_ | refine blk_alloc ?_ _)); refine blk_far ?_ NB215_225.out _; (with_reducible repeat (first | refine blk_drewN ?_ _ | refine blk_drew ?_ | refine blk_alloc ?_ _)); refine blk_far ?_ NB215_225.out _; (with_reducible repeat (first | refine blk_drewN ?_ _ | refine blk_drew ?_ | refine blk_alloc ?_ _)); refine blk_far ?_ NB215_225.out _; (with_reducible repeat (first | refine blk_drewN ?_ _ | refine blk_drew ?_ | refine blk_alloc ?_ _)); refine blk_far ?_ NB215_225.out _; (with_reducible repeat (first | refine blk_drewN ?_ _ | refine blk_drew ?_ | refine blk_alloc ?_ _)); exact BK215.out⟩, ⟨by (with_reducible repeat (first | refine blk_drewN ?_ _ | refine blk_drew ?_ | refine blk_alloc ?_ _)); refine blk_put (cs := #[.int .u32 t218, .int .u32 t219, .int .u32 t220, .int .u32 t221, .int .u32 t222, .bool false]) ?_ 5 _ rfl; (with_reducible repeat (first | refine blk_drewN ?_ _ | refine blk_drew ?_ | refine blk_alloc ?_ _)); refine blk_put (cs := #[.int .u32 t218, .int .u32 t219, .int .u32 t220, .int .u32 t221, .int .u32 0, .bool false]) ?_ 4 _ rfl; (with_reducible repeat (first | refine blk_drewN ?_ _ | refine blk_drew ?_ | refine blk_alloc ?_ _)); refine blk_put (cs := #[.int .u32 t218, .int .u32 t219, .int .u32 t220, .int .u32 0, .int .u32 0, .bool false]) ?_ 3 _ rfl; (with_reducible repeat (first | refine blk_drewN ?_ _ | refine blk_drew ?_ | refine blk_alloc ?_ _)); refine blk_put (cs := #[.int .u32 t218, .int .u32 t219, .int .u32 0, .int .u32 0, .int .u32 0, .bool false]) ?_ 2 _ rfl; (with_reducible repeat (first | refine blk_drewN ?_ _ | refine blk_drew ?_ | refine blk_alloc ?_ _)); refine blk_put (cs := #[.int .u32 t218, .int .u32 0, .int .u32 0, .int .u32 0, .int .u32 0, .bool false]) ?_ 1 _ rfl; (with_reducible repeat (first | refine blk_drewN ?_ _ | refine blk_drew ?_ | refine blk_alloc ?_ _)); refine blk_put (cs := #[.int .u32 0, .int .u32 0, .int .u32 0, .int .u32 0, .int .u32 0, .bool false]) ?_ 0 _ rfl; (with_reducible repeat (first | refine blk_drewN ?_ _ | refine blk_drew ?_ | refine blk_alloc ?_ _)); exact BK225.out⟩, ⟨by repeat (first | (with_reducible first | exact HB.out | apply below_alloc | apply pw_below_drewN | apply below_drew1 | refine below_set ?_ GE215.out | refine below_set ?_ GE225.out) | exact HB.out)⟩⟩
                case rest =>
                  clear HC16
                  try clear c1
                  try clear c2
                  try clear p2
                  try clear q2
                  try clear hx2
                  try clear c3
                  try clear c4
                  try clear c5
                  try clear c5b0
                  try clear c5b1
                  try clear c8
                  try clear c9
                  try clear c10
                  try clear c12
                  try clear c12b0
                  try clear c13
                  try clear c13b0
                  try clear c14
                  try clear c14b0
                  try clear c14b1
                  try clear c21
                  try clear p21
                  try clear q21
                  try clear hx21
                  try clear c27
                  try clear c27b0
                  try clear c27b1
                  try clear c28
                  try clear c28b0
                  try clear c29
                  try clear c32
                  try clear c32b0
                  try clear c32b1
                  try clear c33
                  try clear c36
                  try clear hcz11_0
                  try clear hcz11_1
                  try clear hcz11_2
                  try clear hcz11_3
                  try clear hcz11_4
                  try clear hcz11_5
                  try clear hcz30_0
                  try clear hcz30_1
                  try clear hcz30_2
                  try clear hcz30_3
                  try clear hcz30_4
                  try clear hcz30_5
                  try clear hcz31_0
                  try clear hcz31_1
                  try clear hcz31_2
                  try clear hcz31_3
                  try clear hcz31_4
                  try clear hcz31_5
                  try clear hcz34_0
                  try clear hcz34_1
                  try clear hcz34_2
                  try clear hcz34_3
                  try clear hcz34_4
                  try clear hcz34_5
                  try clear hcz35_0
                  try clear hcz35_1
                  try clear hcz35_2
                  try clear hcz35_3
                  try clear hcz35_4
                  try clear hcz35_5
                  try clear hcz37_0
                  try clear hcz37_1
                  try clear hcz37_2
                  try clear hcz37_3
                  try clear hcz37_4
                  try clear hcz37_5
                  try clear hcz38_0
                  try clear hcz38_1
                  try clear hcz38_2
                  try clear hcz38_3
                  try clear hcz38_4
                  try clear hcz38_5
                  try clear hfz11_0
                  try clear hfz11_1
                  try clear hfz11_2
                  try clear hfz11_3
                  try clear hfz11_4
                  try clear hfz11_5
                  try clear hfz30_0
                  try clear hfz30_1
                  try clear hfz30_2
                  try clear hfz30_3
                  try clear hfz30_4
                  try clear hfz30_5
                  try clear hfz31_0
                  try clear hfz31_1
                  try clear hfz31_2
                  try clear hfz31_3
                  try clear hfz31_4
                  try clear hfz31_5
                  try clear hfz34_0
                  try clear hfz34_1
                  try clear hfz34_2
                  try clear hfz34_3
                  try clear hfz34_4
                  try clear hfz34_5
                  try clear hfz35_0
                  try clear hfz35_1
                  try clear hfz35_2
                  try clear hfz35_3
                  try clear hfz35_4
                  try clear hfz35_5
                  try clear hfz37_0
                  try clear hfz37_1
                  try clear hfz37_2
                  try clear hfz37_3
                  try clear hfz37_4
                  try clear hfz37_5
                  try clear hfz38_0
                  try clear hfz38_1
                  try clear hfz38_2
                  try clear hfz38_3
                  try clear hfz38_4
                  try clear hfz38_5
                  try clear hx216_0
                  try clear hx217_0
                  try clear p2
                  try clear p216
                  try clear p217
                  try clear q216
                  try clear q217
                  obtain ⟨kq, x58_15, rfl, HA, HJ15, BK215, BK225, HB⟩ := hcut
                  cases kq with
                  | zero => exact absurd HA.out (by simp [nunciolaw16_SettingsRight.j1])
                  | succ kj15 =>
                    have H := HA.out
                    clear HA
                    simp only [nunciolaw16_SettingsRight.j1] at H
                    by_cases c39 : x58_15 = true
                    · subst c39
                      have H1 : (some false) = some r := by rw [if_pos rfl] at H; exact H
                      clear H
                      have H := H1
                      clear H1
                      obtain rfl := Option.some.inj H
                      go_wp2
                      go_ret
                      exact ⟨by first | rfl | (simp [errW_none, errW_some] <;> rfl) | (simp [*, errW_none, errW_some] <;> rfl), by repeat (first | (with_reducible first | exact HB.out | apply below_alloc | apply pw_below_drewN | apply below_drew1 | refine below_set ?_ GE215.out | refine below_set ?_ GE225.out) | exact HB.out)⟩
                    · replace c39 := Bool.eq_false_iff.mpr c39
                      subst c39
                      have H1 : (if t220 > 2147483647 then (some false) else (if t221 < 16384 then (some false) else (if t221 > 16777215 then (some false) else (if a0 = true then (if t223 = true then (some false) else (nunciolaw16_SettingsRight.l0 kj15 a0 l1 (wrap64 (x6_1 + 1)) t218 t219 t220 t221 t222 t223)) else (nunciolaw16_SettingsRight.l0 kj15 a0 l1 (wrap64 (x6_1 + 1)) t218 t219 t220 t221 t222 t223))))) = some r := by rw [if_neg (show ¬ (false = true) by decide)] at H; exact H
                      clear H
                      have H := H1
                      clear H1
                      by_cases c40 : t220 > 2147483647
                      · rw [if_pos c40] at H
                        have c40b0 : decide (2147483647 < t220) = true := decide_eq_true c40
                        clear c40
                        obtain rfl := Option.some.inj H
                        have hnb41 := NB225_215.out
                        have hnc41 := NB215_225.out
                        have hcz42_0 : wc.cell? ⟨gb225, 0, none⟩ = some (.int .u32 t218) := (blk_cell BK225.out 0).trans rfl
                        have hcz42_1 : wc.cell? ⟨gb225, 1, none⟩ = some (.int .u32 t219) := (blk_cell BK225.out 1).trans rfl
                        have hcz42_2 : wc.cell? ⟨gb225, 2, none⟩ = some (.int .u32 t220) := (blk_cell BK225.out 2).trans rfl
                        have hcz42_3 : wc.cell? ⟨gb225, 3, none⟩ = some (.int .u32 t221) := (blk_cell BK225.out 3).trans rfl
                        have hcz42_4 : wc.cell? ⟨gb225, 4, none⟩ = some (.int .u32 t222) := (blk_cell BK225.out 4).trans rfl
                        have hcz42_5 : wc.cell? ⟨gb225, 5, none⟩ = some (.bool t223) := (blk_cell BK225.out 5).trans rfl
                        have hfz42_0 := blk_frozen BK225.out 0
                        have hfz42_1 := blk_frozen BK225.out 1
                        have hfz42_2 := blk_frozen BK225.out 2
                        have hfz42_3 := blk_frozen BK225.out 3
                        have hfz42_4 := blk_frozen BK225.out 4
                        have hfz42_5 := blk_frozen BK225.out 5
                        have hcz43_0 : wc.cell? ⟨gb215, 0, none⟩ = some (.int .u32 x216000_1) := (blk_cell BK215.out 0).trans rfl
                        have hcz43_1 : wc.cell? ⟨gb215, 1, none⟩ = some (.int .u32 x216001_1) := (blk_cell BK215.out 1).trans rfl
                        have hcz43_2 : wc.cell? ⟨gb215, 2, none⟩ = some (.int .u32 x216002_1) := (blk_cell BK215.out 2).trans rfl
                        have hcz43_3 : wc.cell? ⟨gb215, 3, none⟩ = some (.int .u32 x216003_1) := (blk_cell BK215.out 3).trans rfl
                        have hcz43_4 : wc.cell? ⟨gb215, 4, none⟩ = some (.int .u32 x216004_1) := (blk_cell BK215.out 4).trans rfl
                        have hcz43_5 : wc.cell? ⟨gb215, 5, none⟩ = some (.bool x216005_1) := (blk_cell BK215.out 5).trans rfl
                        have hfz43_0 := blk_frozen BK215.out 0
                        have hfz43_1 := blk_frozen BK215.out 1
                        have hfz43_2 := blk_frozen BK215.out 2
                        have hfz43_3 := blk_frozen BK215.out 3
                        have hfz43_4 := blk_frozen BK215.out 4
                        have hfz43_5 := blk_frozen BK215.out 5
                        go_wp2
                        go_ret
                        exact ⟨by first | rfl | (simp [errW_none, errW_some] <;> rfl) | (simp [*, errW_none, errW_some] <;> rfl), by repeat (first | (with_reducible first | exact HB.out | apply below_alloc | apply pw_below_drewN | apply below_drew1 | refine below_set ?_ GE215.out | refine below_set ?_ GE225.out) | exact HB.out)⟩
                      · rw [if_neg c40] at H
                        have c40b0 : decide (2147483647 < t220) = false := decide_eq_false c40
                        clear c40
                        by_cases c44 : t221 < 16384
                        · rw [if_pos c44] at H
                          have c44b0 : decide (t221 < 16384) = true := decide_eq_true c44
                          clear c44
                          obtain rfl := Option.some.inj H
                          have hnb45 := NB225_215.out
                          have hnc45 := NB215_225.out
                          have hcz46_0 : wc.cell? ⟨gb225, 0, none⟩ = some (.int .u32 t218) := (blk_cell BK225.out 0).trans rfl
                          have hcz46_1 : wc.cell? ⟨gb225, 1, none⟩ = some (.int .u32 t219) := (blk_cell BK225.out 1).trans rfl
                          have hcz46_2 : wc.cell? ⟨gb225, 2, none⟩ = some (.int .u32 t220) := (blk_cell BK225.out 2).trans rfl
                          have hcz46_3 : wc.cell? ⟨gb225, 3, none⟩ = some (.int .u32 t221) := (blk_cell BK225.out 3).trans rfl
                          have hcz46_4 : wc.cell? ⟨gb225, 4, none⟩ = some (.int .u32 t222) := (blk_cell BK225.out 4).trans rfl
                          have hcz46_5 : wc.cell? ⟨gb225, 5, none⟩ = some (.bool t223) := (blk_cell BK225.out 5).trans rfl
                          have hfz46_0 := blk_frozen BK225.out 0
                          have hfz46_1 := blk_frozen BK225.out 1
                          have hfz46_2 := blk_frozen BK225.out 2
                          have hfz46_3 := blk_frozen BK225.out 3
                          have hfz46_4 := blk_frozen BK225.out 4
                          have hfz46_5 := blk_frozen BK225.out 5
                          have hcz47_0 : wc.cell? ⟨gb215, 0, none⟩ = some (.int .u32 x216000_1) := (blk_cell BK215.out 0).trans rfl
                          have hcz47_1 : wc.cell? ⟨gb215, 1, none⟩ = some (.int .u32 x216001_1) := (blk_cell BK215.out 1).trans rfl
                          have hcz47_2 : wc.cell? ⟨gb215, 2, none⟩ = some (.int .u32 x216002_1) := (blk_cell BK215.out 2).trans rfl
                          have hcz47_3 : wc.cell? ⟨gb215, 3, none⟩ = some (.int .u32 x216003_1) := (blk_cell BK215.out 3).trans rfl
                          have hcz47_4 : wc.cell? ⟨gb215, 4, none⟩ = some (.int .u32 x216004_1) := (blk_cell BK215.out 4).trans rfl
                          have hcz47_5 : wc.cell? ⟨gb215, 5, none⟩ = some (.bool x216005_1) := (blk_cell BK215.out 5).trans rfl
                          have hfz47_0 := blk_frozen BK215.out 0
                          have hfz47_1 := blk_frozen BK215.out 1
                          have hfz47_2 := blk_frozen BK215.out 2
                          have hfz47_3 := blk_frozen BK215.out 3
                          have hfz47_4 := blk_frozen BK215.out 4
                          have hfz47_5 := blk_frozen BK215.out 5
                          go_wp2
                          go_ret
                          exact ⟨by first | rfl | (simp [errW_none, errW_some] <;> rfl) | (simp [*, errW_none, errW_some] <;> rfl), by repeat (first | (with_reducible first | exact HB.out | apply below_alloc | apply pw_below_drewN | apply below_drew1 | refine below_set ?_ GE215.out | refine below_set ?_ GE225.out) | exact HB.out)⟩
                        · rw [if_neg c44] at H
                          have c44b0 : decide (t221 < 16384) = false := decide_eq_false c44
                          clear c44
                          by_cases c48 : t221 > 16777215
                          · rw [if_pos c48] at H
                            have c48b0 : decide (16777215 < t221) = true := decide_eq_true c48
                            clear c48
                            obtain rfl := Option.some.inj H
                            have hnb49 := NB225_215.out
                            have hnc49 := NB215_225.out
                            have hcz50_0 : wc.cell? ⟨gb225, 0, none⟩ = some (.int .u32 t218) := (blk_cell BK225.out 0).trans rfl
                            have hcz50_1 : wc.cell? ⟨gb225, 1, none⟩ = some (.int .u32 t219) := (blk_cell BK225.out 1).trans rfl
                            have hcz50_2 : wc.cell? ⟨gb225, 2, none⟩ = some (.int .u32 t220) := (blk_cell BK225.out 2).trans rfl
                            have hcz50_3 : wc.cell? ⟨gb225, 3, none⟩ = some (.int .u32 t221) := (blk_cell BK225.out 3).trans rfl
                            have hcz50_4 : wc.cell? ⟨gb225, 4, none⟩ = some (.int .u32 t222) := (blk_cell BK225.out 4).trans rfl
                            have hcz50_5 : wc.cell? ⟨gb225, 5, none⟩ = some (.bool t223) := (blk_cell BK225.out 5).trans rfl
                            have hfz50_0 := blk_frozen BK225.out 0
                            have hfz50_1 := blk_frozen BK225.out 1
                            have hfz50_2 := blk_frozen BK225.out 2
                            have hfz50_3 := blk_frozen BK225.out 3
                            have hfz50_4 := blk_frozen BK225.out 4
                            have hfz50_5 := blk_frozen BK225.out 5
                            have hcz51_0 : wc.cell? ⟨gb215, 0, none⟩ = some (.int .u32 x216000_1) := (blk_cell BK215.out 0).trans rfl
                            have hcz51_1 : wc.cell? ⟨gb215, 1, none⟩ = some (.int .u32 x216001_1) := (blk_cell BK215.out 1).trans rfl
                            have hcz51_2 : wc.cell? ⟨gb215, 2, none⟩ = some (.int .u32 x216002_1) := (blk_cell BK215.out 2).trans rfl
                            have hcz51_3 : wc.cell? ⟨gb215, 3, none⟩ = some (.int .u32 x216003_1) := (blk_cell BK215.out 3).trans rfl
                            have hcz51_4 : wc.cell? ⟨gb215, 4, none⟩ = some (.int .u32 x216004_1) := (blk_cell BK215.out 4).trans rfl
                            have hcz51_5 : wc.cell? ⟨gb215, 5, none⟩ = some (.bool x216005_1) := (blk_cell BK215.out 5).trans rfl
                            have hfz51_0 := blk_frozen BK215.out 0
                            have hfz51_1 := blk_frozen BK215.out 1
                            have hfz51_2 := blk_frozen BK215.out 2
                            have hfz51_3 := blk_frozen BK215.out 3
                            have hfz51_4 := blk_frozen BK215.out 4
                            have hfz51_5 := blk_frozen BK215.out 5
                            go_wp2
                            go_ret
                            exact ⟨by first | rfl | (simp [errW_none, errW_some] <;> rfl) | (simp [*, errW_none, errW_some] <;> rfl), by repeat (first | (with_reducible first | exact HB.out | apply below_alloc | apply pw_below_drewN | apply below_drew1 | refine below_set ?_ GE215.out | refine below_set ?_ GE225.out) | exact HB.out)⟩
                          · rw [if_neg c48] at H
                            have c48b0 : decide (16777215 < t221) = false := decide_eq_false c48
                            clear c48
                            by_cases c52 : a0 = true
                            · subst c52
                              have H1 : (if t223 = true then (some false) else (nunciolaw16_SettingsRight.l0 kj15 true l1 (wrap64 (x6_1 + 1)) t218 t219 t220 t221 t222 t223)) = some r := by rw [if_pos rfl] at H; exact H
                              clear H
                              have H := H1
                              clear H1
                              by_cases c53 : t223 = true
                              · subst c53
                                have H1 : (some false) = some r := by rw [if_pos rfl] at H; exact H
                                clear H
                                have H := H1
                                clear H1
                                obtain rfl := Option.some.inj H
                                have hnb54 := NB225_215.out
                                have hnc54 := NB215_225.out
                                have hcz55_0 : wc.cell? ⟨gb225, 0, none⟩ = some (.int .u32 t218) := (blk_cell BK225.out 0).trans rfl
                                have hcz55_1 : wc.cell? ⟨gb225, 1, none⟩ = some (.int .u32 t219) := (blk_cell BK225.out 1).trans rfl
                                have hcz55_2 : wc.cell? ⟨gb225, 2, none⟩ = some (.int .u32 t220) := (blk_cell BK225.out 2).trans rfl
                                have hcz55_3 : wc.cell? ⟨gb225, 3, none⟩ = some (.int .u32 t221) := (blk_cell BK225.out 3).trans rfl
                                have hcz55_4 : wc.cell? ⟨gb225, 4, none⟩ = some (.int .u32 t222) := (blk_cell BK225.out 4).trans rfl
                                have hcz55_5 : wc.cell? ⟨gb225, 5, none⟩ = some (.bool true) := (blk_cell BK225.out 5).trans rfl
                                have hfz55_0 := blk_frozen BK225.out 0
                                have hfz55_1 := blk_frozen BK225.out 1
                                have hfz55_2 := blk_frozen BK225.out 2
                                have hfz55_3 := blk_frozen BK225.out 3
                                have hfz55_4 := blk_frozen BK225.out 4
                                have hfz55_5 := blk_frozen BK225.out 5
                                have hcz56_0 : wc.cell? ⟨gb215, 0, none⟩ = some (.int .u32 x216000_1) := (blk_cell BK215.out 0).trans rfl
                                have hcz56_1 : wc.cell? ⟨gb215, 1, none⟩ = some (.int .u32 x216001_1) := (blk_cell BK215.out 1).trans rfl
                                have hcz56_2 : wc.cell? ⟨gb215, 2, none⟩ = some (.int .u32 x216002_1) := (blk_cell BK215.out 2).trans rfl
                                have hcz56_3 : wc.cell? ⟨gb215, 3, none⟩ = some (.int .u32 x216003_1) := (blk_cell BK215.out 3).trans rfl
                                have hcz56_4 : wc.cell? ⟨gb215, 4, none⟩ = some (.int .u32 x216004_1) := (blk_cell BK215.out 4).trans rfl
                                have hcz56_5 : wc.cell? ⟨gb215, 5, none⟩ = some (.bool x216005_1) := (blk_cell BK215.out 5).trans rfl
                                have hfz56_0 := blk_frozen BK215.out 0
                                have hfz56_1 := blk_frozen BK215.out 1
                                have hfz56_2 := blk_frozen BK215.out 2
                                have hfz56_3 := blk_frozen BK215.out 3
                                have hfz56_4 := blk_frozen BK215.out 4
                                have hfz56_5 := blk_frozen BK215.out 5
                                go_wp2
                                go_ret
                                exact ⟨by first | rfl | (simp [errW_none, errW_some] <;> rfl) | (simp [*, errW_none, errW_some] <;> rfl), by repeat (first | (with_reducible first | exact HB.out | apply below_alloc | apply pw_below_drewN | apply below_drew1 | refine below_set ?_ GE215.out | refine below_set ?_ GE225.out) | exact HB.out)⟩
                              · replace c53 := Bool.eq_false_iff.mpr c53
                                subst c53
                                have H1 : (nunciolaw16_SettingsRight.l0 kj15 true l1 (wrap64 (x6_1 + 1)) t218 t219 t220 t221 t222 false) = some r := by rw [if_neg (show ¬ (false = true) by decide)] at H; exact H
                                clear H
                                have H := H1
                                clear H1
                                have H' := Aside0.mk H
                                clear H
                                have hnb57 := NB225_215.out
                                have hnc57 := NB215_225.out
                                have hcz58_0 : wc.cell? ⟨gb225, 0, none⟩ = some (.int .u32 t218) := (blk_cell BK225.out 0).trans rfl
                                have hcz58_1 : wc.cell? ⟨gb225, 1, none⟩ = some (.int .u32 t219) := (blk_cell BK225.out 1).trans rfl
                                have hcz58_2 : wc.cell? ⟨gb225, 2, none⟩ = some (.int .u32 t220) := (blk_cell BK225.out 2).trans rfl
                                have hcz58_3 : wc.cell? ⟨gb225, 3, none⟩ = some (.int .u32 t221) := (blk_cell BK225.out 3).trans rfl
                                have hcz58_4 : wc.cell? ⟨gb225, 4, none⟩ = some (.int .u32 t222) := (blk_cell BK225.out 4).trans rfl
                                have hcz58_5 : wc.cell? ⟨gb225, 5, none⟩ = some (.bool false) := (blk_cell BK225.out 5).trans rfl
                                have hfz58_0 := blk_frozen BK225.out 0
                                have hfz58_1 := blk_frozen BK225.out 1
                                have hfz58_2 := blk_frozen BK225.out 2
                                have hfz58_3 := blk_frozen BK225.out 3
                                have hfz58_4 := blk_frozen BK225.out 4
                                have hfz58_5 := blk_frozen BK225.out 5
                                have hcz59_0 : wc.cell? ⟨gb215, 0, none⟩ = some (.int .u32 x216000_1) := (blk_cell BK215.out 0).trans rfl
                                have hcz59_1 : wc.cell? ⟨gb215, 1, none⟩ = some (.int .u32 x216001_1) := (blk_cell BK215.out 1).trans rfl
                                have hcz59_2 : wc.cell? ⟨gb215, 2, none⟩ = some (.int .u32 x216002_1) := (blk_cell BK215.out 2).trans rfl
                                have hcz59_3 : wc.cell? ⟨gb215, 3, none⟩ = some (.int .u32 x216003_1) := (blk_cell BK215.out 3).trans rfl
                                have hcz59_4 : wc.cell? ⟨gb215, 4, none⟩ = some (.int .u32 x216004_1) := (blk_cell BK215.out 4).trans rfl
                                have hcz59_5 : wc.cell? ⟨gb215, 5, none⟩ = some (.bool x216005_1) := (blk_cell BK215.out 5).trans rfl
                                have hfz59_0 := blk_frozen BK215.out 0
                                have hfz59_1 := blk_frozen BK215.out 1
                                have hfz59_2 := blk_frozen BK215.out 2
                                have hfz59_3 := blk_frozen BK215.out 3
                                have hfz59_4 := blk_frozen BK215.out 4
                                have hfz59_5 := blk_frozen BK215.out 5
                                go_wp2
                                go_roundg kj15
                                case measure => have := HK1.out; have := HJ15.out; omega
                                case rel => exact ⟨(wrap64 (x6_1 + 1)), (t218), (t219), (t220), (t221), (t222), (false), (by first | rfl | (simp; done) | (simp [*]; done)), H', ⟨by have := HK1.out; have := HJ15.out; omega⟩, ⟨by (with_reducible repeat (first | refine blk_drewN ?_ _ | refine blk_drew ?_ | refine blk_alloc ?_ _)); refine blk_put (cs := #[.int .u32 t218, .int .u32 t219, .int .u32 t220, .int .u32 t221, .int .u32 t222, .bool x216005_1]) ?_ 5 _ rfl; (with_reducible repeat (first | refine blk_drewN ?_ _ | refine blk_drew ?_ | refine blk_alloc ?_ _)); refine blk_put (cs := #[.int .u32 t218, .int .u32 t219, .int .u32 t220, .int .u32 t221, .int .u32 x216004_1, .bool x216005_1]) ?_ 4 _ rfl; (with_reducible repeat (first | refine blk_drewN ?_ _ | refine blk_drew ?_ | refine blk_alloc ?_ _)); refine blk_put (cs := #[.int .u32 t218, .int .u32 t219, .int .u32 t220, .int .u32 x216003_1, .int .u32 x216004_1, .bool x216005_1]) ?_ 3 _ rfl; (with_reducible repeat (first | refine blk_drewN ?_ _ | refine blk_drew ?_ | refine blk_alloc ?_ _)); refine blk_put (cs := #[.int .u32 t218, .int .u32 t219, .int .u32 x216002_1, .int .u32 x216003_1, .int .u32 x216004_1, .bool x216005_1]) ?_ 2 _ rfl; (with_reducible repeat (first | refine blk_drewN ?_ _ | refine blk_drew ?_ | refine blk_alloc ?_ _)); refine blk_put (cs := #[.int .u32 t218, .int .u32 x216001_1, .int .u32 x216002_1, .int .u32 x216003_1, .int .u32 x216004_1, .bool x216005_1]) ?_ 1 _ rfl; (with_reducible repeat (first | refine blk_drewN ?_ _ | refine blk_drew ?_ | refine blk_alloc ?_ _)); refine blk_put (cs := #[.int .u32 x216000_1, .int .u32 x216001_1, .int .u32 x216002_1, .int .u32 x216003_1, .int .u32 x216004_1, .bool x216005_1]) ?_ 0 _ rfl; (with_reducible repeat (first | refine blk_drewN ?_ _ | refine blk_drew ?_ | refine blk_alloc ?_ _)); exact BK215.out⟩, ⟨by repeat (first | (with_reducible first | exact HB.out | apply below_alloc | apply pw_below_drewN | apply below_drew1 | refine below_set ?_ GE215.out | refine below_set ?_ GE225.out) | exact HB.out)⟩⟩
                            · replace c52 := Bool.eq_false_iff.mpr c52
                              subst c52
                              have H1 : (nunciolaw16_SettingsRight.l0 kj15 false l1 (wrap64 (x6_1 + 1)) t218 t219 t220 t221 t222 t223) = some r := by rw [if_neg (show ¬ (false = true) by decide)] at H; exact H
                              clear H
                              have H := H1
                              clear H1
                              have H' := Aside0.mk H
                              clear H
                              have hnb60 := NB225_215.out
                              have hnc60 := NB215_225.out
                              have hcz61_0 : wc.cell? ⟨gb225, 0, none⟩ = some (.int .u32 t218) := (blk_cell BK225.out 0).trans rfl
                              have hcz61_1 : wc.cell? ⟨gb225, 1, none⟩ = some (.int .u32 t219) := (blk_cell BK225.out 1).trans rfl
                              have hcz61_2 : wc.cell? ⟨gb225, 2, none⟩ = some (.int .u32 t220) := (blk_cell BK225.out 2).trans rfl
                              have hcz61_3 : wc.cell? ⟨gb225, 3, none⟩ = some (.int .u32 t221) := (blk_cell BK225.out 3).trans rfl
                              have hcz61_4 : wc.cell? ⟨gb225, 4, none⟩ = some (.int .u32 t222) := (blk_cell BK225.out 4).trans rfl
                              have hcz61_5 : wc.cell? ⟨gb225, 5, none⟩ = some (.bool t223) := (blk_cell BK225.out 5).trans rfl
                              have hfz61_0 := blk_frozen BK225.out 0
                              have hfz61_1 := blk_frozen BK225.out 1
                              have hfz61_2 := blk_frozen BK225.out 2
                              have hfz61_3 := blk_frozen BK225.out 3
                              have hfz61_4 := blk_frozen BK225.out 4
                              have hfz61_5 := blk_frozen BK225.out 5
                              have hcz62_0 : wc.cell? ⟨gb215, 0, none⟩ = some (.int .u32 x216000_1) := (blk_cell BK215.out 0).trans rfl
                              have hcz62_1 : wc.cell? ⟨gb215, 1, none⟩ = some (.int .u32 x216001_1) := (blk_cell BK215.out 1).trans rfl
                              have hcz62_2 : wc.cell? ⟨gb215, 2, none⟩ = some (.int .u32 x216002_1) := (blk_cell BK215.out 2).trans rfl
                              have hcz62_3 : wc.cell? ⟨gb215, 3, none⟩ = some (.int .u32 x216003_1) := (blk_cell BK215.out 3).trans rfl
                              have hcz62_4 : wc.cell? ⟨gb215, 4, none⟩ = some (.int .u32 x216004_1) := (blk_cell BK215.out 4).trans rfl
                              have hcz62_5 : wc.cell? ⟨gb215, 5, none⟩ = some (.bool x216005_1) := (blk_cell BK215.out 5).trans rfl
                              have hfz62_0 := blk_frozen BK215.out 0
                              have hfz62_1 := blk_frozen BK215.out 1
                              have hfz62_2 := blk_frozen BK215.out 2
                              have hfz62_3 := blk_frozen BK215.out 3
                              have hfz62_4 := blk_frozen BK215.out 4
                              have hfz62_5 := blk_frozen BK215.out 5
                              go_wp2
                              go_roundg kj15
                              case measure => have := HK1.out; have := HJ15.out; omega
                              case rel => exact ⟨(wrap64 (x6_1 + 1)), (t218), (t219), (t220), (t221), (t222), (t223), (by first | rfl | (simp; done) | (simp [*]; done)), H', ⟨by have := HK1.out; have := HJ15.out; omega⟩, ⟨by (with_reducible repeat (first | refine blk_drewN ?_ _ | refine blk_drew ?_ | refine blk_alloc ?_ _)); refine blk_put (cs := #[.int .u32 t218, .int .u32 t219, .int .u32 t220, .int .u32 t221, .int .u32 t222, .bool x216005_1]) ?_ 5 _ rfl; (with_reducible repeat (first | refine blk_drewN ?_ _ | refine blk_drew ?_ | refine blk_alloc ?_ _)); refine blk_put (cs := #[.int .u32 t218, .int .u32 t219, .int .u32 t220, .int .u32 t221, .int .u32 x216004_1, .bool x216005_1]) ?_ 4 _ rfl; (with_reducible repeat (first | refine blk_drewN ?_ _ | refine blk_drew ?_ | refine blk_alloc ?_ _)); refine blk_put (cs := #[.int .u32 t218, .int .u32 t219, .int .u32 t220, .int .u32 x216003_1, .int .u32 x216004_1, .bool x216005_1]) ?_ 3 _ rfl; (with_reducible repeat (first | refine blk_drewN ?_ _ | refine blk_drew ?_ | refine blk_alloc ?_ _)); refine blk_put (cs := #[.int .u32 t218, .int .u32 t219, .int .u32 x216002_1, .int .u32 x216003_1, .int .u32 x216004_1, .bool x216005_1]) ?_ 2 _ rfl; (with_reducible repeat (first | refine blk_drewN ?_ _ | refine blk_drew ?_ | refine blk_alloc ?_ _)); refine blk_put (cs := #[.int .u32 t218, .int .u32 x216001_1, .int .u32 x216002_1, .int .u32 x216003_1, .int .u32 x216004_1, .bool x216005_1]) ?_ 1 _ rfl; (with_reducible repeat (first | refine blk_drewN ?_ _ | refine blk_drew ?_ | refine blk_alloc ?_ _)); refine blk_put (cs := #[.int .u32 x216000_1, .int .u32 x216001_1, .int .u32 x216002_1, .int .u32 x216003_1, .int .u32 x216004_1, .bool x216005_1]) ?_ 0 _ rfl; (with_reducible repeat (first | refine blk_drewN ?_ _ | refine blk_drew ?_ | refine blk_alloc ?_ _)); exact BK215.out⟩, ⟨by repeat (first | (with_reducible first | exact HB.out | apply below_alloc | apply pw_below_drewN | apply below_drew1 | refine below_set ?_ GE215.out | refine below_set ?_ GE225.out) | exact HB.out)⟩⟩
            · rw [if_neg c13] at H
              exact absurd H (by simp)
          · rw [if_neg c12] at H
            have c12b0 : decide (x6_1 < (l1.length : Int)) = false := decide_eq_false c12
            clear c12
            obtain rfl := Option.some.inj H
            go_wp2
            go_ret
            exact ⟨by first | rfl | (simp [errW_none, errW_some] <;> rfl) | (simp [*, errW_none, errW_some] <;> rfl), by repeat (first | (with_reducible first | exact HB.out | apply below_alloc | apply pw_below_drewN | apply below_drew1 | refine below_set ?_ GE215.out) | exact HB.out)⟩
  · replace c4 := Bool.eq_false_iff.mpr c4
    subst c4
    have H1 : (some false) = some r := by rw [if_neg (show ¬ (false = true) by decide)] at H; exact H
    clear H
    have H := H1
    clear H1
    obtain rfl := Option.some.inj H
    go_enter Try.func5, Try.ntmps5
    go_wp2_with (first | ((with_reducible refine gate_callee (f := 8) rfl ?_); refine goesL_ (some 9) rfl rfl Try.func8 (by kernel_rfl) rfl #[] rfl (by (try simp only [List.map_toArray, List.map_cons, List.map_nil]); first | done | rfl | (simp only [List.length_drop, List.length_take]; rfl)) ?_; (with_reducible refine (nunciolaw16_awake.calls k  false _ A3.out).mono ?_); rintro e w63 ⟨rfl, hb⟩; refine ⟨_, rfl, ?_⟩; have n0_ := Aside0.mk (below_step (by repeat (first | (with_reducible first | exact HB.out | apply below_alloc | apply pw_below_drewN | apply below_drew1) | exact HB.out)) hb); clear HB; have HB := n0_; clear n0_; (try clear hb); (try clear hb2); (try clear hk); (try clear hi)))
    go_ret
    exact ⟨by first | rfl | (simp [errW_none, errW_some] <;> rfl) | (simp [*, errW_none, errW_some] <;> rfl), by repeat (first | (with_reducible first | exact HB.out | apply below_alloc | apply pw_below_drewN | apply below_drew1) | exact HB.out)⟩

def k42_wf (x : S42) : Prop := ((Lit.int .u16 x.f0).wf = true) ∧ ((Lit.int .u32 x.f1).wf = true)
theorem k42_opens : Opens Try.prog 42 k42 k42_wf := by
  refine Opens.struct (P := Try.prog) (d := (Kd.pair (Kd.int .u16) (Kd.int .u32))) (wf := (fun x => ((Lit.int .u16 x.1).wf = true) ∧ (fun x => (Lit.int .u32 x).wf = true) x.2)) (f := fun x : S42 => (x.f0, x.f1)) (g := fun y => (⟨y.1, y.2⟩ : S42)) ?_ Try.underlying42 (by kernel_rfl) (fun _ => rfl)
  exact (OpensCells.cons (Opens.int Try.underlying40) (by kernel_rfl) (OpensCells.one (Opens.int Try.underlying24) (by kernel_rfl)) rfl)
/-- THE ONE PURE STATEMENT of nunciolaw16_SettingsRight: yours. -/
def nunciolaw16_SettingsRight.Pure : Prop := ∀ (a0 : Bool) (l1 : List (List (S42))), (l1.length ≤ 9223372036854775807 ∧ l1.length * 24 ≤ 140737488351232 ∧ ∀ x_ ∈ l1, x_.length ≤ 9223372036854775807 ∧ x_.length * 8 ≤ 140737488351232 ∧ ∀ x__ ∈ x_, k42_wf x__) → ∃ k, nunciolaw16_SettingsRight.f k a0 l1 = some true
theorem nunciolaw16_SettingsRight.walk (P : nunciolaw16_SettingsRight.Pure) (a0 : Bool) (A1 : Option Addr) (c1 : Nat) (l1 : List (List (S42))) (w : World) (hr1 : Kd.C (Kd.slice 42 k42) w A1 l1.length l1) (hc1 : l1.length ≤ c1) (w1 : l1.length ≤ 9223372036854775807 ∧ l1.length * 24 ≤ 140737488351232 ∧ ∀ x_ ∈ l1, x_.length ≤ 9223372036854775807 ∧ x_.length * 8 ≤ 140737488351232 ∧ ∀ x__ ∈ x_, k42_wf x__) :
    Calls Try.prog 5 #[.bool a0, .slice A1 l1.length c1] w fun e w' => e = .returned (.bool true) ∧ Below w.heap.size w w' := by
  obtain ⟨k, h⟩ := P a0 l1 w1
  refine (nunciolaw16_SettingsRight.calls k a0 _ _ l1 true w hr1 hc1 h).mono ?_
  rintro e w' ⟨rfl, hd⟩
  exact ⟨rfl, hd⟩

end Go.Proofs.Ytkcgenilgboimaa.Mine
