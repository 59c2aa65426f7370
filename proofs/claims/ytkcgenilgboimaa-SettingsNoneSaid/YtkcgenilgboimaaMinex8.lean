-- Written by this repo's own printer (wip/print), which builds on the kit's.
import Derived.Test.YtkcgenilgboimaaMinex0
import Derived.Test.YtkcgenilgboimaaMinex1
import Derived.Test.YtkcgenilgboimaaMinex4
import Derived.Test.YtkcgenilgboimaaMinex6
import Derived.Test.YtkcgenilgboimaaMinex7
namespace Go.Proofs.Ytkcgenilgboimaa.Mine
open Go.RowKit Go.Proofs.YtkcgenilgboimaaW.PrintWords Go.Proofs.YtkcgenilgboimaaW.PrintLast Go.Proofs.YtkcgenilgboimaaW.PrintMore
attribute [local go_sem] max2_int min2_int max_two min_two max_three min_three max_four min_four   -- for this text's walks alone
set_option linter.unusedVariables false
set_option linter.unusedSimpArgs false

attribute [local go_sem high] eqA26
/-! ### nunciolaw16_SettingsNone: function 6 -/
mutual
def nunciolaw16_SettingsNone.j0 : Nat → Bool → List (S42) → Int → Int → Bool → Option (Bool)
  | 0, _, _, _, _, _ => none
  | k + 1, x0, x1, x2, x3, x27 => if x27 = true then (some true) else (nunciolaw16_SettingsNone.l0 k x0 x1 x2 x3 ([] : List (S42)) 0)
def nunciolaw16_SettingsNone.l0 : Nat → Bool → List (S42) → Int → Int → List (S42) → Int → Option (Bool)
  | 0, _, _, _, _, _, _ => none
  | k + 1, x0, x1, x2, x3, x9, x10 => if x10 < (x1.length : Int) then (if 0 ≤ x10 then ((some (([(⟨x2, x3⟩ : S42), (⟨(rd_T42 x1 x10).f0, (rd_T42 x1 x10).f1⟩ : S42)] : List (S42)) : List (S42))).bind fun y228 => (if x9.length + y228.length < 17592186044416 then (nunciolaw16_SettingsNone.l0 k x0 x1 x2 x3 (x9 ++ y228) (wrap64 (x10 + 1))) else (none))) else (none)) else (if x9.length < 17592186044416 then ((settings_Defaults.f).bind fun bt237 => ((settings_Apply.f k bt237.1 bt237.2.1 bt237.2.2.1 bt237.2.2.2.1 bt237.2.2.2.2.1 bt237.2.2.2.2.2 x0 x1).bind fun bt243 => ((settings_Defaults.f).bind fun bt251 => ((settings_Apply.f k bt251.1 bt251.2.1 bt251.2.2.1 bt251.2.2.2.1 bt251.2.2.2.2.1 bt251.2.2.2.2.2 x0 (x9 ++ [(⟨x2, x3⟩ : S42)])).bind fun bt257 => (if (bt243.1 == bt257.1 && (bt243.2.1 == bt257.2.1 && (bt243.2.2.1 == bt257.2.2.1 && (bt243.2.2.2.1 == bt257.2.2.2.1 && (bt243.2.2.2.2.1 == bt257.2.2.2.2.1 && (bt243.2.2.2.2.2.1 == bt257.2.2.2.2.2.1)))))) = true then (some (bt243.2.2.2.2.2.2 == bt257.2.2.2.2.2.2)) else (some false)))))) else (none))
end
def nunciolaw16_SettingsNone.f (k : Nat) (a0 : Bool) (l1 : List (S42)) (a2 : Int) (a3 : Int) : Option (Bool) := (nunciolaw16_awake.f k).bind fun t226 => (if t226 = true then (if (l1.length : Int) > 500 then (nunciolaw16_SettingsNone.j0 k a0 l1 a2 a3 true) else (if a2 ≥ 1 then (nunciolaw16_SettingsNone.j0 k a0 l1 a2 a3 (decide (a2 ≤ 6))) else (nunciolaw16_SettingsNone.j0 k a0 l1 a2 a3 false))) else (some false))
theorem nunciolaw16_SettingsNone.mono_l : ∀ k, (∀ y0 y1 y2 y3 y4, LeO (nunciolaw16_SettingsNone.j0 k y0 y1 y2 y3 y4) (nunciolaw16_SettingsNone.j0 (k + 1) y0 y1 y2 y3 y4)) ∧ (∀ y0 y1 y2 y3 y4 y5, LeO (nunciolaw16_SettingsNone.l0 k y0 y1 y2 y3 y4 y5) (nunciolaw16_SettingsNone.l0 (k + 1) y0 y1 y2 y3 y4 y5))
  | 0 => ⟨fun _ _ _ _ _ r h => by simp [nunciolaw16_SettingsNone.j0] at h, fun _ _ _ _ _ _ r h => by simp [nunciolaw16_SettingsNone.l0] at h⟩
  | k + 1 => by
    obtain ⟨ih0, ih1⟩ := nunciolaw16_SettingsNone.mono_l k
    refine ⟨?_, ?_⟩
    · intro y0 y1 y2 y3 y4
      unfold nunciolaw16_SettingsNone.j0
      repeat' first
      | (with_reducible exact ih0 _ _ _ _ _)
      | (with_reducible exact ih1 _ _ _ _ _ _)
      | (with_reducible exact nunciolaw16_awake.mono _)
      | (with_reducible exact settings_Apply.mono _ _ _ _ _ _ _ _ _)
      | (with_reducible exact LeO.refl _)
      | (with_reducible exact LeO.none _)
      | (with_reducible refine LeO.ite ?_ ?_)
      | (with_reducible refine LeO.bind ?_ (fun _ => ?_))
      | exact ih0 _ _ _ _ _
      | exact ih1 _ _ _ _ _ _
      | exact nunciolaw16_awake.mono _
      | exact settings_Apply.mono _ _ _ _ _ _ _ _ _
      | exact LeO.none _
      | refine LeO.ite ?_ ?_
      | refine LeO.bind ?_ (fun _ => ?_)
    · intro y0 y1 y2 y3 y4 y5
      unfold nunciolaw16_SettingsNone.l0
      repeat' first
      | (with_reducible exact ih0 _ _ _ _ _)
      | (with_reducible exact ih1 _ _ _ _ _ _)
      | (with_reducible exact nunciolaw16_awake.mono _)
      | (with_reducible exact settings_Apply.mono _ _ _ _ _ _ _ _ _)
      | (with_reducible exact LeO.refl _)
      | (with_reducible exact LeO.none _)
      | (with_reducible refine LeO.ite ?_ ?_)
      | (with_reducible refine LeO.bind ?_ (fun _ => ?_))
      | exact ih0 _ _ _ _ _
      | exact ih1 _ _ _ _ _ _
      | exact nunciolaw16_awake.mono _
      | exact settings_Apply.mono _ _ _ _ _ _ _ _ _
      | exact LeO.none _
      | refine LeO.ite ?_ ?_
      | refine LeO.bind ?_ (fun _ => ?_)
theorem nunciolaw16_SettingsNone.mono : ∀ a0 a1 a2 a3 k, LeO (nunciolaw16_SettingsNone.f k a0 a1 a2 a3) (nunciolaw16_SettingsNone.f (k + 1) a0 a1 a2 a3) := by
  intro a0 a1 a2 a3 k
  obtain ⟨ih0, ih1⟩ := nunciolaw16_SettingsNone.mono_l k
  unfold nunciolaw16_SettingsNone.f
  repeat' first
      | (with_reducible exact ih0 _ _ _ _ _)
      | (with_reducible exact ih1 _ _ _ _ _ _)
      | (with_reducible exact nunciolaw16_awake.mono _)
      | (with_reducible exact settings_Apply.mono _ _ _ _ _ _ _ _ _)
      | (with_reducible exact LeO.refl _)
      | (with_reducible exact LeO.none _)
      | (with_reducible refine LeO.ite ?_ ?_)
      | (with_reducible refine LeO.bind ?_ (fun _ => ?_))
      | exact ih0 _ _ _ _ _
      | exact ih1 _ _ _ _ _ _
      | exact nunciolaw16_awake.mono _
      | exact settings_Apply.mono _ _ _ _ _ _ _ _ _
      | exact LeO.none _
      | refine LeO.ite ?_ ?_
      | refine LeO.bind ?_ (fun _ => ?_)
set_option maxHeartbeats 8000000 in
set_option maxRecDepth 100000 in
theorem nunciolaw16_SettingsNone.calls (k : Nat) (a0 : Bool) (A1 : Option Addr) (c1 : Nat) (l1 : List (S42)) (a2 : Int) (a3 : Int) (r : Bool) (w : World) (hr1 : Kd.C k42 w A1 l1.length l1) (hc1 : l1.length ≤ c1) (h : nunciolaw16_SettingsNone.f k a0 l1 a2 a3 = some r) :
    Calls Try.prog 6 #[.bool a0, .slice A1 l1.length c1, .int .u16 a2, .int .u32 a3] w fun e w' => e = .returned (.bool r) ∧ Below w.heap.size w w' := by
  have hu42 := Try.underlying42
  have hu26 := Try.underlying26
  have HR1 := Aside0.mk hr1
  have HC1 := Aside0.mk hc1
  clear hr1 hc1
  have HB := Aside0.mk (Below.refl w.heap.size w)
  have H : ((nunciolaw16_awake.f k).bind fun t226 => (if t226 = true then (if (l1.length : Int) > 500 then (nunciolaw16_SettingsNone.j0 k a0 l1 a2 a3 true) else (if a2 ≥ 1 then (nunciolaw16_SettingsNone.j0 k a0 l1 a2 a3 (decide (a2 ≤ 6))) else (nunciolaw16_SettingsNone.j0 k a0 l1 a2 a3 false))) else (some false))) = some r := h
  clear h
  replace H := Option.bind_eq_some_iff.mp H
  obtain ⟨t226, A50, H⟩ := H
  replace H : (if t226 = true then (if (l1.length : Int) > 500 then (nunciolaw16_SettingsNone.j0 k a0 l1 a2 a3 true) else (if a2 ≥ 1 then (nunciolaw16_SettingsNone.j0 k a0 l1 a2 a3 (decide (a2 ≤ 6))) else (nunciolaw16_SettingsNone.j0 k a0 l1 a2 a3 false))) else (some false)) = some r := H
  have A5 := Aside0.mk A50
  clear A50
  by_cases c6 : t226 = true
  · subst c6
    have H1 : (if (l1.length : Int) > 500 then (nunciolaw16_SettingsNone.j0 k a0 l1 a2 a3 true) else (if a2 ≥ 1 then (nunciolaw16_SettingsNone.j0 k a0 l1 a2 a3 (decide (a2 ≤ 6))) else (nunciolaw16_SettingsNone.j0 k a0 l1 a2 a3 false))) = some r := by rw [if_pos rfl] at H; exact H
    clear H
    have H := H1
    clear H1
    have HC7 := Aside0.mk H
    clear H
    go_enter Try.func6, Try.ntmps6
    go_upto_region 3 with (first | ((with_reducible refine gate_callee (f := 8) rfl ?_); refine goesL_ (some 15) rfl rfl Try.func8 (by kernel_rfl) rfl #[] rfl (by (try simp only [List.map_toArray, List.map_cons, List.map_nil]); first | done | rfl | (simp only [List.length_drop, List.length_take]; rfl)) ?_; (with_reducible refine (nunciolaw16_awake.calls k  true _ A5.out).mono ?_); rintro e w8 ⟨rfl, hb⟩; refine ⟨_, rfl, ?_⟩; have n0_ := Aside0.mk (below_step (by repeat (first | (with_reducible first | exact HB.out | apply below_alloc | apply pw_below_drewN | apply below_drew1) | exact HB.out)) hb); clear HB; have HB := n0_; clear n0_; (try clear hb); (try clear hb2); (try clear hk); (try clear hi)))
    (try simp only [Act.put, List.setIfInBounds_toArray, List.set_cons_zero, List.set_cons_succ])
    go_cut [27] (fun v27 wc => ∃ (kq : Nat) (x27_6 : Bool), v27 = .bool x27_6 ∧ Aside0 (nunciolaw16_SettingsNone.j0 kq a0 l1 a2 a3 x27_6 = some r) ∧ Aside0 (kq ≤ k) ∧ Aside0 (Below w.heap.size w wc))
    case first =>
      have H := HC7.out
      clear HC7
      by_cases c9 : (l1.length : Int) > 500
      · rw [if_pos c9] at H
        have c9b0 : decide (500 < (l1.length : Int)) = true := decide_eq_true c9
        have c9b1 : decide (500 < l1.length) = true := decide_eq_true (by omega)
        clear c9
        (first | rw [c9b0] | (simp only [i64_w, i32_w]; rw [c9b0]) | skip)
        have H' := Aside0.mk H
        clear H
        go_wp2
        go_meet
        case rel => exact ⟨_, (true), (by first | rfl | (simp; done) | (simp [*]; done)), H', ⟨by first | omega | exact Nat.le_refl _⟩, ⟨by repeat (first | (with_reducible first | exact HB.out | apply below_alloc | apply pw_below_drewN | apply below_drew1) | exact HB.out)⟩⟩
      · rw [if_neg c9] at H
        have c9b0 : decide (500 < (l1.length : Int)) = false := decide_eq_false c9
        have c9b1 : decide (500 < l1.length) = false := decide_eq_false (by omega)
        clear c9
        (first | rw [c9b0] | (simp only [i64_w, i32_w]; rw [c9b0]) | skip)
        by_cases c10 : a2 ≥ 1
        · rw [if_pos c10] at H
          have c10b0 : decide (1 ≤ a2) = true := decide_eq_true c10
          clear c10
          have H' := Aside0.mk H
          clear H
          go_wp2
          go_meet
          case rel => exact ⟨_, (decide (a2 ≤ 6)), (by first | rfl | (simp; done) | (simp [*]; done)), H', ⟨by first | omega | exact Nat.le_refl _⟩, ⟨by repeat (first | (with_reducible first | exact HB.out | apply below_alloc | apply pw_below_drewN | apply below_drew1) | exact HB.out)⟩⟩
        · rw [if_neg c10] at H
          have c10b0 : decide (1 ≤ a2) = false := decide_eq_false c10
          clear c10
          have H' := Aside0.mk H
          clear H
          go_wp2
          go_meet
          case rel => exact ⟨_, (false), (by first | rfl | (simp; done) | (simp [*]; done)), H', ⟨by first | omega | exact Nat.le_refl _⟩, ⟨by repeat (first | (with_reducible first | exact HB.out | apply below_alloc | apply pw_below_drewN | apply below_drew1) | exact HB.out)⟩⟩
    case rest =>
      clear HC7
      try clear c1
      try clear p2
      try clear c6
      try clear c8
      try clear c9
      try clear c9b0
      try clear c9b1
      try clear c10
      try clear c10b0
      obtain ⟨kq, x27_6, rfl, HA, HJ6, HB⟩ := hcut
      cases kq with
      | zero => exact absurd HA.out (by simp [nunciolaw16_SettingsNone.j0])
      | succ kj6 =>
        have H := HA.out
        clear HA
        simp only [nunciolaw16_SettingsNone.j0] at H
        by_cases c11 : x27_6 = true
        · subst c11
          have H1 : (some true) = some r := by rw [if_pos rfl] at H; exact H
          clear H
          have H := H1
          clear H1
          obtain rfl := Option.some.inj H
          go_wp2
          go_ret
          exact ⟨by first | rfl | (simp [errW_none, errW_some] <;> rfl) | (simp [*, errW_none, errW_some] <;> rfl), by repeat (first | (with_reducible first | exact HB.out | apply below_alloc | apply pw_below_drewN | apply below_drew1) | exact HB.out)⟩
        · replace c11 := Bool.eq_false_iff.mpr c11
          subst c11
          have H1 : (nunciolaw16_SettingsNone.l0 kj6 a0 l1 a2 a3 ([] : List (S42)) 0) = some r := by rw [if_neg (show ¬ (false = true) by decide)] at H; exact H
          clear H
          have H := H1
          clear H1
          have H' := Aside0.mk H
          clear H
          go_wp2
          go_loopg [9, 10] kj6 (fun kq v9 v10 w' => ∃ (x9_2 : List (S42)) (x10_2 : Int), v10 = .int .i64 x10_2 ∧ Aside0 (nunciolaw16_SettingsNone.l0 kq a0 l1 a2 a3 x9_2 x10_2 = some r) ∧ Aside0 (kq ≤ kj6) ∧ Aside0 (Kd.R k42 42 w' w.heap.size (fun _ => True) v9 x9_2) ∧ Aside0 (Below w.heap.size w w'))
          case atStart => exact ⟨(([] : List (S42))), (0), (by first | rfl | (simp; done) | (simp [*]; done)), H', ⟨Nat.le_refl _⟩, ⟨by first | exact Kd.R_nil _ _ _ _ _ | exact Kd.N_nil _ _ _ _ _ | exact Kd.V_nil _ _ _ _ _ | exact Kd.Q_nil _ _ _ _ _ | exact Kd.S_nil _ _ _ _ _⟩, ⟨by repeat (first | (with_reducible first | exact HB.out | apply below_alloc | apply pw_below_drewN | apply below_drew1) | exact HB.out)⟩⟩
          case round =>
            clear H'
            try clear c1
            try clear p2
            try clear c6
            try clear c8
            try clear c9
            try clear c9b0
            try clear c9b1
            try clear c10
            try clear c10b0
            try clear c11
            try clear p2
            obtain ⟨x9_2, x10_2, rfl, HA, HK2, HO_9, HB⟩ := hrel
            cases gk with
            | zero => exact absurd HA.out (by simp [nunciolaw16_SettingsNone.l0])
            | succ k2 =>
              have H := HA.out
              clear HA
              simp only [nunciolaw16_SettingsNone.l0] at H
              by_cases c12 : x10_2 < (l1.length : Int)
              · rw [if_pos c12] at H
                have c12b0 : decide (x10_2 < (l1.length : Int)) = true := decide_eq_true c12
                clear c12
                by_cases c13 : 0 ≤ x10_2
                · rw [if_pos c13] at H
                  have c13b0 : decide (0 ≤ x10_2) = true := decide_eq_true c13
                  clear c13
                  obtain ⟨y228, hy228⟩ : ∃ y_ : List (S42), y_ = (([(⟨a2, a3⟩ : S42), (⟨(rd_T42 l1 x10_2).f0, (rd_T42 l1 x10_2).f1⟩ : S42)] : List (S42))) := ⟨_, rfl⟩
                  replace H : (if x9_2.length + y228.length < 17592186044416 then (nunciolaw16_SettingsNone.l0 k2 a0 l1 a2 a3 (x9_2 ++ y228) (wrap64 (x10_2 + 1))) else (none)) = some r := by first | (rw [hy228]; with_reducible exact H) | (have H2_ := (Option.bind_some _ _).symm.trans H; rw [hy228]; with_reducible exact H2_) | (have H2_ := (Option.bind_some _ _).symm.trans H; with_reducible exact H2_) | with_reducible exact H | (rw [hy228]; exact H) | exact H
                  have Ny228 := Aside0.mk hy228
                  clear hy228
                  by_cases c14 : x9_2.length + y228.length < 17592186044416
                  · rw [if_pos c14] at H
                    have LMc14 := Aside0.mk c14
                    clear c14
                    obtain ⟨y231, hy231⟩ : ∃ y_ : List (S42), y_ = (x9_2 ++ y228) := ⟨_, rfl⟩
                    replace H : (nunciolaw16_SettingsNone.l0 k2 a0 l1 a2 a3 y231 (wrap64 (x10_2 + 1))) = some r := by first | (rw [hy231]; with_reducible exact H) | (have H2_ := (Option.bind_some _ _).symm.trans H; rw [hy231]; with_reducible exact H2_) | (have H2_ := (Option.bind_some _ _).symm.trans H; with_reducible exact H2_) | with_reducible exact H | (rw [hy231]; exact H) | exact H
                    have Ny231 := Aside0.mk hy231
                    clear hy231
                    have H' := Aside0.mk H
                    clear H
                    have p227 : 0 ≤ (x10_2 : Int) := of_decide_eq_true (by first | (with_reducible assumption) | assumption)
                    have q227 : x10_2 < (l1.length : Int) := of_decide_eq_true (by first | (with_reducible assumption) | assumption)
                    obtain ⟨ad227, e227, hx227_0, hx227_1⟩ := at_T42 HR1.out x10_2 p227 q227
                    cases e227
                    replace hx227_0 := (HB.out.cell (World.block_lt_of_cell? w _ hx227_0)).trans hx227_0
                    replace hx227_1 := (HB.out.cell (World.block_lt_of_cell? w _ hx227_1)).trans hx227_1
                    replace p227 := eq_true p227
                    replace q227 := eq_true q227
                    go_wp2_with (first | ((with_reducible refine gate_dst (N := 42) rfl ?_); refine Kd.R_lit k42 _ 42 ?hg (N := 42) ?hd (xs := ([(⟨a2, a3⟩ : S42), (⟨(rd_T42 l1 x10_2).f0, (rd_T42 l1 x10_2).f1⟩ : S42)] : List (S42))) (inner := [.int .u16 a2, .int .u32 a3, .int .u16 ((rd_T42 l1 x10_2).f0), .int .u32 ((rd_T42 l1 x10_2).f1)]) (ok := fun _ => True) (okp := fun _ => True) ?hr ?hp (fun _ hk => hk) trivial (Below.refl _ _) (Nat.le_refl _) (by simp) ?_; (case hd => rfl); (case hg => rfl); (case hr => first | (go_simp; done) | (go_simp; rfl)); (case hp => exact (Reps.c2 (show Kd.M k42 _ _ _ (⟨a2, a3⟩ : S42) [.int .u16 a2, .int .u32 a3] from (k42_mkM _ _ _ (⟨a2, a3⟩ : S42) )) (Reps.c2 (show Kd.M k42 _ _ _ (⟨(rd_T42 l1 x10_2).f0, (rd_T42 l1 x10_2).f1⟩ : S42) [.int .u16 ((rd_T42 l1 x10_2).f0), .int .u32 ((rd_T42 l1 x10_2).f1)] from (k42_mkM _ _ _ (⟨(rd_T42 l1 x10_2).f0, (rd_T42 l1 x10_2).f1⟩ : S42) )) (Reps.none _ _)))); intro v229 w15 ho16 hb hg_ hnew_; clear hg_ hnew_; (first | rw [← Ny228.out] at ho16 | (simp only [Int.reduceToNat] at ho16; rw [← Ny228.out] at ho16)); have n0_ := Aside0.mk (Kd.R_elder' (by (with_reducible repeat (first | apply Kd.R_alloc | apply Kd.R_drewN | apply Kd.R_drew)); exact HO_9.out) (Kd.R_base ho16) hb); have n1_ := Aside0.mk (Kd.R_lower (Kd.R_new' ho16 (Kd.R_lt (by (with_reducible repeat (first | apply Kd.R_alloc | apply Kd.R_drewN | apply Kd.R_drew)); exact HO_9.out))) (below_size (by repeat (first | (with_reducible first | exact HB.out | apply below_alloc | apply pw_below_drewN | apply below_drew1) | exact HB.out)))); have n2_ := Aside0.mk (below_step (by repeat (first | (with_reducible first | exact HB.out | apply below_alloc | apply pw_below_drewN | apply below_drew1) | exact HB.out)) hb); clear HO_9; clear HB; have HO_9 := n0_; have HO230 := n1_; have HB := n2_; clear n0_ n1_ n2_; clear hb ho16; obtain ⟨Ao18, co18, eo18⟩ := Kd.R_slice HO230.out; subst eo18) | ((with_reducible refine gate_builtin (b := .append) (xs := #[.tmp 34, .tmp 42]) rfl ?_); at_builtin; refine Kd.R_append_rows k42 (w0 := w) w.heap.size rfl (.tmp 34) (.tmp 42) 22 42 (.agg #[(.int .u16 0), (.int .u32 0)]) 8 rfl Try.underlying22 info42 rfl (by decide) (by omega) u9 x9_2 y228 _ _ _ (fun k_ => some k_ ≠ (.slice Ao18 y228.length co18 : Value).ownBlock) (fun _ => False) rfl rfl ?aO ?aR (fun _ _ h => h) (fun _ h => h.elim) ?aF ?aB ?aS ?aL ?_; (case aR => repeat (first | exact (Kd.R_reads' HO230.out).2.2 | (with_reducible refine Kd.C_alloc ?_ _) | (with_reducible refine Kd.C_drewN ?_ _) | (with_reducible refine Kd.C_drew ?_))); (case aB => exact (by repeat (first | (with_reducible first | exact HB.out | apply below_alloc | apply pw_below_drewN | apply below_drew1) | exact HB.out))); (case aF => exact (fun k_ hk => Kd.fresh' (Kd.R_lt (by (with_reducible repeat (first | apply Kd.R_alloc | apply Kd.R_drewN | apply Kd.R_drew)); exact HO230.out)) k_ hk)); (case aO => exact (by (with_reducible repeat (first | apply Kd.R_alloc | apply Kd.R_drewN | apply Kd.R_drew)); exact Kd.R_mono HO_9.out (fun _ hk => hk.2))); (case aS => exact (below_size (by repeat (first | (with_reducible first | exact HB.out | apply below_alloc | apply pw_below_drewN | apply below_drew1) | exact HB.out)))); (case aL => have := LMc14.out; omega); intro v232 w17 ho hb hg hat; rw [← Ny231.out] at ho; have n0_ := Aside0.mk (Kd.R_after (ok := (fun _ => True)) (by (with_reducible repeat (first | apply Kd.R_alloc | apply Kd.R_drewN | apply Kd.R_drew)); exact HO230.out) hg hat); have n1_ := Aside0.mk (hb); have n2_ := Aside0.mk (ho); clear HO230; clear HB; clear HO_9; have HO230 := n0_; have HB := n1_; have HO233 := n2_; clear n0_ n1_ n2_; clear ho hb hg hat))
                    go_roundg k2
                    case measure => have := HJ6.out; have := HK2.out; omega
                    case rel => exact ⟨(y231), (wrap64 (x10_2 + 1)), (by first | rfl | (simp; done) | (simp [*]; done)), H', ⟨by have := HJ6.out; have := HK2.out; omega⟩, ⟨by (with_reducible repeat (first | apply Kd.R_alloc | apply Kd.R_drewN | apply Kd.R_drew)); exact Kd.R_mono HO233.out (fun _ hk => trivial)⟩, ⟨by repeat (first | (with_reducible first | exact HB.out | apply below_alloc | apply pw_below_drewN | apply below_drew1) | exact HB.out)⟩⟩
                  · rw [if_neg c14] at H
                    exact absurd H (by simp)
                · rw [if_neg c13] at H
                  exact absurd H (by simp)
              · rw [if_neg c12] at H
                have c12b0 : decide (x10_2 < (l1.length : Int)) = false := decide_eq_false c12
                clear c12
                by_cases c19 : x9_2.length < 17592186044416
                · rw [if_pos c19] at H
                  have LMc19 := Aside0.mk c19
                  clear c19
                  obtain ⟨y234, hy234⟩ : ∃ y_ : List (S42), y_ = (x9_2 ++ [(⟨a2, a3⟩ : S42)]) := ⟨_, rfl⟩
                  replace H : ((settings_Defaults.f).bind fun bt237 => ((settings_Apply.f k2 bt237.1 bt237.2.1 bt237.2.2.1 bt237.2.2.2.1 bt237.2.2.2.2.1 bt237.2.2.2.2.2 a0 l1).bind fun bt243 => ((settings_Defaults.f).bind fun bt251 => ((settings_Apply.f k2 bt251.1 bt251.2.1 bt251.2.2.1 bt251.2.2.2.1 bt251.2.2.2.2.1 bt251.2.2.2.2.2 a0 y234).bind fun bt257 => (if (bt243.1 == bt257.1 && (bt243.2.1 == bt257.2.1 && (bt243.2.2.1 == bt257.2.2.1 && (bt243.2.2.2.1 == bt257.2.2.2.1 && (bt243.2.2.2.2.1 == bt257.2.2.2.2.1 && (bt243.2.2.2.2.2.1 == bt257.2.2.2.2.2.1)))))) = true then (some (bt243.2.2.2.2.2.2 == bt257.2.2.2.2.2.2)) else (some false)))))) = some r := by first | (rw [hy234]; with_reducible exact H) | (have H2_ := (Option.bind_some _ _).symm.trans H; rw [hy234]; with_reducible exact H2_) | (have H2_ := (Option.bind_some _ _).symm.trans H; with_reducible exact H2_) | with_reducible exact H | (rw [hy234]; exact H) | exact H
                  have Ny234 := Aside0.mk hy234
                  clear hy234
                  replace H := Option.bind_eq_some_iff.mp H
                  obtain ⟨⟨t237, t238, t239, t240, t241, t242⟩, A200, H⟩ := H
                  replace H : ((settings_Apply.f k2 t237 t238 t239 t240 t241 t242 a0 l1).bind fun bt243 => ((settings_Defaults.f).bind fun bt251 => ((settings_Apply.f k2 bt251.1 bt251.2.1 bt251.2.2.1 bt251.2.2.2.1 bt251.2.2.2.2.1 bt251.2.2.2.2.2 a0 y234).bind fun bt257 => (if (bt243.1 == bt257.1 && (bt243.2.1 == bt257.2.1 && (bt243.2.2.1 == bt257.2.2.1 && (bt243.2.2.2.1 == bt257.2.2.2.1 && (bt243.2.2.2.2.1 == bt257.2.2.2.2.1 && (bt243.2.2.2.2.2.1 == bt257.2.2.2.2.2.1)))))) = true then (some (bt243.2.2.2.2.2.2 == bt257.2.2.2.2.2.2)) else (some false))))) = some r := H
                  have A20 := Aside0.mk A200
                  clear A200
                  replace H := Option.bind_eq_some_iff.mp H
                  obtain ⟨⟨t243, t244, t245, t246, t247, t248, t249⟩, A210, H⟩ := H
                  replace H : ((settings_Defaults.f).bind fun bt251 => ((settings_Apply.f k2 bt251.1 bt251.2.1 bt251.2.2.1 bt251.2.2.2.1 bt251.2.2.2.2.1 bt251.2.2.2.2.2 a0 y234).bind fun bt257 => (if (t243 == bt257.1 && (t244 == bt257.2.1 && (t245 == bt257.2.2.1 && (t246 == bt257.2.2.2.1 && (t247 == bt257.2.2.2.2.1 && (t248 == bt257.2.2.2.2.2.1)))))) = true then (some (t249 == bt257.2.2.2.2.2.2)) else (some false)))) = some r := H
                  have A21 := Aside0.mk A210
                  clear A210
                  replace H := Option.bind_eq_some_iff.mp H
                  obtain ⟨⟨t251, t252, t253, t254, t255, t256⟩, A220, H⟩ := H
                  replace H : ((settings_Apply.f k2 t251 t252 t253 t254 t255 t256 a0 y234).bind fun bt257 => (if (t243 == bt257.1 && (t244 == bt257.2.1 && (t245 == bt257.2.2.1 && (t246 == bt257.2.2.2.1 && (t247 == bt257.2.2.2.2.1 && (t248 == bt257.2.2.2.2.2.1)))))) = true then (some (t249 == bt257.2.2.2.2.2.2)) else (some false))) = some r := H
                  have A22 := Aside0.mk A220
                  clear A220
                  replace H := Option.bind_eq_some_iff.mp H
                  obtain ⟨⟨t257, t258, t259, t260, t261, t262, t263⟩, A230, H⟩ := H
                  replace H : (if (t243 == t257 && (t244 == t258 && (t245 == t259 && (t246 == t260 && (t247 == t261 && (t248 == t262)))))) = true then (some (t249 == t263)) else (some false)) = some r := H
                  have A23 := Aside0.mk A230
                  clear A230
                  by_cases c24 : (t243 == t257 && (t244 == t258 && (t245 == t259 && (t246 == t260 && (t247 == t261 && (t248 == t262)))))) = true
                  · rw [if_pos c24] at H
                    have c24b0 : (t243 == t257 && (t244 == t258 && (t245 == t259 && (t246 == t260 && (t247 == t261 && (t248 == t262)))))) = true := c24
                    (try (have c24b1 : decide (t243 = t257 && (t244 == t258 && (t245 == t259 && (t246 == t260 && (t247 == t261 && (t248 == t262)))))) = true := by simpa using c24))
                    (try (have c24b2 : (t243 == t257 && (t244 == t258 && (t245 == t259 && (t246 == t260 && (t247 == t261 && (t248 == t262)))))) = true := by simpa using c24))
                    clear c24
                    (try (have c24b9 := c24b0; simp only [beq_true, beq_false] at c24b9))
                    obtain rfl := Option.some.inj H
                    go_wp2_with (first | ((with_reducible refine gate_builtin (b := .append) (xs := #[.tmp 44, .tmp 48]) rfl ?_); at_builtin; refine Kd.R_append k42 (w0 := w) w.heap.size rfl (.tmp 44) (.tmp 48) 22 42 (.agg #[(.int .u16 0), (.int .u32 0)]) 8 rfl Try.underlying22 info42 rfl (by decide) (by omega) u9 x9_2 (⟨a2, a3⟩ : S42) [.int .u16 a2, .int .u32 a3] (fun _ => True) (fun _ => False) rfl rfl ?aP (fun _ hk => hk.elim) ?aF ?aO ?aB ?aS ?aL ?_; (case aP => exact k42_mkM _ _ _ (⟨a2, a3⟩ : S42)); (case aB => exact (by repeat (first | (with_reducible first | exact HB.out | apply below_alloc | apply pw_below_drewN | apply below_drew1) | exact HB.out))); (case aF => exact (fun _ _ => trivial)); (case aO => exact (by (with_reducible repeat (first | apply Kd.R_alloc | apply Kd.R_drewN | apply Kd.R_drew)); exact HO_9.out)); (case aS => exact (below_size (by repeat (first | (with_reducible first | exact HB.out | apply below_alloc | apply pw_below_drewN | apply below_drew1) | exact HB.out)))); (case aL => have := LMc19.out; omega); intro v235 w25 ho hb hg hat; rw [← Ny234.out] at ho; have n0_ := Aside0.mk (hb); have n1_ := Aside0.mk (ho); clear HB; clear HO_9; have HB := n0_; have HO236 := n1_; clear n0_ n1_; clear ho hb hg hat) | ((with_reducible refine gate_callee (f := 10) rfl ?_); refine goesL_ (some 51) rfl rfl Try.func10 (by kernel_rfl) rfl #[] rfl (by (try simp only [List.map_toArray, List.map_cons, List.map_nil]); first | done | rfl | (simp only [List.length_drop, List.length_take]; rfl)) ?_; (with_reducible refine (settings_Defaults.calls  t237 t238 t239 t240 t241 t242 _ A20.out).mono ?_); rintro e w26 ⟨rfl, hb⟩; refine ⟨_, rfl, ?_⟩; have n0_ := Aside0.mk (Kd.R_below (by (with_reducible repeat (first | apply Kd.R_alloc | apply Kd.R_drewN | apply Kd.R_drew)); exact HO236.out) hb); have n1_ := Aside0.mk (below_step (by repeat (first | (with_reducible first | exact HB.out | apply below_alloc | apply pw_below_drewN | apply below_drew1) | exact HB.out)) hb); clear HO236; clear HB; have HO236 := n0_; have HB := n1_; clear n0_ n1_; (try clear hb); (try clear hb2); (try clear hk); (try clear hi)) | ((with_reducible refine gate_callee (f := 9) rfl ?_); refine goesL_ (some 54) rfl rfl Try.func9 (by kernel_rfl) rfl #[.agg #[.int .u32 t237, .int .u32 t238, .int .u32 t239, .int .u32 t240, .int .u32 t241, .bool t242], .bool a0, .slice A1 l1.length c1] rfl (by (try simp only [List.map_toArray, List.map_cons, List.map_nil]); first | done | rfl | (simp only [List.length_drop, List.length_take]; rfl)) ?_; (with_reducible refine (settings_Apply.calls k2 t237 t238 t239 t240 t241 t242 a0 _ _ l1 t243 t244 t245 t246 t247 t248 t249 _ ?side1 ?side2 A21.out).mono ?_); (case side1 => repeat (first | exact (Kd.C_below HR1.out HB.out) | (with_reducible refine Kd.C_alloc ?_ _) | (with_reducible refine Kd.C_drewN ?_ _) | (with_reducible refine Kd.C_drew ?_))); (case side2 => exact HC1.out); rintro e w27 ⟨rfl, hb⟩; refine ⟨_, rfl, ?_⟩; have n0_ := Aside0.mk (Kd.R_below (by (with_reducible repeat (first | apply Kd.R_alloc | apply Kd.R_drewN | apply Kd.R_drew)); exact HO236.out) hb); have n1_ := Aside0.mk (below_step (by repeat (first | (with_reducible first | exact HB.out | apply below_alloc | apply pw_below_drewN | apply below_drew1) | exact HB.out)) hb); clear HO236; clear HB; have HO236 := n0_; have HB := n1_; clear n0_ n1_; (try clear hb); (try clear hb2); (try clear hk); (try clear hi)) | ((with_reducible refine gate_dst (N := 11) rfl ?_); refine box_event ?hg (N := 11) ?hd (cs := #[.int .u32 0, .int .u32 0, .int .u32 0, .int .u32 0, .int .u32 0, .bool false]) (t := 26) ?hr ?_; (case hd => rfl); (case hg => rfl); (case hr => first | (go_simp; done) | (go_simp; rfl)); intro gb250 hg w28 hbox hb; have n0_ := Aside0.mk (Kd.R_below (by (with_reducible repeat (first | apply Kd.R_alloc | apply Kd.R_drewN | apply Kd.R_drew)); exact HO236.out) hb); have n1_ := Aside0.mk (below_step (by repeat (first | (with_reducible first | exact HB.out | apply below_alloc | apply pw_below_drewN | apply below_drew1) | exact HB.out)) hb); have n2_ := Aside0.mk (hbox); have n3_ := Aside0.mk ((by rw [hg]; exact (below_size (by repeat (first | (with_reducible first | exact HB.out | apply below_alloc | apply pw_below_drewN | apply below_drew1) | exact HB.out))) : w.heap.size ≤ gb250)); have n4_ := Aside0.mk ((by rw [hg]; exact (below_size (by repeat (first | (with_reducible first | exact HB.out | apply below_alloc | apply pw_below_drewN | apply below_drew1) | exact HB.out))) : w.heap.size ≤ gb250)); clear HO236; clear HB; have HO236 := n0_; have HB := n1_; have BK250 := n2_; have GW250 := n3_; have GE250 := n4_; clear n0_ n1_ n2_ n3_ n4_; clear hb hbox hg; have hcz29_0 : w28.cell? ⟨gb250, 0, none⟩ = some (.int .u32 0) := (blk_cell BK250.out 0).trans rfl; have hcz29_1 : w28.cell? ⟨gb250, 1, none⟩ = some (.int .u32 0) := (blk_cell BK250.out 1).trans rfl; have hcz29_2 : w28.cell? ⟨gb250, 2, none⟩ = some (.int .u32 0) := (blk_cell BK250.out 2).trans rfl; have hcz29_3 : w28.cell? ⟨gb250, 3, none⟩ = some (.int .u32 0) := (blk_cell BK250.out 3).trans rfl; have hcz29_4 : w28.cell? ⟨gb250, 4, none⟩ = some (.int .u32 0) := (blk_cell BK250.out 4).trans rfl; have hcz29_5 : w28.cell? ⟨gb250, 5, none⟩ = some (.bool false) := (blk_cell BK250.out 5).trans rfl; have hfz29_0 := blk_frozen BK250.out 0; have hfz29_1 := blk_frozen BK250.out 1; have hfz29_2 := blk_frozen BK250.out 2; have hfz29_3 := blk_frozen BK250.out 3; have hfz29_4 := blk_frozen BK250.out 4; have hfz29_5 := blk_frozen BK250.out 5) | ((with_reducible refine gate_callee (f := 10) rfl ?_); refine goesL_ (some 58) rfl rfl Try.func10 (by kernel_rfl) rfl #[] rfl (by (try simp only [List.map_toArray, List.map_cons, List.map_nil]); first | done | rfl | (simp only [List.length_drop, List.length_take]; rfl)) ?_; (with_reducible refine (settings_Defaults.calls  t251 t252 t253 t254 t255 t256 _ A22.out).mono ?_); rintro e w30 ⟨rfl, hb⟩; refine ⟨_, rfl, ?_⟩; have n0_ := Aside0.mk (Kd.R_below (by (with_reducible repeat (first | apply Kd.R_alloc | apply Kd.R_drewN | apply Kd.R_drew)); exact (Kd.R_mono (Kd.R_far (p := ⟨gb250, 5, none⟩) (Kd.R_far (p := ⟨gb250, 4, none⟩) (Kd.R_far (p := ⟨gb250, 3, none⟩) (Kd.R_far (p := ⟨gb250, 2, none⟩) (Kd.R_far (p := ⟨gb250, 1, none⟩) (Kd.R_far (p := ⟨gb250, 0, none⟩) (Kd.R_types HO236.out BK250.out (by decide)) (fun _ hk => hk.2) (.int .u32 t243)) (fun _ hk => hk.2) (.int .u32 t244)) (fun _ hk => hk.2) (.int .u32 t245)) (fun _ hk => hk.2) (.int .u32 t246)) (fun _ hk => hk.2) (.int .u32 t247)) (fun _ hk => hk.2) (.bool t248)) (fun _ h_ => h_.1))) hb); have n1_ := Aside0.mk (blk_below (g := gb250) (o := .cells #[.int .u32 t243, .int .u32 t244, .int .u32 t245, .int .u32 t246, .int .u32 t247, .bool t248] 26 (0, 0)) (by (with_reducible repeat (first | refine blk_drewN ?_ _ | refine blk_drew ?_ | refine blk_alloc ?_ _)); refine blk_put (cs := #[.int .u32 t243, .int .u32 t244, .int .u32 t245, .int .u32 t246, .int .u32 t247, .bool false]) ?_ 5 _ rfl; (with_reducible repeat (first | refine blk_drewN ?_ _ | refine blk_drew ?_ | refine blk_alloc ?_ _)); refine blk_put (cs := #[.int .u32 t243, .int .u32 t244, .int .u32 t245, .int .u32 t246, .int .u32 0, .bool false]) ?_ 4 _ rfl; (with_reducible repeat (first | refine blk_drewN ?_ _ | refine blk_drew ?_ | refine blk_alloc ?_ _)); refine blk_put (cs := #[.int .u32 t243, .int .u32 t244, .int .u32 t245, .int .u32 0, .int .u32 0, .bool false]) ?_ 3 _ rfl; (with_reducible repeat (first | refine blk_drewN ?_ _ | refine blk_drew ?_ | refine blk_alloc ?_ _)); refine blk_put (cs := #[.int .u32 t243, .int .u32 t244, .int .u32 0, .int .u32 0, .int .u32 0, .bool false]) ?_ 2 _ rfl; (with_reducible repeat (first | refine blk_drewN ?_ _ | refine blk_drew ?_ | refine blk_alloc ?_ _)); refine blk_put (cs := #[.int .u32 t243, .int .u32 0, .int .u32 0, .int .u32 0, .int .u32 0, .bool false]) ?_ 1 _ rfl; (with_reducible repeat (first | refine blk_drewN ?_ _ | refine blk_drew ?_ | refine blk_alloc ?_ _)); refine blk_put (cs := #[.int .u32 0, .int .u32 0, .int .u32 0, .int .u32 0, .int .u32 0, .bool false]) ?_ 0 _ rfl; (with_reducible repeat (first | refine blk_drewN ?_ _ | refine blk_drew ?_ | refine blk_alloc ?_ _)); exact BK250.out) hb); have n2_ := Aside0.mk (below_step (by repeat (first | (with_reducible first | exact HB.out | apply below_alloc | apply pw_below_drewN | apply below_drew1 | refine below_set ?_ GE250.out) | exact HB.out)) hb); clear HO236; clear BK250; clear HB; have HO236 := n0_; have BK250 := n1_; have HB := n2_; clear n0_ n1_ n2_; (try clear hb); (try clear hb2); (try clear hk); (try clear hi); obtain ⟨Ao31, co31, eo31⟩ := Kd.R_slice HO236.out; subst eo31) | ((with_reducible refine gate_callee (f := 9) rfl ?_); refine goesL_ (some 61) rfl rfl Try.func9 (by kernel_rfl) rfl #[.agg #[.int .u32 t251, .int .u32 t252, .int .u32 t253, .int .u32 t254, .int .u32 t255, .bool t256], .bool a0, .slice Ao31 y234.length co31] rfl (by (try simp only [List.map_toArray, List.map_cons, List.map_nil]); first | done | rfl | (simp only [List.length_drop, List.length_take]; rfl)) ?_; (with_reducible refine (settings_Apply.calls k2 t251 t252 t253 t254 t255 t256 a0 _ _ y234 t257 t258 t259 t260 t261 t262 t263 _ ?side1 ?side2 A23.out).mono ?_); (case side1 => repeat (first | exact (Kd.R_reads' HO236.out).2.2 | (with_reducible refine Kd.C_alloc ?_ _) | (with_reducible refine Kd.C_drewN ?_ _) | (with_reducible refine Kd.C_drew ?_))); (case side2 => exact (Kd.R_reads' HO236.out).2.1); rintro e w32 ⟨rfl, hb⟩; refine ⟨_, rfl, ?_⟩; have n0_ := Aside0.mk (Kd.R_below (by (with_reducible repeat (first | apply Kd.R_alloc | apply Kd.R_drewN | apply Kd.R_drew)); exact HO236.out) hb); have n1_ := Aside0.mk (blk_below (g := gb250) (o := .cells #[.int .u32 t243, .int .u32 t244, .int .u32 t245, .int .u32 t246, .int .u32 t247, .bool t248] 26 (0, 0)) (by (with_reducible repeat (first | refine blk_drewN ?_ _ | refine blk_drew ?_ | refine blk_alloc ?_ _)); exact BK250.out) hb); have n2_ := Aside0.mk (below_step (by repeat (first | (with_reducible first | exact HB.out | apply below_alloc | apply pw_below_drewN | apply below_drew1 | refine below_set ?_ GE250.out) | exact HB.out)) hb); clear HO236; clear BK250; clear HB; have HO236 := n0_; have BK250 := n1_; have HB := n2_; clear n0_ n1_ n2_; (try clear hb); (try clear hb2); (try clear hk); (try clear hi)) | ((with_reducible refine gate_dst (N := 13) rfl ?_); refine box_event ?hg (N := 13) ?hd (cs := #[.int .u32 0, .int .u32 0, .int .u32 0, .int .u32 0, .int .u32 0, .bool false]) (t := 26) ?hr ?_; (case hd => rfl); (case hg => rfl); (case hr => first | (go_simp; done) | (go_simp; rfl)); intro gb264 hg w33 hbox hb; have n0_ := Aside0.mk (Kd.R_below (by (with_reducible repeat (first | apply Kd.R_alloc | apply Kd.R_drewN | apply Kd.R_drew)); exact HO236.out) hb); have n1_ := Aside0.mk (blk_below (g := gb250) (o := .cells #[.int .u32 t243, .int .u32 t244, .int .u32 t245, .int .u32 t246, .int .u32 t247, .bool t248] 26 (0, 0)) (by (with_reducible repeat (first | refine blk_drewN ?_ _ | refine blk_drew ?_ | refine blk_alloc ?_ _)); exact BK250.out) hb); have n2_ := Aside0.mk (below_step (by repeat (first | (with_reducible first | exact HB.out | apply below_alloc | apply pw_below_drewN | apply below_drew1 | refine below_set ?_ GE250.out) | exact HB.out)) hb); have n3_ := Aside0.mk (hbox); have n4_ := Aside0.mk ((by rw [hg]; exact (below_size (by repeat (first | (with_reducible first | exact HB.out | apply below_alloc | apply pw_below_drewN | apply below_drew1 | refine below_set ?_ GE250.out) | exact HB.out))) : w.heap.size ≤ gb264)); have n5_ := Aside0.mk ((by rw [hg]; exact (below_size (by repeat (first | (with_reducible first | exact HB.out | apply below_alloc | apply pw_below_drewN | apply below_drew1 | refine below_set ?_ GE250.out) | exact HB.out))) : w.heap.size ≤ gb264)); have n6_ := Aside0.mk ((by rw [hg]; exact Nat.ne_of_lt (blk_lt (g := gb250) (o := .cells #[.int .u32 t243, .int .u32 t244, .int .u32 t245, .int .u32 t246, .int .u32 t247, .bool t248] 26 (0, 0)) (by (with_reducible repeat (first | refine blk_drewN ?_ _ | refine blk_drew ?_ | refine blk_alloc ?_ _)); exact BK250.out)) : gb250 ≠ gb264)); have n7_ := Aside0.mk ((by rw [hg]; exact Nat.ne_of_gt (blk_lt (g := gb250) (o := .cells #[.int .u32 t243, .int .u32 t244, .int .u32 t245, .int .u32 t246, .int .u32 t247, .bool t248] 26 (0, 0)) (by (with_reducible repeat (first | refine blk_drewN ?_ _ | refine blk_drew ?_ | refine blk_alloc ?_ _)); exact BK250.out)) : gb264 ≠ gb250)); clear HO236; clear BK250; clear HB; have HO236 := n0_; have BK250 := n1_; have HB := n2_; have BK264 := n3_; have GW264 := n4_; have GE264 := n5_; have NB250_264 := n6_; have NB264_250 := n7_; clear n0_ n1_ n2_ n3_ n4_ n5_ n6_ n7_; clear hb hbox hg; have hnb34 := NB264_250.out; have hnc34 := NB250_264.out; have hcz35_0 : w33.cell? ⟨gb264, 0, none⟩ = some (.int .u32 0) := (blk_cell BK264.out 0).trans rfl; have hcz35_1 : w33.cell? ⟨gb264, 1, none⟩ = some (.int .u32 0) := (blk_cell BK264.out 1).trans rfl; have hcz35_2 : w33.cell? ⟨gb264, 2, none⟩ = some (.int .u32 0) := (blk_cell BK264.out 2).trans rfl; have hcz35_3 : w33.cell? ⟨gb264, 3, none⟩ = some (.int .u32 0) := (blk_cell BK264.out 3).trans rfl; have hcz35_4 : w33.cell? ⟨gb264, 4, none⟩ = some (.int .u32 0) := (blk_cell BK264.out 4).trans rfl; have hcz35_5 : w33.cell? ⟨gb264, 5, none⟩ = some (.bool false) := (blk_cell BK264.out 5).trans rfl; have hfz35_0 := blk_frozen BK264.out 0; have hfz35_1 := blk_frozen BK264.out 1; have hfz35_2 := blk_frozen BK264.out 2; have hfz35_3 := blk_frozen BK264.out 3; have hfz35_4 := blk_frozen BK264.out 4; have hfz35_5 := blk_frozen BK264.out 5; have hcz36_0 : w33.cell? ⟨gb250, 0, none⟩ = some (.int .u32 t243) := (blk_cell BK250.out 0).trans rfl; have hcz36_1 : w33.cell? ⟨gb250, 1, none⟩ = some (.int .u32 t244) := (blk_cell BK250.out 1).trans rfl; have hcz36_2 : w33.cell? ⟨gb250, 2, none⟩ = some (.int .u32 t245) := (blk_cell BK250.out 2).trans rfl; have hcz36_3 : w33.cell? ⟨gb250, 3, none⟩ = some (.int .u32 t246) := (blk_cell BK250.out 3).trans rfl; have hcz36_4 : w33.cell? ⟨gb250, 4, none⟩ = some (.int .u32 t247) := (blk_cell BK250.out 4).trans rfl; have hcz36_5 : w33.cell? ⟨gb250, 5, none⟩ = some (.bool t248) := (blk_cell BK250.out 5).trans rfl; have hfz36_0 := blk_frozen BK250.out 0; have hfz36_1 := blk_frozen BK250.out 1; have hfz36_2 := blk_frozen BK250.out 2; have hfz36_3 := blk_frozen BK250.out 3; have hfz36_4 := blk_frozen BK250.out 4; have hfz36_5 := blk_frozen BK250.out 5))
                    go_ret
                    exact ⟨by first | rfl | (simp [errW_none, errW_some] <;> rfl) | (simp [*, errW_none, errW_some] <;> rfl), by repeat (first | (with_reducible first | exact HB.out | apply below_alloc | apply pw_below_drewN | apply below_drew1 | refine below_set ?_ GE250.out | refine below_set ?_ GE264.out) | exact HB.out)⟩
                  · rw [if_neg c24] at H
                    have c24b0 : (t243 == t257 && (t244 == t258 && (t245 == t259 && (t246 == t260 && (t247 == t261 && (t248 == t262)))))) = false := by simpa using c24
                    (try (have c24b1 : decide (t243 = t257 && (t244 == t258 && (t245 == t259 && (t246 == t260 && (t247 == t261 && (t248 == t262)))))) = false := by simpa using c24))
                    (try (have c24b2 : (t243 == t257 && (t244 == t258 && (t245 == t259 && (t246 == t260 && (t247 == t261 && (t248 == t262)))))) = false := by simpa using c24))
                    (try (have c24b3 : ¬ (t243 = t257 && (t244 == t258 && (t245 == t259 && (t246 == t260 && (t247 == t261 && (t248 == t262)))))) := by simpa using c24))
                    clear c24
                    (try (have c24b9 := c24b0; simp only [beq_true, beq_false] at c24b9))
                    obtain rfl := Option.some.inj H
                    go_wp2_with (first | ((with_reducible refine gate_builtin (b := .append) (xs := #[.tmp 44, .tmp 48]) rfl ?_); at_builtin; refine Kd.R_append k42 (w0 := w) w.heap.size rfl (.tmp 44) (.tmp 48) 22 42 (.agg #[(.int .u16 0), (.int .u32 0)]) 8 rfl Try.underlying22 info42 rfl (by decide) (by omega) u9 x9_2 (⟨a2, a3⟩ : S42) [.int .u16 a2, .int .u32 a3] (fun _ => True) (fun _ => False) rfl rfl ?aP (fun _ hk => hk.elim) ?aF ?aO ?aB ?aS ?aL ?_; (case aP => exact k42_mkM _ _ _ (⟨a2, a3⟩ : S42)); (case aB => exact (by repeat (first | (with_reducible first | exact HB.out | apply below_alloc | apply pw_below_drewN | apply below_drew1) | exact HB.out))); (case aF => exact (fun _ _ => trivial)); (case aO => exact (by (with_reducible repeat (first | apply Kd.R_alloc | apply Kd.R_drewN | apply Kd.R_drew)); exact HO_9.out)); (case aS => exact (below_size (by repeat (first | (with_reducible first | exact HB.out | apply below_alloc | apply pw_below_drewN | apply below_drew1) | exact HB.out)))); (case aL => have := LMc19.out; omega); intro v235 w37 ho hb hg hat; rw [← Ny234.out] at ho; have n0_ := Aside0.mk (hb); have n1_ := Aside0.mk (ho); clear HB; clear HO_9; have HB := n0_; have HO236 := n1_; clear n0_ n1_; clear ho hb hg hat) | ((with_reducible refine gate_callee (f := 10) rfl ?_); refine goesL_ (some 51) rfl rfl Try.func10 (by kernel_rfl) rfl #[] rfl (by (try simp only [List.map_toArray, List.map_cons, List.map_nil]); first | done | rfl | (simp only [List.length_drop, List.length_take]; rfl)) ?_; (with_reducible refine (settings_Defaults.calls  t237 t238 t239 t240 t241 t242 _ A20.out).mono ?_); rintro e w38 ⟨rfl, hb⟩; refine ⟨_, rfl, ?_⟩; have n0_ := Aside0.mk (Kd.R_below (by (with_reducible repeat (first | apply Kd.R_alloc | apply Kd.R_drewN | apply Kd.R_drew)); exact HO236.out) hb); have n1_ := Aside0.mk (below_step (by repeat (first | (with_reducible first | exact HB.out | apply below_alloc | apply pw_below_drewN | apply below_drew1) | exact HB.out)) hb); clear HO236; clear HB; have HO236 := n0_; have HB := n1_; clear n0_ n1_; (try clear hb); (try clear hb2); (try clear hk); (try clear hi)) | ((with_reducible refine gate_callee (f := 9) rfl ?_); refine goesL_ (some 54) rfl rfl Try.func9 (by kernel_rfl) rfl #[.agg #[.int .u32 t237, .int .u32 t238, .int .u32 t239, .int .u32 t240, .int .u32 t241, .bool t242], .bool a0, .slice A1 l1.length c1] rfl (by (try simp only [List.map_toArray, List.map_cons, List.map_nil]); first | done | rfl | (simp only [List.length_drop, List.length_take]; rfl)) ?_; (with_reducible refine (settings_Apply.calls k2 t237 t238 t239 t240 t241 t242 a0 _ _ l1 t243 t244 t245 t246 t247 t248 t249 _ ?side1 ?side2 A21.out).mono ?_); (case side1 => repeat (first | exact (Kd.C_below HR1.out HB.out) | (with_reducible refine Kd.C_alloc ?_ _) | (with_reducible refine Kd.C_drewN ?_ _) | (with_reducible refine Kd.C_drew ?_))); (case side2 => exact HC1.out); rintro e w39 ⟨rfl, hb⟩; refine ⟨_, rfl, ?_⟩; have n0_ := Aside0.mk (Kd.R_below (by (with_reducible repeat (first | apply Kd.R_alloc | apply Kd.R_drewN | apply Kd.R_drew)); exact HO236.out) hb); have n1_ := Aside0.mk (below_step (by repeat (first | (with_reducible first | exact HB.out | apply below_alloc | apply pw_below_drewN | apply below_drew1) | exact HB.out)) hb); clear HO236; clear HB; have HO236 := n0_; have HB := n1_; clear n0_ n1_; (try clear hb); (try clear hb2); (try clear hk); (try clear hi)) | ((with_reducible refine gate_dst (N := 11) rfl ?_); refine box_event ?hg (N := 11) ?hd (cs := #[.int .u32 0, .int .u32 0, .int .u32 0, .int .u32 0, .int .u32 0, .bool false]) (t := 26) ?hr ?_; (case hd => rfl); (case hg => rfl); (case hr => first | (go_simp; done) | (go_simp; rfl)); intro gb250 hg w40 hbox hb; have n0_ := Aside0.mk (Kd.R_below (by (with_reducible repeat (first | apply Kd.R_alloc | apply Kd.R_drewN | apply Kd.R_drew)); exact HO236.out) hb); have n1_ := Aside0.mk (below_step (by repeat (first | (with_reducible first | exact HB.out | apply below_alloc | apply pw_below_drewN | apply below_drew1) | exact HB.out)) hb); have n2_ := Aside0.mk (hbox); have n3_ := Aside0.mk ((by rw [hg]; exact (below_size (by repeat (first | (with_reducible first | exact HB.out | apply below_alloc | apply pw_below_drewN | apply below_drew1) | exact HB.out))) : w.heap.size ≤ gb250)); have n4_ := Aside0.mk ((by rw [hg]; exact (below_size (by repeat (first | (with_reducible first | exact HB.out | apply below_alloc | apply pw_below_drewN | apply below_drew1) | exact HB.out))) : w.heap.size ≤ gb250)); clear HO236; clear HB; have HO236 := n0_; have HB := n1_; have BK250 := n2_; have GW250 := n3_; have GE250 := n4_; clear n0_ n1_ n2_ n3_ n4_; clear hb hbox hg; have hcz41_0 : w40.cell? ⟨gb250, 0, none⟩ = some (.int .u32 0) := (blk_cell BK250.out 0).trans rfl; have hcz41_1 : w40.cell? ⟨gb250, 1, none⟩ = some (.int .u32 0) := (blk_cell BK250.out 1).trans rfl; have hcz41_2 : w40.cell? ⟨gb250, 2, none⟩ = some (.int .u32 0) := (blk_cell BK250.out 2).trans rfl; have hcz41_3 : w40.cell? ⟨gb250, 3, none⟩ = some (.int .u32 0) := (blk_cell BK250.out 3).trans rfl; have hcz41_4 : w40.cell? ⟨gb250, 4, none⟩ = some (.int .u32 0) := (blk_cell BK250.out 4).trans rfl; have hcz41_5 : w40.cell? ⟨gb250, 5, none⟩ = some (.bool false) := (blk_cell BK250.out 5).trans rfl; have hfz41_0 := blk_frozen BK250.out 0; have hfz41_1 := blk_frozen BK250.out 1; have hfz41_2 := blk_frozen BK250.out 2; have hfz41_3 := blk_frozen BK250.out 3; have hfz41_4 := blk_frozen BK250.out 4; have hfz41_5 := blk_frozen BK250.out 5) | ((with_reducible refine gate_callee (f := 10) rfl ?_); refine goesL_ (some 58) rfl rfl Try.func10 (by kernel_rfl) rfl #[] rfl (by (try simp only [List.map_toArray, List.map_cons, List.map_nil]); first | done | rfl | (simp only [List.length_drop, List.length_take]; rfl)) ?_; (with_reducible refine (settings_Defaults.calls  t251 t252 t253 t254 t255 t256 _ A22.out).mono ?_); rintro e w42 ⟨rfl, hb⟩; refine ⟨_, rfl, ?_⟩; have n0_ := Aside0.mk (Kd.R_below (by (with_reducible repeat (first | apply Kd.R_alloc | apply Kd.R_drewN | apply Kd.R_drew)); exact (Kd.R_mono (Kd.R_far (p := ⟨gb250, 5, none⟩) (Kd.R_far (p := ⟨gb250, 4, none⟩) (Kd.R_far (p := ⟨gb250, 3, none⟩) (Kd.R_far (p := ⟨gb250, 2, none⟩) (Kd.R_far (p := ⟨gb250, 1, none⟩) (Kd.R_far (p := ⟨gb250, 0, none⟩) (Kd.R_types HO236.out BK250.out (by decide)) (fun _ hk => hk.2) (.int .u32 t243)) (fun _ hk => hk.2) (.int .u32 t244)) (fun _ hk => hk.2) (.int .u32 t245)) (fun _ hk => hk.2) (.int .u32 t246)) (fun _ hk => hk.2) (.int .u32 t247)) (fun _ hk => hk.2) (.bool t248)) (fun _ h_ => h_.1))) hb); have n1_ := Aside0.mk (blk_below (g := gb250) (o := .cells #[.int .u32 t243, .int .u32 t244, .int .u32 t245, .int .u32 t246, .int .u32 t247, .bool t248] 26 (0, 0)) (by (with_reducible repeat (first | refine blk_drewN ?_ _ | refine blk_drew ?_ | refine blk_alloc ?_ _)); refine blk_put (cs := #[.int .u32 t243, .int .u32 t244, .int .u32 t245, .int .u32 t246, .int .u32 t247, .bool false]) ?_ 5 _ rfl; (with_reducible repeat (first | refine blk_drewN ?_ _ | refine blk_drew ?_ | refine blk_alloc ?_ _)); refine blk_put (cs := #[.int .u32 t243, .int .u32 t244, .int .u32 t245, .int .u32 t246, .int .u32 0, .bool false]) ?_ 4 _ rfl; (with_reducible repeat (first | refine blk_drewN ?_ _ | refine blk_drew ?_ | refine blk_alloc ?_ _)); refine blk_put (cs := #[.int .u32 t243, .int .u32 t244, .int .u32 t245, .int .u32 0, .int .u32 0, .bool false]) ?_ 3 _ rfl; (with_reducible repeat (first | refine blk_drewN ?_ _ | refine blk_drew ?_ | refine blk_alloc ?_ _)); refine blk_put (cs := #[.int .u32 t243, .int .u32 t244, .int .u32 0, .int .u32 0, .int .u32 0, .bool false]) ?_ 2 _ rfl; (with_reducible repeat (first | refine blk_drewN ?_ _ | refine blk_drew ?_ | refine blk_alloc ?_ _)); refine blk_put (cs := #[.int .u32 t243, .int .u32 0, .int .u32 0, .int .u32 0, .int .u32 0, .bool false]) ?_ 1 _ rfl; (with_reducible repeat (first | refine blk_drewN ?_ _ | refine blk_drew ?_ | refine blk_alloc ?_ _)); refine blk_put (cs := #[.int .u32 0, .int .u32 0, .int .u32 0, .int .u32 0, .int .u32 0, .bool false]) ?_ 0 _ rfl; (with_reducible repeat (first | refine blk_drewN ?_ _ | refine blk_drew ?_ | refine blk_alloc ?_ _)); exact BK250.out) hb); have n2_ := Aside0.mk (below_step (by repeat (first | (with_reducible first | exact HB.out | apply below_alloc | apply pw_below_drewN | apply below_drew1 | refine below_set ?_ GE250.out) | exact HB.out)) hb); clear HO236; clear BK250; clear HB; have HO236 := n0_; have BK250 := n1_; have HB := n2_; clear n0_ n1_ n2_; (try clear hb); (try clear hb2); (try clear hk); (try clear hi); obtain ⟨Ao43, co43, eo43⟩ := Kd.R_slice HO236.out; subst eo43) | ((with_reducible refine gate_callee (f := 9) rfl ?_); refine goesL_ (some 61) rfl rfl Try.func9 (by kernel_rfl) rfl #[.agg #[.int .u32 t251, .int .u32 t252, .int .u32 t253, .int .u32 t254, .int .u32 t255, .bool t256], .bool a0, .slice Ao43 y234.length co43] rfl (by (try simp only [List.map_toArray, List.map_cons, List.map_nil]); first | done | rfl | (simp only [List.length_drop, List.length_take]; rfl)) ?_; (with_reducible refine (settings_Apply.calls k2 t251 t252 t253 t254 t255 t256 a0 _ _ y234 t257 t258 t259 t260 t261 t262 t263 _ ?side1 ?side2 A23.out).mono ?_); (case side1 => repeat (first | exact (Kd.R_reads' HO236.out).2.2 | (with_reducible refine Kd.C_alloc ?_ _) | (with_reducible refine Kd.C_drewN ?_ _) | (with_reducible refine Kd.C_drew ?_))); (case side2 => exact (Kd.R_reads' HO236.out).2.1); rintro e w44 ⟨rfl, hb⟩; refine ⟨_, rfl, ?_⟩; have n0_ := Aside0.mk (Kd.R_below (by (with_reducible repeat (first | apply Kd.R_alloc | apply Kd.R_drewN | apply Kd.R_drew)); exact HO236.out) hb); have n1_ := Aside0.mk (blk_below (g := gb250) (o := .cells #[.int .u32 t243, .int .u32 t244, .int .u32 t245, .int .u32 t246, .int .u32 t247, .bool t248] 26 (0, 0)) (by (with_reducible repeat (first | refine blk_drewN ?_ _ | refine blk_drew ?_ | refine blk_alloc ?_ _)); exact BK250.out) hb); have n2_ := Aside0.mk (below_step (by repeat (first | (with_reducible first | exact HB.out | apply below_alloc | apply pw_below_drewN | apply below_drew1 | refine below_set ?_ GE250.out) | exact HB.out)) hb); clear HO236; clear BK250; clear HB; have HO236 := n0_; have BK250 := n1_; have HB := n2_; clear n0_ n1_ n2_; (try clear hb); (try clear hb2); (try clear hk); (try clear hi)) | ((with_reducible refine gate_dst (N := 13) rfl ?_); refine box_event ?hg (N := 13) ?hd (cs := #[.int .u32 0, .int .u32 0, .int .u32 0, .int .u32 0, .int .u32 0, .bool false]) (t := 26) ?hr ?_; (case hd => rfl); (case hg => rfl); (case hr => first | (go_simp; done) | (go_simp; rfl)); intro gb264 hg w45 hbox hb; have n0_ := Aside0.mk (Kd.R_below (by (with_reducible repeat (first | apply Kd.R_alloc | apply Kd.R_drewN | apply Kd.R_drew)); exact HO236.out) hb); have n1_ := Aside0.mk (blk_below (g := gb250) (o := .cells #[.int .u32 t243, .int .u32 t244, .int .u32 t245, .int .u32 t246, .int .u32 t247, .bool t248] 26 (0, 0)) (by (with_reducible repeat (first | refine blk_drewN ?_ _ | refine blk_drew ?_ | refine blk_alloc ?_ _)); exact BK250.out) hb); have n2_ := Aside0.mk (below_step (by repeat (first | (with_reducible first | exact HB.out | apply below_alloc | apply pw_below_drewN | apply below_drew1 | refine below_set ?_ GE250.out) | exact HB.out)) hb); have n3_ := Aside0.mk (hbox); have n4_ := Aside0.mk ((by rw [hg]; exact (below_size (by repeat (first | (with_reducible first | exact HB.out | apply below_alloc | apply pw_below_drewN | apply below_drew1 | refine below_set ?_ GE250.out) | exact HB.out))) : w.heap.size ≤ gb264)); have n5_ := Aside0.mk ((by rw [hg]; exact (below_size (by repeat (first | (with_reducible first | exact HB.out | apply below_alloc | apply pw_below_drewN | apply below_drew1 | refine below_set ?_ GE250.out) | exact HB.out))) : w.heap.size ≤ gb264)); have n6_ := Aside0.mk ((by rw [hg]; exact Nat.ne_of_lt (blk_lt (g := gb250) (o := .cells #[.int .u32 t243, .int .u32 t244, .int .u32 t245, .int .u32 t246, .int .u32 t247, .bool t248] 26 (0, 0)) (by (with_reducible repeat (first | refine blk_drewN ?_ _ | refine blk_drew ?_ | refine blk_alloc ?_ _)); exact BK250.out)) : gb250 ≠ gb264)); have n7_ := Aside0.mk ((by rw [hg]; exact Nat.ne_of_gt (blk_lt (g := gb250) (o := .cells #[.int .u32 t243, .int .u32 t244, .int .u32 t245, .int .u32 t246, .int .u32 t247, .bool t248] 26 (0, 0)) (by (with_reducible repeat (first | refine blk_drewN ?_ _ | refine blk_drew ?_ | refine blk_alloc ?_ _)); exact BK250.out)) : gb264 ≠ gb250)); clear HO236; clear BK250; clear HB; have HO236 := n0_; have BK250 := n1_; have HB := n2_; have BK264 := n3_; have GW264 := n4_; have GE264 := n5_; have NB250_264 := n6_; have NB264_250 := n7_; clear n0_ n1_ n2_ n3_ n4_ n5_ n6_ n7_; clear hb hbox hg; have hnb46 := NB264_250.out; have hnc46 := NB250_264.out; have hcz47_0 : w45.cell? ⟨gb264, 0, none⟩ = some (.int .u32 0) := (blk_cell BK264.out 0).trans rfl; have hcz47_1 : w45.cell? ⟨gb264, 1, none⟩ = some (.int .u32 0) := (blk_cell BK264.out 1).trans rfl; have hcz47_2 : w45.cell? ⟨gb264, 2, none⟩ = some (.int .u32 0) := (blk_cell BK264.out 2).trans rfl; have hcz47_3 : w45.cell? ⟨gb264, 3, none⟩ = some (.int .u32 0) := (blk_cell BK264.out 3).trans rfl; have hcz47_4 : w45.cell? ⟨gb264, 4, none⟩ = some (.int .u32 0) := (blk_cell BK264.out 4).trans rfl; have hcz47_5 : w45.cell? ⟨gb264, 5, none⟩ = some (.bool false) := (blk_cell BK264.out 5).trans rfl; have hfz47_0 := blk_frozen BK264.out 0; have hfz47_1 := blk_frozen BK264.out 1; have hfz47_2 := blk_frozen BK264.out 2; have hfz47_3 := blk_frozen BK264.out 3; have hfz47_4 := blk_frozen BK264.out 4; have hfz47_5 := blk_frozen BK264.out 5; have hcz48_0 : w45.cell? ⟨gb250, 0, none⟩ = some (.int .u32 t243) := (blk_cell BK250.out 0).trans rfl; have hcz48_1 : w45.cell? ⟨gb250, 1, none⟩ = some (.int .u32 t244) := (blk_cell BK250.out 1).trans rfl; have hcz48_2 : w45.cell? ⟨gb250, 2, none⟩ = some (.int .u32 t245) := (blk_cell BK250.out 2).trans rfl; have hcz48_3 : w45.cell? ⟨gb250, 3, none⟩ = some (.int .u32 t246) := (blk_cell BK250.out 3).trans rfl; have hcz48_4 : w45.cell? ⟨gb250, 4, none⟩ = some (.int .u32 t247) := (blk_cell BK250.out 4).trans rfl; have hcz48_5 : w45.cell? ⟨gb250, 5, none⟩ = some (.bool t248) := (blk_cell BK250.out 5).trans rfl; have hfz48_0 := blk_frozen BK250.out 0; have hfz48_1 := blk_frozen BK250.out 1; have hfz48_2 := blk_frozen BK250.out 2; have hfz48_3 := blk_frozen BK250.out 3; have hfz48_4 := blk_frozen BK250.out 4; have hfz48_5 := blk_frozen BK250.out 5))
                    go_ret
                    exact ⟨by first | rfl | (simp [errW_none, errW_some] <;> rfl) | (simp [*, errW_none, errW_some] <;> rfl), by repeat (first | (with_reducible first | exact HB.out | apply below_alloc | apply pw_below_drewN | apply below_drew1 | refine below_set ?_ GE250.out | refine below_set ?_ GE264.out) | exact HB.out)⟩
                · rw [if_neg c19] at H
                  exact absurd H (by simp)
  · replace c6 := Bool.eq_false_iff.mpr c6
    subst c6
    have H1 : (some false) = some r := by rw [if_neg (show ¬ (false = true) by decide)] at H; exact H
    clear H
    have H := H1
    clear H1
    obtain rfl := Option.some.inj H
    go_enter Try.func6, Try.ntmps6
    go_wp2_with (first | ((with_reducible refine gate_callee (f := 8) rfl ?_); refine goesL_ (some 15) rfl rfl Try.func8 (by kernel_rfl) rfl #[] rfl (by (try simp only [List.map_toArray, List.map_cons, List.map_nil]); first | done | rfl | (simp only [List.length_drop, List.length_take]; rfl)) ?_; (with_reducible refine (nunciolaw16_awake.calls k  false _ A5.out).mono ?_); rintro e w49 ⟨rfl, hb⟩; refine ⟨_, rfl, ?_⟩; have n0_ := Aside0.mk (below_step (by repeat (first | (with_reducible first | exact HB.out | apply below_alloc | apply pw_below_drewN | apply below_drew1) | exact HB.out)) hb); clear HB; have HB := n0_; clear n0_; (try clear hb); (try clear hb2); (try clear hk); (try clear hi)))
    go_ret
    exact ⟨by first | rfl | (simp [errW_none, errW_some] <;> rfl) | (simp [*, errW_none, errW_some] <;> rfl), by repeat (first | (with_reducible first | exact HB.out | apply below_alloc | apply pw_below_drewN | apply below_drew1) | exact HB.out)⟩

/-- THE ONE PURE STATEMENT of nunciolaw16_SettingsNone: yours. -/
def nunciolaw16_SettingsNone.Pure : Prop := ∀ (a0 : Bool) (l1 : List (S42)) (a2 : Int) (a3 : Int), (l1.length ≤ 9223372036854775807 ∧ l1.length * 8 ≤ 140737488351232 ∧ ∀ x_ ∈ l1, k42_wf x_) → ((Lit.int .u16 a2).wf = true) → ((Lit.int .u32 a3).wf = true) → ∃ k, nunciolaw16_SettingsNone.f k a0 l1 a2 a3 = some true
theorem nunciolaw16_SettingsNone.walk (P : nunciolaw16_SettingsNone.Pure) (a0 : Bool) (A1 : Option Addr) (c1 : Nat) (l1 : List (S42)) (a2 : Int) (a3 : Int) (w : World) (hr1 : Kd.C k42 w A1 l1.length l1) (hc1 : l1.length ≤ c1) (w1 : l1.length ≤ 9223372036854775807 ∧ l1.length * 8 ≤ 140737488351232 ∧ ∀ x_ ∈ l1, k42_wf x_) (w2 : (Lit.int .u16 a2).wf = true) (w3 : (Lit.int .u32 a3).wf = true) :
    Calls Try.prog 6 #[.bool a0, .slice A1 l1.length c1, .int .u16 a2, .int .u32 a3] w fun e w' => e = .returned (.bool true) ∧ Below w.heap.size w w' := by
  obtain ⟨k, h⟩ := P a0 l1 a2 a3 w1 w2 w3
  refine (nunciolaw16_SettingsNone.calls k a0 _ _ l1 a2 a3 true w hr1 hc1 h).mono ?_
  rintro e w' ⟨rfl, hd⟩
  exact ⟨rfl, hd⟩

end Go.Proofs.Ytkcgenilgboimaa.Mine
