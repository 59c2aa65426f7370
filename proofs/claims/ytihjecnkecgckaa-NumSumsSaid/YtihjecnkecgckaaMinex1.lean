-- Written by this repo's own printer (wip/print), which builds on the kit's.
import Derived.Test.YtihjecnkecgckaaMinex0
namespace Go.Proofs.Ytihjecnkecgckaa.Mine
open Go.RowKit Go.Proofs.YtihjecnkecgckaaW.PrintWords Go.Proofs.YtihjecnkecgckaaW.PrintLast Go.Proofs.YtihjecnkecgckaaW.PrintMore
attribute [local go_sem] max2_int min2_int max_two min_two max_three min_three max_four min_four   -- for this text's walks alone
set_option linter.unusedVariables false
set_option linter.unusedSimpArgs false

/-! ### num_Put: function 9 -/
def num_Put.l0 : Nat → Int → List Int → Int → Option (List Int)
  | 0, _, _, _ => none
  | k + 1, x1, x7, x8 => if x8 ≥ 0 then (if 0 ≤ (wrap64 (8 * x8)) then (if x7.length < 140737488355328 then (num_Put.l0 k x1 (x7 ++ [(shr .u64 x1 (wrap64 (8 * x8))) % 256]) (wrap64 (x8 - 1))) else (none)) else (none)) else (some x7)
def num_Put.f (k : Nat) (l0 : List Int) (a1 : Int) (a2 : Int) : Option (List Int) := if 0 ≤ (l0.length : Int) then (if 0 ≤ (wrap64 ((l0.length : Int) + 8)) then (if (l0.length : Int) ≤ (wrap64 ((l0.length : Int) + 8)) then (if (wrap64 ((l0.length : Int) + 8) : Int).toNat ≤ 281474976710656 then (num_Put.l0 k a1 (copied (List.replicate ((l0.length : Int) : Int).toNat 0) l0) ((mn (mx a2 0) 8) - 1)) else (none)) else (none)) else (none)) else (none)
theorem num_Put.mono_l : ∀ k, (∀ y0 y1 y2, LeO (num_Put.l0 k y0 y1 y2) (num_Put.l0 (k + 1) y0 y1 y2))
  | 0 => fun _ _ _ r h => by simp [num_Put.l0] at h
  | k + 1 => by
    have ih0 := num_Put.mono_l k
    · intro y0 y1 y2
      unfold num_Put.l0
      repeat' first
      | (with_reducible exact ih0 _ _ _)
      | (with_reducible exact LeO.refl _)
      | (with_reducible exact LeO.none _)
      | (with_reducible refine LeO.ite ?_ ?_)
      | (with_reducible refine LeO.bind ?_ (fun _ => ?_))
      | exact ih0 _ _ _
      | exact LeO.none _
      | refine LeO.ite ?_ ?_
      | refine LeO.bind ?_ (fun _ => ?_)
theorem num_Put.mono : ∀ a0 a1 a2 k, LeO (num_Put.f k a0 a1 a2) (num_Put.f (k + 1) a0 a1 a2) := by
  intro a0 a1 a2 k
  have ih0 := num_Put.mono_l k
  unfold num_Put.f
  repeat' first
      | (with_reducible exact ih0 _ _ _)
      | (with_reducible exact LeO.refl _)
      | (with_reducible exact LeO.none _)
      | (with_reducible refine LeO.ite ?_ ?_)
      | (with_reducible refine LeO.bind ?_ (fun _ => ?_))
      | exact ih0 _ _ _
      | exact LeO.none _
      | refine LeO.ite ?_ ?_
      | refine LeO.bind ?_ (fun _ => ?_)
set_option maxHeartbeats 8000000 in
set_option maxRecDepth 100000 in
theorem num_Put.calls (k : Nat) (A0 : Option Addr) (c0 : Nat) (l0 : List Int) (a1 : Int) (a2 : Int) (r : List Int) (w : World) (hr0 : Kd.C (Kd.int .u8) w A0 l0.length l0) (hc0 : l0.length ≤ c0) (h : num_Put.f k l0 a1 a2 = some r) :
    Calls Try.prog 9 #[.slice A0 l0.length c0, .int .u64 a1, .int .i64 a2] w fun e w' => ∃ v0_ : Value, e = .returned (v0_) ∧ Kd.R (Kd.int .u8) 5 w' w.heap.size (fun _ => True) v0_ r ∧ Below w.heap.size w w' := by
  have HR0 := Aside0.mk hr0
  have HC0 := Aside0.mk hc0
  clear hr0 hc0
  have HB := Aside0.mk (Below.refl w.heap.size w)
  have H : (if 0 ≤ (l0.length : Int) then (if 0 ≤ (wrap64 ((l0.length : Int) + 8)) then (if (l0.length : Int) ≤ (wrap64 ((l0.length : Int) + 8)) then (if (wrap64 ((l0.length : Int) + 8) : Int).toNat ≤ 281474976710656 then (num_Put.l0 k a1 (copied (List.replicate ((l0.length : Int) : Int).toNat 0) l0) ((mn (mx a2 0) 8) - 1)) else (none)) else (none)) else (none)) else (none)) = some r := h
  clear h
  by_cases c4 : 0 ≤ (l0.length : Int)
  · rw [if_pos c4] at H
    have c4b0 := eq_true c4
    have c4b1 : decide (0 ≤ (l0.length : Int)) = true := decide_eq_true c4
    clear c4
    obtain ⟨ji5, hji5⟩ : ∃ j_ : Int, (wrap64 ((l0.length : Int) + 8)) = j_ := ⟨_, rfl⟩
    replace H : (if 0 ≤ (ji5) then (if (l0.length : Int) ≤ (ji5) then (if (ji5 : Int).toNat ≤ 281474976710656 then (num_Put.l0 k a1 (copied (List.replicate ((l0.length : Int) : Int).toNat 0) l0) ((mn (mx a2 0) 8) - 1)) else (none)) else (none)) else (none)) = some r := by first | (rw [hji5] at H; exact H) | (simp only [hji5] at H ⊢; exact H)
    have hji5w : (IntKind.i64.wrap ((l0.length : Int) + 8)) = ji5 := (i64_w _).trans hji5
    by_cases c6 : 0 ≤ (ji5)
    · rw [if_pos c6] at H
      have c6b0 := eq_true c6
      have c6b1 : decide (0 ≤ (ji5)) = true := decide_eq_true c6
      clear c6
      by_cases c7 : (l0.length : Int) ≤ (ji5)
      · rw [if_pos c7] at H
        have c7b0 := eq_true c7
        have c7b1 : decide ((l0.length : Int) ≤ (ji5)) = true := decide_eq_true c7
        clear c7
        by_cases c8 : (ji5 : Int).toNat ≤ 281474976710656
        · rw [if_pos c8] at H
          have c8b0 := eq_true c8
          have c8b1 : decide ((ji5 : Int).toNat ≤ 281474976710656) = true := decide_eq_true c8
          clear c8
          obtain ⟨y101, hy101⟩ : ∃ y_ : List Int, y_ = (List.replicate ((l0.length : Int) : Int).toNat 0) := ⟨_, rfl⟩
          replace H : (num_Put.l0 k a1 (copied y101 l0) ((mn (mx a2 0) 8) - 1)) = some r := by first | (rw [hy101]; with_reducible exact H) | (have H2_ := (Option.bind_some _ _).symm.trans H; rw [hy101]; with_reducible exact H2_) | (have H2_ := (Option.bind_some _ _).symm.trans H; with_reducible exact H2_) | with_reducible exact H | (rw [hy101]; exact H) | exact H
          have Ny101 := Aside0.mk hy101
          clear hy101
          obtain ⟨y105, hy105⟩ : ∃ y_ : List Int, y_ = (copied y101 l0) := ⟨_, rfl⟩
          replace H : (num_Put.l0 k a1 y105 ((mn (mx a2 0) 8) - 1)) = some r := by first | (rw [hy105]; with_reducible exact H) | (have H2_ := (Option.bind_some _ _).symm.trans H; rw [hy105]; with_reducible exact H2_) | (have H2_ := (Option.bind_some _ _).symm.trans H; with_reducible exact H2_) | with_reducible exact H | (rw [hy105]; exact H) | exact H
          have Ny105 := Aside0.mk hy105
          clear hy105
          obtain ⟨ji9, hji9⟩ : ∃ j_ : Int, (mx a2 0) = j_ := ⟨_, rfl⟩
          replace H : (num_Put.l0 k a1 y105 ((mn (ji9) 8) - 1)) = some r := by first | (rw [hji9] at H; exact H) | (simp only [hji9] at H ⊢; exact H)
          (try (have hji9l : 0 ≤ ji9 := by (rw [← hji9]; unfold mx; (repeat' split) <;> omega)))
          (try (have hji9m : 0 ≤ ji9 := by omega))
          have hji9_ : (if a2 < 0 then 0 else a2) = ji9 := hji9
          obtain ⟨ji10, hji10⟩ : ∃ j_ : Int, (mn (ji9) 8) = j_ := ⟨_, rfl⟩
          replace H : (num_Put.l0 k a1 y105 ((ji10) - 1)) = some r := by first | (rw [hji10] at H; exact H) | (simp only [hji10] at H ⊢; exact H)
          have hji10_ : (if 8 < (ji9) then 8 else (ji9)) = ji10 := hji10
          have H' := Aside0.mk H
          clear H
          go_enter Try.func9, Try.ntmps9
          go_wp2_with (first | ((with_reducible refine gate_dst (N := 14) rfl ?_); refine Kd.R_makecap (Kd.int .u8) _ 5 rfl (N := 14) rfl 22 _ _ rfl (l0.length : Int) ji5 rfl rfl Try.underlying22 (.int .u8 0) 1 info5 rfl (by decide) (by omega) 0 (ok := fun _ => True) (okp := fun _ => True) rfl (fun _ hk => hk) trivial (of_decide_eq_true (by first | (with_reducible assumption) | assumption)) (of_decide_eq_true (by first | (with_reducible assumption) | assumption)) (Nat.le_trans (Nat.mul_le_mul_right _ (of_decide_eq_true (by first | (with_reducible assumption) | assumption) : (ji5 : Int).toNat ≤ 281474976710656)) (by omega)) (Below.refl _ _) (Nat.le_refl _) ?_; intro v102 w11 ho12 hb hg_ hnew_; clear hg_ hnew_; (first | rw [← Ny101.out] at ho12 | (simp only [Int.reduceToNat] at ho12; rw [← Ny101.out] at ho12)); have n0_ := Aside0.mk (Kd.R_lower ho12 (below_size (by repeat (first | (with_reducible first | exact HB.out | apply below_alloc | apply pw_below_drewN | apply below_drew1) | exact HB.out)))); have n1_ := Aside0.mk (below_step (by repeat (first | (with_reducible first | exact HB.out | apply below_alloc | apply pw_below_drewN | apply below_drew1) | exact HB.out)) hb); clear HB; have HO103 := n0_; have HB := n1_; clear n0_ n1_; clear hb ho12) | ((with_reducible refine gate_builtin (b := .copy) (xs := #[.tmp 15, .tmp 16]) rfl ?_); refine Kd.R_copyrow (enc := Value.int .u8) (h1 := fun _ => rfl) (P := Try.prog) 0 (w0 := w) w.heap.size rfl (.tmp 15) (.tmp 16) 22 22 (e := 5) rfl Try.underlying22 (z := (.int .u8 0)) (bytes := 1) info5 v102 y101 l0 (ok := (fun _ => True)) (A := A0) (m := l0.length) (c := c0) rfl rfl ?aO ?aR ?aB ?aS ?_; (case aR => repeat (first | exact (Kd.C_below HR0.out HB.out) | (with_reducible refine Kd.C_alloc ?_ _) | (with_reducible refine Kd.C_drewN ?_ _) | (with_reducible refine Kd.C_drew ?_))); (case aO => exact (by (with_reducible repeat (first | apply Kd.R_alloc | apply Kd.R_drewN | apply Kd.R_drew)); exact HO103.out)); (case aB => exact (by repeat (first | (with_reducible first | exact HB.out | apply below_alloc | apply pw_below_drewN | apply below_drew1) | exact HB.out))); (case aS => exact (below_size (by repeat (first | (with_reducible first | exact HB.out | apply below_alloc | apply pw_below_drewN | apply below_drew1) | exact HB.out)))); intro w13 ho hb hg; rw [← Ny105.out] at ho; have n0_ := Aside0.mk (hb); have n1_ := Aside0.mk (ho); clear HB; clear HO103; have HB := n0_; have HO104 := n1_; clear n0_ n1_; clear ho hb hg))
          go_loopg [7, 8] k (fun kq v7 v8 w' => ∃ (x7_1 : List Int) (x8_1 : Int), v8 = .int .i64 x8_1 ∧ Aside0 (num_Put.l0 kq a1 x7_1 x8_1 = some r) ∧ Aside0 (kq ≤ k) ∧ Aside0 (Kd.R (Kd.int .u8) 5 w' w.heap.size (fun _ => True) v7 x7_1) ∧ Aside0 (Below w.heap.size w w'))
          case atStart => exact ⟨(y105), ((ji10) - 1), (by first | rfl | (simp; done) | (simp only [← hji10] <;> (first | rfl | simp)) | (simp [*]; done)), H', ⟨Nat.le_refl _⟩, ⟨by (with_reducible repeat (first | apply Kd.R_alloc | apply Kd.R_drewN | apply Kd.R_drew)); exact HO104.out⟩, ⟨by repeat (first | (with_reducible first | exact HB.out | apply below_alloc | apply pw_below_drewN | apply below_drew1) | exact HB.out)⟩⟩
          case round =>
            clear H'
            try clear p2
            try clear c4
            try clear c4b0
            try clear c4b1
            try clear c6
            try clear c6b0
            try clear c6b1
            try clear p6
            try clear c7
            try clear c7b0
            try clear c7b1
            try clear c8
            try clear c8b0
            try clear c8b1
            try clear c9
            obtain ⟨x7_1, x8_1, rfl, HA, HK1, HO_7, HB⟩ := hrel
            cases gk with
            | zero => exact absurd HA.out (by simp [num_Put.l0])
            | succ k1 =>
              have H := HA.out
              clear HA
              simp only [num_Put.l0] at H
              by_cases c14 : x8_1 ≥ 0
              · rw [if_pos c14] at H
                have c14b0 : decide (0 ≤ x8_1) = true := decide_eq_true c14
                clear c14
                obtain ⟨ji15, hji15⟩ : ∃ j_ : Int, (wrap64 (8 * x8_1)) = j_ := ⟨_, rfl⟩
                replace H : (if 0 ≤ (ji15) then (if x7_1.length < 140737488355328 then (num_Put.l0 k1 a1 (x7_1 ++ [(shr .u64 a1 (ji15)) % 256]) (wrap64 (x8_1 - 1))) else (none)) else (none)) = some r := by first | (rw [hji15] at H; exact H) | (simp only [hji15] at H ⊢; exact H)
                have hji15w : (IntKind.i64.wrap (8 * x8_1)) = ji15 := (i64_w _).trans hji15
                by_cases c16 : 0 ≤ (ji15)
                · rw [if_pos c16] at H
                  have c16b0 := eq_true c16
                  have c16b1 : decide (0 ≤ (ji15)) = true := decide_eq_true c16
                  clear c16
                  obtain ⟨ji17, hji17⟩ : ∃ j_ : Int, (shr .u64 a1 (ji15)) = j_ := ⟨_, rfl⟩
                  replace H : (if x7_1.length < 140737488355328 then (num_Put.l0 k1 a1 (x7_1 ++ [(ji17) % 256]) (wrap64 (x8_1 - 1))) else (none)) = some r := by first | (rw [hji17] at H; exact H) | (simp only [hji17] at H ⊢; exact H)
                  have hji17_ : (a1 / 2 ^ min (ji15).toNat 64) = ji17 := hji17
                  have hji17z : (ji15) ≤ 64 → (a1 / 2 ^ (ji15).toNat) = ji17 := shr_small hji17
                  by_cases c18 : x7_1.length < 140737488355328
                  · rw [if_pos c18] at H
                    have LMc18 := Aside0.mk c18
                    clear c18
                    obtain ⟨y106, hy106⟩ : ∃ y_ : List Int, y_ = (x7_1 ++ [(ji17) % 256]) := ⟨_, rfl⟩
                    replace H : (num_Put.l0 k1 a1 y106 (wrap64 (x8_1 - 1))) = some r := by first | (rw [hy106]; with_reducible exact H) | (have H2_ := (Option.bind_some _ _).symm.trans H; rw [hy106]; with_reducible exact H2_) | (have H2_ := (Option.bind_some _ _).symm.trans H; with_reducible exact H2_) | with_reducible exact H | (rw [hy106]; exact H) | exact H
                    have Ny106 := Aside0.mk hy106
                    clear hy106
                    have H' := Aside0.mk H
                    clear H
                    go_wp2_with (first | ((with_reducible refine gate_builtin (b := .append) (xs := #[.tmp 26, .tmp 32]) rfl ?_); at_builtin; refine Kd.R_append (Kd.int .u8) (w0 := w) w.heap.size rfl (.tmp 26) (.tmp 32) 22 5 (.int .u8 0) 1 rfl Try.underlying22 info5 rfl (by decide) (by omega) u7 x7_1 ((ji17) % 256) [.int .u8 ((ji17) % 256)] (fun _ => True) (fun _ => False) rfl rfl ?aP (fun _ hk => hk.elim) ?aF ?aO ?aB ?aS ?aL ?_; (case aP => exact rfl); (case aB => exact (by repeat (first | (with_reducible first | exact HB.out | apply below_alloc | apply pw_below_drewN | apply below_drew1) | exact HB.out))); (case aF => exact (fun _ _ => trivial)); (case aO => exact (by (with_reducible repeat (first | apply Kd.R_alloc | apply Kd.R_drewN | apply Kd.R_drew)); exact HO_7.out)); (case aS => exact (below_size (by repeat (first | (with_reducible first | exact HB.out | apply below_alloc | apply pw_below_drewN | apply below_drew1) | exact HB.out)))); (case aL => have := LMc18.out; omega); intro v107 w19 ho hb hg hat; rw [← Ny106.out] at ho; have n0_ := Aside0.mk (hb); have n1_ := Aside0.mk (ho); clear HB; clear HO_7; have HB := n0_; have HO108 := n1_; clear n0_ n1_; clear ho hb hg hat))
                    go_roundg k1
                    case measure => have := HK1.out; omega
                    case rel => exact ⟨(y106), (wrap64 (x8_1 - 1)), (by first | rfl | (simp; done) | (simp [*]; done)), H', ⟨by have := HK1.out; omega⟩, ⟨by (with_reducible repeat (first | apply Kd.R_alloc | apply Kd.R_drewN | apply Kd.R_drew)); exact HO108.out⟩, ⟨by repeat (first | (with_reducible first | exact HB.out | apply below_alloc | apply pw_below_drewN | apply below_drew1) | exact HB.out)⟩⟩
                  · rw [if_neg c18] at H
                    exact absurd H (by simp)
                · rw [if_neg c16] at H
                  exact absurd H (by simp)
              · rw [if_neg c14] at H
                have c14b0 : decide (0 ≤ x8_1) = false := decide_eq_false c14
                clear c14
                obtain rfl := Option.some.inj H
                go_wp2
                go_ret
                exact ⟨_, by first | rfl | (simp [errW_none, errW_some] <;> rfl) | (simp only [← hji5, ← hji9, ← hji10]; first | rfl | (simp [errW_none, errW_some] <;> rfl)) | (simp [*, errW_none, errW_some] <;> rfl), by (with_reducible repeat (first | apply Kd.R_alloc | apply Kd.R_drewN | apply Kd.R_drew)); exact HO_7.out, by repeat (first | (with_reducible first | exact HB.out | apply below_alloc | apply pw_below_drewN | apply below_drew1) | exact HB.out)⟩
        · rw [if_neg c8] at H
          exact absurd H (by simp)
      · rw [if_neg c7] at H
        exact absurd H (by simp)
    · rw [if_neg c6] at H
      exact absurd H (by simp)
  · rw [if_neg c4] at H
    exact absurd H (by simp)

/-! ### num_Part: function 19 -/
def num_Part.f (a0 : ByteArray) (a1 : Int) (a2 : Int) : Option (ByteArray × Bool) := if a1 < 0 then (some ((⟨#[]⟩ : ByteArray), false)) else (if a2 < 0 then (some ((⟨#[]⟩ : ByteArray), false)) else (if a1 > (a0.size : Int) then (some ((⟨#[]⟩ : ByteArray), false)) else (if a2 > (wrap64 ((a0.size : Int) - a1)) then (some ((⟨#[]⟩ : ByteArray), false)) else (if 0 ≤ a1 then (if a1 ≤ (wrap64 (a1 + a2)) then (if (wrap64 (a1 + a2)) ≤ (a0.size : Int) then (some (a0.extract (a1 : Int).toNat ((wrap64 (a1 + a2)) : Int).toNat, true)) else (none)) else (none)) else (none)))))
set_option maxHeartbeats 8000000 in
set_option maxRecDepth 100000 in
theorem num_Part.calls (a0 : ByteArray) (a1 : Int) (a2 : Int) (r1 : ByteArray) (r2 : Bool) (w : World) (h : num_Part.f a0 a1 a2 = some (r1, r2)) :
    Calls Try.prog 19 #[.string a0, .int .i64 a1, .int .i64 a2] w fun e w' => e = .returned (.tuple #[.string r1, .bool r2]) ∧ Drawn0 w w' := by
  have H : (if a1 < 0 then (some ((⟨#[]⟩ : ByteArray), false)) else (if a2 < 0 then (some ((⟨#[]⟩ : ByteArray), false)) else (if a1 > (a0.size : Int) then (some ((⟨#[]⟩ : ByteArray), false)) else (if a2 > (wrap64 ((a0.size : Int) - a1)) then (some ((⟨#[]⟩ : ByteArray), false)) else (if 0 ≤ a1 then (if a1 ≤ (wrap64 (a1 + a2)) then (if (wrap64 (a1 + a2)) ≤ (a0.size : Int) then (some (a0.extract (a1 : Int).toNat ((wrap64 (a1 + a2)) : Int).toNat, true)) else (none)) else (none)) else (none)))))) = some (r1, r2) := h
  clear h
  by_cases c4 : a1 < 0
  · rw [if_pos c4] at H
    have c4b0 : decide (a1 < 0) = true := decide_eq_true c4
    clear c4
    simp only [Option.some.injEq, Prod.mk.injEq] at H
    obtain ⟨rfl, rfl⟩ := H
    go_enter Try.func19, Try.ntmps19
    go_wp2
    go_ret2
    exact ⟨by first | rfl | (simp; done) | (simp [*]; done), by repeat (first | exact Drawn0.refl _ | apply Drawn0.step)⟩
  · rw [if_neg c4] at H
    have c4b0 : decide (a1 < 0) = false := decide_eq_false c4
    clear c4
    by_cases c5 : a2 < 0
    · rw [if_pos c5] at H
      have c5b0 : decide (a2 < 0) = true := decide_eq_true c5
      clear c5
      simp only [Option.some.injEq, Prod.mk.injEq] at H
      obtain ⟨rfl, rfl⟩ := H
      go_enter Try.func19, Try.ntmps19
      go_wp2
      go_ret2
      exact ⟨by first | rfl | (simp; done) | (simp [*]; done), by repeat (first | exact Drawn0.refl _ | apply Drawn0.step)⟩
    · rw [if_neg c5] at H
      have c5b0 : decide (a2 < 0) = false := decide_eq_false c5
      clear c5
      by_cases c6 : a1 > (a0.size : Int)
      · rw [if_pos c6] at H
        have c6b0 : decide ((a0.size : Int) < a1) = true := decide_eq_true c6
        clear c6
        simp only [Option.some.injEq, Prod.mk.injEq] at H
        obtain ⟨rfl, rfl⟩ := H
        go_enter Try.func19, Try.ntmps19
        go_wp2
        go_ret2
        exact ⟨by first | rfl | (simp; done) | (simp [*]; done), by repeat (first | exact Drawn0.refl _ | apply Drawn0.step)⟩
      · rw [if_neg c6] at H
        have c6b0 : decide ((a0.size : Int) < a1) = false := decide_eq_false c6
        clear c6
        by_cases c7 : a2 > (wrap64 ((a0.size : Int) - a1))
        · rw [if_pos c7] at H
          have c7b0 : decide ((wrap64 ((a0.size : Int) - a1)) < a2) = true := decide_eq_true c7
          clear c7
          simp only [Option.some.injEq, Prod.mk.injEq] at H
          obtain ⟨rfl, rfl⟩ := H
          go_enter Try.func19, Try.ntmps19
          go_wp2
          go_ret2
          exact ⟨by first | rfl | (simp; done) | (simp [*]; done), by repeat (first | exact Drawn0.refl _ | apply Drawn0.step)⟩
        · rw [if_neg c7] at H
          have c7b0 : decide ((wrap64 ((a0.size : Int) - a1)) < a2) = false := decide_eq_false c7
          clear c7
          by_cases c8 : 0 ≤ a1
          · rw [if_pos c8] at H
            have c8b0 := eq_true c8
            have c8b1 : decide (0 ≤ a1) = true := decide_eq_true c8
            clear c8
            by_cases c9 : a1 ≤ (wrap64 (a1 + a2))
            · rw [if_pos c9] at H
              have c9b0 := eq_true c9
              have c9b1 : decide (a1 ≤ (wrap64 (a1 + a2))) = true := decide_eq_true c9
              by_cases c10 : (wrap64 (a1 + a2)) ≤ (a0.size : Int)
              · rw [if_pos c10] at H
                have c10b0 := eq_true c10
                have c10b1 : decide ((wrap64 (a1 + a2)) ≤ (a0.size : Int)) = true := decide_eq_true c10
                simp only [Option.some.injEq, Prod.mk.injEq] at H
                obtain ⟨rfl, rfl⟩ := H
                go_enter Try.func19, Try.ntmps19
                go_wp2
                go_ret2
                exact ⟨by first | rfl | (simp; done) | (simp [*]; done), by repeat (first | exact Drawn0.refl _ | apply Drawn0.step)⟩
              · rw [if_neg c10] at H
                exact absurd H (by simp)
            · rw [if_neg c9] at H
              exact absurd H (by simp)
          · rw [if_neg c8] at H
            exact absurd H (by simp)

/-! ### num_Get: function 10 -/
mutual
def num_Get.j0 : Nat → ByteArray → Bool → Option (Int × Bool)
  | 0, _, _ => none
  | k + 1, x8, x29 => if x29 = true then (some (0, false)) else (if (x8.size : Int) ≤ 9223372036854775807 then ((some (bytesOf x8 : List Int)).bind fun y111 => (num_Get.l0 k 0 y111 (y111.length : Int) 0)) else (none))
def num_Get.l0 : Nat → Int → List Int → Int → Int → Option (Int × Bool)
  | 0, _, _, _, _ => none
  | k + 1, x10, x31, x32, x33 => if x33 < x32 then (if 0 ≤ x33 then (if x33 < (x31.length : Int) then (num_Get.l0 k (Go.bits .or .u64 (IntKind.u64.wrap (x10 * 256)) (IntKind.u64.wrap (rd x31 x33))) x31 x32 (wrap64 (x33 + 1))) else (none)) else (none)) else (some (x10, true))
end
def num_Get.f (k : Nat) (a0 : ByteArray) (a1 : Int) (a2 : Int) : Option (Int × Bool) := (num_Part.f a0 a1 a2).bind fun bt109 => (if bt109.2 = true then (if a2 < 1 then (num_Get.j0 k bt109.1 true) else (num_Get.j0 k bt109.1 (decide (a2 > 8)))) else (num_Get.j0 k bt109.1 true))
theorem num_Get.mono_l : ∀ k, (∀ y0 y1, LeO (num_Get.j0 k y0 y1) (num_Get.j0 (k + 1) y0 y1)) ∧ (∀ y0 y1 y2 y3, LeO (num_Get.l0 k y0 y1 y2 y3) (num_Get.l0 (k + 1) y0 y1 y2 y3))
  | 0 => ⟨fun _ _ r h => by simp [num_Get.j0] at h, fun _ _ _ _ r h => by simp [num_Get.l0] at h⟩
  | k + 1 => by
    obtain ⟨ih0, ih1⟩ := num_Get.mono_l k
    refine ⟨?_, ?_⟩
    · intro y0 y1
      unfold num_Get.j0
      repeat' first
      | (with_reducible exact ih0 _ _)
      | (with_reducible exact ih1 _ _ _ _)
      | (with_reducible exact LeO.refl _)
      | (with_reducible exact LeO.none _)
      | (with_reducible refine LeO.ite ?_ ?_)
      | (with_reducible refine LeO.bind ?_ (fun _ => ?_))
      | exact ih0 _ _
      | exact ih1 _ _ _ _
      | exact LeO.none _
      | refine LeO.ite ?_ ?_
      | refine LeO.bind ?_ (fun _ => ?_)
    · intro y0 y1 y2 y3
      unfold num_Get.l0
      repeat' first
      | (with_reducible exact ih0 _ _)
      | (with_reducible exact ih1 _ _ _ _)
      | (with_reducible exact LeO.refl _)
      | (with_reducible exact LeO.none _)
      | (with_reducible refine LeO.ite ?_ ?_)
      | (with_reducible refine LeO.bind ?_ (fun _ => ?_))
      | exact ih0 _ _
      | exact ih1 _ _ _ _
      | exact LeO.none _
      | refine LeO.ite ?_ ?_
      | refine LeO.bind ?_ (fun _ => ?_)
theorem num_Get.mono : ∀ a0 a1 a2 k, LeO (num_Get.f k a0 a1 a2) (num_Get.f (k + 1) a0 a1 a2) := by
  intro a0 a1 a2 k
  obtain ⟨ih0, ih1⟩ := num_Get.mono_l k
  unfold num_Get.f
  repeat' first
      | (with_reducible exact ih0 _ _)
      | (with_reducible exact ih1 _ _ _ _)
      | (with_reducible exact LeO.refl _)
      | (with_reducible exact LeO.none _)
      | (with_reducible refine LeO.ite ?_ ?_)
      | (with_reducible refine LeO.bind ?_ (fun _ => ?_))
      | exact ih0 _ _
      | exact ih1 _ _ _ _
      | exact LeO.none _
      | refine LeO.ite ?_ ?_
      | refine LeO.bind ?_ (fun _ => ?_)
set_option maxHeartbeats 8000000 in
set_option maxRecDepth 100000 in
theorem num_Get.calls (k : Nat) (a0 : ByteArray) (a1 : Int) (a2 : Int) (r1 : Int) (r2 : Bool) (w : World) (h : num_Get.f k a0 a1 a2 = some (r1, r2)) :
    Calls Try.prog 10 #[.string a0, .int .i64 a1, .int .i64 a2] w fun e w' => e = .returned (.tuple #[.int .u64 r1, .bool r2]) ∧ Below w.heap.size w w' := by
  have HB := Aside0.mk (Below.refl w.heap.size w)
  have H : ((num_Part.f a0 a1 a2).bind fun bt109 => (if bt109.2 = true then (if a2 < 1 then (num_Get.j0 k bt109.1 true) else (num_Get.j0 k bt109.1 (decide (a2 > 8)))) else (num_Get.j0 k bt109.1 true))) = some (r1, r2) := h
  clear h
  replace H := Option.bind_eq_some_iff.mp H
  obtain ⟨⟨t109, t110⟩, A40, H⟩ := H
  replace H : (if t110 = true then (if a2 < 1 then (num_Get.j0 k t109 true) else (num_Get.j0 k t109 (decide (a2 > 8)))) else (num_Get.j0 k t109 true)) = some (r1, r2) := H
  have A4 := Aside0.mk A40
  clear A40
  have HC5 := Aside0.mk H
  clear H
  go_enter Try.func10, Try.ntmps10
  go_upto_region 2 with (first | ((with_reducible refine gate_callee (f := 19) rfl ?_); refine goesL_ (some 17) rfl rfl Try.func19 (by kernel_rfl) rfl #[.string a0, .int .i64 a1, .int .i64 a2] rfl (by (try simp only [List.map_toArray, List.map_cons, List.map_nil]); first | done | rfl | (simp only [List.length_drop, List.length_take]; rfl)) ?_; (with_reducible refine (num_Part.calls a0 a1 a2 t109 t110 _ A4.out).mono ?_); rintro e w' ⟨rfl, ⟨nd, rfl⟩⟩; refine ⟨_, rfl, ?_⟩))
  (try simp only [Act.put, List.setIfInBounds_toArray, List.set_cons_zero, List.set_cons_succ])
  go_cut [29] (fun v29 wc => ∃ (kq : Nat) (x29_4 : Bool), v29 = .bool x29_4 ∧ Aside0 (num_Get.j0 kq t109 x29_4 = some (r1, r2)) ∧ Aside0 (kq ≤ k) ∧ Aside0 (Below w.heap.size w wc))
  case first =>
    have H := HC5.out
    clear HC5
    by_cases c6 : t110 = true
    · subst c6
      have H1 : (if a2 < 1 then (num_Get.j0 k t109 true) else (num_Get.j0 k t109 (decide (a2 > 8)))) = some (r1, r2) := by rw [if_pos rfl] at H; exact H
      clear H
      have H := H1
      clear H1
      by_cases c7 : a2 < 1
      · rw [if_pos c7] at H
        have c7b0 : decide (a2 < 1) = true := decide_eq_true c7
        clear c7
        (first | rw [c7b0] | (simp only [i64_w, i32_w]; rw [c7b0]) | skip)
        have H' := Aside0.mk H
        clear H
        go_wp2
        go_meet
        case rel => exact ⟨_, (true), (by first | rfl | (simp; done) | (simp [*]; done)), H', ⟨by first | omega | exact Nat.le_refl _⟩, ⟨by repeat (first | (with_reducible first | exact HB.out | apply below_alloc | apply pw_below_drewN | apply below_drew1) | exact HB.out)⟩⟩
      · rw [if_neg c7] at H
        have c7b0 : decide (a2 < 1) = false := decide_eq_false c7
        clear c7
        (first | rw [c7b0] | (simp only [i64_w, i32_w]; rw [c7b0]) | skip)
        have H' := Aside0.mk H
        clear H
        go_wp2
        go_meet
        case rel => exact ⟨_, (decide (a2 > 8)), (by first | rfl | (simp; done) | (simp [*]; done)), H', ⟨by first | omega | exact Nat.le_refl _⟩, ⟨by repeat (first | (with_reducible first | exact HB.out | apply below_alloc | apply pw_below_drewN | apply below_drew1) | exact HB.out)⟩⟩
    · replace c6 := Bool.eq_false_iff.mpr c6
      subst c6
      have H1 : (num_Get.j0 k t109 true) = some (r1, r2) := by rw [if_neg (show ¬ (false = true) by decide)] at H; exact H
      clear H
      have H := H1
      clear H1
      have H' := Aside0.mk H
      clear H
      go_wp2
      go_meet
      case rel => exact ⟨_, (true), (by first | rfl | (simp; done) | (simp [*]; done)), H', ⟨by first | omega | exact Nat.le_refl _⟩, ⟨by repeat (first | (with_reducible first | exact HB.out | apply below_alloc | apply pw_below_drewN | apply below_drew1) | exact HB.out)⟩⟩
  case rest =>
    clear HC5
    try clear c1
    try clear p2
    try clear c6
    try clear c7
    try clear c7b0
    obtain ⟨kq, x29_4, rfl, HA, HJ4, HB⟩ := hcut
    cases kq with
    | zero => exact absurd HA.out (by simp [num_Get.j0])
    | succ kj4 =>
      have H := HA.out
      clear HA
      simp only [num_Get.j0] at H
      by_cases c8 : x29_4 = true
      · subst c8
        have H1 : (some (0, false)) = some (r1, r2) := by rw [if_pos rfl] at H; exact H
        clear H
        have H := H1
        clear H1
        simp only [Option.some.injEq, Prod.mk.injEq] at H
        obtain ⟨rfl, rfl⟩ := H
        go_wp2
        go_ret2
        exact ⟨by first | rfl | (simp [errW_none, errW_some] <;> rfl) | (simp [*, errW_none, errW_some] <;> rfl), by repeat (first | (with_reducible first | exact HB.out | apply below_alloc | apply pw_below_drewN | apply below_drew1) | exact HB.out)⟩
      · replace c8 := Bool.eq_false_iff.mpr c8
        subst c8
        have H1 : (if (t109.size : Int) ≤ 9223372036854775807 then ((some (bytesOf t109 : List Int)).bind fun y111 => (num_Get.l0 kj4 0 y111 (y111.length : Int) 0)) else (none)) = some (r1, r2) := by rw [if_neg (show ¬ (false = true) by decide)] at H; exact H
        clear H
        have H := H1
        clear H1
        by_cases c9 : (t109.size : Int) ≤ 9223372036854775807
        · rw [if_pos c9] at H
          have c9b0 := eq_true c9
          have c9b1 : decide ((t109.size : Int) ≤ 9223372036854775807) = true := decide_eq_true c9
          try have c9b2 : (9223372036854775807 < (t109.size : Int)) = False := eq_false (Nat.not_lt.2 c9)
          clear c9
          obtain ⟨y111, hy111⟩ : ∃ y_ : List Int, y_ = (bytesOf t109) := ⟨_, rfl⟩
          replace H : (num_Get.l0 kj4 0 y111 (y111.length : Int) 0) = some (r1, r2) := by first | (rw [hy111]; with_reducible exact H) | (have H2_ := (Option.bind_some _ _).symm.trans H; rw [hy111]; with_reducible exact H2_) | (have H2_ := (Option.bind_some _ _).symm.trans H; with_reducible exact H2_) | with_reducible exact H | (rw [hy111]; exact H) | exact H
          have Ny111 := Aside0.mk hy111
          clear hy111
          have H' := Aside0.mk H
          clear H
          go_wp2_with (first | ((with_reducible refine gate_dst (N := 31) rfl ?_); refine Kd.V_conv _ 5 rfl (N' := 31) rfl 9 22 _ rfl t109 rfl Try.underlying9 Try.underlying22 Try.underlying5 (by have h_ : ((t109.size : Int) : Int) ≤ 9223372036854775807 := of_decide_eq_true (by first | (with_reducible assumption) | assumption); omega) (Below.refl _ _) (Nat.le_refl _) ?_; intro v112 w10 ho11 hb hg_ hnew_; clear hg_ hnew_; (first | rw [← Ny111.out] at ho11 | (simp only [Int.reduceToNat] at ho11; rw [← Ny111.out] at ho11)); have n0_ := Aside0.mk (Kd.V_lower (Kd.V_mono (ok' := fun k_ => True) ho11 (fun k_ hk_ => trivial)) (below_size (by repeat (first | (with_reducible first | exact HB.out | apply below_alloc | apply pw_below_drewN | apply below_drew1) | exact HB.out)))); have n1_ := Aside0.mk (below_step (by repeat (first | (with_reducible first | exact HB.out | apply below_alloc | apply pw_below_drewN | apply below_drew1) | exact HB.out)) hb); clear HB; have HO113 := n0_; have HB := n1_; clear n0_ n1_; clear hb ho11; obtain ⟨Ao12, co12, eo12⟩ := Kd.V_slice HO113.out; subst eo12))
          go_loopg [10, 33] kj4 (fun kq v10 v33 w' => ∃ (x10_2 : Int) (x33_2 : Int), v10 = .int .u64 x10_2 ∧ v33 = .int .i64 x33_2 ∧ Aside0 (num_Get.l0 kq x10_2 y111 (y111.length : Int) x33_2 = some (r1, r2)) ∧ Aside0 (kq ≤ kj4) ∧ Aside0 (Kd.V (Kd.int .u8) 5 w' w.heap.size (fun _ => True) (.slice Ao12 y111.length co12) y111) ∧ Aside0 (Below w.heap.size w w'))
          case atStart => exact ⟨(0), (0), (by first | rfl | (simp; done) | (simp [*]; done)), (by first | rfl | (simp; done) | (simp [*]; done)), H', ⟨Nat.le_refl _⟩, ⟨by (with_reducible repeat (first | apply Kd.V_alloc | apply Kd.V_drewN | apply Kd.V_drew)); exact HO113.out⟩, ⟨by repeat (first | (with_reducible first | exact HB.out | apply below_alloc | apply pw_below_drewN | apply below_drew1) | exact HB.out)⟩⟩
          case round =>
            clear H'
            try clear c1
            try clear p2
            try clear c6
            try clear c7
            try clear c7b0
            try clear c8
            try clear c9
            try clear c9b0
            try clear c9b1
            try clear c9b2
            try clear c10
            try clear p2
            obtain ⟨x10_2, x33_2, rfl, rfl, HA, HK2, HO_31, HB⟩ := hrel
            cases gk with
            | zero => exact absurd HA.out (by simp [num_Get.l0])
            | succ k2 =>
              have H := HA.out
              clear HA
              simp only [num_Get.l0] at H
              by_cases c13 : x33_2 < (y111.length : Int)
              · rw [if_pos c13] at H
                have c13b0 : decide (x33_2 < (y111.length : Int)) = true := decide_eq_true c13
                clear c13
                by_cases c14 : 0 ≤ x33_2
                · rw [if_pos c14] at H
                  have c14b0 : decide (0 ≤ x33_2) = true := decide_eq_true c14
                  clear c14
                  by_cases c15 : x33_2 < (y111.length : Int)
                  · rw [if_pos c15] at H
                    have c15b0 : decide (x33_2 < (y111.length : Int)) = true := decide_eq_true c15
                    clear c15
                    have H' := Aside0.mk H
                    clear H
                    have p114 : 0 ≤ (x33_2 : Int) := of_decide_eq_true (by first | (with_reducible assumption) | assumption)
                    have q114 : x33_2 < (y111.length : Int) := of_decide_eq_true (by first | (with_reducible assumption) | assumption)
                    obtain ⟨ad114, e114, hx114_0⟩ := Kd.at_int (Kd.V_reads' HO_31.out).2.2 x33_2 p114 q114
                    cases e114
                    replace p114 := eq_true p114
                    replace q114 := eq_true q114
                    go_wp2
                    go_roundg k2
                    case measure => have := HJ4.out; have := HK2.out; omega
                    case rel => exact ⟨(Go.bits .or .u64 (IntKind.u64.wrap (x10_2 * 256)) (IntKind.u64.wrap (rd y111 x33_2))), (wrap64 (x33_2 + 1)), (by first | rfl | (simp; done) | (simp [*]; done)), (by first | rfl | (simp; done) | (simp [*]; done)), H', ⟨by have := HJ4.out; have := HK2.out; omega⟩, ⟨by (with_reducible repeat (first | apply Kd.V_alloc | apply Kd.V_drewN | apply Kd.V_drew)); exact HO_31.out⟩, ⟨by repeat (first | (with_reducible first | exact HB.out | apply below_alloc | apply pw_below_drewN | apply below_drew1) | exact HB.out)⟩⟩
                  · rw [if_neg c15] at H
                    exact absurd H (by simp)
                · rw [if_neg c14] at H
                  exact absurd H (by simp)
              · rw [if_neg c13] at H
                have c13b0 : decide (x33_2 < (y111.length : Int)) = false := decide_eq_false c13
                clear c13
                simp only [Option.some.injEq, Prod.mk.injEq] at H
                obtain ⟨rfl, rfl⟩ := H
                go_wp2
                go_ret2
                exact ⟨by first | rfl | (simp [errW_none, errW_some] <;> rfl) | (simp [*, errW_none, errW_some] <;> rfl), by repeat (first | (with_reducible first | exact HB.out | apply below_alloc | apply pw_below_drewN | apply below_drew1) | exact HB.out)⟩
        · rw [if_neg c9] at H
          exact absurd H (by simp)

/-! ### num_Add32: function 11 -/
def num_Add32.f (a0 : Int) (a1 : Int) : Option (Int) := some ((mn (IntKind.u64.wrap ((IntKind.u64.wrap (a0)) + (IntKind.u64.wrap (a1)))) 4294967295) % 4294967296)
set_option maxHeartbeats 8000000 in
set_option maxRecDepth 100000 in
theorem num_Add32.calls (a0 : Int) (a1 : Int) (r : Int) (w : World) (h : num_Add32.f a0 a1 = some r) :
    Calls Try.prog 11 #[.int .u32 a0, .int .u32 a1] w fun e w' => e = .returned (.int .u32 r) ∧ Below w.heap.size w w' := by
  have HB := Aside0.mk (Below.refl w.heap.size w)
  have H : (some ((mn (IntKind.u64.wrap ((IntKind.u64.wrap (a0)) + (IntKind.u64.wrap (a1)))) 4294967295) % 4294967296)) = some r := h
  clear h
  obtain ⟨ji3, hji3⟩ : ∃ j_ : Int, (mn (IntKind.u64.wrap ((IntKind.u64.wrap (a0)) + (IntKind.u64.wrap (a1)))) 4294967295) = j_ := ⟨_, rfl⟩
  replace H : (some ((ji3) % 4294967296)) = some r := by first | (rw [hji3] at H; exact H) | (simp only [hji3] at H ⊢; exact H)
  (try (have hji3h : ji3 ≤ 4294967295 := by (rw [← hji3]; unfold mn; (repeat' split) <;> omega)))
  (try (have hji3g : ji3 ≤ 64 := by omega))
  have hji3_ : (if 4294967295 < (IntKind.u64.wrap ((IntKind.u64.wrap (a0)) + (IntKind.u64.wrap (a1)))) then 4294967295 else (IntKind.u64.wrap ((IntKind.u64.wrap (a0)) + (IntKind.u64.wrap (a1))))) = ji3 := hji3
  obtain rfl := Option.some.inj H
  go_enter Try.func11, Try.ntmps11
  go_wp2
  go_ret
  exact ⟨by first | rfl | (simp [errW_none, errW_some] <;> rfl) | (simp only [← hji3]; first | rfl | (simp [errW_none, errW_some] <;> rfl)) | (simp [*, errW_none, errW_some] <;> rfl), by repeat (first | (with_reducible first | exact HB.out | apply below_alloc | apply pw_below_drewN | apply below_drew1) | exact HB.out)⟩

/-! ### num_Add64: function 13 -/
def num_Add64.f (a0 : Int) (a1 : Int) : Option (Int) := if (IntKind.u64.wrap (a0 + a1)) < a0 then (some 18446744073709551615) else (some (IntKind.u64.wrap (a0 + a1)))
set_option maxHeartbeats 8000000 in
set_option maxRecDepth 100000 in
theorem num_Add64.calls (a0 : Int) (a1 : Int) (r : Int) (w : World) (h : num_Add64.f a0 a1 = some r) :
    Calls Try.prog 13 #[.int .u64 a0, .int .u64 a1] w fun e w' => e = .returned (.int .u64 r) ∧ Drawn0 w w' := by
  have H : (if (IntKind.u64.wrap (a0 + a1)) < a0 then (some 18446744073709551615) else (some (IntKind.u64.wrap (a0 + a1)))) = some r := h
  clear h
  by_cases c3 : (IntKind.u64.wrap (a0 + a1)) < a0
  · rw [if_pos c3] at H
    have c3b0 : decide ((IntKind.u64.wrap (a0 + a1)) < a0) = true := decide_eq_true c3
    clear c3
    obtain rfl := Option.some.inj H
    go_enter Try.func13, Try.ntmps13
    go_wp2
    go_ret
    exact ⟨by first | rfl | (simp; done) | (simp [*]; done), by repeat (first | exact Drawn0.refl _ | apply Drawn0.step)⟩
  · rw [if_neg c3] at H
    have c3b0 : decide ((IntKind.u64.wrap (a0 + a1)) < a0) = false := decide_eq_false c3
    clear c3
    obtain rfl := Option.some.inj H
    go_enter Try.func13, Try.ntmps13
    go_wp2
    go_ret
    exact ⟨by first | rfl | (simp; done) | (simp [*]; done), by repeat (first | exact Drawn0.refl _ | apply Drawn0.step)⟩

/-! ### num_Mul64: function 15 -/
def num_Mul64.f (a0 : Int) (a1 : Int) : Option (Int) := if a0 = 0 then (some (IntKind.u64.wrap (a0 * a1))) else (if a1 > (IntKind.u64.wrap (Int.tdiv (18446744073709551615 : Int) a0)) then (some 18446744073709551615) else (some (IntKind.u64.wrap (a0 * a1))))
set_option maxHeartbeats 8000000 in
set_option maxRecDepth 100000 in
theorem num_Mul64.calls (a0 : Int) (a1 : Int) (r : Int) (w : World) (h : num_Mul64.f a0 a1 = some r) :
    Calls Try.prog 15 #[.int .u64 a0, .int .u64 a1] w fun e w' => e = .returned (.int .u64 r) ∧ Drawn0 w w' := by
  have H : (if a0 = 0 then (some (IntKind.u64.wrap (a0 * a1))) else (if a1 > (IntKind.u64.wrap (Int.tdiv (18446744073709551615 : Int) a0)) then (some 18446744073709551615) else (some (IntKind.u64.wrap (a0 * a1))))) = some r := h
  clear h
  by_cases c3 : a0 = 0
  · rw [if_pos c3] at H
    have c3b0 : (a0 == 0) = true := beq_iff_eq.mpr c3
    have c3b1 : (a0 != 0) = false := bne_eq_false_iff_eq.mpr c3
    clear c3
    obtain rfl := Option.some.inj H
    go_enter Try.func15, Try.ntmps15
    go_wp2
    go_ret
    exact ⟨by first | rfl | (simp; done) | (simp [*]; done), by repeat (first | exact Drawn0.refl _ | apply Drawn0.step)⟩
  · rw [if_neg c3] at H
    have c3b0 : (a0 == 0) = false := beq_eq_false_iff_ne.mpr c3
    have c3b1 : (a0 != 0) = true := bne_iff_ne.mpr c3
    by_cases c4 : a1 > (IntKind.u64.wrap (Int.tdiv (18446744073709551615 : Int) a0))
    · rw [if_pos c4] at H
      have c4b0 : decide ((IntKind.u64.wrap (Int.tdiv (18446744073709551615 : Int) a0)) < a1) = true := decide_eq_true c4
      clear c4
      obtain rfl := Option.some.inj H
      go_enter Try.func15, Try.ntmps15
      go_wp2
      go_ret
      exact ⟨by first | rfl | (simp; done) | (simp [*]; done), by repeat (first | exact Drawn0.refl _ | apply Drawn0.step)⟩
    · rw [if_neg c4] at H
      have c4b0 : decide ((IntKind.u64.wrap (Int.tdiv (18446744073709551615 : Int) a0)) < a1) = false := decide_eq_false c4
      clear c4
      obtain rfl := Option.some.inj H
      go_enter Try.func15, Try.ntmps15
      go_wp2
      go_ret
      exact ⟨by first | rfl | (simp; done) | (simp [*]; done), by repeat (first | exact Drawn0.refl _ | apply Drawn0.step)⟩

/-! ### nunciolaw01_awake: function 8 -/
def nunciolaw01_awake.f (k : Nat)  : Option (Bool) := (num_Get.f k (⟨#[1, 2]⟩ : ByteArray) 0 2).bind fun bt115 => ((num_Get.f k (⟨#[1, 2]⟩ : ByteArray) 1 2).bind fun bt117 => (if bt115.1 = 258 then (if bt115.2 = true then (if bt117.2 = true then (some false) else ((num_Put.f k ([] : List Int) 258 3).bind fun t119 => (if (strOfNums t119).toList = ([0, 1, 2] : List UInt8) then ((num_Add32.f 4294967295 1).bind fun t122 => (if t122 = 4294967295 then ((num_Add64.f 2 3).bind fun t123 => (if t123 = 5 then ((num_Mul64.f 4 5).bind fun t124 => (some (t124 == 20))) else (some false))) else (some false))) else (some false)))) else (some false)) else (some false)))
theorem nunciolaw01_awake.mono : ∀ k, LeO (nunciolaw01_awake.f k ) (nunciolaw01_awake.f (k + 1) ) := by
  intro  k
  unfold nunciolaw01_awake.f
  repeat' first
      | (with_reducible exact num_Get.mono _ _ _ _)
      | (with_reducible exact num_Put.mono _ _ _ _)
      | (with_reducible exact LeO.refl _)
      | (with_reducible exact LeO.none _)
      | (with_reducible refine LeO.ite ?_ ?_)
      | (with_reducible refine LeO.bind ?_ (fun _ => ?_))
      | exact num_Get.mono _ _ _ _
      | exact num_Put.mono _ _ _ _
      | exact LeO.none _
      | refine LeO.ite ?_ ?_
      | refine LeO.bind ?_ (fun _ => ?_)
set_option maxHeartbeats 8000000 in
set_option maxRecDepth 100000 in
theorem nunciolaw01_awake.calls (k : Nat)  (r : Bool) (w : World) (h : nunciolaw01_awake.f k  = some r) :
    Calls Try.prog 8 #[] w fun e w' => e = .returned (.bool r) ∧ Below w.heap.size w w' := by
  have HB := Aside0.mk (Below.refl w.heap.size w)
  have H : ((num_Get.f k (⟨#[1, 2]⟩ : ByteArray) 0 2).bind fun bt115 => ((num_Get.f k (⟨#[1, 2]⟩ : ByteArray) 1 2).bind fun bt117 => (if bt115.1 = 258 then (if bt115.2 = true then (if bt117.2 = true then (some false) else ((num_Put.f k ([] : List Int) 258 3).bind fun t119 => (if (strOfNums t119).toList = ([0, 1, 2] : List UInt8) then ((num_Add32.f 4294967295 1).bind fun t122 => (if t122 = 4294967295 then ((num_Add64.f 2 3).bind fun t123 => (if t123 = 5 then ((num_Mul64.f 4 5).bind fun t124 => (some (t124 == 20))) else (some false))) else (some false))) else (some false)))) else (some false)) else (some false)))) = some r := h
  clear h
  replace H := Option.bind_eq_some_iff.mp H
  obtain ⟨⟨t115, t116⟩, A10, H⟩ := H
  replace H : ((num_Get.f k (⟨#[1, 2]⟩ : ByteArray) 1 2).bind fun bt117 => (if t115 = 258 then (if t116 = true then (if bt117.2 = true then (some false) else ((num_Put.f k ([] : List Int) 258 3).bind fun t119 => (if (strOfNums t119).toList = ([0, 1, 2] : List UInt8) then ((num_Add32.f 4294967295 1).bind fun t122 => (if t122 = 4294967295 then ((num_Add64.f 2 3).bind fun t123 => (if t123 = 5 then ((num_Mul64.f 4 5).bind fun t124 => (some (t124 == 20))) else (some false))) else (some false))) else (some false)))) else (some false)) else (some false))) = some r := H
  have A1 := Aside0.mk A10
  clear A10
  replace H := Option.bind_eq_some_iff.mp H
  obtain ⟨⟨t117, t118⟩, A20, H⟩ := H
  replace H : (if t115 = 258 then (if t116 = true then (if t118 = true then (some false) else ((num_Put.f k ([] : List Int) 258 3).bind fun t119 => (if (strOfNums t119).toList = ([0, 1, 2] : List UInt8) then ((num_Add32.f 4294967295 1).bind fun t122 => (if t122 = 4294967295 then ((num_Add64.f 2 3).bind fun t123 => (if t123 = 5 then ((num_Mul64.f 4 5).bind fun t124 => (some (t124 == 20))) else (some false))) else (some false))) else (some false)))) else (some false)) else (some false)) = some r := H
  have A2 := Aside0.mk A20
  clear A20
  by_cases c3 : t115 = 258
  · rw [if_pos c3] at H
    have c3b0 : (t115 == 258) = true := beq_iff_eq.mpr c3
    have c3b1 : (t115 != 258) = false := bne_eq_false_iff_eq.mpr c3
    clear c3
    by_cases c4 : t116 = true
    · subst c4
      have H1 : (if t118 = true then (some false) else ((num_Put.f k ([] : List Int) 258 3).bind fun t119 => (if (strOfNums t119).toList = ([0, 1, 2] : List UInt8) then ((num_Add32.f 4294967295 1).bind fun t122 => (if t122 = 4294967295 then ((num_Add64.f 2 3).bind fun t123 => (if t123 = 5 then ((num_Mul64.f 4 5).bind fun t124 => (some (t124 == 20))) else (some false))) else (some false))) else (some false)))) = some r := by rw [if_pos rfl] at H; exact H
      clear H
      have H := H1
      clear H1
      by_cases c5 : t118 = true
      · subst c5
        have H1 : (some false) = some r := by rw [if_pos rfl] at H; exact H
        clear H
        have H := H1
        clear H1
        obtain rfl := Option.some.inj H
        go_enter Try.func8, Try.ntmps8
        go_wp2_with (first | ((with_reducible refine gate_callee (f := 10) rfl ?_); refine goesL_ (some 6) rfl rfl Try.func10 (by kernel_rfl) rfl #[.string (⟨#[1, 2]⟩ : ByteArray), .int .i64 0, .int .i64 2] rfl (by (try simp only [List.map_toArray, List.map_cons, List.map_nil]); first | done | rfl | (simp only [List.length_drop, List.length_take]; rfl)) ?_; (with_reducible refine (num_Get.calls k (⟨#[1, 2]⟩ : ByteArray) 0 2 t115 true _ A1.out).mono ?_); rintro e w6 ⟨rfl, hb⟩; refine ⟨_, rfl, ?_⟩; have n0_ := Aside0.mk (below_step (by repeat (first | (with_reducible first | exact HB.out | apply below_alloc | apply pw_below_drewN | apply below_drew1) | exact HB.out)) hb); clear HB; have HB := n0_; clear n0_; (try clear hb); (try clear hb2); (try clear hk); (try clear hi)) | ((with_reducible refine gate_callee (f := 10) rfl ?_); refine goesL_ (some 10) rfl rfl Try.func10 (by kernel_rfl) rfl #[.string (⟨#[1, 2]⟩ : ByteArray), .int .i64 1, .int .i64 2] rfl (by (try simp only [List.map_toArray, List.map_cons, List.map_nil]); first | done | rfl | (simp only [List.length_drop, List.length_take]; rfl)) ?_; (with_reducible refine (num_Get.calls k (⟨#[1, 2]⟩ : ByteArray) 1 2 t117 true _ A2.out).mono ?_); rintro e w7 ⟨rfl, hb⟩; refine ⟨_, rfl, ?_⟩; have n0_ := Aside0.mk (below_step (by repeat (first | (with_reducible first | exact HB.out | apply below_alloc | apply pw_below_drewN | apply below_drew1) | exact HB.out)) hb); clear HB; have HB := n0_; clear n0_; (try clear hb); (try clear hb2); (try clear hk); (try clear hi)))
        go_ret
        exact ⟨by first | rfl | (simp [errW_none, errW_some] <;> rfl) | (simp [*, errW_none, errW_some] <;> rfl), by repeat (first | (with_reducible first | exact HB.out | apply below_alloc | apply pw_below_drewN | apply below_drew1) | exact HB.out)⟩
      · replace c5 := Bool.eq_false_iff.mpr c5
        subst c5
        have H1 : ((num_Put.f k ([] : List Int) 258 3).bind fun t119 => (if (strOfNums t119).toList = ([0, 1, 2] : List UInt8) then ((num_Add32.f 4294967295 1).bind fun t122 => (if t122 = 4294967295 then ((num_Add64.f 2 3).bind fun t123 => (if t123 = 5 then ((num_Mul64.f 4 5).bind fun t124 => (some (t124 == 20))) else (some false))) else (some false))) else (some false))) = some r := by rw [if_neg (show ¬ (false = true) by decide)] at H; exact H
        clear H
        have H := H1
        clear H1
        replace H := Option.bind_eq_some_iff.mp H
        obtain ⟨t119, A80, H⟩ := H
        replace H : (if (strOfNums t119).toList = ([0, 1, 2] : List UInt8) then ((num_Add32.f 4294967295 1).bind fun t122 => (if t122 = 4294967295 then ((num_Add64.f 2 3).bind fun t123 => (if t123 = 5 then ((num_Mul64.f 4 5).bind fun t124 => (some (t124 == 20))) else (some false))) else (some false))) else (some false)) = some r := H
        have A8 := Aside0.mk A80
        clear A80
        by_cases c9 : (strOfNums t119).toList = ([0, 1, 2] : List UInt8)
        · rw [if_pos c9] at H
          have c9b0 : ((strOfNums t119).toList == ([0, 1, 2] : List UInt8)) = true := beq_iff_eq.mpr c9
          have c9b1 : ((strOfNums t119).toList != ([0, 1, 2] : List UInt8)) = false := bne_eq_false_iff_eq.mpr c9
          clear c9
          replace H := Option.bind_eq_some_iff.mp H
          obtain ⟨t122, A100, H⟩ := H
          replace H : (if t122 = 4294967295 then ((num_Add64.f 2 3).bind fun t123 => (if t123 = 5 then ((num_Mul64.f 4 5).bind fun t124 => (some (t124 == 20))) else (some false))) else (some false)) = some r := H
          have A10 := Aside0.mk A100
          clear A100
          by_cases c11 : t122 = 4294967295
          · rw [if_pos c11] at H
            have c11b0 : (t122 == 4294967295) = true := beq_iff_eq.mpr c11
            have c11b1 : (t122 != 4294967295) = false := bne_eq_false_iff_eq.mpr c11
            clear c11
            replace H := Option.bind_eq_some_iff.mp H
            obtain ⟨t123, A120, H⟩ := H
            replace H : (if t123 = 5 then ((num_Mul64.f 4 5).bind fun t124 => (some (t124 == 20))) else (some false)) = some r := H
            have A12 := Aside0.mk A120
            clear A120
            by_cases c13 : t123 = 5
            · rw [if_pos c13] at H
              have c13b0 : (t123 == 5) = true := beq_iff_eq.mpr c13
              have c13b1 : (t123 != 5) = false := bne_eq_false_iff_eq.mpr c13
              clear c13
              replace H := Option.bind_eq_some_iff.mp H
              obtain ⟨t124, A140, H⟩ := H
              replace H : (some (t124 == 20)) = some r := H
              have A14 := Aside0.mk A140
              clear A140
              obtain rfl := Option.some.inj H
              go_enter Try.func8, Try.ntmps8
              go_wp2_with (first | ((with_reducible refine gate_callee (f := 10) rfl ?_); refine goesL_ (some 6) rfl rfl Try.func10 (by kernel_rfl) rfl #[.string (⟨#[1, 2]⟩ : ByteArray), .int .i64 0, .int .i64 2] rfl (by (try simp only [List.map_toArray, List.map_cons, List.map_nil]); first | done | rfl | (simp only [List.length_drop, List.length_take]; rfl)) ?_; (with_reducible refine (num_Get.calls k (⟨#[1, 2]⟩ : ByteArray) 0 2 t115 true _ A1.out).mono ?_); rintro e w15 ⟨rfl, hb⟩; refine ⟨_, rfl, ?_⟩; have n0_ := Aside0.mk (below_step (by repeat (first | (with_reducible first | exact HB.out | apply below_alloc | apply pw_below_drewN | apply below_drew1) | exact HB.out)) hb); clear HB; have HB := n0_; clear n0_; (try clear hb); (try clear hb2); (try clear hk); (try clear hi)) | ((with_reducible refine gate_callee (f := 10) rfl ?_); refine goesL_ (some 10) rfl rfl Try.func10 (by kernel_rfl) rfl #[.string (⟨#[1, 2]⟩ : ByteArray), .int .i64 1, .int .i64 2] rfl (by (try simp only [List.map_toArray, List.map_cons, List.map_nil]); first | done | rfl | (simp only [List.length_drop, List.length_take]; rfl)) ?_; (with_reducible refine (num_Get.calls k (⟨#[1, 2]⟩ : ByteArray) 1 2 t117 false _ A2.out).mono ?_); rintro e w16 ⟨rfl, hb⟩; refine ⟨_, rfl, ?_⟩; have n0_ := Aside0.mk (below_step (by repeat (first | (with_reducible first | exact HB.out | apply below_alloc | apply pw_below_drewN | apply below_drew1) | exact HB.out)) hb); clear HB; have HB := n0_; clear n0_; (try clear hb); (try clear hb2); (try clear hk); (try clear hi)) | (go_at_call 9; (refine (num_Put.calls k _ _ ([] : List Int) 258 3 t119 _ ?side1 ?side2 A8.out).mono ?_); (case side1 => exact Kd.C_nil _ _); (case side2 => exact Nat.le_refl _); rintro e w17 ⟨v120, rfl, ho0, hb⟩; have n0_ := Aside0.mk (Kd.R_lower ho0 (below_size (by repeat (first | (with_reducible first | exact HB.out | apply below_alloc | apply pw_below_drewN | apply below_drew1) | exact HB.out)))); have n1_ := Aside0.mk (below_step (by repeat (first | (with_reducible first | exact HB.out | apply below_alloc | apply pw_below_drewN | apply below_drew1) | exact HB.out)) hb); clear HB; have HO121 := n0_; have HB := n1_; clear n0_ n1_; (try clear hb); (try clear hb2); (try clear hk); (try clear hi); (try clear ho0); have hcv18 := own_string (P := Try.prog) Try.underlying22 Try.underlying5 Try.underlying9 (Kd.own_of_R HO121.out)) | (go_at_call 11; (with_reducible refine (num_Add32.calls 4294967295 1 t122 _ A10.out).mono ?_); rintro e w19 ⟨rfl, hb⟩; have n0_ := Aside0.mk (Kd.R_below (by (with_reducible repeat (first | apply Kd.R_alloc | apply Kd.R_drewN | apply Kd.R_drew)); exact HO121.out) hb); have n1_ := Aside0.mk (below_step (by repeat (first | (with_reducible first | exact HB.out | apply below_alloc | apply pw_below_drewN | apply below_drew1) | exact HB.out)) hb); clear HO121; clear HB; have HO121 := n0_; have HB := n1_; clear n0_ n1_; (try clear hb); (try clear hb2); (try clear hk); (try clear hi)) | (go_at_call 13; (with_reducible refine (num_Add64.calls 2 3 t123 _ A12.out).mono ?_); rintro e w' ⟨rfl, ⟨nd, rfl⟩⟩) | (go_at_call 15; (with_reducible refine (num_Mul64.calls 4 5 t124 _ A14.out).mono ?_); rintro e w' ⟨rfl, ⟨nd, rfl⟩⟩))
              go_ret
              exact ⟨by first | rfl | (simp [errW_none, errW_some] <;> rfl) | (simp [*, errW_none, errW_some] <;> rfl), by repeat (first | (with_reducible first | exact HB.out | apply below_alloc | apply pw_below_drewN | apply below_drew1) | exact HB.out)⟩
            · rw [if_neg c13] at H
              have c13b0 : (t123 == 5) = false := beq_eq_false_iff_ne.mpr c13
              have c13b1 : (t123 != 5) = true := bne_iff_ne.mpr c13
              obtain rfl := Option.some.inj H
              go_enter Try.func8, Try.ntmps8
              go_wp2_with (first | ((with_reducible refine gate_callee (f := 10) rfl ?_); refine goesL_ (some 6) rfl rfl Try.func10 (by kernel_rfl) rfl #[.string (⟨#[1, 2]⟩ : ByteArray), .int .i64 0, .int .i64 2] rfl (by (try simp only [List.map_toArray, List.map_cons, List.map_nil]); first | done | rfl | (simp only [List.length_drop, List.length_take]; rfl)) ?_; (with_reducible refine (num_Get.calls k (⟨#[1, 2]⟩ : ByteArray) 0 2 t115 true _ A1.out).mono ?_); rintro e w20 ⟨rfl, hb⟩; refine ⟨_, rfl, ?_⟩; have n0_ := Aside0.mk (below_step (by repeat (first | (with_reducible first | exact HB.out | apply below_alloc | apply pw_below_drewN | apply below_drew1) | exact HB.out)) hb); clear HB; have HB := n0_; clear n0_; (try clear hb); (try clear hb2); (try clear hk); (try clear hi)) | ((with_reducible refine gate_callee (f := 10) rfl ?_); refine goesL_ (some 10) rfl rfl Try.func10 (by kernel_rfl) rfl #[.string (⟨#[1, 2]⟩ : ByteArray), .int .i64 1, .int .i64 2] rfl (by (try simp only [List.map_toArray, List.map_cons, List.map_nil]); first | done | rfl | (simp only [List.length_drop, List.length_take]; rfl)) ?_; (with_reducible refine (num_Get.calls k (⟨#[1, 2]⟩ : ByteArray) 1 2 t117 false _ A2.out).mono ?_); rintro e w21 ⟨rfl, hb⟩; refine ⟨_, rfl, ?_⟩; have n0_ := Aside0.mk (below_step (by repeat (first | (with_reducible first | exact HB.out | apply below_alloc | apply pw_below_drewN | apply below_drew1) | exact HB.out)) hb); clear HB; have HB := n0_; clear n0_; (try clear hb); (try clear hb2); (try clear hk); (try clear hi)) | (go_at_call 9; (refine (num_Put.calls k _ _ ([] : List Int) 258 3 t119 _ ?side1 ?side2 A8.out).mono ?_); (case side1 => exact Kd.C_nil _ _); (case side2 => exact Nat.le_refl _); rintro e w22 ⟨v120, rfl, ho0, hb⟩; have n0_ := Aside0.mk (Kd.R_lower ho0 (below_size (by repeat (first | (with_reducible first | exact HB.out | apply below_alloc | apply pw_below_drewN | apply below_drew1) | exact HB.out)))); have n1_ := Aside0.mk (below_step (by repeat (first | (with_reducible first | exact HB.out | apply below_alloc | apply pw_below_drewN | apply below_drew1) | exact HB.out)) hb); clear HB; have HO121 := n0_; have HB := n1_; clear n0_ n1_; (try clear hb); (try clear hb2); (try clear hk); (try clear hi); (try clear ho0); have hcv23 := own_string (P := Try.prog) Try.underlying22 Try.underlying5 Try.underlying9 (Kd.own_of_R HO121.out)) | (go_at_call 11; (with_reducible refine (num_Add32.calls 4294967295 1 t122 _ A10.out).mono ?_); rintro e w24 ⟨rfl, hb⟩; have n0_ := Aside0.mk (Kd.R_below (by (with_reducible repeat (first | apply Kd.R_alloc | apply Kd.R_drewN | apply Kd.R_drew)); exact HO121.out) hb); have n1_ := Aside0.mk (below_step (by repeat (first | (with_reducible first | exact HB.out | apply below_alloc | apply pw_below_drewN | apply below_drew1) | exact HB.out)) hb); clear HO121; clear HB; have HO121 := n0_; have HB := n1_; clear n0_ n1_; (try clear hb); (try clear hb2); (try clear hk); (try clear hi)) | (go_at_call 13; (with_reducible refine (num_Add64.calls 2 3 t123 _ A12.out).mono ?_); rintro e w' ⟨rfl, ⟨nd, rfl⟩⟩))
              go_ret
              exact ⟨by first | rfl | (simp [errW_none, errW_some] <;> rfl) | (simp [*, errW_none, errW_some] <;> rfl), by repeat (first | (with_reducible first | exact HB.out | apply below_alloc | apply pw_below_drewN | apply below_drew1) | exact HB.out)⟩
          · rw [if_neg c11] at H
            have c11b0 : (t122 == 4294967295) = false := beq_eq_false_iff_ne.mpr c11
            have c11b1 : (t122 != 4294967295) = true := bne_iff_ne.mpr c11
            obtain rfl := Option.some.inj H
            go_enter Try.func8, Try.ntmps8
            go_wp2_with (first | ((with_reducible refine gate_callee (f := 10) rfl ?_); refine goesL_ (some 6) rfl rfl Try.func10 (by kernel_rfl) rfl #[.string (⟨#[1, 2]⟩ : ByteArray), .int .i64 0, .int .i64 2] rfl (by (try simp only [List.map_toArray, List.map_cons, List.map_nil]); first | done | rfl | (simp only [List.length_drop, List.length_take]; rfl)) ?_; (with_reducible refine (num_Get.calls k (⟨#[1, 2]⟩ : ByteArray) 0 2 t115 true _ A1.out).mono ?_); rintro e w25 ⟨rfl, hb⟩; refine ⟨_, rfl, ?_⟩; have n0_ := Aside0.mk (below_step (by repeat (first | (with_reducible first | exact HB.out | apply below_alloc | apply pw_below_drewN | apply below_drew1) | exact HB.out)) hb); clear HB; have HB := n0_; clear n0_; (try clear hb); (try clear hb2); (try clear hk); (try clear hi)) | ((with_reducible refine gate_callee (f := 10) rfl ?_); refine goesL_ (some 10) rfl rfl Try.func10 (by kernel_rfl) rfl #[.string (⟨#[1, 2]⟩ : ByteArray), .int .i64 1, .int .i64 2] rfl (by (try simp only [List.map_toArray, List.map_cons, List.map_nil]); first | done | rfl | (simp only [List.length_drop, List.length_take]; rfl)) ?_; (with_reducible refine (num_Get.calls k (⟨#[1, 2]⟩ : ByteArray) 1 2 t117 false _ A2.out).mono ?_); rintro e w26 ⟨rfl, hb⟩; refine ⟨_, rfl, ?_⟩; have n0_ := Aside0.mk (below_step (by repeat (first | (with_reducible first | exact HB.out | apply below_alloc | apply pw_below_drewN | apply below_drew1) | exact HB.out)) hb); clear HB; have HB := n0_; clear n0_; (try clear hb); (try clear hb2); (try clear hk); (try clear hi)) | (go_at_call 9; (refine (num_Put.calls k _ _ ([] : List Int) 258 3 t119 _ ?side1 ?side2 A8.out).mono ?_); (case side1 => exact Kd.C_nil _ _); (case side2 => exact Nat.le_refl _); rintro e w27 ⟨v120, rfl, ho0, hb⟩; have n0_ := Aside0.mk (Kd.R_lower ho0 (below_size (by repeat (first | (with_reducible first | exact HB.out | apply below_alloc | apply pw_below_drewN | apply below_drew1) | exact HB.out)))); have n1_ := Aside0.mk (below_step (by repeat (first | (with_reducible first | exact HB.out | apply below_alloc | apply pw_below_drewN | apply below_drew1) | exact HB.out)) hb); clear HB; have HO121 := n0_; have HB := n1_; clear n0_ n1_; (try clear hb); (try clear hb2); (try clear hk); (try clear hi); (try clear ho0); have hcv28 := own_string (P := Try.prog) Try.underlying22 Try.underlying5 Try.underlying9 (Kd.own_of_R HO121.out)) | (go_at_call 11; (with_reducible refine (num_Add32.calls 4294967295 1 t122 _ A10.out).mono ?_); rintro e w29 ⟨rfl, hb⟩; have n0_ := Aside0.mk (Kd.R_below (by (with_reducible repeat (first | apply Kd.R_alloc | apply Kd.R_drewN | apply Kd.R_drew)); exact HO121.out) hb); have n1_ := Aside0.mk (below_step (by repeat (first | (with_reducible first | exact HB.out | apply below_alloc | apply pw_below_drewN | apply below_drew1) | exact HB.out)) hb); clear HO121; clear HB; have HO121 := n0_; have HB := n1_; clear n0_ n1_; (try clear hb); (try clear hb2); (try clear hk); (try clear hi)))
            go_ret
            exact ⟨by first | rfl | (simp [errW_none, errW_some] <;> rfl) | (simp [*, errW_none, errW_some] <;> rfl), by repeat (first | (with_reducible first | exact HB.out | apply below_alloc | apply pw_below_drewN | apply below_drew1) | exact HB.out)⟩
        · rw [if_neg c9] at H
          have c9b0 : ((strOfNums t119).toList == ([0, 1, 2] : List UInt8)) = false := beq_eq_false_iff_ne.mpr c9
          have c9b1 : ((strOfNums t119).toList != ([0, 1, 2] : List UInt8)) = true := bne_iff_ne.mpr c9
          obtain rfl := Option.some.inj H
          go_enter Try.func8, Try.ntmps8
          go_wp2_with (first | ((with_reducible refine gate_callee (f := 10) rfl ?_); refine goesL_ (some 6) rfl rfl Try.func10 (by kernel_rfl) rfl #[.string (⟨#[1, 2]⟩ : ByteArray), .int .i64 0, .int .i64 2] rfl (by (try simp only [List.map_toArray, List.map_cons, List.map_nil]); first | done | rfl | (simp only [List.length_drop, List.length_take]; rfl)) ?_; (with_reducible refine (num_Get.calls k (⟨#[1, 2]⟩ : ByteArray) 0 2 t115 true _ A1.out).mono ?_); rintro e w30 ⟨rfl, hb⟩; refine ⟨_, rfl, ?_⟩; have n0_ := Aside0.mk (below_step (by repeat (first | (with_reducible first | exact HB.out | apply below_alloc | apply pw_below_drewN | apply below_drew1) | exact HB.out)) hb); clear HB; have HB := n0_; clear n0_; (try clear hb); (try clear hb2); (try clear hk); (try clear hi)) | ((with_reducible refine gate_callee (f := 10) rfl ?_); refine goesL_ (some 10) rfl rfl Try.func10 (by kernel_rfl) rfl #[.string (⟨#[1, 2]⟩ : ByteArray), .int .i64 1, .int .i64 2] rfl (by (try simp only [List.map_toArray, List.map_cons, List.map_nil]); first | done | rfl | (simp only [List.length_drop, List.length_take]; rfl)) ?_; (with_reducible refine (num_Get.calls k (⟨#[1, 2]⟩ : ByteArray) 1 2 t117 false _ A2.out).mono ?_); rintro e w31 ⟨rfl, hb⟩; refine ⟨_, rfl, ?_⟩; have n0_ := Aside0.mk (below_step (by repeat (first | (with_reducible first | exact HB.out | apply below_alloc | apply pw_below_drewN | apply below_drew1) | exact HB.out)) hb); clear HB; have HB := n0_; clear n0_; (try clear hb); (try clear hb2); (try clear hk); (try clear hi)) | (go_at_call 9; (refine (num_Put.calls k _ _ ([] : List Int) 258 3 t119 _ ?side1 ?side2 A8.out).mono ?_); (case side1 => exact Kd.C_nil _ _); (case side2 => exact Nat.le_refl _); rintro e w32 ⟨v120, rfl, ho0, hb⟩; have n0_ := Aside0.mk (Kd.R_lower ho0 (below_size (by repeat (first | (with_reducible first | exact HB.out | apply below_alloc | apply pw_below_drewN | apply below_drew1) | exact HB.out)))); have n1_ := Aside0.mk (below_step (by repeat (first | (with_reducible first | exact HB.out | apply below_alloc | apply pw_below_drewN | apply below_drew1) | exact HB.out)) hb); clear HB; have HO121 := n0_; have HB := n1_; clear n0_ n1_; (try clear hb); (try clear hb2); (try clear hk); (try clear hi); (try clear ho0); have hcv33 := own_string (P := Try.prog) Try.underlying22 Try.underlying5 Try.underlying9 (Kd.own_of_R HO121.out)))
          go_ret
          exact ⟨by first | rfl | (simp [errW_none, errW_some] <;> rfl) | (simp [*, errW_none, errW_some] <;> rfl), by repeat (first | (with_reducible first | exact HB.out | apply below_alloc | apply pw_below_drewN | apply below_drew1) | exact HB.out)⟩
    · replace c4 := Bool.eq_false_iff.mpr c4
      subst c4
      have H1 : (some false) = some r := by rw [if_neg (show ¬ (false = true) by decide)] at H; exact H
      clear H
      have H := H1
      clear H1
      obtain rfl := Option.some.inj H
      go_enter Try.func8, Try.ntmps8
      go_wp2_with (first | ((with_reducible refine gate_callee (f := 10) rfl ?_); refine goesL_ (some 6) rfl rfl Try.func10 (by kernel_rfl) rfl #[.string (⟨#[1, 2]⟩ : ByteArray), .int .i64 0, .int .i64 2] rfl (by (try simp only [List.map_toArray, List.map_cons, List.map_nil]); first | done | rfl | (simp only [List.length_drop, List.length_take]; rfl)) ?_; (with_reducible refine (num_Get.calls k (⟨#[1, 2]⟩ : ByteArray) 0 2 t115 false _ A1.out).mono ?_); rintro e w34 ⟨rfl, hb⟩; refine ⟨_, rfl, ?_⟩; have n0_ := Aside0.mk (below_step (by repeat (first | (with_reducible first | exact HB.out | apply below_alloc | apply pw_below_drewN | apply below_drew1) | exact HB.out)) hb); clear HB; have HB := n0_; clear n0_; (try clear hb); (try clear hb2); (try clear hk); (try clear hi)) | ((with_reducible refine gate_callee (f := 10) rfl ?_); refine goesL_ (some 10) rfl rfl Try.func10 (by kernel_rfl) rfl #[.string (⟨#[1, 2]⟩ : ByteArray), .int .i64 1, .int .i64 2] rfl (by (try simp only [List.map_toArray, List.map_cons, List.map_nil]); first | done | rfl | (simp only [List.length_drop, List.length_take]; rfl)) ?_; (with_reducible refine (num_Get.calls k (⟨#[1, 2]⟩ : ByteArray) 1 2 t117 t118 _ A2.out).mono ?_); rintro e w35 ⟨rfl, hb⟩; refine ⟨_, rfl, ?_⟩; have n0_ := Aside0.mk (below_step (by repeat (first | (with_reducible first | exact HB.out | apply below_alloc | apply pw_below_drewN | apply below_drew1) | exact HB.out)) hb); clear HB; have HB := n0_; clear n0_; (try clear hb); (try clear hb2); (try clear hk); (try clear hi)))
      go_ret
      exact ⟨by first | rfl | (simp [errW_none, errW_some] <;> rfl) | (simp [*, errW_none, errW_some] <;> rfl), by repeat (first | (with_reducible first | exact HB.out | apply below_alloc | apply pw_below_drewN | apply below_drew1) | exact HB.out)⟩
  · rw [if_neg c3] at H
    have c3b0 : (t115 == 258) = false := beq_eq_false_iff_ne.mpr c3
    have c3b1 : (t115 != 258) = true := bne_iff_ne.mpr c3
    obtain rfl := Option.some.inj H
    go_enter Try.func8, Try.ntmps8
    go_wp2_with (first | ((with_reducible refine gate_callee (f := 10) rfl ?_); refine goesL_ (some 6) rfl rfl Try.func10 (by kernel_rfl) rfl #[.string (⟨#[1, 2]⟩ : ByteArray), .int .i64 0, .int .i64 2] rfl (by (try simp only [List.map_toArray, List.map_cons, List.map_nil]); first | done | rfl | (simp only [List.length_drop, List.length_take]; rfl)) ?_; (with_reducible refine (num_Get.calls k (⟨#[1, 2]⟩ : ByteArray) 0 2 t115 t116 _ A1.out).mono ?_); rintro e w36 ⟨rfl, hb⟩; refine ⟨_, rfl, ?_⟩; have n0_ := Aside0.mk (below_step (by repeat (first | (with_reducible first | exact HB.out | apply below_alloc | apply pw_below_drewN | apply below_drew1) | exact HB.out)) hb); clear HB; have HB := n0_; clear n0_; (try clear hb); (try clear hb2); (try clear hk); (try clear hi)) | ((with_reducible refine gate_callee (f := 10) rfl ?_); refine goesL_ (some 10) rfl rfl Try.func10 (by kernel_rfl) rfl #[.string (⟨#[1, 2]⟩ : ByteArray), .int .i64 1, .int .i64 2] rfl (by (try simp only [List.map_toArray, List.map_cons, List.map_nil]); first | done | rfl | (simp only [List.length_drop, List.length_take]; rfl)) ?_; (with_reducible refine (num_Get.calls k (⟨#[1, 2]⟩ : ByteArray) 1 2 t117 t118 _ A2.out).mono ?_); rintro e w37 ⟨rfl, hb⟩; refine ⟨_, rfl, ?_⟩; have n0_ := Aside0.mk (below_step (by repeat (first | (with_reducible first | exact HB.out | apply below_alloc | apply pw_below_drewN | apply below_drew1) | exact HB.out)) hb); clear HB; have HB := n0_; clear n0_; (try clear hb); (try clear hb2); (try clear hk); (try clear hi)))
    go_ret
    exact ⟨by first | rfl | (simp [errW_none, errW_some] <;> rfl) | (simp [*, errW_none, errW_some] <;> rfl), by repeat (first | (with_reducible first | exact HB.out | apply below_alloc | apply pw_below_drewN | apply below_drew1) | exact HB.out)⟩

end Go.Proofs.Ytihjecnkecgckaa.Mine
