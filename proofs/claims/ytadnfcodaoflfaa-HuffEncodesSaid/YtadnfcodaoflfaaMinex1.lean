-- Written by this repo's own printer (wip/print), which builds on the kit's.
import Derived.Test.YtadnfcodaoflfaaMinex0
namespace Go.Proofs.Ytadnfcodaoflfaa.Mine
open Go.RowKit Go.Proofs.YtadnfcodaoflfaaW.PrintWords Go.Proofs.YtadnfcodaoflfaaW.PrintLast Go.Proofs.YtadnfcodaoflfaaW.PrintMore
attribute [local go_sem] max2_int min2_int max_two min_two max_three min_three max_four min_four   -- for this text's walks alone
set_option linter.unusedVariables false
set_option linter.unusedSimpArgs false

/-! ### huff_bits: function 19 -/
def huff_bits.f (a0 : Int) : Option (Int) := if 0 ≤ a0 then (if a0 < 257 then (some ((((bt (⟨#[105, 115, 120, 120, 120, 120, 120, 120, 120, 116, 122, 120, 120, 122, 120, 120, 120, 120, 120, 120, 120, 120, 122, 120, 120, 120, 120, 120, 120, 120, 120, 120, 98, 102, 102, 104, 105, 98, 100, 103, 102, 102, 100, 103, 100, 98, 98, 98, 97, 97, 97, 98, 98, 98, 98, 98, 98, 98, 99, 100, 107, 98, 104, 102, 105, 98, 99, 99, 99, 99, 99, 99, 99, 99, 99, 99, 99, 99, 99, 99, 99, 99, 99, 99, 99, 99, 99, 99, 100, 99, 100, 105, 111, 105, 106, 98, 107, 97, 98, 97, 98, 97, 98, 98, 98, 97, 99, 99, 98, 98, 98, 97, 98, 99, 98, 97, 97, 98, 99, 99, 99, 99, 99, 107, 103, 106, 105, 120, 112, 114, 112, 112, 114, 114, 114, 115, 114, 115, 115, 115, 115, 115, 116, 115, 116, 116, 114, 115, 116, 115, 115, 115, 115, 113, 114, 115, 114, 115, 115, 116, 114, 113, 112, 114, 114, 115, 115, 113, 115, 114, 114, 116, 113, 114, 115, 115, 113, 113, 114, 113, 115, 114, 115, 115, 112, 114, 114, 114, 115, 114, 114, 115, 118, 118, 112, 111, 114, 115, 114, 117, 118, 118, 118, 119, 119, 118, 116, 117, 111, 113, 118, 119, 119, 118, 119, 116, 113, 113, 118, 118, 120, 119, 119, 119, 112, 116, 112, 113, 114, 113, 113, 115, 114, 114, 117, 117, 116, 116, 118, 115, 118, 119, 118, 118, 119, 119, 119, 119, 119, 120, 119, 119, 119, 119, 119, 118, 122]⟩ : ByteArray) a0) - 97) % 256) + 5)) else (none)) else (none)
set_option maxHeartbeats 8000000 in
set_option maxRecDepth 100000 in
theorem huff_bits.calls (a0 : Int) (r : Int) (w : World) (h : huff_bits.f a0 = some r) :
  Calls Try.prog 19 #[.int .i64 a0] w fun e w' => e = .returned (.int .i64 r) ∧ Drawn0 w w' := by
 have H : (if 0 ≤ a0 then (if a0 < 257 then (some ((((bt (⟨#[105, 115, 120, 120, 120, 120, 120, 120, 120, 116, 122, 120, 120, 122, 120, 120, 120, 120, 120, 120, 120, 120, 122, 120, 120, 120, 120, 120, 120, 120, 120, 120, 98, 102, 102, 104, 105, 98, 100, 103, 102, 102, 100, 103, 100, 98, 98, 98, 97, 97, 97, 98, 98, 98, 98, 98, 98, 98, 99, 100, 107, 98, 104, 102, 105, 98, 99, 99, 99, 99, 99, 99, 99, 99, 99, 99, 99, 99, 99, 99, 99, 99, 99, 99, 99, 99, 99, 99, 100, 99, 100, 105, 111, 105, 106, 98, 107, 97, 98, 97, 98, 97, 98, 98, 98, 97, 99, 99, 98, 98, 98, 97, 98, 99, 98, 97, 97, 98, 99, 99, 99, 99, 99, 107, 103, 106, 105, 120, 112, 114, 112, 112, 114, 114, 114, 115, 114, 115, 115, 115, 115, 115, 116, 115, 116, 116, 114, 115, 116, 115, 115, 115, 115, 113, 114, 115, 114, 115, 115, 116, 114, 113, 112, 114, 114, 115, 115, 113, 115, 114, 114, 116, 113, 114, 115, 115, 113, 113, 114, 113, 115, 114, 115, 115, 112, 114, 114, 114, 115, 114, 114, 115, 118, 118, 112, 111, 114, 115, 114, 117, 118, 118, 118, 119, 119, 118, 116, 117, 111, 113, 118, 119, 119, 118, 119, 116, 113, 113, 118, 118, 120, 119, 119, 119, 112, 116, 112, 113, 114, 113, 113, 115, 114, 114, 117, 117, 116, 116, 118, 115, 118, 119, 118, 118, 119, 119, 119, 119, 119, 120, 119, 119, 119, 119, 119, 118, 122]⟩ : ByteArray) a0) - 97) % 256) + 5)) else (none)) else (none)) = some r := h
 clear h
 by_cases c2 : 0 ≤ a0
 ·
  rw [if_pos c2] at H
  have c2b0 : decide (0 ≤ a0) = true := decide_eq_true c2
  clear c2
  by_cases c3 : a0 < 257
  ·
   rw [if_pos c3] at H
   have c3b0 : decide (a0 < 257) = true := decide_eq_true c3
   clear c3
   obtain rfl := Option.some.inj H
   have p4 : 0 ≤ (a0 : Int) := of_decide_eq_true (by first | (with_reducible assumption) | assumption)
   have q4 : a0 < (257 : Int) := of_decide_eq_true (by first | (with_reducible assumption) | assumption)
   have hx4 := bt_at (⟨#[105, 115, 120, 120, 120, 120, 120, 120, 120, 116, 122, 120, 120, 122, 120, 120, 120, 120, 120, 120, 120, 120, 122, 120, 120, 120, 120, 120, 120, 120, 120, 120, 98, 102, 102, 104, 105, 98, 100, 103, 102, 102, 100, 103, 100, 98, 98, 98, 97, 97, 97, 98, 98, 98, 98, 98, 98, 98, 99, 100, 107, 98, 104, 102, 105, 98, 99, 99, 99, 99, 99, 99, 99, 99, 99, 99, 99, 99, 99, 99, 99, 99, 99, 99, 99, 99, 99, 99, 100, 99, 100, 105, 111, 105, 106, 98, 107, 97, 98, 97, 98, 97, 98, 98, 98, 97, 99, 99, 98, 98, 98, 97, 98, 99, 98, 97, 97, 98, 99, 99, 99, 99, 99, 107, 103, 106, 105, 120, 112, 114, 112, 112, 114, 114, 114, 115, 114, 115, 115, 115, 115, 115, 116, 115, 116, 116, 114, 115, 116, 115, 115, 115, 115, 113, 114, 115, 114, 115, 115, 116, 114, 113, 112, 114, 114, 115, 115, 113, 115, 114, 114, 116, 113, 114, 115, 115, 113, 113, 114, 113, 115, 114, 115, 115, 112, 114, 114, 114, 115, 114, 114, 115, 118, 118, 112, 111, 114, 115, 114, 117, 118, 118, 118, 119, 119, 118, 116, 117, 111, 113, 118, 119, 119, 118, 119, 116, 113, 113, 118, 118, 120, 119, 119, 119, 112, 116, 112, 113, 114, 113, 113, 115, 114, 114, 117, 117, 116, 116, 118, 115, 118, 119, 118, 118, 119, 119, 119, 119, 119, 120, 119, 119, 119, 119, 119, 118, 122]⟩ : ByteArray) a0
   replace p4 := eq_true p4
   replace q4 := eq_true q4
   go_enter Try.func19, Try.ntmps19
   go_wp2
   go_ret
   exact ⟨by first | rfl | (simp; done) | (simp [*]; done), by repeat (first | exact Drawn0.refl _ | apply Drawn0.step)⟩
  ·
   rw [if_neg c3] at H
   exact absurd H (by simp)
 ·
  rw [if_neg c2] at H
  exact absurd H (by simp)

/-! ### huff_Size: function 12 -/
def huff_Size.l0 : Nat → Int → List Int → Int → Int → Option (Int)
 | 0, _, _, _, _ => none
 | k + 1, x3, x7, x8, x9 => if x9 < x8 then (if 0 ≤ x9 then (if x9 < (x7.length : Int) then ((huff_bits.f (wrap64 (rd x7 x9))).bind fun t105 => (huff_Size.l0 k (wrap64 (x3 + t105)) x7 x8 (wrap64 (x9 + 1)))) else (none)) else (none)) else (some (wrap64 (Int.tdiv (wrap64 (x3 + 7)) 8)))
def huff_Size.f (k : Nat) (a0 : ByteArray) : Option (Int) := if (a0.size : Int) ≤ 9223372036854775807 then ((some (bytesOf a0 : List Int)).bind fun y101 => (huff_Size.l0 k 0 y101 (y101.length : Int) 0)) else (none)
theorem huff_Size.mono_l : ∀ k, (∀ y0 y1 y2 y3, LeO (huff_Size.l0 k y0 y1 y2 y3) (huff_Size.l0 (k + 1) y0 y1 y2 y3))
 | 0 => fun _ _ _ _ r h => by simp [huff_Size.l0] at h
 | k + 1 => by
  have ih0 := huff_Size.mono_l k
  ·
   intro y0 y1 y2 y3
   unfold huff_Size.l0
   repeat' first
   | (with_reducible exact ih0 _ _ _ _)
   | (with_reducible exact LeO.refl _)
   | (with_reducible exact LeO.none _)
   | (with_reducible refine LeO.ite ?_ ?_)
   | (with_reducible refine LeO.bind ?_ (fun _ => ?_))
   | exact ih0 _ _ _ _
   | exact LeO.none _
   | refine LeO.ite ?_ ?_
   | refine LeO.bind ?_ (fun _ => ?_)
theorem huff_Size.mono : ∀ a0 k, LeO (huff_Size.f k a0) (huff_Size.f (k + 1) a0) := by
 intro a0 k
 have ih0 := huff_Size.mono_l k
 unfold huff_Size.f
 repeat' first
   | (with_reducible exact ih0 _ _ _ _)
   | (with_reducible exact LeO.refl _)
   | (with_reducible exact LeO.none _)
   | (with_reducible refine LeO.ite ?_ ?_)
   | (with_reducible refine LeO.bind ?_ (fun _ => ?_))
   | exact ih0 _ _ _ _
   | exact LeO.none _
   | refine LeO.ite ?_ ?_
   | refine LeO.bind ?_ (fun _ => ?_)
set_option maxHeartbeats 8000000 in
set_option maxRecDepth 100000 in
theorem huff_Size.calls (k : Nat) (a0 : ByteArray) (r : Int) (w : World) (h : huff_Size.f k a0 = some r) :
  Calls Try.prog 12 #[.string a0] w fun e w' => e = .returned (.int .i64 r) ∧ Below w.heap.size w w' := by
 have HB := Aside0.mk (Below.refl w.heap.size w)
 have H : (if (a0.size : Int) ≤ 9223372036854775807 then ((some (bytesOf a0 : List Int)).bind fun y101 => (huff_Size.l0 k 0 y101 (y101.length : Int) 0)) else (none)) = some r := h
 clear h
 by_cases c2 : (a0.size : Int) ≤ 9223372036854775807
 ·
  rw [if_pos c2] at H
  have c2b0 := eq_true c2
  have c2b1 : decide ((a0.size : Int) ≤ 9223372036854775807) = true := decide_eq_true c2
  try have c2b2 : (9223372036854775807 < (a0.size : Int)) = False := eq_false (Nat.not_lt.2 c2)
  clear c2
  obtain ⟨y101, hy101⟩ : ∃ y_ : List Int, y_ = (bytesOf a0) := ⟨_, rfl⟩
  replace H : (huff_Size.l0 k 0 y101 (y101.length : Int) 0) = some r := by first | (rw [hy101]; with_reducible exact H) | (have H2_ := (Option.bind_some _ _).symm.trans H; rw [hy101]; with_reducible exact H2_) | (have H2_ := (Option.bind_some _ _).symm.trans H; with_reducible exact H2_) | with_reducible exact H | (rw [hy101]; exact H) | exact H
  have Ny101 := Aside0.mk hy101
  clear hy101
  have H' := Aside0.mk H
  clear H
  go_enter Try.func12, Try.ntmps12
  go_wp2_with (first | ((with_reducible refine gate_dst (N := 7) rfl ?_); refine Kd.V_conv _ 5 rfl (N' := 7) rfl 9 42 _ rfl a0 rfl Try.underlying9 Try.underlying42 Try.underlying5 (by have h_ : ((a0.size : Int) : Int) ≤ 9223372036854775807 := of_decide_eq_true (by first | (with_reducible assumption) | assumption); omega) (Below.refl _ _) (Nat.le_refl _) ?_; intro v102 w3 ho4 hb hg_ hnew_; clear hg_ hnew_; (first | rw [← Ny101.out] at ho4 | (simp only [Int.reduceToNat] at ho4; rw [← Ny101.out] at ho4)); have n0_ := Aside0.mk (Kd.V_lower (Kd.V_mono (ok' := fun k_ => True) ho4 (fun k_ hk_ => trivial)) (below_size (by repeat (first | (with_reducible first | exact HB.out | apply below_alloc | apply pw_below_drewN | apply below_drew1) | exact HB.out)))); have n1_ := Aside0.mk (below_step (by repeat (first | (with_reducible first | exact HB.out | apply below_alloc | apply pw_below_drewN | apply below_drew1) | exact HB.out)) hb); clear HB; have HO103 := n0_; have HB := n1_; clear n0_ n1_; clear hb ho4; obtain ⟨Ao5, co5, eo5⟩ := Kd.V_slice HO103.out; subst eo5))
  go_loopg [3, 9] k (fun kq v3 v9 w' => ∃ (x3_1 : Int) (x9_1 : Int), v3 = .int .i64 x3_1 ∧ v9 = .int .i64 x9_1 ∧ Aside0 (huff_Size.l0 kq x3_1 y101 (y101.length : Int) x9_1 = some r) ∧ Aside0 (kq ≤ k) ∧ Aside0 (Kd.V (Kd.int .u8) 5 w' w.heap.size (fun _ => True) (.slice Ao5 y101.length co5) y101) ∧ Aside0 (Below w.heap.size w w'))
  case atStart => exact ⟨(0), (0), (by first | rfl | (simp; done) | (simp [*]; done)), (by first | rfl | (simp; done) | (simp [*]; done)), H', ⟨Nat.le_refl _⟩, ⟨by (with_reducible repeat (first | apply Kd.V_alloc | apply Kd.V_drewN | apply Kd.V_drew)); exact HO103.out⟩, ⟨by repeat (first | (with_reducible first | exact HB.out | apply below_alloc | apply pw_below_drewN | apply below_drew1) | exact HB.out)⟩⟩
  case round =>
   clear H'
   try clear c1
   try clear c2
   try clear c2b0
   try clear c2b1
   try clear c2b2
   try clear p2
   obtain ⟨x3_1, x9_1, rfl, rfl, HA, HK1, HO_7, HB⟩ := hrel
   cases gk with
   | zero => exact absurd HA.out (by simp [huff_Size.l0])
   | succ k1 =>
    have H := HA.out
    clear HA
    simp only [huff_Size.l0] at H
    by_cases c6 : x9_1 < (y101.length : Int)
    ·
     rw [if_pos c6] at H
     have c6b0 : decide (x9_1 < (y101.length : Int)) = true := decide_eq_true c6
     clear c6
     by_cases c7 : 0 ≤ x9_1
     ·
      rw [if_pos c7] at H
      have c7b0 : decide (0 ≤ x9_1) = true := decide_eq_true c7
      clear c7
      by_cases c8 : x9_1 < (y101.length : Int)
      ·
       rw [if_pos c8] at H
       have c8b0 : decide (x9_1 < (y101.length : Int)) = true := decide_eq_true c8
       clear c8
       replace H := Option.bind_eq_some_iff.mp H
       obtain ⟨t105, A90, H⟩ := H
       replace H : (huff_Size.l0 k1 (wrap64 (x3_1 + t105)) y101 (y101.length : Int) (wrap64 (x9_1 + 1))) = some r := H
       have A9 := Aside0.mk A90
       clear A90
       have H' := Aside0.mk H
       clear H
       have p104 : 0 ≤ (x9_1 : Int) := of_decide_eq_true (by first | (with_reducible assumption) | assumption)
       have q104 : x9_1 < (y101.length : Int) := of_decide_eq_true (by first | (with_reducible assumption) | assumption)
       obtain ⟨ad104, e104, hx104_0⟩ := Kd.at_int (Kd.V_reads' HO_7.out).2.2 x9_1 p104 q104
       cases e104
       replace p104 := eq_true p104
       replace q104 := eq_true q104
       go_wp2_with (first | ((with_reducible refine gate_callee (f := 19) rfl ?_); refine goesL_ (some 16) rfl rfl Try.func19 (by kernel_rfl) rfl #[.int .i64 (wrap64 (rd y101 x9_1))] rfl (by (try simp only [List.map_toArray, List.map_cons, List.map_nil]); first | done | rfl | (simp only [List.length_drop, List.length_take]; rfl)) ?_; (with_reducible refine (huff_bits.calls (wrap64 (rd y101 x9_1)) t105 _ A9.out).mono ?_); rintro e w' ⟨rfl, ⟨nd, rfl⟩⟩; refine ⟨_, rfl, ?_⟩))
       go_roundg k1
       case measure => have := HK1.out; omega
       case rel => exact ⟨(wrap64 (x3_1 + t105)), (wrap64 (x9_1 + 1)), (by first | rfl | (simp; done) | (simp [*]; done)), (by first | rfl | (simp; done) | (simp [*]; done)), H', ⟨by have := HK1.out; omega⟩, ⟨by (with_reducible repeat (first | apply Kd.V_alloc | apply Kd.V_drewN | apply Kd.V_drew)); exact HO_7.out⟩, ⟨by repeat (first | (with_reducible first | exact HB.out | apply below_alloc | apply pw_below_drewN | apply below_drew1) | exact HB.out)⟩⟩
      ·
       rw [if_neg c8] at H
       exact absurd H (by simp)
     ·
      rw [if_neg c7] at H
      exact absurd H (by simp)
    ·
     rw [if_neg c6] at H
     have c6b0 : decide (x9_1 < (y101.length : Int)) = false := decide_eq_false c6
     clear c6
     obtain rfl := Option.some.inj H
     go_wp2
     go_ret
     exact ⟨by first | rfl | (simp [errW_none, errW_some] <;> rfl) | (simp [*, errW_none, errW_some] <;> rfl), by repeat (first | (with_reducible first | exact HB.out | apply below_alloc | apply pw_below_drewN | apply below_drew1) | exact HB.out)⟩
 ·
  rw [if_neg c2] at H
  exact absurd H (by simp)

end Go.Proofs.Ytadnfcodaoflfaa.Mine
