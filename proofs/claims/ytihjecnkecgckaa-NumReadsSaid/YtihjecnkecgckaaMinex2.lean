-- Written by this repo's own printer (wip/print), which builds on the kit's.
import Derived.Test.YtihjecnkecgckaaMinex0
import Derived.Test.YtihjecnkecgckaaMinex1
namespace Go.Proofs.Ytihjecnkecgckaa.Mine
open Go.RowKit Go.Proofs.YtihjecnkecgckaaW.PrintWords Go.Proofs.YtihjecnkecgckaaW.PrintLast Go.Proofs.YtihjecnkecgckaaW.PrintMore
attribute [local go_sem] max2_int min2_int max_two min_two max_three min_three max_four min_four   -- for this text's walks alone
set_option linter.unusedVariables false
set_option linter.unusedSimpArgs false

/-! ### num_Get: function 10 -/
mutual
def num_Get.j0 : Nat → ByteArray → Bool → Option (Int × Bool)
 | 0, _, _ => none
 | k + 1, x8, x29 => if x29 = true then (some (0, false)) else (if (x8.size : Int) ≤ 9223372036854775807 then ((some (bytesOf x8 : List Int)).bind fun y111 => (num_Get.l0 k 0 y111 (y111.length : Int) 0)) else (none))
def num_Get.l0 : Nat → Int → List Int → Int → Int → Option (Int × Bool)
 | 0, _, _, _, _ => none
 | k + 1, x10, x31, x32, x33 => if x33 < x32 then (if 0 ≤ x33 then (if x33 < (x31.length : Int) then (num_Get.l0 k (Go.bits .or .u64 (IntKind.u64.wrap (x10 * 256)) (IntKind.u64.wrap (rd x31 x33))) x31 x32 (wrap64 (x33 + 1))) else (none)) else (none)) else (some (x10, true))
end
def num_Get.f (k : Nat) (a0 : ByteArray) (a1 : Int) (a2 : Int) : Option (Int × Bool) := (num_Part.f a0 a1 a2).bind fun bt109 => (if bt109.2 = true then (if a2 < 1 then (num_Get.j0 k bt109.1 true) else (num_Get.j0 k bt109.1 (decide (a2 > 8)))) else (num_Get.j0 k bt109.1 true))
theorem num_Get.mono_l : ∀ k, (∀ y0 y1, LeO (num_Get.j0 k y0 y1) (num_Get.j0 (k + 1) y0 y1)) ∧ (∀ y0 y1 y2 y3, LeO (num_Get.l0 k y0 y1 y2 y3) (num_Get.l0 (k + 1) y0 y1 y2 y3))
 | 0 => ⟨fun _ _ r h => by simp [num_Get.j0] at h, fun _ _ _ _ r h => by simp [num_Get.l0] at h⟩
 | k + 1 => by
  obtain ⟨ih0, ih1⟩ := num_Get.mono_l k
  refine ⟨?_, ?_⟩
  ·
   intro y0 y1
   unfold num_Get.j0
   repeat' first
   | (with_reducible exact ih0 _ _)
   | (with_reducible exact ih1 _ _ _ _)
   | (with_reducible exact LeO.refl _)
   | (with_reducible exact LeO.none _)
   | (with_reducible refine LeO.ite ?_ ?_)
   | (with_reducible refine LeO.bind ?_ (fun _ => ?_))
   | exact ih0 _ _
   | exact ih1 _ _ _ _
   | exact LeO.none _
   | refine LeO.ite ?_ ?_
   | refine LeO.bind ?_ (fun _ => ?_)
  ·
   intro y0 y1 y2 y3
   unfold num_Get.l0
   repeat' first
   | (with_reducible exact ih0 _ _)
   | (with_reducible exact ih1 _ _ _ _)
   | (with_reducible exact LeO.refl _)
   | (with_reducible exact LeO.none _)
   | (with_reducible refine LeO.ite ?_ ?_)
   | (with_reducible refine LeO.bind ?_ (fun _ => ?_))
   | exact ih0 _ _
   | exact ih1 _ _ _ _
   | exact LeO.none _
   | refine LeO.ite ?_ ?_
   | refine LeO.bind ?_ (fun _ => ?_)
theorem num_Get.mono : ∀ a0 a1 a2 k, LeO (num_Get.f k a0 a1 a2) (num_Get.f (k + 1) a0 a1 a2) := by
 intro a0 a1 a2 k
 obtain ⟨ih0, ih1⟩ := num_Get.mono_l k
 unfold num_Get.f
 repeat' first
   | (with_reducible exact ih0 _ _)
   | (with_reducible exact ih1 _ _ _ _)
   | (with_reducible exact LeO.refl _)
   | (with_reducible exact LeO.none _)
   | (with_reducible refine LeO.ite ?_ ?_)
   | (with_reducible refine LeO.bind ?_ (fun _ => ?_))
   | exact ih0 _ _
   | exact ih1 _ _ _ _
   | exact LeO.none _
   | refine LeO.ite ?_ ?_
   | refine LeO.bind ?_ (fun _ => ?_)
set_option maxHeartbeats 8000000 in
set_option maxRecDepth 100000 in
theorem num_Get.calls (k : Nat) (a0 : ByteArray) (a1 : Int) (a2 : Int) (r1 : Int) (r2 : Bool) (w : World) (h : num_Get.f k a0 a1 a2 = some (r1, r2)) :
  Calls Try.prog 10 #[.string a0, .int .i64 a1, .int .i64 a2] w fun e w' => e = .returned (.tuple #[.int .u64 r1, .bool r2]) ∧ Below w.heap.size w w' := by
 have HB := Aside0.mk (Below.refl w.heap.size w)
 have H : ((num_Part.f a0 a1 a2).bind fun bt109 => (if bt109.2 = true then (if a2 < 1 then (num_Get.j0 k bt109.1 true) else (num_Get.j0 k bt109.1 (decide (a2 > 8)))) else (num_Get.j0 k bt109.1 true))) = some (r1, r2) := h
 clear h
 replace H := Option.bind_eq_some_iff.mp H
 obtain ⟨⟨t109, t110⟩, A40, H⟩ := H
 replace H : (if t110 = true then (if a2 < 1 then (num_Get.j0 k t109 true) else (num_Get.j0 k t109 (decide (a2 > 8)))) else (num_Get.j0 k t109 true)) = some (r1, r2) := H
 have A4 := Aside0.mk A40
 clear A40
 have HC5 := Aside0.mk H
 clear H
 go_enter Try.func10, Try.ntmps10
 go_upto_region 2 with (first | ((with_reducible refine gate_callee (f := 19) rfl ?_); refine goesL_ (some 17) rfl rfl Try.func19 (by kernel_rfl) rfl #[.string a0, .int .i64 a1, .int .i64 a2] rfl (by (try simp only [List.map_toArray, List.map_cons, List.map_nil]); first | done | rfl | (simp only [List.length_drop, List.length_take]; rfl)) ?_; (with_reducible refine (num_Part.calls a0 a1 a2 t109 t110 _ A4.out).mono ?_); rintro e w' ⟨rfl, ⟨nd, rfl⟩⟩; refine ⟨_, rfl, ?_⟩))
 (try simp only [Act.put, List.setIfInBounds_toArray, List.set_cons_zero, List.set_cons_succ])
 go_cut [29] (fun v29 wc => ∃ (kq : Nat) (x29_4 : Bool), v29 = .bool x29_4 ∧ Aside0 (num_Get.j0 kq t109 x29_4 = some (r1, r2)) ∧ Aside0 (kq ≤ k) ∧ Aside0 (Below w.heap.size w wc))
 case first =>
  have H := HC5.out
  clear HC5
  by_cases c6 : t110 = true
  ·
   subst c6
   have H1 : (if a2 < 1 then (num_Get.j0 k t109 true) else (num_Get.j0 k t109 (decide (a2 > 8)))) = some (r1, r2) := by rw [if_pos rfl] at H; exact H
   clear H
   have H := H1
   clear H1
   by_cases c7 : a2 < 1
   ·
    rw [if_pos c7] at H
    have c7b0 : decide (a2 < 1) = true := decide_eq_true c7
    clear c7
    (first | rw [c7b0] | rw [c7b1] | (simp only [i64_w, i32_w]; rw [c7b0]) | skip)
    have H' := Aside0.mk H
    clear H
    go_wp2
    go_meet
    case rel => exact ⟨_, (true), (by first | rfl | (simp; done) | (simp [*]; done)), H', ⟨by first | omega | exact Nat.le_refl _⟩, ⟨by repeat (first | (with_reducible first | exact HB.out | apply below_alloc | apply pw_below_drewN | apply below_drew1) | exact HB.out)⟩⟩
   ·
    rw [if_neg c7] at H
    have c7b0 : decide (a2 < 1) = false := decide_eq_false c7
    clear c7
    (first | rw [c7b0] | rw [c7b1] | (simp only [i64_w, i32_w]; rw [c7b0]) | skip)
    have H' := Aside0.mk H
    clear H
    go_wp2
    go_meet
    case rel => exact ⟨_, (decide (a2 > 8)), (by first | rfl | (simp; done) | (simp [*]; done)), H', ⟨by first | omega | exact Nat.le_refl _⟩, ⟨by repeat (first | (with_reducible first | exact HB.out | apply below_alloc | apply pw_below_drewN | apply below_drew1) | exact HB.out)⟩⟩
  ·
   replace c6 := Bool.eq_false_iff.mpr c6
   subst c6
   have H1 : (num_Get.j0 k t109 true) = some (r1, r2) := by rw [if_neg (show ¬ (false = true) by decide)] at H; exact H
   clear H
   have H := H1
   clear H1
   have H' := Aside0.mk H
   clear H
   go_wp2
   go_meet
   case rel => exact ⟨_, (true), (by first | rfl | (simp; done) | (simp [*]; done)), H', ⟨by first | omega | exact Nat.le_refl _⟩, ⟨by repeat (first | (with_reducible first | exact HB.out | apply below_alloc | apply pw_below_drewN | apply below_drew1) | exact HB.out)⟩⟩
 case rest =>
  clear HC5
  try clear c1
  try clear p2
  try clear c6
  try clear c7
  try clear c7b0
  try clear c7b1
  obtain ⟨kq, x29_4, rfl, HA, HJ4, HB⟩ := hcut
  cases kq with
  | zero => exact absurd HA.out (by simp [num_Get.j0])
  | succ kj4 =>
   have H := HA.out
   clear HA
   simp only [num_Get.j0] at H
   by_cases c8 : x29_4 = true
   ·
    subst c8
    have H1 : (some (0, false)) = some (r1, r2) := by rw [if_pos rfl] at H; exact H
    clear H
    have H := H1
    clear H1
    simp only [Option.some.injEq, Prod.mk.injEq] at H
    obtain ⟨rfl, rfl⟩ := H
    go_wp2
    go_ret2
    exact ⟨by first | rfl | (simp [errW_none, errW_some] <;> rfl) | (simp [*, errW_none, errW_some] <;> rfl), by repeat (first | (with_reducible first | exact HB.out | apply below_alloc | apply pw_below_drewN | apply below_drew1) | exact HB.out)⟩
   ·
    replace c8 := Bool.eq_false_iff.mpr c8
    subst c8
    have H1 : (if (t109.size : Int) ≤ 9223372036854775807 then ((some (bytesOf t109 : List Int)).bind fun y111 => (num_Get.l0 kj4 0 y111 (y111.length : Int) 0)) else (none)) = some (r1, r2) := by rw [if_neg (show ¬ (false = true) by decide)] at H; exact H
    clear H
    have H := H1
    clear H1
    by_cases c9 : (t109.size : Int) ≤ 9223372036854775807
    ·
     rw [if_pos c9] at H
     have c9b0 := eq_true c9
     have c9b1 : decide ((t109.size : Int) ≤ 9223372036854775807) = true := decide_eq_true c9
     try have c9b2 : (9223372036854775807 < (t109.size : Int)) = False := eq_false (Nat.not_lt.2 c9)
     clear c9
     obtain ⟨y111, hy111⟩ : ∃ y_ : List Int, y_ = (bytesOf t109) := ⟨_, rfl⟩
     replace H : (num_Get.l0 kj4 0 y111 (y111.length : Int) 0) = some (r1, r2) := by first | (rw [hy111]; with_reducible exact H) | (have H2_ := (Option.bind_some _ _).symm.trans H; rw [hy111]; with_reducible exact H2_) | (have H2_ := (Option.bind_some _ _).symm.trans H; with_reducible exact H2_) | with_reducible exact H | (rw [hy111]; exact H) | exact H
     have Ny111 := Aside0.mk hy111
     clear hy111
     have H' := Aside0.mk H
     clear H
     go_wp2_with (first | ((with_reducible refine gate_dst (N := 31) rfl ?_); refine Kd.V_conv _ 5 rfl (N' := 31) rfl 9 22 _ rfl t109 rfl Try.underlying9 Try.underlying22 Try.underlying5 (by have h_ : ((t109.size : Int) : Int) ≤ 9223372036854775807 := of_decide_eq_true (by first | (with_reducible assumption) | assumption); omega) (Below.refl _ _) (Nat.le_refl _) ?_; intro v112 w10 ho11 hb hg_ hnew_; clear hg_ hnew_; (first | rw [← Ny111.out] at ho11 | (simp only [Int.reduceToNat] at ho11; rw [← Ny111.out] at ho11)); have n0_ := Aside0.mk (Kd.V_lower (Kd.V_mono (ok' := fun k_ => True) ho11 (fun k_ hk_ => trivial)) (below_size (by repeat (first | (with_reducible first | exact HB.out | apply below_alloc | apply pw_below_drewN | apply below_drew1) | exact HB.out)))); have n1_ := Aside0.mk (below_step (by repeat (first | (with_reducible first | exact HB.out | apply below_alloc | apply pw_below_drewN | apply below_drew1) | exact HB.out)) hb); clear HB; have HO113 := n0_; have HB := n1_; clear n0_ n1_; clear hb ho11; obtain ⟨Ao12, co12, eo12⟩ := Kd.V_slice HO113.out; subst eo12))
     go_loopg [10, 33] kj4 (fun kq v10 v33 w' => ∃ (x10_2 : Int) (x33_2 : Int), v10 = .int .u64 x10_2 ∧ v33 = .int .i64 x33_2 ∧ Aside0 (num_Get.l0 kq x10_2 y111 (y111.length : Int) x33_2 = some (r1, r2)) ∧ Aside0 (kq ≤ kj4) ∧ Aside0 (Kd.V (Kd.int .u8) 5 w' w.heap.size (fun _ => True) (.slice Ao12 y111.length co12) y111) ∧ Aside0 (Below w.heap.size w w'))
     case atStart => exact ⟨(0), (0), (by first | rfl | (simp; done) | (simp [*]; done)), (by first | rfl | (simp; done) | (simp [*]; done)), H', ⟨Nat.le_refl _⟩, ⟨by (with_reducible repeat (first | apply Kd.V_alloc | apply Kd.V_drewN | apply Kd.V_drew)); exact HO113.out⟩, ⟨by repeat (first | (with_reducible first | exact HB.out | apply below_alloc | apply pw_below_drewN | apply below_drew1) | exact HB.out)⟩⟩
     case round =>
      clear H'
      try clear c1
      try clear p2
      try clear c6
      try clear c7
      try clear c7b0
      try clear c7b1
      try clear c8
      try clear c9
      try clear c9b0
      try clear c9b1
      try clear c9b2
      try clear c10
      try clear p2
      obtain ⟨x10_2, x33_2, rfl, rfl, HA, HK2, HO_31, HB⟩ := hrel
      cases gk with
      | zero => exact absurd HA.out (by simp [num_Get.l0])
      | succ k2 =>
       have H := HA.out
       clear HA
       simp only [num_Get.l0] at H
       by_cases c13 : x33_2 < (y111.length : Int)
       ·
        rw [if_pos c13] at H
        have c13b0 : decide (x33_2 < (y111.length : Int)) = true := decide_eq_true c13
        clear c13
        by_cases c14 : 0 ≤ x33_2
        ·
         rw [if_pos c14] at H
         have c14b0 : decide (0 ≤ x33_2) = true := decide_eq_true c14
         clear c14
         by_cases c15 : x33_2 < (y111.length : Int)
         ·
          rw [if_pos c15] at H
          have c15b0 : decide (x33_2 < (y111.length : Int)) = true := decide_eq_true c15
          clear c15
          have H' := Aside0.mk H
          clear H
          have p114 : 0 ≤ (x33_2 : Int) := of_decide_eq_true (by first | (with_reducible assumption) | assumption)
          have q114 : x33_2 < (y111.length : Int) := of_decide_eq_true (by first | (with_reducible assumption) | assumption)
          obtain ⟨ad114, e114, hx114_0⟩ := Kd.at_int (Kd.V_reads' HO_31.out).2.2 x33_2 p114 q114
          cases e114
          replace p114 := eq_true p114
          replace q114 := eq_true q114
          go_wp2
          go_roundg k2
          case measure => have := HJ4.out; have := HK2.out; omega
          case rel => exact ⟨(Go.bits .or .u64 (IntKind.u64.wrap (x10_2 * 256)) (IntKind.u64.wrap (rd y111 x33_2))), (wrap64 (x33_2 + 1)), (by first | rfl | (simp; done) | (simp [*]; done)), (by first | rfl | (simp; done) | (simp [*]; done)), H', ⟨by have := HJ4.out; have := HK2.out; omega⟩, ⟨by (with_reducible repeat (first | apply Kd.V_alloc | apply Kd.V_drewN | apply Kd.V_drew)); exact HO_31.out⟩, ⟨by repeat (first | (with_reducible first | exact HB.out | apply below_alloc | apply pw_below_drewN | apply below_drew1) | exact HB.out)⟩⟩
         ·
          rw [if_neg c15] at H
          exact absurd H (by simp)
        ·
         rw [if_neg c14] at H
         exact absurd H (by simp)
       ·
        rw [if_neg c13] at H
        have c13b0 : decide (x33_2 < (y111.length : Int)) = false := decide_eq_false c13
        clear c13
        simp only [Option.some.injEq, Prod.mk.injEq] at H
        obtain ⟨rfl, rfl⟩ := H
        go_wp2
        go_ret2
        exact ⟨by first | rfl | (simp [errW_none, errW_some] <;> rfl) | (simp [*, errW_none, errW_some] <;> rfl), by repeat (first | (with_reducible first | exact HB.out | apply below_alloc | apply pw_below_drewN | apply below_drew1) | exact HB.out)⟩
    ·
     rw [if_neg c9] at H
     exact absurd H (by simp)

/-! ### num_Add32: function 11 -/
def num_Add32.f (a0 : Int) (a1 : Int) : Option (Int) := some ((mn (IntKind.u64.wrap ((IntKind.u64.wrap (a0)) + (IntKind.u64.wrap (a1)))) 4294967295) % 4294967296)
set_option maxHeartbeats 8000000 in
set_option maxRecDepth 100000 in
theorem num_Add32.calls (a0 : Int) (a1 : Int) (r : Int) (w : World) (h : num_Add32.f a0 a1 = some r) :
  Calls Try.prog 11 #[.int .u32 a0, .int .u32 a1] w fun e w' => e = .returned (.int .u32 r) ∧ Below w.heap.size w w' := by
 have HB := Aside0.mk (Below.refl w.heap.size w)
 have H : (some ((mn (IntKind.u64.wrap ((IntKind.u64.wrap (a0)) + (IntKind.u64.wrap (a1)))) 4294967295) % 4294967296)) = some r := h
 clear h
 obtain ⟨ji3, hji3⟩ : ∃ j_ : Int, (mn (IntKind.u64.wrap ((IntKind.u64.wrap (a0)) + (IntKind.u64.wrap (a1)))) 4294967295) = j_ := ⟨_, rfl⟩
 replace H : (some ((ji3) % 4294967296)) = some r := by first | (rw [hji3] at H; exact H) | (simp only [hji3] at H ⊢; exact H)
 (try (have hji3h : ji3 ≤ 4294967295 := by (rw [← hji3]; unfold mn; (repeat' split) <;> omega)))
 (try (have hji3g : ji3 ≤ 64 := by omega))
 have hji3_ : (if 4294967295 < (IntKind.u64.wrap ((IntKind.u64.wrap (a0)) + (IntKind.u64.wrap (a1)))) then 4294967295 else (IntKind.u64.wrap ((IntKind.u64.wrap (a0)) + (IntKind.u64.wrap (a1))))) = ji3 := hji3
 obtain rfl := Option.some.inj H
 go_enter Try.func11, Try.ntmps11
 go_wp2
 go_ret
 exact ⟨by first | rfl | (simp [errW_none, errW_some] <;> rfl) | (simp only [← hji3]; first | rfl | (simp [errW_none, errW_some] <;> rfl)) | (simp [*, errW_none, errW_some] <;> rfl), by repeat (first | (with_reducible first | exact HB.out | apply below_alloc | apply pw_below_drewN | apply below_drew1) | exact HB.out)⟩

/-! ### num_Add64: function 13 -/
def num_Add64.f (a0 : Int) (a1 : Int) : Option (Int) := if (IntKind.u64.wrap (a0 + a1)) < a0 then (some 18446744073709551615) else (some (IntKind.u64.wrap (a0 + a1)))
set_option maxHeartbeats 8000000 in
set_option maxRecDepth 100000 in
theorem num_Add64.calls (a0 : Int) (a1 : Int) (r : Int) (w : World) (h : num_Add64.f a0 a1 = some r) :
  Calls Try.prog 13 #[.int .u64 a0, .int .u64 a1] w fun e w' => e = .returned (.int .u64 r) ∧ Drawn0 w w' := by
 have H : (if (IntKind.u64.wrap (a0 + a1)) < a0 then (some 18446744073709551615) else (some (IntKind.u64.wrap (a0 + a1)))) = some r := h
 clear h
 by_cases c3 : (IntKind.u64.wrap (a0 + a1)) < a0
 ·
  rw [if_pos c3] at H
  have c3b0 : decide ((IntKind.u64.wrap (a0 + a1)) < a0) = true := decide_eq_true c3
  clear c3
  obtain rfl := Option.some.inj H
  go_enter Try.func13, Try.ntmps13
  go_wp2
  go_ret
  exact ⟨by first | rfl | (simp; done) | (simp [*]; done), by repeat (first | exact Drawn0.refl _ | apply Drawn0.step)⟩
 ·
  rw [if_neg c3] at H
  have c3b0 : decide ((IntKind.u64.wrap (a0 + a1)) < a0) = false := decide_eq_false c3
  clear c3
  obtain rfl := Option.some.inj H
  go_enter Try.func13, Try.ntmps13
  go_wp2
  go_ret
  exact ⟨by first | rfl | (simp; done) | (simp [*]; done), by repeat (first | exact Drawn0.refl _ | apply Drawn0.step)⟩

/-! ### num_Mul64: function 15 -/
def num_Mul64.f (a0 : Int) (a1 : Int) : Option (Int) := if a0 = 0 then (some (IntKind.u64.wrap (a0 * a1))) else (if a1 > (IntKind.u64.wrap (Int.tdiv (18446744073709551615 : Int) a0)) then (some 18446744073709551615) else (some (IntKind.u64.wrap (a0 * a1))))
set_option maxHeartbeats 8000000 in
set_option maxRecDepth 100000 in
theorem num_Mul64.calls (a0 : Int) (a1 : Int) (r : Int) (w : World) (h : num_Mul64.f a0 a1 = some r) :
  Calls Try.prog 15 #[.int .u64 a0, .int .u64 a1] w fun e w' => e = .returned (.int .u64 r) ∧ Drawn0 w w' := by
 have H : (if a0 = 0 then (some (IntKind.u64.wrap (a0 * a1))) else (if a1 > (IntKind.u64.wrap (Int.tdiv (18446744073709551615 : Int) a0)) then (some 18446744073709551615) else (some (IntKind.u64.wrap (a0 * a1))))) = some r := h
 clear h
 by_cases c3 : a0 = 0
 ·
  rw [if_pos c3] at H
  have c3b0 : (a0 == 0) = true := beq_iff_eq.mpr c3
  have c3b1 : (a0 != 0) = false := bne_eq_false_iff_eq.mpr c3
  clear c3
  obtain rfl := Option.some.inj H
  go_enter Try.func15, Try.ntmps15
  go_wp2
  go_ret
  exact ⟨by first | rfl | (simp; done) | (simp [*]; done), by repeat (first | exact Drawn0.refl _ | apply Drawn0.step)⟩
 ·
  rw [if_neg c3] at H
  have c3b0 : (a0 == 0) = false := beq_eq_false_iff_ne.mpr c3
  have c3b1 : (a0 != 0) = true := bne_iff_ne.mpr c3
  by_cases c4 : a1 > (IntKind.u64.wrap (Int.tdiv (18446744073709551615 : Int) a0))
  ·
   rw [if_pos c4] at H
   have c4b0 : decide ((IntKind.u64.wrap (Int.tdiv (18446744073709551615 : Int) a0)) < a1) = true := decide_eq_true c4
   clear c4
   (try (have c4b7 := c4b0; rw [Int.tdiv_eq_ediv_of_nonneg (Int.natCast_nonneg _)] at c4b7))
   (try (have c4b6 := c4b1; rw [Int.tdiv_eq_ediv_of_nonneg (Int.natCast_nonneg _)] at c4b6))
   obtain rfl := Option.some.inj H
   go_enter Try.func15, Try.ntmps15
   go_wp2
   go_ret
   exact ⟨by first | rfl | (simp; done) | (simp [*]; done), by repeat (first | exact Drawn0.refl _ | apply Drawn0.step)⟩
  ·
   rw [if_neg c4] at H
   have c4b0 : decide ((IntKind.u64.wrap (Int.tdiv (18446744073709551615 : Int) a0)) < a1) = false := decide_eq_false c4
   clear c4
   (try (have c4b7 := c4b0; rw [Int.tdiv_eq_ediv_of_nonneg (Int.natCast_nonneg _)] at c4b7))
   (try (have c4b6 := c4b1; rw [Int.tdiv_eq_ediv_of_nonneg (Int.natCast_nonneg _)] at c4b6))
   obtain rfl := Option.some.inj H
   go_enter Try.func15, Try.ntmps15
   go_wp2
   go_ret
   exact ⟨by first | rfl | (simp; done) | (simp [*]; done), by repeat (first | exact Drawn0.refl _ | apply Drawn0.step)⟩

end Go.Proofs.Ytihjecnkecgckaa.Mine
