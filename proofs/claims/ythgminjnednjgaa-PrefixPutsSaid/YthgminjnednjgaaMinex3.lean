-- Written by this repo's own printer (wip/print), which builds on the kit's.
import Derived.Test.YthgminjnednjgaaMinex0
import Derived.Test.YthgminjnednjgaaMinex1
import Derived.Test.YthgminjnednjgaaMinex2
namespace Go.Proofs.Ythgminjnednjgaa.Mine
open Go.RowKit Go.Proofs.YthgminjnednjgaaW.PrintWords Go.Proofs.YthgminjnednjgaaW.PrintLast Go.Proofs.YthgminjnednjgaaW.PrintMore
attribute [local go_sem] max2_int min2_int max_two min_two max_three min_three max_four min_four   -- for this text's walks alone
set_option linter.unusedVariables false
set_option linter.unusedSimpArgs false

/-! ### nunciolaw09_awake: function 8 -/
def nunciolaw09_awake.f (k : Nat)  : Option (Bool) := (prefix_Get.f k (⟨#[31, 154, 10]⟩ : ByteArray) 0 5).bind fun bt116 => ((prefix_Get.f k (⟨#[31]⟩ : ByteArray) 0 5).bind fun bt119 => ((prefix_Put.f k ([] : List Int) 0 5 1337).bind fun t122 => (if (strOfNums t122).toList = ([31, 154, 10] : List UInt8) then ((prefix_Put.f k ([] : List Int) 224 5 10).bind fun t125 => (if (strOfNums t125).toList = ([234] : List UInt8) then (if bt116.1 = 1337 then (if bt116.2.1 = 3 then (if bt116.2.2 = 0 then (some (bt119.2.2 == 2)) else (some false)) else (some false)) else (some false)) else (some false))) else (some false))))
theorem nunciolaw09_awake.mono : ∀ k, LeO (nunciolaw09_awake.f k ) (nunciolaw09_awake.f (k + 1) ) := by
 intro  k
 unfold nunciolaw09_awake.f
 repeat' first
   | (with_reducible exact prefix_Get.mono _ _ _ _)
   | (with_reducible exact prefix_Put.mono _ _ _ _ _)
   | (with_reducible exact LeO.refl _)
   | (with_reducible exact LeO.none _)
   | (with_reducible refine LeO.ite ?_ ?_)
   | (with_reducible refine LeO.bind ?_ (fun _ => ?_))
   | exact prefix_Get.mono _ _ _ _
   | exact prefix_Put.mono _ _ _ _ _
   | exact LeO.none _
   | refine LeO.ite ?_ ?_
   | refine LeO.bind ?_ (fun _ => ?_)
set_option maxHeartbeats 8000000 in
set_option maxRecDepth 100000 in
theorem nunciolaw09_awake.calls (k : Nat)  (r : Bool) (w : World) (h : nunciolaw09_awake.f k  = some r) :
  Calls Try.prog 8 #[] w fun e w' => e = .returned (.bool r) ∧ Below w.heap.size w w' := by
 have HB := Aside0.mk (Below.refl w.heap.size w)
 have HT : Aside0 (r = true) := ⟨Option.some.inj ((at_rounds nunciolaw09_awake.mono (Nat.le_max_left k 400) h).symm.trans (at_rounds nunciolaw09_awake.mono (Nat.le_max_right k 400) (by decide +kernel : nunciolaw09_awake.f 400 = some true)))⟩
 have H : ((prefix_Get.f k (⟨#[31, 154, 10]⟩ : ByteArray) 0 5).bind fun bt116 => ((prefix_Get.f k (⟨#[31]⟩ : ByteArray) 0 5).bind fun bt119 => ((prefix_Put.f k ([] : List Int) 0 5 1337).bind fun t122 => (if (strOfNums t122).toList = ([31, 154, 10] : List UInt8) then ((prefix_Put.f k ([] : List Int) 224 5 10).bind fun t125 => (if (strOfNums t125).toList = ([234] : List UInt8) then (if bt116.1 = 1337 then (if bt116.2.1 = 3 then (if bt116.2.2 = 0 then (some (bt119.2.2 == 2)) else (some false)) else (some false)) else (some false)) else (some false))) else (some false))))) = some r := h
 clear h
 replace H := Option.bind_eq_some_iff.mp H
 obtain ⟨⟨t116, t117, t118⟩, A10, H⟩ := H
 replace H : ((prefix_Get.f k (⟨#[31]⟩ : ByteArray) 0 5).bind fun bt119 => ((prefix_Put.f k ([] : List Int) 0 5 1337).bind fun t122 => (if (strOfNums t122).toList = ([31, 154, 10] : List UInt8) then ((prefix_Put.f k ([] : List Int) 224 5 10).bind fun t125 => (if (strOfNums t125).toList = ([234] : List UInt8) then (if t116 = 1337 then (if t117 = 3 then (if t118 = 0 then (some (bt119.2.2 == 2)) else (some false)) else (some false)) else (some false)) else (some false))) else (some false)))) = some r := H
 have A1 := Aside0.mk A10
 clear A10
 replace H := Option.bind_eq_some_iff.mp H
 obtain ⟨⟨t119, t120, t121⟩, A20, H⟩ := H
 replace H : ((prefix_Put.f k ([] : List Int) 0 5 1337).bind fun t122 => (if (strOfNums t122).toList = ([31, 154, 10] : List UInt8) then ((prefix_Put.f k ([] : List Int) 224 5 10).bind fun t125 => (if (strOfNums t125).toList = ([234] : List UInt8) then (if t116 = 1337 then (if t117 = 3 then (if t118 = 0 then (some (t121 == 2)) else (some false)) else (some false)) else (some false)) else (some false))) else (some false))) = some r := H
 have A2 := Aside0.mk A20
 clear A20
 replace H := Option.bind_eq_some_iff.mp H
 obtain ⟨t122, A30, H⟩ := H
 replace H : (if (strOfNums t122).toList = ([31, 154, 10] : List UInt8) then ((prefix_Put.f k ([] : List Int) 224 5 10).bind fun t125 => (if (strOfNums t125).toList = ([234] : List UInt8) then (if t116 = 1337 then (if t117 = 3 then (if t118 = 0 then (some (t121 == 2)) else (some false)) else (some false)) else (some false)) else (some false))) else (some false)) = some r := H
 have A3 := Aside0.mk A30
 clear A30
 by_cases c4 : (strOfNums t122).toList = ([31, 154, 10] : List UInt8)
 ·
  rw [if_pos c4] at H
  have c4b0 : ((strOfNums t122).toList == ([31, 154, 10] : List UInt8)) = true := beq_iff_eq.mpr c4
  have c4b1 : ((strOfNums t122).toList != ([31, 154, 10] : List UInt8)) = false := bne_eq_false_iff_eq.mpr c4
  clear c4
  replace H := Option.bind_eq_some_iff.mp H
  obtain ⟨t125, A50, H⟩ := H
  replace H : (if (strOfNums t125).toList = ([234] : List UInt8) then (if t116 = 1337 then (if t117 = 3 then (if t118 = 0 then (some (t121 == 2)) else (some false)) else (some false)) else (some false)) else (some false)) = some r := H
  have A5 := Aside0.mk A50
  clear A50
  by_cases c6 : (strOfNums t125).toList = ([234] : List UInt8)
  ·
   rw [if_pos c6] at H
   have c6b0 : ((strOfNums t125).toList == ([234] : List UInt8)) = true := beq_iff_eq.mpr c6
   have c6b1 : ((strOfNums t125).toList != ([234] : List UInt8)) = false := bne_eq_false_iff_eq.mpr c6
   clear c6
   by_cases c7 : t116 = 1337
   ·
    rw [if_pos c7] at H
    have c7b0 : (t116 == 1337) = true := beq_iff_eq.mpr c7
    have c7b1 : (t116 != 1337) = false := bne_eq_false_iff_eq.mpr c7
    clear c7
    by_cases c8 : t117 = 3
    ·
     rw [if_pos c8] at H
     have c8b0 : (t117 == 3) = true := beq_iff_eq.mpr c8
     have c8b1 : (t117 != 3) = false := bne_eq_false_iff_eq.mpr c8
     clear c8
     by_cases c9 : t118 = 0
     ·
      rw [if_pos c9] at H
      have c9b0 : (t118 == 0) = true := beq_iff_eq.mpr c9
      have c9b1 : (t118 != 0) = false := bne_eq_false_iff_eq.mpr c9
      clear c9
      obtain rfl := Option.some.inj H
      go_enter Try.func8, Try.ntmps8
      have tk16 : True := trivial
      have tk17 : True := trivial
      have tk18 : True := trivial
      have tk19 : True := trivial
      go_wp2_with (first | (have _t : True := tk16; clear tk16 _t; (with_reducible refine gate_callee (f := 11) rfl ?_); refine goesL_ (some 8) rfl rfl Try.func11 (by kernel_rfl) rfl #[.string (⟨#[31, 154, 10]⟩ : ByteArray), .int .i64 0, .int .i64 5] rfl (by (try simp only [List.map_toArray, List.map_cons, List.map_nil]); first | done | rfl | (simp only [List.length_drop, List.length_take]; rfl)) ?_; (with_reducible refine (prefix_Get.calls k (⟨#[31, 154, 10]⟩ : ByteArray) 0 5 t116 t117 t118 _ A1.out).mono ?_); rintro e w10 ⟨rfl, hb⟩; refine ⟨_, rfl, ?_⟩; have n0_ := Aside0.mk (below_step (by repeat (first | (with_reducible first | exact HB.out | apply below_alloc | apply pw_below_drewN | apply below_drew1) | exact HB.out)) hb); clear HB; have HB := n0_; clear n0_; (try clear hb); (try clear hb2); (try clear hk); (try clear hi)) | (have _t : True := tk17; clear tk17 _t; (with_reducible refine gate_callee (f := 11) rfl ?_); refine goesL_ (some 13) rfl rfl Try.func11 (by kernel_rfl) rfl #[.string (⟨#[31]⟩ : ByteArray), .int .i64 0, .int .i64 5] rfl (by (try simp only [List.map_toArray, List.map_cons, List.map_nil]); first | done | rfl | (simp only [List.length_drop, List.length_take]; rfl)) ?_; (with_reducible refine (prefix_Get.calls k (⟨#[31]⟩ : ByteArray) 0 5 t119 t120 t121 _ A2.out).mono ?_); rintro e w11 ⟨rfl, hb⟩; refine ⟨_, rfl, ?_⟩; have n0_ := Aside0.mk (below_step (by repeat (first | (with_reducible first | exact HB.out | apply below_alloc | apply pw_below_drewN | apply below_drew1) | exact HB.out)) hb); clear HB; have HB := n0_; clear n0_; (try clear hb); (try clear hb2); (try clear hk); (try clear hi)) | (have _t : True := tk18; clear tk18 _t; (with_reducible refine gate_callee (f := 9) rfl ?_); refine goesL_ (some 17) rfl rfl Try.func9 (by kernel_rfl) rfl #[.slice none 0 0, .int .u8 0, .int .i64 5, .int .u64 1337] rfl (by (try simp only [List.map_toArray, List.map_cons, List.map_nil]); first | done | rfl | (simp only [List.length_drop, List.length_take]; rfl)) ?_; (refine (prefix_Put.calls k _ _ ([] : List Int) 0 5 1337 t122 _ ?side1 ?side2 A3.out).mono ?_); (case side1 => exact Kd.C_nil _ _); (case side2 => exact Nat.le_refl _); rintro e w12 ⟨v123, rfl, ho0, hb⟩; refine ⟨_, rfl, ?_⟩; have n0_ := Aside0.mk (Kd.R_lower ho0 (below_size (by repeat (first | (with_reducible first | exact HB.out | apply below_alloc | apply pw_below_drewN | apply below_drew1) | exact HB.out)))); have n1_ := Aside0.mk (below_step (by repeat (first | (with_reducible first | exact HB.out | apply below_alloc | apply pw_below_drewN | apply below_drew1) | exact HB.out)) hb); clear HB; have HO124 := n0_; have HB := n1_; clear n0_ n1_; (try clear hb); (try clear hb2); (try clear hk); (try clear hi); (try clear ho0); have hcv13 := own_string (P := Try.prog) Try.underlying22 Try.underlying5 Try.underlying9 (Kd.own_of_R HO124.out)) | (have _t : True := tk19; clear tk19 _t; go_at_call 9; (refine (prefix_Put.calls k _ _ ([] : List Int) 224 5 10 t125 _ ?side1 ?side2 A5.out).mono ?_); (case side1 => exact Kd.C_nil _ _); (case side2 => exact Nat.le_refl _); rintro e w14 ⟨v126, rfl, ho0, hb⟩; have n0_ := Aside0.mk (Kd.R_elder' (by (with_reducible repeat (first | apply Kd.R_alloc | apply Kd.R_drewN | apply Kd.R_drew)); exact HO124.out) (Kd.R_base ho0) hb); have n1_ := Aside0.mk (Kd.R_lower (Kd.R_new' ho0 (Kd.R_lt (by (with_reducible repeat (first | apply Kd.R_alloc | apply Kd.R_drewN | apply Kd.R_drew)); exact HO124.out))) (below_size (by repeat (first | (with_reducible first | exact HB.out | apply below_alloc | apply pw_below_drewN | apply below_drew1) | exact HB.out)))); have n2_ := Aside0.mk (below_step (by repeat (first | (with_reducible first | exact HB.out | apply below_alloc | apply pw_below_drewN | apply below_drew1) | exact HB.out)) hb); clear HO124; clear HB; have HO124 := n0_; have HO127 := n1_; have HB := n2_; clear n0_ n1_ n2_; (try clear hb); (try clear hb2); (try clear hk); (try clear hi); (try clear ho0); have hcv15 := own_string (P := Try.prog) Try.underlying22 Try.underlying5 Try.underlying9 (Kd.own_of_R HO127.out)))
      go_ret
      exact ⟨by first | rfl | (simp [errW_none, errW_some] <;> rfl) | (simp [*, errW_none, errW_some] <;> rfl), by repeat (first | (with_reducible first | exact HB.out | apply below_alloc | apply pw_below_drewN | apply below_drew1) | exact HB.out)⟩
     ·
      rw [if_neg c9] at H
      have c9b0 : (t118 == 0) = false := beq_eq_false_iff_ne.mpr c9
      have c9b1 : (t118 != 0) = true := bne_iff_ne.mpr c9
      exact absurd ((Option.some.inj H).trans HT.out) (by decide)
    ·
     rw [if_neg c8] at H
     have c8b0 : (t117 == 3) = false := beq_eq_false_iff_ne.mpr c8
     have c8b1 : (t117 != 3) = true := bne_iff_ne.mpr c8
     exact absurd ((Option.some.inj H).trans HT.out) (by decide)
   ·
    rw [if_neg c7] at H
    have c7b0 : (t116 == 1337) = false := beq_eq_false_iff_ne.mpr c7
    have c7b1 : (t116 != 1337) = true := bne_iff_ne.mpr c7
    exact absurd ((Option.some.inj H).trans HT.out) (by decide)
  ·
   rw [if_neg c6] at H
   have c6b0 : ((strOfNums t125).toList == ([234] : List UInt8)) = false := beq_eq_false_iff_ne.mpr c6
   have c6b1 : ((strOfNums t125).toList != ([234] : List UInt8)) = true := bne_iff_ne.mpr c6
   exact absurd ((Option.some.inj H).trans HT.out) (by decide)
 ·
  rw [if_neg c4] at H
  have c4b0 : ((strOfNums t122).toList == ([31, 154, 10] : List UInt8)) = false := beq_eq_false_iff_ne.mpr c4
  have c4b1 : ((strOfNums t122).toList != ([31, 154, 10] : List UInt8)) = true := bne_iff_ne.mpr c4
  exact absurd ((Option.some.inj H).trans HT.out) (by decide)

/-! ### nuncioref09_Full: function 14 -/
def nuncioref09_Full.l0 : Nat → Int → Int → Int → Option (Int)
 | 0, _, _, _ => none
 | k + 1, x0, x3, x4 => if x4 < x0 then (if x4 < 8 then (nuncioref09_Full.l0 k x0 (IntKind.u64.wrap ((IntKind.u64.wrap (x3 * 2)) + 1)) (wrap64 (x4 + 1))) else (some x3)) else (some x3)
def nuncioref09_Full.f (k : Nat) (a0 : Int) : Option (Int) := nuncioref09_Full.l0 k a0 1 1
theorem nuncioref09_Full.mono_l : ∀ k, (∀ y0 y1 y2, LeO (nuncioref09_Full.l0 k y0 y1 y2) (nuncioref09_Full.l0 (k + 1) y0 y1 y2))
 | 0 => fun _ _ _ r h => by simp [nuncioref09_Full.l0] at h
 | k + 1 => by
  have ih0 := nuncioref09_Full.mono_l k
  ·
   intro y0 y1 y2
   unfold nuncioref09_Full.l0
   repeat' first
   | (with_reducible exact ih0 _ _ _)
   | (with_reducible exact LeO.refl _)
   | (with_reducible exact LeO.none _)
   | (with_reducible refine LeO.ite ?_ ?_)
   | (with_reducible refine LeO.bind ?_ (fun _ => ?_))
   | exact ih0 _ _ _
   | exact LeO.none _
   | refine LeO.ite ?_ ?_
   | refine LeO.bind ?_ (fun _ => ?_)
theorem nuncioref09_Full.mono : ∀ a0 k, LeO (nuncioref09_Full.f k a0) (nuncioref09_Full.f (k + 1) a0) := by
 intro a0 k
 have ih0 := nuncioref09_Full.mono_l k
 unfold nuncioref09_Full.f
 repeat' first
   | (with_reducible exact ih0 _ _ _)
   | (with_reducible exact LeO.refl _)
   | (with_reducible exact LeO.none _)
   | (with_reducible refine LeO.ite ?_ ?_)
   | (with_reducible refine LeO.bind ?_ (fun _ => ?_))
   | exact ih0 _ _ _
   | exact LeO.none _
   | refine LeO.ite ?_ ?_
   | refine LeO.bind ?_ (fun _ => ?_)
set_option maxHeartbeats 8000000 in
set_option maxRecDepth 100000 in
theorem nuncioref09_Full.calls (k : Nat) (a0 : Int) (r : Int) (w : World) (h : nuncioref09_Full.f k a0 = some r) :
  Calls Try.prog 14 #[.int .i64 a0] w fun e w' => e = .returned (.int .u64 r) ∧ Drawn0 w w' := by
 have H : (nuncioref09_Full.l0 k a0 1 1) = some r := h
 clear h
 have H' := Aside0.mk H
 clear H
 go_enter Try.func14, Try.ntmps14
 go_wp2
 go_loopg [3, 4] k (fun kq v3 v4 w' => ∃ (x3_1 : Int) (x4_1 : Int), v3 = .int .u64 x3_1 ∧ v4 = .int .i64 x4_1 ∧ Aside0 (nuncioref09_Full.l0 kq a0 x3_1 x4_1 = some r) ∧ Aside0 (kq ≤ k) ∧ Drawn0 w w')
 case atStart => exact ⟨(1), (1), (by first | rfl | (simp; done) | (simp [*]; done)), (by first | rfl | (simp; done) | (simp [*]; done)), H', ⟨Nat.le_refl _⟩, by repeat (first | exact Drawn0.refl _ | apply Drawn0.step)⟩
 case round =>
  clear H'
  try clear c1
  obtain ⟨x3_1, x4_1, rfl, rfl, HA, HK1, ⟨m1, rfl⟩⟩ := hrel
  cases gk with
  | zero => exact absurd HA.out (by simp [nuncioref09_Full.l0])
  | succ k1 =>
   have H := HA.out
   clear HA
   simp only [nuncioref09_Full.l0] at H
   by_cases c2 : x4_1 < a0
   ·
    rw [if_pos c2] at H
    have c2b0 : decide (x4_1 < a0) = true := decide_eq_true c2
    clear c2
    by_cases c3 : x4_1 < 8
    ·
     rw [if_pos c3] at H
     have c3b0 : decide (x4_1 < 8) = true := decide_eq_true c3
     clear c3
     have H' := Aside0.mk H
     clear H
     go_wp2
     go_roundg k1
     case measure => have := HK1.out; omega
     case rel => exact ⟨(IntKind.u64.wrap ((IntKind.u64.wrap (x3_1 * 2)) + 1)), (wrap64 (x4_1 + 1)), (by first | rfl | (simp; done) | (simp [*]; done)), (by first | rfl | (simp; done) | (simp [*]; done)), H', ⟨by have := HK1.out; omega⟩, by repeat (first | exact Drawn0.refl _ | apply Drawn0.step)⟩
    ·
     rw [if_neg c3] at H
     have c3b0 : decide (x4_1 < 8) = false := decide_eq_false c3
     clear c3
     obtain rfl := Option.some.inj H
     go_wp2
     go_ret
     exact ⟨by first | rfl | (simp; done) | (simp [*]; done), by repeat (first | exact Drawn0.refl _ | apply Drawn0.step)⟩
   ·
    rw [if_neg c2] at H
    have c2b0 : decide (x4_1 < a0) = false := decide_eq_false c2
    clear c2
    obtain rfl := Option.some.inj H
    go_wp2
    go_ret
    exact ⟨by first | rfl | (simp; done) | (simp [*]; done), by repeat (first | exact Drawn0.refl _ | apply Drawn0.step)⟩

/-! ### nuncioref09_Put: function 10 -/
def nuncioref09_Put.l0 : Nat → ByteArray → Int → Option (ByteArray)
 | 0, _, _ => none
 | k + 1, x0, x3 => if x3 > 127 then ((some (([(IntKind.u64.wrap (128 + (Int.tmod x3 128))) % 256] : List Int) : List Int)).bind fun y135 => (if x0.size + (strOfNums y135).size ≤ 9223372036854775807 then (nuncioref09_Put.l0 k (x0 ++ (strOfNums y135)) (IntKind.u64.wrap (Int.tdiv x3 128))) else (none))) else ((some (([(x3) % 256] : List Int) : List Int)).bind fun y138 => (if x0.size + (strOfNums y138).size ≤ 9223372036854775807 then (some (x0 ++ (strOfNums y138))) else (none)))
def nuncioref09_Put.f (k : Nat) (a0 : ByteArray) (a1 : Int) (a2 : Int) (a3 : Int) : Option (ByteArray) := (nuncioref09_Full.f k a2).bind fun t128 => (if (IntKind.u64.wrap (t128 + 1)) = 0 then (none) else (if a3 < t128 then ((some (([(IntKind.u64.wrap ((IntKind.u64.wrap ((IntKind.u64.wrap (Int.tdiv (IntKind.u64.wrap (a1)) (IntKind.u64.wrap (t128 + 1)))) * (IntKind.u64.wrap (t128 + 1)))) + a3)) % 256] : List Int) : List Int)).bind fun y129 => (if a0.size + (strOfNums y129).size ≤ 9223372036854775807 then (some (a0 ++ (strOfNums y129))) else (none))) else ((some (([(IntKind.u64.wrap ((IntKind.u64.wrap ((IntKind.u64.wrap (Int.tdiv (IntKind.u64.wrap (a1)) (IntKind.u64.wrap (t128 + 1)))) * (IntKind.u64.wrap (t128 + 1)))) + t128)) % 256] : List Int) : List Int)).bind fun y132 => (if a0.size + (strOfNums y132).size ≤ 9223372036854775807 then (nuncioref09_Put.l0 k (a0 ++ (strOfNums y132)) (IntKind.u64.wrap (a3 - t128))) else (none)))))
theorem nuncioref09_Put.mono_l : ∀ k, (∀ y0 y1, LeO (nuncioref09_Put.l0 k y0 y1) (nuncioref09_Put.l0 (k + 1) y0 y1))
 | 0 => fun _ _ r h => by simp [nuncioref09_Put.l0] at h
 | k + 1 => by
  have ih0 := nuncioref09_Put.mono_l k
  ·
   intro y0 y1
   unfold nuncioref09_Put.l0
   repeat' first
   | (with_reducible exact ih0 _ _)
   | (with_reducible exact nuncioref09_Full.mono _ _)
   | (with_reducible exact LeO.refl _)
   | (with_reducible exact LeO.none _)
   | (with_reducible refine LeO.ite ?_ ?_)
   | (with_reducible refine LeO.bind ?_ (fun _ => ?_))
   | exact ih0 _ _
   | exact nuncioref09_Full.mono _ _
   | exact LeO.none _
   | refine LeO.ite ?_ ?_
   | refine LeO.bind ?_ (fun _ => ?_)
theorem nuncioref09_Put.mono : ∀ a0 a1 a2 a3 k, LeO (nuncioref09_Put.f k a0 a1 a2 a3) (nuncioref09_Put.f (k + 1) a0 a1 a2 a3) := by
 intro a0 a1 a2 a3 k
 have ih0 := nuncioref09_Put.mono_l k
 unfold nuncioref09_Put.f
 repeat' first
   | (with_reducible exact ih0 _ _)
   | (with_reducible exact nuncioref09_Full.mono _ _)
   | (with_reducible exact LeO.refl _)
   | (with_reducible exact LeO.none _)
   | (with_reducible refine LeO.ite ?_ ?_)
   | (with_reducible refine LeO.bind ?_ (fun _ => ?_))
   | exact ih0 _ _
   | exact nuncioref09_Full.mono _ _
   | exact LeO.none _
   | refine LeO.ite ?_ ?_
   | refine LeO.bind ?_ (fun _ => ?_)
set_option maxHeartbeats 8000000 in
set_option maxRecDepth 100000 in
theorem nuncioref09_Put.calls (k : Nat) (a0 : ByteArray) (a1 : Int) (a2 : Int) (a3 : Int) (r : ByteArray) (w : World) (h : nuncioref09_Put.f k a0 a1 a2 a3 = some r) :
  Calls Try.prog 10 #[.string a0, .int .u8 a1, .int .i64 a2, .int .u64 a3] w fun e w' => e = .returned (.string r) ∧ Below w.heap.size w w' := by
 have HB := Aside0.mk (Below.refl w.heap.size w)
 have H : ((nuncioref09_Full.f k a2).bind fun t128 => (if (IntKind.u64.wrap (t128 + 1)) = 0 then (none) else (if a3 < t128 then ((some (([(IntKind.u64.wrap ((IntKind.u64.wrap ((IntKind.u64.wrap (Int.tdiv (IntKind.u64.wrap (a1)) (IntKind.u64.wrap (t128 + 1)))) * (IntKind.u64.wrap (t128 + 1)))) + a3)) % 256] : List Int) : List Int)).bind fun y129 => (if a0.size + (strOfNums y129).size ≤ 9223372036854775807 then (some (a0 ++ (strOfNums y129))) else (none))) else ((some (([(IntKind.u64.wrap ((IntKind.u64.wrap ((IntKind.u64.wrap (Int.tdiv (IntKind.u64.wrap (a1)) (IntKind.u64.wrap (t128 + 1)))) * (IntKind.u64.wrap (t128 + 1)))) + t128)) % 256] : List Int) : List Int)).bind fun y132 => (if a0.size + (strOfNums y132).size ≤ 9223372036854775807 then (nuncioref09_Put.l0 k (a0 ++ (strOfNums y132)) (IntKind.u64.wrap (a3 - t128))) else (none)))))) = some r := h
 clear h
 replace H := Option.bind_eq_some_iff.mp H
 obtain ⟨t128, A50, H⟩ := H
 replace H : (if (IntKind.u64.wrap (t128 + 1)) = 0 then (none) else (if a3 < t128 then ((some (([(IntKind.u64.wrap ((IntKind.u64.wrap ((IntKind.u64.wrap (Int.tdiv (IntKind.u64.wrap (a1)) (IntKind.u64.wrap (t128 + 1)))) * (IntKind.u64.wrap (t128 + 1)))) + a3)) % 256] : List Int) : List Int)).bind fun y129 => (if a0.size + (strOfNums y129).size ≤ 9223372036854775807 then (some (a0 ++ (strOfNums y129))) else (none))) else ((some (([(IntKind.u64.wrap ((IntKind.u64.wrap ((IntKind.u64.wrap (Int.tdiv (IntKind.u64.wrap (a1)) (IntKind.u64.wrap (t128 + 1)))) * (IntKind.u64.wrap (t128 + 1)))) + t128)) % 256] : List Int) : List Int)).bind fun y132 => (if a0.size + (strOfNums y132).size ≤ 9223372036854775807 then (nuncioref09_Put.l0 k (a0 ++ (strOfNums y132)) (IntKind.u64.wrap (a3 - t128))) else (none))))) = some r := H
 have A5 := Aside0.mk A50
 clear A50
 by_cases c6 : (IntKind.u64.wrap (t128 + 1)) = 0
 ·
  rw [if_pos c6] at H
  exact absurd H (by simp)
 ·
  rw [if_neg c6] at H
  have c6b0 : ((IntKind.u64.wrap (t128 + 1)) == 0) = false := beq_eq_false_iff_ne.mpr c6
  have c6b1 : ((IntKind.u64.wrap (t128 + 1)) != 0) = true := bne_iff_ne.mpr c6
  by_cases c7 : a3 < t128
  ·
   rw [if_pos c7] at H
   have c7b0 : decide (a3 < t128) = true := decide_eq_true c7
   clear c7
   obtain ⟨y129, hy129⟩ : ∃ y_ : List Int, y_ = (([(IntKind.u64.wrap ((IntKind.u64.wrap ((IntKind.u64.wrap (Int.tdiv (IntKind.u64.wrap (a1)) (IntKind.u64.wrap (t128 + 1)))) * (IntKind.u64.wrap (t128 + 1)))) + a3)) % 256] : List Int)) := ⟨_, rfl⟩
   replace H : (if a0.size + (strOfNums y129).size ≤ 9223372036854775807 then (some (a0 ++ (strOfNums y129))) else (none)) = some r := by first | (rw [hy129]; with_reducible exact H) | (have H2_ := (Option.bind_some _ _).symm.trans H; rw [hy129]; with_reducible exact H2_) | (have H2_ := (Option.bind_some _ _).symm.trans H; with_reducible exact H2_) | with_reducible exact H | (rw [hy129]; exact H) | exact H
   have Ny129 := Aside0.mk hy129
   clear hy129
   by_cases c8 : a0.size + (strOfNums y129).size ≤ 9223372036854775807
   ·
    rw [if_pos c8] at H
    have c8b0 := eq_true c8
    have c8b1 : decide (a0.size + (strOfNums y129).size ≤ 9223372036854775807) = true := decide_eq_true c8
    try have c8b2 : (9223372036854775807 < a0.size + (strOfNums y129).size) = False := eq_false (Nat.not_lt.2 c8)
    obtain rfl := Option.some.inj H
    go_enter Try.func10, Try.ntmps10
    go_wp2_with (first | ((with_reducible refine gate_callee (f := 14) rfl ?_); refine goesL_ (some 12) rfl rfl Try.func14 (by kernel_rfl) rfl #[.int .i64 a2] rfl (by (try simp only [List.map_toArray, List.map_cons, List.map_nil]); first | done | rfl | (simp only [List.length_drop, List.length_take]; rfl)) ?_; (with_reducible refine (nuncioref09_Full.calls k a2 t128 _ A5.out).mono ?_); rintro e w' ⟨rfl, ⟨nd, rfl⟩⟩; refine ⟨_, rfl, ?_⟩) | ((with_reducible refine gate_dst (N := 29) rfl ?_); refine Kd.R_lit (Kd.int .u8) _ 5 ?hg (N := 29) ?hd (xs := ([(IntKind.u64.wrap ((IntKind.u64.wrap ((IntKind.u64.wrap (Int.tdiv (IntKind.u64.wrap (a1)) (IntKind.u64.wrap (t128 + 1)))) * (IntKind.u64.wrap (t128 + 1)))) + a3)) % 256] : List Int)) (inner := [.int .u8 ((IntKind.u64.wrap ((IntKind.u64.wrap ((IntKind.u64.wrap (Int.tdiv (IntKind.u64.wrap (a1)) (IntKind.u64.wrap (t128 + 1)))) * (IntKind.u64.wrap (t128 + 1)))) + a3)) % 256)]) (ok := fun _ => True) (okp := fun _ => True) ?hr ?hp (fun _ hk => hk) trivial (Below.refl _ _) (Nat.le_refl _) (by simp) ?_; (case hd => rfl); (case hg => rfl); (case hr => first | (go_simp; done) | (go_simp; rfl)); (case hp => exact (Reps.one (show Kd.M (Kd.int .u8) _ _ _ ((IntKind.u64.wrap ((IntKind.u64.wrap ((IntKind.u64.wrap (Int.tdiv (IntKind.u64.wrap (a1)) (IntKind.u64.wrap (t128 + 1)))) * (IntKind.u64.wrap (t128 + 1)))) + a3)) % 256) [.int .u8 ((IntKind.u64.wrap ((IntKind.u64.wrap ((IntKind.u64.wrap (Int.tdiv (IntKind.u64.wrap (a1)) (IntKind.u64.wrap (t128 + 1)))) * (IntKind.u64.wrap (t128 + 1)))) + a3)) % 256)] from rfl) (Reps.none _ _))); intro v130 w9 ho10 hb hg_ hnew_; clear hg_ hnew_; (first | rw [← Ny129.out] at ho10 | (simp only [Int.reduceToNat] at ho10; rw [← Ny129.out] at ho10)); have n0_ := Aside0.mk (Kd.R_lower ho10 (below_size (by repeat (first | (with_reducible first | exact HB.out | apply below_alloc | apply pw_below_drewN | apply below_drew1) | exact HB.out)))); have n1_ := Aside0.mk (below_step (by repeat (first | (with_reducible first | exact HB.out | apply below_alloc | apply pw_below_drewN | apply below_drew1) | exact HB.out)) hb); clear HB; have HO131 := n0_; have HB := n1_; clear n0_ n1_; clear hb ho10; have hcv11 := own_string (P := Try.prog) Try.underlying22 Try.underlying5 Try.underlying9 (Kd.own_of_R HO131.out)))
    go_ret
    exact ⟨by first | rfl | (simp [errW_none, errW_some] <;> rfl) | (simp [*, errW_none, errW_some] <;> rfl), by repeat (first | (with_reducible first | exact HB.out | apply below_alloc | apply pw_below_drewN | apply below_drew1) | exact HB.out)⟩
   ·
    rw [if_neg c8] at H
    exact absurd H (by simp)
  ·
   rw [if_neg c7] at H
   have c7b0 : decide (a3 < t128) = false := decide_eq_false c7
   clear c7
   obtain ⟨y132, hy132⟩ : ∃ y_ : List Int, y_ = (([(IntKind.u64.wrap ((IntKind.u64.wrap ((IntKind.u64.wrap (Int.tdiv (IntKind.u64.wrap (a1)) (IntKind.u64.wrap (t128 + 1)))) * (IntKind.u64.wrap (t128 + 1)))) + t128)) % 256] : List Int)) := ⟨_, rfl⟩
   replace H : (if a0.size + (strOfNums y132).size ≤ 9223372036854775807 then (nuncioref09_Put.l0 k (a0 ++ (strOfNums y132)) (IntKind.u64.wrap (a3 - t128))) else (none)) = some r := by first | (rw [hy132]; with_reducible exact H) | (have H2_ := (Option.bind_some _ _).symm.trans H; rw [hy132]; with_reducible exact H2_) | (have H2_ := (Option.bind_some _ _).symm.trans H; with_reducible exact H2_) | with_reducible exact H | (rw [hy132]; exact H) | exact H
   have Ny132 := Aside0.mk hy132
   clear hy132
   by_cases c12 : a0.size + (strOfNums y132).size ≤ 9223372036854775807
   ·
    rw [if_pos c12] at H
    have c12b0 := eq_true c12
    have c12b1 : decide (a0.size + (strOfNums y132).size ≤ 9223372036854775807) = true := decide_eq_true c12
    try have c12b2 : (9223372036854775807 < a0.size + (strOfNums y132).size) = False := eq_false (Nat.not_lt.2 c12)
    have H' := Aside0.mk H
    clear H
    go_enter Try.func10, Try.ntmps10
    go_wp2_with (first | ((with_reducible refine gate_callee (f := 14) rfl ?_); refine goesL_ (some 12) rfl rfl Try.func14 (by kernel_rfl) rfl #[.int .i64 a2] rfl (by (try simp only [List.map_toArray, List.map_cons, List.map_nil]); first | done | rfl | (simp only [List.length_drop, List.length_take]; rfl)) ?_; (with_reducible refine (nuncioref09_Full.calls k a2 t128 _ A5.out).mono ?_); rintro e w' ⟨rfl, ⟨nd, rfl⟩⟩; refine ⟨_, rfl, ?_⟩) | ((with_reducible refine gate_dst (N := 37) rfl ?_); refine Kd.R_lit (Kd.int .u8) _ 5 ?hg (N := 37) ?hd (xs := ([(IntKind.u64.wrap ((IntKind.u64.wrap ((IntKind.u64.wrap (Int.tdiv (IntKind.u64.wrap (a1)) (IntKind.u64.wrap (t128 + 1)))) * (IntKind.u64.wrap (t128 + 1)))) + t128)) % 256] : List Int)) (inner := [.int .u8 ((IntKind.u64.wrap ((IntKind.u64.wrap ((IntKind.u64.wrap (Int.tdiv (IntKind.u64.wrap (a1)) (IntKind.u64.wrap (t128 + 1)))) * (IntKind.u64.wrap (t128 + 1)))) + t128)) % 256)]) (ok := fun _ => True) (okp := fun _ => True) ?hr ?hp (fun _ hk => hk) trivial (Below.refl _ _) (Nat.le_refl _) (by simp) ?_; (case hd => rfl); (case hg => rfl); (case hr => first | (go_simp; done) | (go_simp; rfl)); (case hp => exact (Reps.one (show Kd.M (Kd.int .u8) _ _ _ ((IntKind.u64.wrap ((IntKind.u64.wrap ((IntKind.u64.wrap (Int.tdiv (IntKind.u64.wrap (a1)) (IntKind.u64.wrap (t128 + 1)))) * (IntKind.u64.wrap (t128 + 1)))) + t128)) % 256) [.int .u8 ((IntKind.u64.wrap ((IntKind.u64.wrap ((IntKind.u64.wrap (Int.tdiv (IntKind.u64.wrap (a1)) (IntKind.u64.wrap (t128 + 1)))) * (IntKind.u64.wrap (t128 + 1)))) + t128)) % 256)] from rfl) (Reps.none _ _))); intro v133 w13 ho14 hb hg_ hnew_; clear hg_ hnew_; (first | rw [← Ny132.out] at ho14 | (simp only [Int.reduceToNat] at ho14; rw [← Ny132.out] at ho14)); have n0_ := Aside0.mk (Kd.R_lower ho14 (below_size (by repeat (first | (with_reducible first | exact HB.out | apply below_alloc | apply pw_below_drewN | apply below_drew1) | exact HB.out)))); have n1_ := Aside0.mk (below_step (by repeat (first | (with_reducible first | exact HB.out | apply below_alloc | apply pw_below_drewN | apply below_drew1) | exact HB.out)) hb); clear HB; have HO134 := n0_; have HB := n1_; clear n0_ n1_; clear hb ho14; have hcv15 := own_string (P := Try.prog) Try.underlying22 Try.underlying5 Try.underlying9 (Kd.own_of_R HO134.out)))
    go_loopg [0, 3] k (fun kq v0 v3 w' => ∃ (x0_1 : ByteArray) (x3_1 : Int), v0 = .string x0_1 ∧ v3 = .int .u64 x3_1 ∧ Aside0 (nuncioref09_Put.l0 kq x0_1 x3_1 = some r) ∧ Aside0 (kq ≤ k) ∧ Aside0 (Below w.heap.size w w'))
    case atStart => exact ⟨(a0 ++ (strOfNums y132)), (IntKind.u64.wrap (a3 - t128)), (by first | rfl | (simp; done) | (simp [*]; done)), (by first | rfl | (simp; done) | (simp [*]; done)), H', ⟨Nat.le_refl _⟩, ⟨by repeat (first | (with_reducible first | exact HB.out | apply below_alloc | apply pw_below_drewN | apply below_drew1) | exact HB.out)⟩⟩
    case round =>
     clear H'
     try clear c1
     try clear hcv1
     try clear p2
     try clear c6
     try clear c6b0
     try clear c6b1
     try clear c7
     try clear c7b0
     try clear c8
     try clear c8b0
     try clear c8b1
     try clear c8b2
     try clear c10
     try clear hcv11
     try clear c12
     try clear c12b0
     try clear c12b1
     try clear c12b2
     try clear c14
     try clear hcv15
     obtain ⟨x0_1, x3_1, rfl, rfl, HA, HK1, HB⟩ := hrel
     cases gk with
     | zero => exact absurd HA.out (by simp [nuncioref09_Put.l0])
     | succ k1 =>
      have H := HA.out
      clear HA
      simp only [nuncioref09_Put.l0] at H
      by_cases c16 : x3_1 > 127
      ·
       rw [if_pos c16] at H
       have c16b0 : decide (127 < x3_1) = true := decide_eq_true c16
       clear c16
       obtain ⟨y135, hy135⟩ : ∃ y_ : List Int, y_ = (([(IntKind.u64.wrap (128 + (Int.tmod x3_1 128))) % 256] : List Int)) := ⟨_, rfl⟩
       replace H : (if x0_1.size + (strOfNums y135).size ≤ 9223372036854775807 then (nuncioref09_Put.l0 k1 (x0_1 ++ (strOfNums y135)) (IntKind.u64.wrap (Int.tdiv x3_1 128))) else (none)) = some r := by first | (rw [hy135]; with_reducible exact H) | (have H2_ := (Option.bind_some _ _).symm.trans H; rw [hy135]; with_reducible exact H2_) | (have H2_ := (Option.bind_some _ _).symm.trans H; with_reducible exact H2_) | with_reducible exact H | (rw [hy135]; exact H) | exact H
       have Ny135 := Aside0.mk hy135
       clear hy135
       by_cases c17 : x0_1.size + (strOfNums y135).size ≤ 9223372036854775807
       ·
        rw [if_pos c17] at H
        have c17b0 := eq_true c17
        have c17b1 : decide (x0_1.size + (strOfNums y135).size ≤ 9223372036854775807) = true := decide_eq_true c17
        try have c17b2 : (9223372036854775807 < x0_1.size + (strOfNums y135).size) = False := eq_false (Nat.not_lt.2 c17)
        have H' := Aside0.mk H
        clear H
        go_wp2_with (first | ((with_reducible refine gate_dst (N := 50) rfl ?_); refine Kd.R_lit (Kd.int .u8) _ 5 ?hg (N := 50) ?hd (xs := ([(IntKind.u64.wrap (128 + (Int.tmod x3_1 128))) % 256] : List Int)) (inner := [.int .u8 ((IntKind.u64.wrap (128 + (Int.tmod x3_1 128))) % 256)]) (ok := fun _ => True) (okp := fun _ => True) ?hr ?hp (fun _ hk => hk) trivial (Below.refl _ _) (Nat.le_refl _) (by simp) ?_; (case hd => rfl); (case hg => rfl); (case hr => first | (go_simp; done) | (go_simp; rfl)); (case hp => exact (Reps.one (show Kd.M (Kd.int .u8) _ _ _ ((IntKind.u64.wrap (128 + (Int.tmod x3_1 128))) % 256) [.int .u8 ((IntKind.u64.wrap (128 + (Int.tmod x3_1 128))) % 256)] from rfl) (Reps.none _ _))); intro v136 w18 ho19 hb hg_ hnew_; clear hg_ hnew_; (first | rw [← Ny135.out] at ho19 | (simp only [Int.reduceToNat] at ho19; rw [← Ny135.out] at ho19)); have n0_ := Aside0.mk (Kd.R_lower ho19 (below_size (by repeat (first | (with_reducible first | exact HB.out | apply below_alloc | apply pw_below_drewN | apply below_drew1) | exact HB.out)))); have n1_ := Aside0.mk (below_step (by repeat (first | (with_reducible first | exact HB.out | apply below_alloc | apply pw_below_drewN | apply below_drew1) | exact HB.out)) hb); clear HB; have HO137 := n0_; have HB := n1_; clear n0_ n1_; clear hb ho19; have hcv20 := own_string (P := Try.prog) Try.underlying22 Try.underlying5 Try.underlying9 (Kd.own_of_R HO137.out)))
        go_roundg k1
        case measure => have := HK1.out; omega
        case rel => exact ⟨(x0_1 ++ (strOfNums y135)), (IntKind.u64.wrap (Int.tdiv x3_1 128)), (by first | rfl | (simp; done) | (simp [*]; done)), (by first | rfl | (simp; done) | (simp [*]; done)), H', ⟨by have := HK1.out; omega⟩, ⟨by repeat (first | (with_reducible first | exact HB.out | apply below_alloc | apply pw_below_drewN | apply below_drew1) | exact HB.out)⟩⟩
       ·
        rw [if_neg c17] at H
        exact absurd H (by simp)
      ·
       rw [if_neg c16] at H
       have c16b0 : decide (127 < x3_1) = false := decide_eq_false c16
       clear c16
       obtain ⟨y138, hy138⟩ : ∃ y_ : List Int, y_ = (([(x3_1) % 256] : List Int)) := ⟨_, rfl⟩
       replace H : (if x0_1.size + (strOfNums y138).size ≤ 9223372036854775807 then (some (x0_1 ++ (strOfNums y138))) else (none)) = some r := by first | (rw [hy138]; with_reducible exact H) | (have H2_ := (Option.bind_some _ _).symm.trans H; rw [hy138]; with_reducible exact H2_) | (have H2_ := (Option.bind_some _ _).symm.trans H; with_reducible exact H2_) | with_reducible exact H | (rw [hy138]; exact H) | exact H
       have Ny138 := Aside0.mk hy138
       clear hy138
       by_cases c21 : x0_1.size + (strOfNums y138).size ≤ 9223372036854775807
       ·
        rw [if_pos c21] at H
        have c21b0 := eq_true c21
        have c21b1 : decide (x0_1.size + (strOfNums y138).size ≤ 9223372036854775807) = true := decide_eq_true c21
        try have c21b2 : (9223372036854775807 < x0_1.size + (strOfNums y138).size) = False := eq_false (Nat.not_lt.2 c21)
        obtain rfl := Option.some.inj H
        go_wp2_with (first | ((with_reducible refine gate_dst (N := 58) rfl ?_); refine Kd.R_lit (Kd.int .u8) _ 5 ?hg (N := 58) ?hd (xs := ([(x3_1) % 256] : List Int)) (inner := [.int .u8 ((x3_1) % 256)]) (ok := fun _ => True) (okp := fun _ => True) ?hr ?hp (fun _ hk => hk) trivial (Below.refl _ _) (Nat.le_refl _) (by simp) ?_; (case hd => rfl); (case hg => rfl); (case hr => first | (go_simp; done) | (go_simp; rfl)); (case hp => exact (Reps.one (show Kd.M (Kd.int .u8) _ _ _ ((x3_1) % 256) [.int .u8 ((x3_1) % 256)] from rfl) (Reps.none _ _))); intro v139 w22 ho23 hb hg_ hnew_; clear hg_ hnew_; (first | rw [← Ny138.out] at ho23 | (simp only [Int.reduceToNat] at ho23; rw [← Ny138.out] at ho23)); have n0_ := Aside0.mk (Kd.R_lower ho23 (below_size (by repeat (first | (with_reducible first | exact HB.out | apply below_alloc | apply pw_below_drewN | apply below_drew1) | exact HB.out)))); have n1_ := Aside0.mk (below_step (by repeat (first | (with_reducible first | exact HB.out | apply below_alloc | apply pw_below_drewN | apply below_drew1) | exact HB.out)) hb); clear HB; have HO140 := n0_; have HB := n1_; clear n0_ n1_; clear hb ho23; have hcv24 := own_string (P := Try.prog) Try.underlying22 Try.underlying5 Try.underlying9 (Kd.own_of_R HO140.out)))
        go_ret
        exact ⟨by first | rfl | (simp [errW_none, errW_some] <;> rfl) | (simp [*, errW_none, errW_some] <;> rfl), by repeat (first | (with_reducible first | exact HB.out | apply below_alloc | apply pw_below_drewN | apply below_drew1) | exact HB.out)⟩
       ·
        rw [if_neg c21] at H
        exact absurd H (by simp)
   ·
    rw [if_neg c12] at H
    exact absurd H (by simp)

end Go.Proofs.Ythgminjnednjgaa.Mine
