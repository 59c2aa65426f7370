-- Written by this repo's own printer (wip/print), which builds on the kit's.
import Derived.Test.YtadnfcodaoflfaaMinex0
import Derived.Test.YtadnfcodaoflfaaMinex1
import Derived.Test.YtadnfcodaoflfaaMinex2
import Derived.Test.YtadnfcodaoflfaaMinex4
import Derived.Test.YtadnfcodaoflfaaMinex5
import Derived.Test.YtadnfcodaoflfaaMinex6
namespace Go.Proofs.Ytadnfcodaoflfaa.Mine
open Go.RowKit Go.Proofs.YtadnfcodaoflfaaW.PrintWords Go.Proofs.YtadnfcodaoflfaaW.PrintLast Go.Proofs.YtadnfcodaoflfaaW.PrintMore
attribute [local go_sem] max2_int min2_int max_two min_two max_three min_three max_four min_four   -- for this text's walks alone
set_option linter.unusedVariables false
set_option linter.unusedSimpArgs false

/-! ### nunciolaw10_HuffWhole: function 6 -/
def nunciolaw10_HuffWhole.f (k : Nat) (a0 : ByteArray) : Option (Bool) := (nunciolaw10_awake.f k).bind fun t175 => (if t175 = true then (if (a0.size : Int) > 2000 then (some true) else ((huff_Encode.f k a0).bind fun t176 => (if t176.size + 1 ≤ 9223372036854775807 then ((huff_Decode.f k (t176 ++ (⟨#[255]⟩ : ByteArray))).bind fun bt177 => (if bt177.1.toList = ([] : List UInt8) then (some (bt177.2 == 91)) else (some false))) else (none)))) else (some false))
theorem nunciolaw10_HuffWhole.mono : ∀ a0 k, LeO (nunciolaw10_HuffWhole.f k a0) (nunciolaw10_HuffWhole.f (k + 1) a0) := by
 intro a0 k
 unfold nunciolaw10_HuffWhole.f
 repeat' first
   | (with_reducible exact huff_Decode.mono _ _)
   | (with_reducible exact huff_Encode.mono _ _)
   | (with_reducible exact nunciolaw10_awake.mono _)
   | (with_reducible exact LeO.refl _)
   | (with_reducible exact LeO.none _)
   | (with_reducible refine LeO.ite ?_ ?_)
   | (with_reducible refine LeO.bind ?_ (fun _ => ?_))
   | exact huff_Decode.mono _ _
   | exact huff_Encode.mono _ _
   | exact nunciolaw10_awake.mono _
   | exact LeO.none _
   | refine LeO.ite ?_ ?_
   | refine LeO.bind ?_ (fun _ => ?_)
set_option maxHeartbeats 8000000 in
set_option maxRecDepth 100000 in
theorem nunciolaw10_HuffWhole.calls (k : Nat) (a0 : ByteArray) (r : Bool) (w : World) (h : nunciolaw10_HuffWhole.f k a0 = some r) (hT : r = true) :
  Calls Try.prog 6 #[.string a0] w fun e w' => e = .returned (.bool r) ∧ Below w.heap.size w w' := by
 have HB := Aside0.mk (Below.refl w.heap.size w)
 have HT := Aside0.mk hT
 clear hT
 have H : ((nunciolaw10_awake.f k).bind fun t175 => (if t175 = true then (if (a0.size : Int) > 2000 then (some true) else ((huff_Encode.f k a0).bind fun t176 => (if t176.size + 1 ≤ 9223372036854775807 then ((huff_Decode.f k (t176 ++ (⟨#[255]⟩ : ByteArray))).bind fun bt177 => (if bt177.1.toList = ([] : List UInt8) then (some (bt177.2 == 91)) else (some false))) else (none)))) else (some false))) = some r := h
 clear h
 replace H := Option.bind_eq_some_iff.mp H
 obtain ⟨t175, A20, H⟩ := H
 replace H : (if t175 = true then (if (a0.size : Int) > 2000 then (some true) else ((huff_Encode.f k a0).bind fun t176 => (if t176.size + 1 ≤ 9223372036854775807 then ((huff_Decode.f k (t176 ++ (⟨#[255]⟩ : ByteArray))).bind fun bt177 => (if bt177.1.toList = ([] : List UInt8) then (some (bt177.2 == 91)) else (some false))) else (none)))) else (some false)) = some r := H
 have A2 := Aside0.mk A20
 clear A20
 by_cases c3 : t175 = true
 ·
  subst c3
  have H1 : (if (a0.size : Int) > 2000 then (some true) else ((huff_Encode.f k a0).bind fun t176 => (if t176.size + 1 ≤ 9223372036854775807 then ((huff_Decode.f k (t176 ++ (⟨#[255]⟩ : ByteArray))).bind fun bt177 => (if bt177.1.toList = ([] : List UInt8) then (some (bt177.2 == 91)) else (some false))) else (none)))) = some r := by rw [if_pos rfl] at H; exact H
  clear H
  have H := H1
  clear H1
  by_cases c4 : (a0.size : Int) > 2000
  ·
   rw [if_pos c4] at H
   have c4b0 : decide (2000 < (a0.size : Int)) = true := decide_eq_true c4
   have c4b1 : decide (2000 < a0.size) = true := decide_eq_true (by omega)
   clear c4
   obtain rfl := Option.some.inj H
   go_enter Try.func6, Try.ntmps6
   go_wp2_with (first | ((with_reducible refine gate_callee (f := 9) rfl ?_); refine goesL_ (some 5) rfl rfl Try.func9 (by kernel_rfl) rfl #[] rfl (by (try simp only [List.map_toArray, List.map_cons, List.map_nil]); first | done | rfl | (simp only [List.length_drop, List.length_take]; rfl)) ?_; (with_reducible refine (nunciolaw10_awake.calls k  true _ A2.out).mono ?_); rintro e w5 ⟨rfl, hb⟩; refine ⟨_, rfl, ?_⟩; have n0_ := Aside0.mk (below_step (by repeat (first | (with_reducible first | exact HB.out | apply below_alloc | apply pw_below_drewN | apply below_drew1) | exact HB.out)) hb); clear HB; have HB := n0_; clear n0_; (try clear hb); (try clear hb2); (try clear hk); (try clear hi)))
   go_ret
   exact ⟨by first | rfl | (simp [errW_none, errW_some] <;> rfl) | (simp [*, errW_none, errW_some] <;> rfl), by repeat (first | (with_reducible first | exact HB.out | apply below_alloc | apply pw_below_drewN | apply below_drew1) | exact HB.out)⟩
  ·
   rw [if_neg c4] at H
   have c4b0 : decide (2000 < (a0.size : Int)) = false := decide_eq_false c4
   have c4b1 : decide (2000 < a0.size) = false := decide_eq_false (by omega)
   clear c4
   replace H := Option.bind_eq_some_iff.mp H
   obtain ⟨t176, A60, H⟩ := H
   replace H : (if t176.size + 1 ≤ 9223372036854775807 then ((huff_Decode.f k (t176 ++ (⟨#[255]⟩ : ByteArray))).bind fun bt177 => (if bt177.1.toList = ([] : List UInt8) then (some (bt177.2 == 91)) else (some false))) else (none)) = some r := H
   have A6 := Aside0.mk A60
   clear A60
   by_cases c7 : t176.size + 1 ≤ 9223372036854775807
   ·
    rw [if_pos c7] at H
    have c7b0 := eq_true c7
    have c7b1 : decide (t176.size + 1 ≤ 9223372036854775807) = true := decide_eq_true c7
    try have c7b2 : (9223372036854775807 < t176.size + 1) = False := eq_false (Nat.not_lt.2 c7)
    replace H := Option.bind_eq_some_iff.mp H
    obtain ⟨⟨t177, t178⟩, A80, H⟩ := H
    replace H : (if t177.toList = ([] : List UInt8) then (some (t178 == 91)) else (some false)) = some r := H
    have A8 := Aside0.mk A80
    clear A80
    by_cases c9 : t177.toList = ([] : List UInt8)
    ·
     rw [if_pos c9] at H
     have c9b0 : (t177.toList == ([] : List UInt8)) = true := beq_iff_eq.mpr c9
     have c9b1 : (t177.toList != ([] : List UInt8)) = false := bne_eq_false_iff_eq.mpr c9
     clear c9
     obtain rfl := Option.some.inj H
     go_enter Try.func6, Try.ntmps6
     go_wp2_with (first | ((with_reducible refine gate_callee (f := 9) rfl ?_); refine goesL_ (some 5) rfl rfl Try.func9 (by kernel_rfl) rfl #[] rfl (by (try simp only [List.map_toArray, List.map_cons, List.map_nil]); first | done | rfl | (simp only [List.length_drop, List.length_take]; rfl)) ?_; (with_reducible refine (nunciolaw10_awake.calls k  true _ A2.out).mono ?_); rintro e w10 ⟨rfl, hb⟩; refine ⟨_, rfl, ?_⟩; have n0_ := Aside0.mk (below_step (by repeat (first | (with_reducible first | exact HB.out | apply below_alloc | apply pw_below_drewN | apply below_drew1) | exact HB.out)) hb); clear HB; have HB := n0_; clear n0_; (try clear hb); (try clear hb2); (try clear hk); (try clear hi)) | ((with_reducible refine gate_callee (f := 10) rfl ?_); refine goesL_ (some 12) rfl rfl Try.func10 (by kernel_rfl) rfl #[.string a0] rfl (by (try simp only [List.map_toArray, List.map_cons, List.map_nil]); first | done | rfl | (simp only [List.length_drop, List.length_take]; rfl)) ?_; (with_reducible refine (huff_Encode.calls k a0 t176 _ A6.out).mono ?_); rintro e w11 ⟨rfl, hb⟩; refine ⟨_, rfl, ?_⟩; have n0_ := Aside0.mk (below_step (by repeat (first | (with_reducible first | exact HB.out | apply below_alloc | apply pw_below_drewN | apply below_drew1) | exact HB.out)) hb); clear HB; have HB := n0_; clear n0_; (try clear hb); (try clear hb2); (try clear hk); (try clear hi)) | ((with_reducible refine gate_callee (f := 13) rfl ?_); refine goesL_ (some 14) rfl rfl Try.func13 (by kernel_rfl) rfl #[.string (t176 ++ (⟨#[255]⟩ : ByteArray))] rfl (by (try simp only [List.map_toArray, List.map_cons, List.map_nil]); first | done | rfl | (simp only [List.length_drop, List.length_take]; rfl)) ?_; (with_reducible refine (huff_Decode.calls k (t176 ++ (⟨#[255]⟩ : ByteArray)) t177 t178 _ A8.out).mono ?_); rintro e w12 ⟨rfl, hb⟩; refine ⟨_, rfl, ?_⟩; have n0_ := Aside0.mk (below_step (by repeat (first | (with_reducible first | exact HB.out | apply below_alloc | apply pw_below_drewN | apply below_drew1) | exact HB.out)) hb); clear HB; have HB := n0_; clear n0_; (try clear hb); (try clear hb2); (try clear hk); (try clear hi)))
     go_ret
     exact ⟨by first | rfl | (simp [errW_none, errW_some] <;> rfl) | (simp [*, errW_none, errW_some] <;> rfl), by repeat (first | (with_reducible first | exact HB.out | apply below_alloc | apply pw_below_drewN | apply below_drew1) | exact HB.out)⟩
    ·
     rw [if_neg c9] at H
     have c9b0 : (t177.toList == ([] : List UInt8)) = false := beq_eq_false_iff_ne.mpr c9
     have c9b1 : (t177.toList != ([] : List UInt8)) = true := bne_iff_ne.mpr c9
     exact absurd ((Option.some.inj H).trans HT.out) (by decide)
   ·
    rw [if_neg c7] at H
    exact absurd H (by simp)
 ·
  replace c3 := Bool.eq_false_iff.mpr c3
  subst c3
  have H1 : (some false) = some r := by rw [if_neg (show ¬ (false = true) by decide)] at H; exact H
  clear H
  have H := H1
  clear H1
  exact absurd ((Option.some.inj H).trans HT.out) (by decide)

/-- THE ONE PURE STATEMENT of nunciolaw10_HuffWhole: yours. -/
def nunciolaw10_HuffWhole.Pure : Prop := ∀ (a0 : ByteArray), a0.size ≤ 140737488351232 → ∃ k, nunciolaw10_HuffWhole.f k a0 = some true
theorem nunciolaw10_HuffWhole.walk (P : nunciolaw10_HuffWhole.Pure) (a0 : ByteArray) (w : World) (w0 : a0.size ≤ 140737488351232) :
  Calls Try.prog 6 #[.string a0] w fun e w' => e = .returned (.bool true) ∧ Below w.heap.size w w' := by
 obtain ⟨k, h⟩ := P a0 w0
 refine (nunciolaw10_HuffWhole.calls k a0 true w h rfl).mono ?_
 rintro e w' ⟨rfl, hd⟩
 exact ⟨rfl, hd⟩

/-! ### nunciolaw10_HuffSizes: function 7 -/
def nunciolaw10_HuffSizes.j0 : Nat → ByteArray → ByteArray → Bool → Option (Bool)
 | 0, _, _, _ => none
 | k + 1, x0, x1, x17 => if x17 = true then (some true) else ((huff_Size.f k x0).bind fun t180 => ((huff_Size.f k x1).bind fun t181 => (if x0.size + x1.size ≤ 9223372036854775807 then ((huff_Size.f k (x0 ++ x1)).bind fun t182 => (if t182 ≤ (wrap64 (t180 + t181)) then (if t182 ≥ (wrap64 ((wrap64 (t180 + t181)) - 1)) then (if t182 ≥ t180 then (if t182 ≥ t181 then ((huff_Encode.f k x0).bind fun t183 => (if (t183.size : Int) = t180 then (if t180 ≤ (wrap64 (4 * (x0.size : Int))) then (some (decide ((wrap64 (8 * t180)) ≥ (wrap64 (5 * (x0.size : Int)))))) else (some false)) else (some false))) else (some false)) else (some false)) else (some false)) else (some false))) else (none))))
def nunciolaw10_HuffSizes.f (k : Nat) (a0 : ByteArray) (a1 : ByteArray) : Option (Bool) := (nunciolaw10_awake.f k).bind fun t179 => (if t179 = true then (if (a0.size : Int) > 2000 then (nunciolaw10_HuffSizes.j0 k a0 a1 true) else (nunciolaw10_HuffSizes.j0 k a0 a1 (decide ((a1.size : Int) > 2000)))) else (some false))
theorem nunciolaw10_HuffSizes.mono_l : ∀ k, (∀ y0 y1 y2, LeO (nunciolaw10_HuffSizes.j0 k y0 y1 y2) (nunciolaw10_HuffSizes.j0 (k + 1) y0 y1 y2))
 | 0 => fun _ _ _ r h => by simp [nunciolaw10_HuffSizes.j0] at h
 | k + 1 => by
  have ih0 := nunciolaw10_HuffSizes.mono_l k
  ·
   intro y0 y1 y2
   unfold nunciolaw10_HuffSizes.j0
   repeat' first
   | (with_reducible exact ih0 _ _ _)
   | (with_reducible exact huff_Encode.mono _ _)
   | (with_reducible exact huff_Size.mono _ _)
   | (with_reducible exact nunciolaw10_awake.mono _)
   | (with_reducible exact LeO.refl _)
   | (with_reducible exact LeO.none _)
   | (with_reducible refine LeO.ite ?_ ?_)
   | (with_reducible refine LeO.bind ?_ (fun _ => ?_))
   | exact ih0 _ _ _
   | exact huff_Encode.mono _ _
   | exact huff_Size.mono _ _
   | exact nunciolaw10_awake.mono _
   | exact LeO.none _
   | refine LeO.ite ?_ ?_
   | refine LeO.bind ?_ (fun _ => ?_)
theorem nunciolaw10_HuffSizes.mono : ∀ a0 a1 k, LeO (nunciolaw10_HuffSizes.f k a0 a1) (nunciolaw10_HuffSizes.f (k + 1) a0 a1) := by
 intro a0 a1 k
 have ih0 := nunciolaw10_HuffSizes.mono_l k
 unfold nunciolaw10_HuffSizes.f
 repeat' first
   | (with_reducible exact ih0 _ _ _)
   | (with_reducible exact huff_Encode.mono _ _)
   | (with_reducible exact huff_Size.mono _ _)
   | (with_reducible exact nunciolaw10_awake.mono _)
   | (with_reducible exact LeO.refl _)
   | (with_reducible exact LeO.none _)
   | (with_reducible refine LeO.ite ?_ ?_)
   | (with_reducible refine LeO.bind ?_ (fun _ => ?_))
   | exact ih0 _ _ _
   | exact huff_Encode.mono _ _
   | exact huff_Size.mono _ _
   | exact nunciolaw10_awake.mono _
   | exact LeO.none _
   | refine LeO.ite ?_ ?_
   | refine LeO.bind ?_ (fun _ => ?_)
set_option maxHeartbeats 8000000 in
set_option maxRecDepth 100000 in
theorem nunciolaw10_HuffSizes.calls (k : Nat) (a0 : ByteArray) (a1 : ByteArray) (r : Bool) (w : World) (h : nunciolaw10_HuffSizes.f k a0 a1 = some r) (hT : r = true) :
  Calls Try.prog 7 #[.string a0, .string a1] w fun e w' => e = .returned (.bool r) ∧ Below w.heap.size w w' := by
 have HB := Aside0.mk (Below.refl w.heap.size w)
 have HT := Aside0.mk hT
 clear hT
 have H : ((nunciolaw10_awake.f k).bind fun t179 => (if t179 = true then (if (a0.size : Int) > 2000 then (nunciolaw10_HuffSizes.j0 k a0 a1 true) else (nunciolaw10_HuffSizes.j0 k a0 a1 (decide ((a1.size : Int) > 2000)))) else (some false))) = some r := h
 clear h
 replace H := Option.bind_eq_some_iff.mp H
 obtain ⟨t179, A30, H⟩ := H
 replace H : (if t179 = true then (if (a0.size : Int) > 2000 then (nunciolaw10_HuffSizes.j0 k a0 a1 true) else (nunciolaw10_HuffSizes.j0 k a0 a1 (decide ((a1.size : Int) > 2000)))) else (some false)) = some r := H
 have A3 := Aside0.mk A30
 clear A30
 by_cases c4 : t179 = true
 ·
  subst c4
  have H1 : (if (a0.size : Int) > 2000 then (nunciolaw10_HuffSizes.j0 k a0 a1 true) else (nunciolaw10_HuffSizes.j0 k a0 a1 (decide ((a1.size : Int) > 2000)))) = some r := by rw [if_pos rfl] at H; exact H
  clear H
  have H := H1
  clear H1
  have HC5 := Aside0.mk H
  clear H
  go_enter Try.func7, Try.ntmps7
  go_upto_region 3 with (first | ((with_reducible refine gate_callee (f := 9) rfl ?_); refine goesL_ (some 8) rfl rfl Try.func9 (by kernel_rfl) rfl #[] rfl (by (try simp only [List.map_toArray, List.map_cons, List.map_nil]); first | done | rfl | (simp only [List.length_drop, List.length_take]; rfl)) ?_; (with_reducible refine (nunciolaw10_awake.calls k  true _ A3.out).mono ?_); rintro e w6 ⟨rfl, hb⟩; refine ⟨_, rfl, ?_⟩; have n0_ := Aside0.mk (below_step (by repeat (first | (with_reducible first | exact HB.out | apply below_alloc | apply pw_below_drewN | apply below_drew1) | exact HB.out)) hb); clear HB; have HB := n0_; clear n0_; (try clear hb); (try clear hb2); (try clear hk); (try clear hi)))
  (try simp only [Act.put, List.setIfInBounds_toArray, List.set_cons_zero, List.set_cons_succ])
  go_cut [17] (fun v17 wc => ∃ (kq : Nat) (x17_4 : Bool), v17 = .bool x17_4 ∧ Aside0 (nunciolaw10_HuffSizes.j0 kq a0 a1 x17_4 = some r) ∧ Aside0 (kq ≤ k) ∧ Aside0 (Below w.heap.size w wc))
  case first =>
   have H := HC5.out
   clear HC5
   by_cases c7 : (a0.size : Int) > 2000
   ·
    rw [if_pos c7] at H
    have c7b0 : decide (2000 < (a0.size : Int)) = true := decide_eq_true c7
    have c7b1 : decide (2000 < a0.size) = true := decide_eq_true (by omega)
    clear c7
    (first | rw [c7b0] | rw [c7b1] | (simp only [i64_w, i32_w]; rw [c7b0]) | skip)
    have H' := Aside0.mk H
    clear H
    go_wp2
    go_meet
    case rel => exact ⟨_, (true), (by first | rfl | (simp; done) | (simp [*]; done)), H', ⟨by first | omega | exact Nat.le_refl _⟩, ⟨by repeat (first | (with_reducible first | exact HB.out | apply below_alloc | apply pw_below_drewN | apply below_drew1) | exact HB.out)⟩⟩
   ·
    rw [if_neg c7] at H
    have c7b0 : decide (2000 < (a0.size : Int)) = false := decide_eq_false c7
    have c7b1 : decide (2000 < a0.size) = false := decide_eq_false (by omega)
    clear c7
    (first | rw [c7b0] | rw [c7b1] | (simp only [i64_w, i32_w]; rw [c7b0]) | skip)
    have H' := Aside0.mk H
    clear H
    go_wp2
    go_meet
    case rel => exact ⟨_, (decide ((a1.size : Int) > 2000)), (by first | rfl | (simp; done) | (simp [*]; done)), H', ⟨by first | omega | exact Nat.le_refl _⟩, ⟨by repeat (first | (with_reducible first | exact HB.out | apply below_alloc | apply pw_below_drewN | apply below_drew1) | exact HB.out)⟩⟩
  case rest =>
   clear HC5
   try clear p2
   try clear c4
   try clear c7
   try clear c7b0
   try clear c7b1
   obtain ⟨kq, x17_4, rfl, HA, HJ4, HB⟩ := hcut
   cases kq with
   | zero => exact absurd HA.out (by simp [nunciolaw10_HuffSizes.j0])
   | succ kj4 =>
    have H := HA.out
    clear HA
    simp only [nunciolaw10_HuffSizes.j0] at H
    by_cases c8 : x17_4 = true
    ·
     subst c8
     have H1 : (some true) = some r := by rw [if_pos rfl] at H; exact H
     clear H
     have H := H1
     clear H1
     obtain rfl := Option.some.inj H
     go_wp2
     go_ret
     exact ⟨by first | rfl | (simp [errW_none, errW_some] <;> rfl) | (simp [*, errW_none, errW_some] <;> rfl), by repeat (first | (with_reducible first | exact HB.out | apply below_alloc | apply pw_below_drewN | apply below_drew1) | exact HB.out)⟩
    ·
     replace c8 := Bool.eq_false_iff.mpr c8
     subst c8
     have H1 : ((huff_Size.f kj4 a0).bind fun t180 => ((huff_Size.f kj4 a1).bind fun t181 => (if a0.size + a1.size ≤ 9223372036854775807 then ((huff_Size.f kj4 (a0 ++ a1)).bind fun t182 => (if t182 ≤ (wrap64 (t180 + t181)) then (if t182 ≥ (wrap64 ((wrap64 (t180 + t181)) - 1)) then (if t182 ≥ t180 then (if t182 ≥ t181 then ((huff_Encode.f kj4 a0).bind fun t183 => (if (t183.size : Int) = t180 then (if t180 ≤ (wrap64 (4 * (a0.size : Int))) then (some (decide ((wrap64 (8 * t180)) ≥ (wrap64 (5 * (a0.size : Int)))))) else (some false)) else (some false))) else (some false)) else (some false)) else (some false)) else (some false))) else (none)))) = some r := by rw [if_neg (show ¬ (false = true) by decide)] at H; exact H
     clear H
     have H := H1
     clear H1
     replace H := Option.bind_eq_some_iff.mp H
     obtain ⟨t180, A90, H⟩ := H
     replace H : ((huff_Size.f kj4 a1).bind fun t181 => (if a0.size + a1.size ≤ 9223372036854775807 then ((huff_Size.f kj4 (a0 ++ a1)).bind fun t182 => (if t182 ≤ (wrap64 (t180 + t181)) then (if t182 ≥ (wrap64 ((wrap64 (t180 + t181)) - 1)) then (if t182 ≥ t180 then (if t182 ≥ t181 then ((huff_Encode.f kj4 a0).bind fun t183 => (if (t183.size : Int) = t180 then (if t180 ≤ (wrap64 (4 * (a0.size : Int))) then (some (decide ((wrap64 (8 * t180)) ≥ (wrap64 (5 * (a0.size : Int)))))) else (some false)) else (some false))) else (some false)) else (some false)) else (some false)) else (some false))) else (none))) = some r := H
     have A9 := Aside0.mk A90
     clear A90
     replace H := Option.bind_eq_some_iff.mp H
     obtain ⟨t181, A100, H⟩ := H
     replace H : (if a0.size + a1.size ≤ 9223372036854775807 then ((huff_Size.f kj4 (a0 ++ a1)).bind fun t182 => (if t182 ≤ (wrap64 (t180 + t181)) then (if t182 ≥ (wrap64 ((wrap64 (t180 + t181)) - 1)) then (if t182 ≥ t180 then (if t182 ≥ t181 then ((huff_Encode.f kj4 a0).bind fun t183 => (if (t183.size : Int) = t180 then (if t180 ≤ (wrap64 (4 * (a0.size : Int))) then (some (decide ((wrap64 (8 * t180)) ≥ (wrap64 (5 * (a0.size : Int)))))) else (some false)) else (some false))) else (some false)) else (some false)) else (some false)) else (some false))) else (none)) = some r := H
     have A10 := Aside0.mk A100
     clear A100
     by_cases c11 : a0.size + a1.size ≤ 9223372036854775807
     ·
      rw [if_pos c11] at H
      have c11b0 := eq_true c11
      have c11b1 : decide (a0.size + a1.size ≤ 9223372036854775807) = true := decide_eq_true c11
      try have c11b2 : (9223372036854775807 < a0.size + a1.size) = False := eq_false (Nat.not_lt.2 c11)
      replace H := Option.bind_eq_some_iff.mp H
      obtain ⟨t182, A120, H⟩ := H
      replace H : (if t182 ≤ (wrap64 (t180 + t181)) then (if t182 ≥ (wrap64 ((wrap64 (t180 + t181)) - 1)) then (if t182 ≥ t180 then (if t182 ≥ t181 then ((huff_Encode.f kj4 a0).bind fun t183 => (if (t183.size : Int) = t180 then (if t180 ≤ (wrap64 (4 * (a0.size : Int))) then (some (decide ((wrap64 (8 * t180)) ≥ (wrap64 (5 * (a0.size : Int)))))) else (some false)) else (some false))) else (some false)) else (some false)) else (some false)) else (some false)) = some r := H
      have A12 := Aside0.mk A120
      clear A120
      by_cases c13 : t182 ≤ (wrap64 (t180 + t181))
      ·
       rw [if_pos c13] at H
       have c13b0 : decide (t182 ≤ (wrap64 (t180 + t181))) = true := decide_eq_true c13
       clear c13
       by_cases c14 : t182 ≥ (wrap64 ((wrap64 (t180 + t181)) - 1))
       ·
        rw [if_pos c14] at H
        have c14b0 : decide ((wrap64 ((wrap64 (t180 + t181)) - 1)) ≤ t182) = true := decide_eq_true c14
        clear c14
        by_cases c15 : t182 ≥ t180
        ·
         rw [if_pos c15] at H
         have c15b0 : decide (t180 ≤ t182) = true := decide_eq_true c15
         clear c15
         by_cases c16 : t182 ≥ t181
         ·
          rw [if_pos c16] at H
          have c16b0 : decide (t181 ≤ t182) = true := decide_eq_true c16
          clear c16
          replace H := Option.bind_eq_some_iff.mp H
          obtain ⟨t183, A170, H⟩ := H
          replace H : (if (t183.size : Int) = t180 then (if t180 ≤ (wrap64 (4 * (a0.size : Int))) then (some (decide ((wrap64 (8 * t180)) ≥ (wrap64 (5 * (a0.size : Int)))))) else (some false)) else (some false)) = some r := H
          have A17 := Aside0.mk A170
          clear A170
          by_cases c18 : (t183.size : Int) = t180
          ·
           rw [if_pos c18] at H
           have c18b0 : ((t183.size : Int) == t180) = true := beq_iff_eq.mpr c18
           have c18b1 : ((t183.size : Int) != t180) = false := bne_eq_false_iff_eq.mpr c18
           clear c18
           by_cases c19 : t180 ≤ (wrap64 (4 * (a0.size : Int)))
           ·
            rw [if_pos c19] at H
            have c19b0 : decide (t180 ≤ (wrap64 (4 * (a0.size : Int)))) = true := decide_eq_true c19
            clear c19
            obtain rfl := Option.some.inj H
            have tk24 : True := trivial
            have tk25 : True := trivial
            have tk26 : True := trivial
            go_wp2_with (first | (have _t : True := tk24; clear tk24 _t; (with_reducible refine gate_callee (f := 12) rfl ?_); refine goesL_ (some 19) rfl rfl Try.func12 (by kernel_rfl) rfl #[.string a0] rfl (by (try simp only [List.map_toArray, List.map_cons, List.map_nil]); first | done | rfl | (simp only [List.length_drop, List.length_take]; rfl)) ?_; (with_reducible refine (huff_Size.calls kj4 a0 t180 _ A9.out).mono ?_); rintro e w20 ⟨rfl, hb⟩; refine ⟨_, rfl, ?_⟩; have n0_ := Aside0.mk (below_step (by repeat (first | (with_reducible first | exact HB.out | apply below_alloc | apply pw_below_drewN | apply below_drew1) | exact HB.out)) hb); clear HB; have HB := n0_; clear n0_; (try clear hb); (try clear hb2); (try clear hk); (try clear hi)) | (have _t : True := tk25; clear tk25 _t; (with_reducible refine gate_callee (f := 12) rfl ?_); refine goesL_ (some 21) rfl rfl Try.func12 (by kernel_rfl) rfl #[.string a1] rfl (by (try simp only [List.map_toArray, List.map_cons, List.map_nil]); first | done | rfl | (simp only [List.length_drop, List.length_take]; rfl)) ?_; (with_reducible refine (huff_Size.calls kj4 a1 t181 _ A10.out).mono ?_); rintro e w21 ⟨rfl, hb⟩; refine ⟨_, rfl, ?_⟩; have n0_ := Aside0.mk (below_step (by repeat (first | (with_reducible first | exact HB.out | apply below_alloc | apply pw_below_drewN | apply below_drew1) | exact HB.out)) hb); clear HB; have HB := n0_; clear n0_; (try clear hb); (try clear hb2); (try clear hk); (try clear hi)) | (have _t : True := tk26; clear tk26 _t; (with_reducible refine gate_callee (f := 12) rfl ?_); refine goesL_ (some 25) rfl rfl Try.func12 (by kernel_rfl) rfl #[.string (a0 ++ a1)] rfl (by (try simp only [List.map_toArray, List.map_cons, List.map_nil]); first | done | rfl | (simp only [List.length_drop, List.length_take]; rfl)) ?_; (with_reducible refine (huff_Size.calls kj4 (a0 ++ a1) t182 _ A12.out).mono ?_); rintro e w22 ⟨rfl, hb⟩; refine ⟨_, rfl, ?_⟩; have n0_ := Aside0.mk (below_step (by repeat (first | (with_reducible first | exact HB.out | apply below_alloc | apply pw_below_drewN | apply below_drew1) | exact HB.out)) hb); clear HB; have HB := n0_; clear n0_; (try clear hb); (try clear hb2); (try clear hk); (try clear hi)) | (go_at_call 10; (with_reducible refine (huff_Encode.calls kj4 a0 t183 _ A17.out).mono ?_); rintro e w23 ⟨rfl, hb⟩; have n0_ := Aside0.mk (below_step (by repeat (first | (with_reducible first | exact HB.out | apply below_alloc | apply pw_below_drewN | apply below_drew1) | exact HB.out)) hb); clear HB; have HB := n0_; clear n0_; (try clear hb); (try clear hb2); (try clear hk); (try clear hi)))
            go_ret
            exact ⟨by first | rfl | (simp [errW_none, errW_some] <;> rfl) | (simp [*, errW_none, errW_some] <;> rfl), by repeat (first | (with_reducible first | exact HB.out | apply below_alloc | apply pw_below_drewN | apply below_drew1) | exact HB.out)⟩
           ·
            rw [if_neg c19] at H
            have c19b0 : decide (t180 ≤ (wrap64 (4 * (a0.size : Int)))) = false := decide_eq_false c19
            clear c19
            exact absurd ((Option.some.inj H).trans HT.out) (by decide)
          ·
           rw [if_neg c18] at H
           have c18b0 : ((t183.size : Int) == t180) = false := beq_eq_false_iff_ne.mpr c18
           have c18b1 : ((t183.size : Int) != t180) = true := bne_iff_ne.mpr c18
           exact absurd ((Option.some.inj H).trans HT.out) (by decide)
         ·
          rw [if_neg c16] at H
          have c16b0 : decide (t181 ≤ t182) = false := decide_eq_false c16
          clear c16
          exact absurd ((Option.some.inj H).trans HT.out) (by decide)
        ·
         rw [if_neg c15] at H
         have c15b0 : decide (t180 ≤ t182) = false := decide_eq_false c15
         clear c15
         exact absurd ((Option.some.inj H).trans HT.out) (by decide)
       ·
        rw [if_neg c14] at H
        have c14b0 : decide ((wrap64 ((wrap64 (t180 + t181)) - 1)) ≤ t182) = false := decide_eq_false c14
        clear c14
        exact absurd ((Option.some.inj H).trans HT.out) (by decide)
      ·
       rw [if_neg c13] at H
       have c13b0 : decide (t182 ≤ (wrap64 (t180 + t181))) = false := decide_eq_false c13
       clear c13
       exact absurd ((Option.some.inj H).trans HT.out) (by decide)
     ·
      rw [if_neg c11] at H
      exact absurd H (by simp)
 ·
  replace c4 := Bool.eq_false_iff.mpr c4
  subst c4
  have H1 : (some false) = some r := by rw [if_neg (show ¬ (false = true) by decide)] at H; exact H
  clear H
  have H := H1
  clear H1
  exact absurd ((Option.some.inj H).trans HT.out) (by decide)

/-- THE ONE PURE STATEMENT of nunciolaw10_HuffSizes: yours. -/
def nunciolaw10_HuffSizes.Pure : Prop := ∀ (a0 : ByteArray) (a1 : ByteArray), a0.size ≤ 140737488351232 → a1.size ≤ 140737488351232 → ∃ k, nunciolaw10_HuffSizes.f k a0 a1 = some true
theorem nunciolaw10_HuffSizes.walk (P : nunciolaw10_HuffSizes.Pure) (a0 : ByteArray) (a1 : ByteArray) (w : World) (w0 : a0.size ≤ 140737488351232) (w1 : a1.size ≤ 140737488351232) :
  Calls Try.prog 7 #[.string a0, .string a1] w fun e w' => e = .returned (.bool true) ∧ Below w.heap.size w w' := by
 obtain ⟨k, h⟩ := P a0 a1 w0 w1
 refine (nunciolaw10_HuffSizes.calls k a0 a1 true w h rfl).mono ?_
 rintro e w' ⟨rfl, hd⟩
 exact ⟨rfl, hd⟩

end Go.Proofs.Ytadnfcodaoflfaa.Mine
