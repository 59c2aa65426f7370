-- Written by this repo's own printer (wip/print), which builds on the kit's.
import Derived.Test.YtadnfcodaoflfaaMinex0
import Derived.Test.YtadnfcodaoflfaaMinex2
import Derived.Test.YtadnfcodaoflfaaMinex4
import Derived.Test.YtadnfcodaoflfaaMinex5
import Derived.Test.YtadnfcodaoflfaaMinex6
namespace Go.Proofs.Ytadnfcodaoflfaa.Mine
open Go.RowKit Go.Proofs.YtadnfcodaoflfaaW.PrintWords Go.Proofs.YtadnfcodaoflfaaW.PrintLast Go.Proofs.YtadnfcodaoflfaaW.PrintMore
attribute [local go_sem] max2_int min2_int max_two min_two max_three min_three max_four min_four   -- for this text's walks alone
set_option linter.unusedVariables false
set_option linter.unusedSimpArgs false

/-! ### nunciolaw10_HuffBack: function 5 -/
mutual
def nunciolaw10_HuffBack.j0 : Nat → ByteArray → ByteArray → Bool → Option (Bool)
 | 0, _, _, _ => none
 | k + 1, x0, x1, x18 => if x18 = true then (some true) else ((huff_Encode.f k x0).bind fun t169 => ((huff_Decode.f k t169).bind fun bt170 => (if bt170.1.toList = x0.toList then (nunciolaw10_HuffBack.j1 k x1 (bt170.2 != 0)) else (nunciolaw10_HuffBack.j1 k x1 true))))
def nunciolaw10_HuffBack.j1 : Nat → ByteArray → Bool → Option (Bool)
 | 0, _, _ => none
 | k + 1, x1, x31 => if x31 = true then (some false) else ((huff_Decode.f k x1).bind fun bt172 => (if bt172.2 = 0 then ((huff_Encode.f k bt172.1).bind fun t174 => (some (t174.toList == x1.toList))) else (if bt172.2 = 91 then (some (bt172.1.toList == ([] : List UInt8))) else (some false))))
end
def nunciolaw10_HuffBack.f (k : Nat) (a0 : ByteArray) (a1 : ByteArray) : Option (Bool) := (nunciolaw10_awake.f k).bind fun t168 => (if t168 = true then (if (a0.size : Int) > 2000 then (nunciolaw10_HuffBack.j0 k a0 a1 true) else (nunciolaw10_HuffBack.j0 k a0 a1 (decide ((a1.size : Int) > 2000)))) else (some false))
theorem nunciolaw10_HuffBack.mono_l : ∀ k, (∀ y0 y1 y2, LeO (nunciolaw10_HuffBack.j0 k y0 y1 y2) (nunciolaw10_HuffBack.j0 (k + 1) y0 y1 y2)) ∧ (∀ y0 y1, LeO (nunciolaw10_HuffBack.j1 k y0 y1) (nunciolaw10_HuffBack.j1 (k + 1) y0 y1))
 | 0 => ⟨fun _ _ _ r h => by simp [nunciolaw10_HuffBack.j0] at h, fun _ _ r h => by simp [nunciolaw10_HuffBack.j1] at h⟩
 | k + 1 => by
  obtain ⟨ih0, ih1⟩ := nunciolaw10_HuffBack.mono_l k
  refine ⟨?_, ?_⟩
  ·
   intro y0 y1 y2
   unfold nunciolaw10_HuffBack.j0
   repeat' first
   | (with_reducible exact ih0 _ _ _)
   | (with_reducible exact ih1 _ _)
   | (with_reducible exact huff_Decode.mono _ _)
   | (with_reducible exact huff_Encode.mono _ _)
   | (with_reducible exact nunciolaw10_awake.mono _)
   | (with_reducible exact LeO.refl _)
   | (with_reducible exact LeO.none _)
   | (with_reducible refine LeO.ite ?_ ?_)
   | (with_reducible refine LeO.bind ?_ (fun _ => ?_))
   | exact ih0 _ _ _
   | exact ih1 _ _
   | exact huff_Decode.mono _ _
   | exact huff_Encode.mono _ _
   | exact nunciolaw10_awake.mono _
   | exact LeO.none _
   | refine LeO.ite ?_ ?_
   | refine LeO.bind ?_ (fun _ => ?_)
  ·
   intro y0 y1
   unfold nunciolaw10_HuffBack.j1
   repeat' first
   | (with_reducible exact ih0 _ _ _)
   | (with_reducible exact ih1 _ _)
   | (with_reducible exact huff_Decode.mono _ _)
   | (with_reducible exact huff_Encode.mono _ _)
   | (with_reducible exact nunciolaw10_awake.mono _)
   | (with_reducible exact LeO.refl _)
   | (with_reducible exact LeO.none _)
   | (with_reducible refine LeO.ite ?_ ?_)
   | (with_reducible refine LeO.bind ?_ (fun _ => ?_))
   | exact ih0 _ _ _
   | exact ih1 _ _
   | exact huff_Decode.mono _ _
   | exact huff_Encode.mono _ _
   | exact nunciolaw10_awake.mono _
   | exact LeO.none _
   | refine LeO.ite ?_ ?_
   | refine LeO.bind ?_ (fun _ => ?_)
theorem nunciolaw10_HuffBack.mono : ∀ a0 a1 k, LeO (nunciolaw10_HuffBack.f k a0 a1) (nunciolaw10_HuffBack.f (k + 1) a0 a1) := by
 intro a0 a1 k
 obtain ⟨ih0, ih1⟩ := nunciolaw10_HuffBack.mono_l k
 unfold nunciolaw10_HuffBack.f
 repeat' first
   | (with_reducible exact ih0 _ _ _)
   | (with_reducible exact ih1 _ _)
   | (with_reducible exact huff_Decode.mono _ _)
   | (with_reducible exact huff_Encode.mono _ _)
   | (with_reducible exact nunciolaw10_awake.mono _)
   | (with_reducible exact LeO.refl _)
   | (with_reducible exact LeO.none _)
   | (with_reducible refine LeO.ite ?_ ?_)
   | (with_reducible refine LeO.bind ?_ (fun _ => ?_))
   | exact ih0 _ _ _
   | exact ih1 _ _
   | exact huff_Decode.mono _ _
   | exact huff_Encode.mono _ _
   | exact nunciolaw10_awake.mono _
   | exact LeO.none _
   | refine LeO.ite ?_ ?_
   | refine LeO.bind ?_ (fun _ => ?_)
set_option maxHeartbeats 8000000 in
set_option maxRecDepth 100000 in
theorem nunciolaw10_HuffBack.calls (k : Nat) (a0 : ByteArray) (a1 : ByteArray) (r : Bool) (w : World) (h : nunciolaw10_HuffBack.f k a0 a1 = some r) (hT : r = true) :
  Calls Try.prog 5 #[.string a0, .string a1] w fun e w' => e = .returned (.bool r) ∧ Below w.heap.size w w' := by
 have HB := Aside0.mk (Below.refl w.heap.size w)
 have HT := Aside0.mk hT
 clear hT
 have H : ((nunciolaw10_awake.f k).bind fun t168 => (if t168 = true then (if (a0.size : Int) > 2000 then (nunciolaw10_HuffBack.j0 k a0 a1 true) else (nunciolaw10_HuffBack.j0 k a0 a1 (decide ((a1.size : Int) > 2000)))) else (some false))) = some r := h
 clear h
 replace H := Option.bind_eq_some_iff.mp H
 obtain ⟨t168, A30, H⟩ := H
 replace H : (if t168 = true then (if (a0.size : Int) > 2000 then (nunciolaw10_HuffBack.j0 k a0 a1 true) else (nunciolaw10_HuffBack.j0 k a0 a1 (decide ((a1.size : Int) > 2000)))) else (some false)) = some r := H
 have A3 := Aside0.mk A30
 clear A30
 by_cases c4 : t168 = true
 ·
  subst c4
  have H1 : (if (a0.size : Int) > 2000 then (nunciolaw10_HuffBack.j0 k a0 a1 true) else (nunciolaw10_HuffBack.j0 k a0 a1 (decide ((a1.size : Int) > 2000)))) = some r := by rw [if_pos rfl] at H; exact H
  clear H
  have H := H1
  clear H1
  have HC5 := Aside0.mk H
  clear H
  go_enter Try.func5, Try.ntmps5
  go_upto_region 3 with (first | ((with_reducible refine gate_callee (f := 9) rfl ?_); refine goesL_ (some 9) rfl rfl Try.func9 (by kernel_rfl) rfl #[] rfl (by (try simp only [List.map_toArray, List.map_cons, List.map_nil]); first | done | rfl | (simp only [List.length_drop, List.length_take]; rfl)) ?_; (with_reducible refine (nunciolaw10_awake.calls k  true _ A3.out).mono ?_); rintro e w6 ⟨rfl, hb⟩; refine ⟨_, rfl, ?_⟩; have n0_ := Aside0.mk (below_step (by repeat (first | (with_reducible first | exact HB.out | apply below_alloc | apply pw_below_drewN | apply below_drew1) | exact HB.out)) hb); clear HB; have HB := n0_; clear n0_; (try clear hb); (try clear hb2); (try clear hk); (try clear hi)))
  (try simp only [Act.put, List.setIfInBounds_toArray, List.set_cons_zero, List.set_cons_succ])
  go_cut [18] (fun v18 wc => ∃ (kq : Nat) (x18_4 : Bool), v18 = .bool x18_4 ∧ Aside0 (nunciolaw10_HuffBack.j0 kq a0 a1 x18_4 = some r) ∧ Aside0 (kq ≤ k) ∧ Aside0 (Below w.heap.size w wc))
  case first =>
   have H := HC5.out
   clear HC5
   by_cases c7 : (a0.size : Int) > 2000
   ·
    rw [if_pos c7] at H
    have c7b0 : decide (2000 < (a0.size : Int)) = true := decide_eq_true c7
    have c7b1 : decide (2000 < a0.size) = true := decide_eq_true (by omega)
    clear c7
    (first | rw [c7b0] | rw [c7b1] | (simp only [i64_w, i32_w]; rw [c7b0]) | skip)
    have H' := Aside0.mk H
    clear H
    go_wp2
    go_meet
    case rel => exact ⟨_, (true), (by first | rfl | (simp; done) | (simp [*]; done)), H', ⟨by first | omega | exact Nat.le_refl _⟩, ⟨by repeat (first | (with_reducible first | exact HB.out | apply below_alloc | apply pw_below_drewN | apply below_drew1) | exact HB.out)⟩⟩
   ·
    rw [if_neg c7] at H
    have c7b0 : decide (2000 < (a0.size : Int)) = false := decide_eq_false c7
    have c7b1 : decide (2000 < a0.size) = false := decide_eq_false (by omega)
    clear c7
    (first | rw [c7b0] | rw [c7b1] | (simp only [i64_w, i32_w]; rw [c7b0]) | skip)
    have H' := Aside0.mk H
    clear H
    go_wp2
    go_meet
    case rel => exact ⟨_, (decide ((a1.size : Int) > 2000)), (by first | rfl | (simp; done) | (simp [*]; done)), H', ⟨by first | omega | exact Nat.le_refl _⟩, ⟨by repeat (first | (with_reducible first | exact HB.out | apply below_alloc | apply pw_below_drewN | apply below_drew1) | exact HB.out)⟩⟩
  case rest =>
   clear HC5
   try clear p2
   try clear c4
   try clear c5
   try clear c7
   try clear c7b0
   try clear c7b1
   obtain ⟨kq, x18_4, rfl, HA, HJ4, HB⟩ := hcut
   cases kq with
   | zero => exact absurd HA.out (by simp [nunciolaw10_HuffBack.j0])
   | succ kj4 =>
    have H := HA.out
    clear HA
    simp only [nunciolaw10_HuffBack.j0] at H
    by_cases c8 : x18_4 = true
    ·
     subst c8
     have H1 : (some true) = some r := by rw [if_pos rfl] at H; exact H
     clear H
     have H := H1
     clear H1
     obtain rfl := Option.some.inj H
     go_wp2
     go_ret
     exact ⟨by first | rfl | (simp [errW_none, errW_some] <;> rfl) | (simp [*, errW_none, errW_some] <;> rfl), by repeat (first | (with_reducible first | exact HB.out | apply below_alloc | apply pw_below_drewN | apply below_drew1) | exact HB.out)⟩
    ·
     replace c8 := Bool.eq_false_iff.mpr c8
     subst c8
     have H1 : ((huff_Encode.f kj4 a0).bind fun t169 => ((huff_Decode.f kj4 t169).bind fun bt170 => (if bt170.1.toList = a0.toList then (nunciolaw10_HuffBack.j1 kj4 a1 (bt170.2 != 0)) else (nunciolaw10_HuffBack.j1 kj4 a1 true)))) = some r := by rw [if_neg (show ¬ (false = true) by decide)] at H; exact H
     clear H
     have H := H1
     clear H1
     replace H := Option.bind_eq_some_iff.mp H
     obtain ⟨t169, A90, H⟩ := H
     replace H : ((huff_Decode.f kj4 t169).bind fun bt170 => (if bt170.1.toList = a0.toList then (nunciolaw10_HuffBack.j1 kj4 a1 (bt170.2 != 0)) else (nunciolaw10_HuffBack.j1 kj4 a1 true))) = some r := H
     have A9 := Aside0.mk A90
     clear A90
     replace H := Option.bind_eq_some_iff.mp H
     obtain ⟨⟨t170, t171⟩, A100, H⟩ := H
     replace H : (if t170.toList = a0.toList then (nunciolaw10_HuffBack.j1 kj4 a1 (t171 != 0)) else (nunciolaw10_HuffBack.j1 kj4 a1 true)) = some r := H
     have A10 := Aside0.mk A100
     clear A100
     have HC11 := Aside0.mk H
     clear H
     go_upto_region 6 with (first | ((with_reducible refine gate_callee (f := 10) rfl ?_); refine goesL_ (some 21) rfl rfl Try.func10 (by kernel_rfl) rfl #[.string a0] rfl (by (try simp only [List.map_toArray, List.map_cons, List.map_nil]); first | done | rfl | (simp only [List.length_drop, List.length_take]; rfl)) ?_; (with_reducible refine (huff_Encode.calls kj4 a0 t169 _ A9.out).mono ?_); rintro e w12 ⟨rfl, hb⟩; refine ⟨_, rfl, ?_⟩; have n0_ := Aside0.mk (below_step (by repeat (first | (with_reducible first | exact HB.out | apply below_alloc | apply pw_below_drewN | apply below_drew1) | exact HB.out)) hb); clear HB; have HB := n0_; clear n0_; (try clear hb); (try clear hb2); (try clear hk); (try clear hi)) | ((with_reducible refine gate_callee (f := 13) rfl ?_); refine goesL_ (some 22) rfl rfl Try.func13 (by kernel_rfl) rfl #[.string t169] rfl (by (try simp only [List.map_toArray, List.map_cons, List.map_nil]); first | done | rfl | (simp only [List.length_drop, List.length_take]; rfl)) ?_; (with_reducible refine (huff_Decode.calls kj4 t169 t170 t171 _ A10.out).mono ?_); rintro e w13 ⟨rfl, hb⟩; refine ⟨_, rfl, ?_⟩; have n0_ := Aside0.mk (below_step (by repeat (first | (with_reducible first | exact HB.out | apply below_alloc | apply pw_below_drewN | apply below_drew1) | exact HB.out)) hb); clear HB; have HB := n0_; clear n0_; (try clear hb); (try clear hb2); (try clear hk); (try clear hi)))
     (try simp only [Act.put, List.setIfInBounds_toArray, List.set_cons_zero, List.set_cons_succ])
     go_cut [31] (fun v31 wc => ∃ (kq : Nat) (x31_10 : Bool), v31 = .bool x31_10 ∧ Aside0 (nunciolaw10_HuffBack.j1 kq a1 x31_10 = some r) ∧ Aside0 (kq ≤ kj4) ∧ Aside0 (Below w.heap.size w wc))
     case first =>
      have H := HC11.out
      clear HC11
      by_cases c14 : t170.toList = a0.toList
      ·
       rw [if_pos c14] at H
       have c14b0 : (t170.toList == a0.toList) = true := beq_iff_eq.mpr c14
       have c14b1 : (t170.toList != a0.toList) = false := bne_eq_false_iff_eq.mpr c14
       clear c14
       (first | rw [c14b0] | rw [c14b1] | (simp only [i64_w, i32_w]; rw [c14b0]) | skip)
       have H' := Aside0.mk H
       clear H
       go_wp2
       go_meet
       case rel => exact ⟨_, ((t171 != 0)), (by first | rfl | (simp; done) | (simp [*]; done)), H', ⟨by have := HJ4.out; first | omega | exact Nat.le_refl _⟩, ⟨by repeat (first | (with_reducible first | exact HB.out | apply below_alloc | apply pw_below_drewN | apply below_drew1) | exact HB.out)⟩⟩
      ·
       rw [if_neg c14] at H
       have c14b0 : (t170.toList == a0.toList) = false := beq_eq_false_iff_ne.mpr c14
       have c14b1 : (t170.toList != a0.toList) = true := bne_iff_ne.mpr c14
       (first | rw [c14b0] | rw [c14b1] | (simp only [i64_w, i32_w]; rw [c14b0]) | skip)
       have H' := Aside0.mk H
       clear H
       go_wp2
       go_meet
       case rel => exact ⟨_, (true), (by first | rfl | (simp; done) | (simp [*]; done)), H', ⟨by have := HJ4.out; first | omega | exact Nat.le_refl _⟩, ⟨by repeat (first | (with_reducible first | exact HB.out | apply below_alloc | apply pw_below_drewN | apply below_drew1) | exact HB.out)⟩⟩
     case rest =>
      clear HC11
      try clear c1
      try clear p2
      try clear c4
      try clear c5
      try clear c7
      try clear c7b0
      try clear c7b1
      try clear c8
      try clear c9
      try clear c10
      try clear c13
      try clear c14
      try clear c14b0
      try clear c14b1
      try clear p2
      obtain ⟨kq, x31_10, rfl, HA, HJ10, HB⟩ := hcut
      cases kq with
      | zero => exact absurd HA.out (by simp [nunciolaw10_HuffBack.j1])
      | succ kj10 =>
       have H := HA.out
       clear HA
       simp only [nunciolaw10_HuffBack.j1] at H
       by_cases c15 : x31_10 = true
       ·
        subst c15
        have H1 : (some false) = some r := by rw [if_pos rfl] at H; exact H
        clear H
        have H := H1
        clear H1
        exact absurd ((Option.some.inj H).trans HT.out) (by decide)
       ·
        replace c15 := Bool.eq_false_iff.mpr c15
        subst c15
        have H1 : ((huff_Decode.f kj10 a1).bind fun bt172 => (if bt172.2 = 0 then ((huff_Encode.f kj10 bt172.1).bind fun t174 => (some (t174.toList == a1.toList))) else (if bt172.2 = 91 then (some (bt172.1.toList == ([] : List UInt8))) else (some false)))) = some r := by rw [if_neg (show ¬ (false = true) by decide)] at H; exact H
        clear H
        have H := H1
        clear H1
        replace H := Option.bind_eq_some_iff.mp H
        obtain ⟨⟨t172, t173⟩, A160, H⟩ := H
        replace H : (if t173 = 0 then ((huff_Encode.f kj10 t172).bind fun t174 => (some (t174.toList == a1.toList))) else (if t173 = 91 then (some (t172.toList == ([] : List UInt8))) else (some false))) = some r := H
        have A16 := Aside0.mk A160
        clear A160
        by_cases c17 : t173 = 0
        ·
         rw [if_pos c17] at H
         have c17b0 : (t173 == 0) = true := beq_iff_eq.mpr c17
         have c17b1 : (t173 != 0) = false := bne_eq_false_iff_eq.mpr c17
         clear c17
         replace H := Option.bind_eq_some_iff.mp H
         obtain ⟨t174, A180, H⟩ := H
         replace H : (some (t174.toList == a1.toList)) = some r := H
         have A18 := Aside0.mk A180
         clear A180
         obtain rfl := Option.some.inj H
         go_wp2_with (first | ((with_reducible refine gate_callee (f := 13) rfl ?_); refine goesL_ (some 34) rfl rfl Try.func13 (by kernel_rfl) rfl #[.string a1] rfl (by (try simp only [List.map_toArray, List.map_cons, List.map_nil]); first | done | rfl | (simp only [List.length_drop, List.length_take]; rfl)) ?_; (with_reducible refine (huff_Decode.calls kj10 a1 t172 t173 _ A16.out).mono ?_); rintro e w19 ⟨rfl, hb⟩; refine ⟨_, rfl, ?_⟩; have n0_ := Aside0.mk (below_step (by repeat (first | (with_reducible first | exact HB.out | apply below_alloc | apply pw_below_drewN | apply below_drew1) | exact HB.out)) hb); clear HB; have HB := n0_; clear n0_; (try clear hb); (try clear hb2); (try clear hk); (try clear hi)) | ((with_reducible refine gate_callee (f := 10) rfl ?_); refine goesL_ (some 46) rfl rfl Try.func10 (by kernel_rfl) rfl #[.string t172] rfl (by (try simp only [List.map_toArray, List.map_cons, List.map_nil]); first | done | rfl | (simp only [List.length_drop, List.length_take]; rfl)) ?_; (with_reducible refine (huff_Encode.calls kj10 t172 t174 _ A18.out).mono ?_); rintro e w20 ⟨rfl, hb⟩; refine ⟨_, rfl, ?_⟩; have n0_ := Aside0.mk (below_step (by repeat (first | (with_reducible first | exact HB.out | apply below_alloc | apply pw_below_drewN | apply below_drew1) | exact HB.out)) hb); clear HB; have HB := n0_; clear n0_; (try clear hb); (try clear hb2); (try clear hk); (try clear hi)))
         go_ret
         exact ⟨by first | rfl | (simp [errW_none, errW_some] <;> rfl) | (simp [*, errW_none, errW_some] <;> rfl), by repeat (first | (with_reducible first | exact HB.out | apply below_alloc | apply pw_below_drewN | apply below_drew1) | exact HB.out)⟩
        ·
         rw [if_neg c17] at H
         have c17b0 : (t173 == 0) = false := beq_eq_false_iff_ne.mpr c17
         have c17b1 : (t173 != 0) = true := bne_iff_ne.mpr c17
         by_cases c21 : t173 = 91
         ·
          rw [if_pos c21] at H
          have c21b0 : (t173 == 91) = true := beq_iff_eq.mpr c21
          have c21b1 : (t173 != 91) = false := bne_eq_false_iff_eq.mpr c21
          clear c21
          obtain rfl := Option.some.inj H
          go_wp2_with (first | ((with_reducible refine gate_callee (f := 13) rfl ?_); refine goesL_ (some 34) rfl rfl Try.func13 (by kernel_rfl) rfl #[.string a1] rfl (by (try simp only [List.map_toArray, List.map_cons, List.map_nil]); first | done | rfl | (simp only [List.length_drop, List.length_take]; rfl)) ?_; (with_reducible refine (huff_Decode.calls kj10 a1 t172 t173 _ A16.out).mono ?_); rintro e w22 ⟨rfl, hb⟩; refine ⟨_, rfl, ?_⟩; have n0_ := Aside0.mk (below_step (by repeat (first | (with_reducible first | exact HB.out | apply below_alloc | apply pw_below_drewN | apply below_drew1) | exact HB.out)) hb); clear HB; have HB := n0_; clear n0_; (try clear hb); (try clear hb2); (try clear hk); (try clear hi)))
          go_ret
          exact ⟨by first | rfl | (simp [errW_none, errW_some] <;> rfl) | (simp [*, errW_none, errW_some] <;> rfl), by repeat (first | (with_reducible first | exact HB.out | apply below_alloc | apply pw_below_drewN | apply below_drew1) | exact HB.out)⟩
         ·
          rw [if_neg c21] at H
          have c21b0 : (t173 == 91) = false := beq_eq_false_iff_ne.mpr c21
          have c21b1 : (t173 != 91) = true := bne_iff_ne.mpr c21
          exact absurd ((Option.some.inj H).trans HT.out) (by decide)
 ·
  replace c4 := Bool.eq_false_iff.mpr c4
  subst c4
  have H1 : (some false) = some r := by rw [if_neg (show ¬ (false = true) by decide)] at H; exact H
  clear H
  have H := H1
  clear H1
  exact absurd ((Option.some.inj H).trans HT.out) (by decide)

/-- THE ONE PURE STATEMENT of nunciolaw10_HuffBack: yours. -/
def nunciolaw10_HuffBack.Pure : Prop := ∀ (a0 : ByteArray) (a1 : ByteArray), a0.size ≤ 140737488351232 → a1.size ≤ 140737488351232 → ∃ k, nunciolaw10_HuffBack.f k a0 a1 = some true
theorem nunciolaw10_HuffBack.walk (P : nunciolaw10_HuffBack.Pure) (a0 : ByteArray) (a1 : ByteArray) (w : World) (w0 : a0.size ≤ 140737488351232) (w1 : a1.size ≤ 140737488351232) :
  Calls Try.prog 5 #[.string a0, .string a1] w fun e w' => e = .returned (.bool true) ∧ Below w.heap.size w w' := by
 obtain ⟨k, h⟩ := P a0 a1 w0 w1
 refine (nunciolaw10_HuffBack.calls k a0 a1 true w h rfl).mono ?_
 rintro e w' ⟨rfl, hd⟩
 exact ⟨rfl, hd⟩

end Go.Proofs.Ytadnfcodaoflfaa.Mine
