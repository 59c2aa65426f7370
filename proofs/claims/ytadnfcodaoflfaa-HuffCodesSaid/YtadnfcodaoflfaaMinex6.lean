-- Written by this repo's own printer (wip/print), which builds on the kit's.
import Derived.Test.YtadnfcodaoflfaaMinex0
import Derived.Test.YtadnfcodaoflfaaMinex1
import Derived.Test.YtadnfcodaoflfaaMinex2
import Derived.Test.YtadnfcodaoflfaaMinex4
import Derived.Test.YtadnfcodaoflfaaMinex5
namespace Go.Proofs.Ytadnfcodaoflfaa.Mine
open Go.RowKit Go.Proofs.YtadnfcodaoflfaaW.PrintWords Go.Proofs.YtadnfcodaoflfaaW.PrintLast Go.Proofs.YtadnfcodaoflfaaW.PrintMore
attribute [local go_sem] max2_int min2_int max_two min_two max_three min_three max_four min_four   -- for this text's walks alone
set_option linter.unusedVariables false
set_option linter.unusedSimpArgs false

/-! ### nunciolaw10_awake: function 9 -/
def nunciolaw10_awake.f (k : Nat)  : Option (Bool) := (huff_Decode.f k (⟨#[100, 2]⟩ : ByteArray)).bind fun bt126 => ((huff_Encode.f k (⟨#[119, 119, 119, 46, 101, 120, 97, 109, 112, 108, 101, 46, 99, 111, 109]⟩ : ByteArray)).bind fun t128 => (if t128.toList = ([241, 227, 194, 229, 242, 58, 107, 160, 171, 144, 244, 255] : List UInt8) then ((huff_Encode.f k (⟨#[110, 111, 45, 99, 97, 99, 104, 101]⟩ : ByteArray)).bind fun t129 => (if t129.toList = ([168, 235, 16, 100, 156, 191] : List UInt8) then (if bt126.1.toList = ([51, 48, 50] : List UInt8) then (if bt126.2 = 0 then ((huff_Size.f k (⟨#[51, 48, 50]⟩ : ByteArray)).bind fun t130 => (some (t130 == 2))) else (some false)) else (some false)) else (some false))) else (some false)))
theorem nunciolaw10_awake.mono : ∀ k, LeO (nunciolaw10_awake.f k ) (nunciolaw10_awake.f (k + 1) ) := by
 intro  k
 unfold nunciolaw10_awake.f
 repeat' first
   | (with_reducible exact huff_Decode.mono _ _)
   | (with_reducible exact huff_Encode.mono _ _)
   | (with_reducible exact huff_Size.mono _ _)
   | (with_reducible exact LeO.refl _)
   | (with_reducible exact LeO.none _)
   | (with_reducible refine LeO.ite ?_ ?_)
   | (with_reducible refine LeO.bind ?_ (fun _ => ?_))
   | exact huff_Decode.mono _ _
   | exact huff_Encode.mono _ _
   | exact huff_Size.mono _ _
   | exact LeO.none _
   | refine LeO.ite ?_ ?_
   | refine LeO.bind ?_ (fun _ => ?_)
set_option maxHeartbeats 8000000 in
set_option maxRecDepth 100000 in
theorem nunciolaw10_awake.calls (k : Nat)  (r : Bool) (w : World) (h : nunciolaw10_awake.f k  = some r) :
  Calls Try.prog 9 #[] w fun e w' => e = .returned (.bool r) ∧ Below w.heap.size w w' := by
 have HB := Aside0.mk (Below.refl w.heap.size w)
 have HT : Aside0 (r = true) := ⟨Option.some.inj ((at_rounds nunciolaw10_awake.mono (Nat.le_max_left k 400) h).symm.trans (at_rounds nunciolaw10_awake.mono (Nat.le_max_right k 400) (by decide +kernel : nunciolaw10_awake.f 400 = some true)))⟩
 have H : ((huff_Decode.f k (⟨#[100, 2]⟩ : ByteArray)).bind fun bt126 => ((huff_Encode.f k (⟨#[119, 119, 119, 46, 101, 120, 97, 109, 112, 108, 101, 46, 99, 111, 109]⟩ : ByteArray)).bind fun t128 => (if t128.toList = ([241, 227, 194, 229, 242, 58, 107, 160, 171, 144, 244, 255] : List UInt8) then ((huff_Encode.f k (⟨#[110, 111, 45, 99, 97, 99, 104, 101]⟩ : ByteArray)).bind fun t129 => (if t129.toList = ([168, 235, 16, 100, 156, 191] : List UInt8) then (if bt126.1.toList = ([51, 48, 50] : List UInt8) then (if bt126.2 = 0 then ((huff_Size.f k (⟨#[51, 48, 50]⟩ : ByteArray)).bind fun t130 => (some (t130 == 2))) else (some false)) else (some false)) else (some false))) else (some false)))) = some r := h
 clear h
 replace H := Option.bind_eq_some_iff.mp H
 obtain ⟨⟨t126, t127⟩, A10, H⟩ := H
 replace H : ((huff_Encode.f k (⟨#[119, 119, 119, 46, 101, 120, 97, 109, 112, 108, 101, 46, 99, 111, 109]⟩ : ByteArray)).bind fun t128 => (if t128.toList = ([241, 227, 194, 229, 242, 58, 107, 160, 171, 144, 244, 255] : List UInt8) then ((huff_Encode.f k (⟨#[110, 111, 45, 99, 97, 99, 104, 101]⟩ : ByteArray)).bind fun t129 => (if t129.toList = ([168, 235, 16, 100, 156, 191] : List UInt8) then (if t126.toList = ([51, 48, 50] : List UInt8) then (if t127 = 0 then ((huff_Size.f k (⟨#[51, 48, 50]⟩ : ByteArray)).bind fun t130 => (some (t130 == 2))) else (some false)) else (some false)) else (some false))) else (some false))) = some r := H
 have A1 := Aside0.mk A10
 clear A10
 replace H := Option.bind_eq_some_iff.mp H
 obtain ⟨t128, A20, H⟩ := H
 replace H : (if t128.toList = ([241, 227, 194, 229, 242, 58, 107, 160, 171, 144, 244, 255] : List UInt8) then ((huff_Encode.f k (⟨#[110, 111, 45, 99, 97, 99, 104, 101]⟩ : ByteArray)).bind fun t129 => (if t129.toList = ([168, 235, 16, 100, 156, 191] : List UInt8) then (if t126.toList = ([51, 48, 50] : List UInt8) then (if t127 = 0 then ((huff_Size.f k (⟨#[51, 48, 50]⟩ : ByteArray)).bind fun t130 => (some (t130 == 2))) else (some false)) else (some false)) else (some false))) else (some false)) = some r := H
 have A2 := Aside0.mk A20
 clear A20
 by_cases c3 : t128.toList = ([241, 227, 194, 229, 242, 58, 107, 160, 171, 144, 244, 255] : List UInt8)
 ·
  rw [if_pos c3] at H
  have c3b0 : (t128.toList == ([241, 227, 194, 229, 242, 58, 107, 160, 171, 144, 244, 255] : List UInt8)) = true := beq_iff_eq.mpr c3
  have c3b1 : (t128.toList != ([241, 227, 194, 229, 242, 58, 107, 160, 171, 144, 244, 255] : List UInt8)) = false := bne_eq_false_iff_eq.mpr c3
  clear c3
  replace H := Option.bind_eq_some_iff.mp H
  obtain ⟨t129, A40, H⟩ := H
  replace H : (if t129.toList = ([168, 235, 16, 100, 156, 191] : List UInt8) then (if t126.toList = ([51, 48, 50] : List UInt8) then (if t127 = 0 then ((huff_Size.f k (⟨#[51, 48, 50]⟩ : ByteArray)).bind fun t130 => (some (t130 == 2))) else (some false)) else (some false)) else (some false)) = some r := H
  have A4 := Aside0.mk A40
  clear A40
  by_cases c5 : t129.toList = ([168, 235, 16, 100, 156, 191] : List UInt8)
  ·
   rw [if_pos c5] at H
   have c5b0 : (t129.toList == ([168, 235, 16, 100, 156, 191] : List UInt8)) = true := beq_iff_eq.mpr c5
   have c5b1 : (t129.toList != ([168, 235, 16, 100, 156, 191] : List UInt8)) = false := bne_eq_false_iff_eq.mpr c5
   clear c5
   by_cases c6 : t126.toList = ([51, 48, 50] : List UInt8)
   ·
    rw [if_pos c6] at H
    have c6b0 : (t126.toList == ([51, 48, 50] : List UInt8)) = true := beq_iff_eq.mpr c6
    have c6b1 : (t126.toList != ([51, 48, 50] : List UInt8)) = false := bne_eq_false_iff_eq.mpr c6
    clear c6
    by_cases c7 : t127 = 0
    ·
     rw [if_pos c7] at H
     have c7b0 : (t127 == 0) = true := beq_iff_eq.mpr c7
     have c7b1 : (t127 != 0) = false := bne_eq_false_iff_eq.mpr c7
     clear c7
     replace H := Option.bind_eq_some_iff.mp H
     obtain ⟨t130, A80, H⟩ := H
     replace H : (some (t130 == 2)) = some r := H
     have A8 := Aside0.mk A80
     clear A80
     obtain rfl := Option.some.inj H
     go_enter Try.func9, Try.ntmps9
     have tk13 : True := trivial
     have tk14 : True := trivial
     go_wp2_with (first | ((with_reducible refine gate_callee (f := 13) rfl ?_); refine goesL_ (some 4) rfl rfl Try.func13 (by kernel_rfl) rfl #[.string (⟨#[100, 2]⟩ : ByteArray)] rfl (by (try simp only [List.map_toArray, List.map_cons, List.map_nil]); first | done | rfl | (simp only [List.length_drop, List.length_take]; rfl)) ?_; (with_reducible refine (huff_Decode.calls k (⟨#[100, 2]⟩ : ByteArray) t126 t127 _ A1.out).mono ?_); rintro e w9 ⟨rfl, hb⟩; refine ⟨_, rfl, ?_⟩; have n0_ := Aside0.mk (below_step (by repeat (first | (with_reducible first | exact HB.out | apply below_alloc | apply pw_below_drewN | apply below_drew1) | exact HB.out)) hb); clear HB; have HB := n0_; clear n0_; (try clear hb); (try clear hb2); (try clear hk); (try clear hi)) | (have _t : True := tk13; clear tk13 _t; (with_reducible refine gate_callee (f := 10) rfl ?_); refine goesL_ (some 7) rfl rfl Try.func10 (by kernel_rfl) rfl #[.string (⟨#[119, 119, 119, 46, 101, 120, 97, 109, 112, 108, 101, 46, 99, 111, 109]⟩ : ByteArray)] rfl (by (try simp only [List.map_toArray, List.map_cons, List.map_nil]); first | done | rfl | (simp only [List.length_drop, List.length_take]; rfl)) ?_; (with_reducible refine (huff_Encode.calls k (⟨#[119, 119, 119, 46, 101, 120, 97, 109, 112, 108, 101, 46, 99, 111, 109]⟩ : ByteArray) t128 _ A2.out).mono ?_); rintro e w10 ⟨rfl, hb⟩; refine ⟨_, rfl, ?_⟩; have n0_ := Aside0.mk (below_step (by repeat (first | (with_reducible first | exact HB.out | apply below_alloc | apply pw_below_drewN | apply below_drew1) | exact HB.out)) hb); clear HB; have HB := n0_; clear n0_; (try clear hb); (try clear hb2); (try clear hk); (try clear hi)) | (have _t : True := tk14; clear tk14 _t; go_at_call 10; (with_reducible refine (huff_Encode.calls k (⟨#[110, 111, 45, 99, 97, 99, 104, 101]⟩ : ByteArray) t129 _ A4.out).mono ?_); rintro e w11 ⟨rfl, hb⟩; have n0_ := Aside0.mk (below_step (by repeat (first | (with_reducible first | exact HB.out | apply below_alloc | apply pw_below_drewN | apply below_drew1) | exact HB.out)) hb); clear HB; have HB := n0_; clear n0_; (try clear hb); (try clear hb2); (try clear hk); (try clear hi)) | (go_at_call 12; (with_reducible refine (huff_Size.calls k (⟨#[51, 48, 50]⟩ : ByteArray) t130 _ A8.out).mono ?_); rintro e w12 ⟨rfl, hb⟩; have n0_ := Aside0.mk (below_step (by repeat (first | (with_reducible first | exact HB.out | apply below_alloc | apply pw_below_drewN | apply below_drew1) | exact HB.out)) hb); clear HB; have HB := n0_; clear n0_; (try clear hb); (try clear hb2); (try clear hk); (try clear hi)))
     go_ret
     exact ⟨by first | rfl | (simp [errW_none, errW_some] <;> rfl) | (simp [*, errW_none, errW_some] <;> rfl), by repeat (first | (with_reducible first | exact HB.out | apply below_alloc | apply pw_below_drewN | apply below_drew1) | exact HB.out)⟩
    ·
     rw [if_neg c7] at H
     have c7b0 : (t127 == 0) = false := beq_eq_false_iff_ne.mpr c7
     have c7b1 : (t127 != 0) = true := bne_iff_ne.mpr c7
     exact absurd ((Option.some.inj H).trans HT.out) (by decide)
   ·
    rw [if_neg c6] at H
    have c6b0 : (t126.toList == ([51, 48, 50] : List UInt8)) = false := beq_eq_false_iff_ne.mpr c6
    have c6b1 : (t126.toList != ([51, 48, 50] : List UInt8)) = true := bne_iff_ne.mpr c6
    exact absurd ((Option.some.inj H).trans HT.out) (by decide)
  ·
   rw [if_neg c5] at H
   have c5b0 : (t129.toList == ([168, 235, 16, 100, 156, 191] : List UInt8)) = false := beq_eq_false_iff_ne.mpr c5
   have c5b1 : (t129.toList != ([168, 235, 16, 100, 156, 191] : List UInt8)) = true := bne_iff_ne.mpr c5
   exact absurd ((Option.some.inj H).trans HT.out) (by decide)
 ·
  rw [if_neg c3] at H
  have c3b0 : (t128.toList == ([241, 227, 194, 229, 242, 58, 107, 160, 171, 144, 244, 255] : List UInt8)) = false := beq_eq_false_iff_ne.mpr c3
  have c3b1 : (t128.toList != ([241, 227, 194, 229, 242, 58, 107, 160, 171, 144, 244, 255] : List UInt8)) = true := bne_iff_ne.mpr c3
  exact absurd ((Option.some.inj H).trans HT.out) (by decide)

/-! ### nuncioref10_Length: function 17 -/
def nuncioref10_Length.f (a0 : Int) : Option (Int) := if 0 ≤ a0 then (if a0 < 257 then (some (wrap64 ((wrap64 (bt (⟨#[105, 115, 120, 120, 120, 120, 120, 120, 120, 116, 122, 120, 120, 122, 120, 120, 120, 120, 120, 120, 120, 120, 122, 120, 120, 120, 120, 120, 120, 120, 120, 120, 98, 102, 102, 104, 105, 98, 100, 103, 102, 102, 100, 103, 100, 98, 98, 98, 97, 97, 97, 98, 98, 98, 98, 98, 98, 98, 99, 100, 107, 98, 104, 102, 105, 98, 99, 99, 99, 99, 99, 99, 99, 99, 99, 99, 99, 99, 99, 99, 99, 99, 99, 99, 99, 99, 99, 99, 100, 99, 100, 105, 111, 105, 106, 98, 107, 97, 98, 97, 98, 97, 98, 98, 98, 97, 99, 99, 98, 98, 98, 97, 98, 99, 98, 97, 97, 98, 99, 99, 99, 99, 99, 107, 103, 106, 105, 120, 112, 114, 112, 112, 114, 114, 114, 115, 114, 115, 115, 115, 115, 115, 116, 115, 116, 116, 114, 115, 116, 115, 115, 115, 115, 113, 114, 115, 114, 115, 115, 116, 114, 113, 112, 114, 114, 115, 115, 113, 115, 114, 114, 116, 113, 114, 115, 115, 113, 113, 114, 113, 115, 114, 115, 115, 112, 114, 114, 114, 115, 114, 114, 115, 118, 118, 112, 111, 114, 115, 114, 117, 118, 118, 118, 119, 119, 118, 116, 117, 111, 113, 118, 119, 119, 118, 119, 116, 113, 113, 118, 118, 120, 119, 119, 119, 112, 116, 112, 113, 114, 113, 113, 115, 114, 114, 117, 117, 116, 116, 118, 115, 118, 119, 118, 118, 119, 119, 119, 119, 119, 120, 119, 119, 119, 119, 119, 118, 122]⟩ : ByteArray) a0)) - 92))) else (none)) else (none)
set_option maxHeartbeats 8000000 in
set_option maxRecDepth 100000 in
theorem nuncioref10_Length.calls (a0 : Int) (r : Int) (w : World) (h : nuncioref10_Length.f a0 = some r) :
  Calls Try.prog 17 #[.int .i64 a0] w fun e w' => e = .returned (.int .i64 r) ∧ Drawn0 w w' := by
 have H : (if 0 ≤ a0 then (if a0 < 257 then (some (wrap64 ((wrap64 (bt (⟨#[105, 115, 120, 120, 120, 120, 120, 120, 120, 116, 122, 120, 120, 122, 120, 120, 120, 120, 120, 120, 120, 120, 122, 120, 120, 120, 120, 120, 120, 120, 120, 120, 98, 102, 102, 104, 105, 98, 100, 103, 102, 102, 100, 103, 100, 98, 98, 98, 97, 97, 97, 98, 98, 98, 98, 98, 98, 98, 99, 100, 107, 98, 104, 102, 105, 98, 99, 99, 99, 99, 99, 99, 99, 99, 99, 99, 99, 99, 99, 99, 99, 99, 99, 99, 99, 99, 99, 99, 100, 99, 100, 105, 111, 105, 106, 98, 107, 97, 98, 97, 98, 97, 98, 98, 98, 97, 99, 99, 98, 98, 98, 97, 98, 99, 98, 97, 97, 98, 99, 99, 99, 99, 99, 107, 103, 106, 105, 120, 112, 114, 112, 112, 114, 114, 114, 115, 114, 115, 115, 115, 115, 115, 116, 115, 116, 116, 114, 115, 116, 115, 115, 115, 115, 113, 114, 115, 114, 115, 115, 116, 114, 113, 112, 114, 114, 115, 115, 113, 115, 114, 114, 116, 113, 114, 115, 115, 113, 113, 114, 113, 115, 114, 115, 115, 112, 114, 114, 114, 115, 114, 114, 115, 118, 118, 112, 111, 114, 115, 114, 117, 118, 118, 118, 119, 119, 118, 116, 117, 111, 113, 118, 119, 119, 118, 119, 116, 113, 113, 118, 118, 120, 119, 119, 119, 112, 116, 112, 113, 114, 113, 113, 115, 114, 114, 117, 117, 116, 116, 118, 115, 118, 119, 118, 118, 119, 119, 119, 119, 119, 120, 119, 119, 119, 119, 119, 118, 122]⟩ : ByteArray) a0)) - 92))) else (none)) else (none)) = some r := h
 clear h
 by_cases c2 : 0 ≤ a0
 ·
  rw [if_pos c2] at H
  have c2b0 : decide (0 ≤ a0) = true := decide_eq_true c2
  clear c2
  by_cases c3 : a0 < 257
  ·
   rw [if_pos c3] at H
   have c3b0 : decide (a0 < 257) = true := decide_eq_true c3
   clear c3
   obtain rfl := Option.some.inj H
   have p4 : 0 ≤ (a0 : Int) := of_decide_eq_true (by first | (with_reducible assumption) | assumption)
   have q4 : a0 < (257 : Int) := of_decide_eq_true (by first | (with_reducible assumption) | assumption)
   have hx4 := bt_at (⟨#[105, 115, 120, 120, 120, 120, 120, 120, 120, 116, 122, 120, 120, 122, 120, 120, 120, 120, 120, 120, 120, 120, 122, 120, 120, 120, 120, 120, 120, 120, 120, 120, 98, 102, 102, 104, 105, 98, 100, 103, 102, 102, 100, 103, 100, 98, 98, 98, 97, 97, 97, 98, 98, 98, 98, 98, 98, 98, 99, 100, 107, 98, 104, 102, 105, 98, 99, 99, 99, 99, 99, 99, 99, 99, 99, 99, 99, 99, 99, 99, 99, 99, 99, 99, 99, 99, 99, 99, 100, 99, 100, 105, 111, 105, 106, 98, 107, 97, 98, 97, 98, 97, 98, 98, 98, 97, 99, 99, 98, 98, 98, 97, 98, 99, 98, 97, 97, 98, 99, 99, 99, 99, 99, 107, 103, 106, 105, 120, 112, 114, 112, 112, 114, 114, 114, 115, 114, 115, 115, 115, 115, 115, 116, 115, 116, 116, 114, 115, 116, 115, 115, 115, 115, 113, 114, 115, 114, 115, 115, 116, 114, 113, 112, 114, 114, 115, 115, 113, 115, 114, 114, 116, 113, 114, 115, 115, 113, 113, 114, 113, 115, 114, 115, 115, 112, 114, 114, 114, 115, 114, 114, 115, 118, 118, 112, 111, 114, 115, 114, 117, 118, 118, 118, 119, 119, 118, 116, 117, 111, 113, 118, 119, 119, 118, 119, 116, 113, 113, 118, 118, 120, 119, 119, 119, 112, 116, 112, 113, 114, 113, 113, 115, 114, 114, 117, 117, 116, 116, 118, 115, 118, 119, 118, 118, 119, 119, 119, 119, 119, 120, 119, 119, 119, 119, 119, 118, 122]⟩ : ByteArray) a0
   replace p4 := eq_true p4
   replace q4 := eq_true q4
   go_enter Try.func17, Try.ntmps17
   go_wp2
   go_ret
   exact ⟨by first | rfl | (simp; done) | (simp [*]; done), by repeat (first | exact Drawn0.refl _ | apply Drawn0.step)⟩
  ·
   rw [if_neg c3] at H
   exact absurd H (by simp)
 ·
  rw [if_neg c2] at H
  exact absurd H (by simp)

end Go.Proofs.Ytadnfcodaoflfaa.Mine
