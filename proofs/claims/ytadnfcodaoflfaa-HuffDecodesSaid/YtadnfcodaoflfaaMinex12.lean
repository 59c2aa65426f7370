-- Written by this repo's own printer (wip/print), which builds on the kit's.
import Derived.Test.YtadnfcodaoflfaaMinex0
import Derived.Test.YtadnfcodaoflfaaMinex2
import Derived.Test.YtadnfcodaoflfaaMinex5
import Derived.Test.YtadnfcodaoflfaaMinex6
import Derived.Test.YtadnfcodaoflfaaMinex11
namespace Go.Proofs.Ytadnfcodaoflfaa.Mine
open Go.RowKit Go.Proofs.YtadnfcodaoflfaaW.PrintWords Go.Proofs.YtadnfcodaoflfaaW.PrintLast Go.Proofs.YtadnfcodaoflfaaW.PrintMore
attribute [local go_sem] max2_int min2_int max_two min_two max_three min_three max_four min_four   -- for this text's walks alone
set_option linter.unusedVariables false
set_option linter.unusedSimpArgs false

/-! ### nunciolaw10_HuffDecodes: function 4 -/
def nunciolaw10_HuffDecodes.f (k : Nat) (a0 : ByteArray) : Option (Bool) := (nunciolaw10_awake.f k).bind fun t163 => (if t163 = true then (if (a0.size : Int) > 500 then (some true) else ((huff_Decode.f k a0).bind fun bt164 => ((nuncioref10_Decode.f k a0).bind fun bt166 => (if bt164.1.toList = bt166.1.toList then (some (bt164.2 == bt166.2)) else (some false))))) else (some false))
theorem nunciolaw10_HuffDecodes.mono : ∀ a0 k, LeO (nunciolaw10_HuffDecodes.f k a0) (nunciolaw10_HuffDecodes.f (k + 1) a0) := by
 intro a0 k
 unfold nunciolaw10_HuffDecodes.f
 repeat' first
   | (with_reducible exact huff_Decode.mono _ _)
   | (with_reducible exact nunciolaw10_awake.mono _)
   | (with_reducible exact nuncioref10_Decode.mono _ _)
   | (with_reducible exact LeO.refl _)
   | (with_reducible exact LeO.none _)
   | (with_reducible refine LeO.ite ?_ ?_)
   | (with_reducible refine LeO.bind ?_ (fun _ => ?_))
   | exact huff_Decode.mono _ _
   | exact nunciolaw10_awake.mono _
   | exact nuncioref10_Decode.mono _ _
   | exact LeO.none _
   | refine LeO.ite ?_ ?_
   | refine LeO.bind ?_ (fun _ => ?_)
set_option maxHeartbeats 8000000 in
set_option maxRecDepth 100000 in
theorem nunciolaw10_HuffDecodes.calls (k : Nat) (a0 : ByteArray) (r : Bool) (w : World) (h : nunciolaw10_HuffDecodes.f k a0 = some r) (hT : r = true) :
  Calls Try.prog 4 #[.string a0] w fun e w' => e = .returned (.bool r) ∧ Below w.heap.size w w' := by
 have HB := Aside0.mk (Below.refl w.heap.size w)
 have HT := Aside0.mk hT
 clear hT
 have H : ((nunciolaw10_awake.f k).bind fun t163 => (if t163 = true then (if (a0.size : Int) > 500 then (some true) else ((huff_Decode.f k a0).bind fun bt164 => ((nuncioref10_Decode.f k a0).bind fun bt166 => (if bt164.1.toList = bt166.1.toList then (some (bt164.2 == bt166.2)) else (some false))))) else (some false))) = some r := h
 clear h
 replace H := Option.bind_eq_some_iff.mp H
 obtain ⟨t163, A20, H⟩ := H
 replace H : (if t163 = true then (if (a0.size : Int) > 500 then (some true) else ((huff_Decode.f k a0).bind fun bt164 => ((nuncioref10_Decode.f k a0).bind fun bt166 => (if bt164.1.toList = bt166.1.toList then (some (bt164.2 == bt166.2)) else (some false))))) else (some false)) = some r := H
 have A2 := Aside0.mk A20
 clear A20
 by_cases c3 : t163 = true
 ·
  subst c3
  have H1 : (if (a0.size : Int) > 500 then (some true) else ((huff_Decode.f k a0).bind fun bt164 => ((nuncioref10_Decode.f k a0).bind fun bt166 => (if bt164.1.toList = bt166.1.toList then (some (bt164.2 == bt166.2)) else (some false))))) = some r := by rw [if_pos rfl] at H; exact H
  clear H
  have H := H1
  clear H1
  by_cases c4 : (a0.size : Int) > 500
  ·
   rw [if_pos c4] at H
   have c4b0 : decide (500 < (a0.size : Int)) = true := decide_eq_true c4
   have c4b1 : decide (500 < a0.size) = true := decide_eq_true (by omega)
   clear c4
   obtain rfl := Option.some.inj H
   go_enter Try.func4, Try.ntmps4
   go_wp2_with (first | ((with_reducible refine gate_callee (f := 9) rfl ?_); refine goesL_ (some 7) rfl rfl Try.func9 (by kernel_rfl) rfl #[] rfl (by (try simp only [List.map_toArray, List.map_cons, List.map_nil]); first | done | rfl | (simp only [List.length_drop, List.length_take]; rfl)) ?_; (with_reducible refine (nunciolaw10_awake.calls k  true _ A2.out).mono ?_); rintro e w5 ⟨rfl, hb⟩; refine ⟨_, rfl, ?_⟩; have n0_ := Aside0.mk (below_step (by repeat (first | (with_reducible first | exact HB.out | apply below_alloc | apply pw_below_drewN | apply below_drew1) | exact HB.out)) hb); clear HB; have HB := n0_; clear n0_; (try clear hb); (try clear hb2); (try clear hk); (try clear hi)))
   go_ret
   exact ⟨by first | rfl | (simp [errW_none, errW_some] <;> rfl) | (simp [*, errW_none, errW_some] <;> rfl), by repeat (first | (with_reducible first | exact HB.out | apply below_alloc | apply pw_below_drewN | apply below_drew1) | exact HB.out)⟩
  ·
   rw [if_neg c4] at H
   have c4b0 : decide (500 < (a0.size : Int)) = false := decide_eq_false c4
   have c4b1 : decide (500 < a0.size) = false := decide_eq_false (by omega)
   clear c4
   replace H := Option.bind_eq_some_iff.mp H
   obtain ⟨⟨t164, t165⟩, A60, H⟩ := H
   replace H : ((nuncioref10_Decode.f k a0).bind fun bt166 => (if t164.toList = bt166.1.toList then (some (t165 == bt166.2)) else (some false))) = some r := H
   have A6 := Aside0.mk A60
   clear A60
   replace H := Option.bind_eq_some_iff.mp H
   obtain ⟨⟨t166, t167⟩, A70, H⟩ := H
   replace H : (if t164.toList = t166.toList then (some (t165 == t167)) else (some false)) = some r := H
   have A7 := Aside0.mk A70
   clear A70
   by_cases c8 : t164.toList = t166.toList
   ·
    rw [if_pos c8] at H
    have c8b0 : (t164.toList == t166.toList) = true := beq_iff_eq.mpr c8
    have c8b1 : (t164.toList != t166.toList) = false := bne_eq_false_iff_eq.mpr c8
    clear c8
    obtain rfl := Option.some.inj H
    go_enter Try.func4, Try.ntmps4
    go_wp2_with (first | ((with_reducible refine gate_callee (f := 9) rfl ?_); refine goesL_ (some 7) rfl rfl Try.func9 (by kernel_rfl) rfl #[] rfl (by (try simp only [List.map_toArray, List.map_cons, List.map_nil]); first | done | rfl | (simp only [List.length_drop, List.length_take]; rfl)) ?_; (with_reducible refine (nunciolaw10_awake.calls k  true _ A2.out).mono ?_); rintro e w9 ⟨rfl, hb⟩; refine ⟨_, rfl, ?_⟩; have n0_ := Aside0.mk (below_step (by repeat (first | (with_reducible first | exact HB.out | apply below_alloc | apply pw_below_drewN | apply below_drew1) | exact HB.out)) hb); clear HB; have HB := n0_; clear n0_; (try clear hb); (try clear hb2); (try clear hk); (try clear hi)) | ((with_reducible refine gate_callee (f := 13) rfl ?_); refine goesL_ (some 14) rfl rfl Try.func13 (by kernel_rfl) rfl #[.string a0] rfl (by (try simp only [List.map_toArray, List.map_cons, List.map_nil]); first | done | rfl | (simp only [List.length_drop, List.length_take]; rfl)) ?_; (with_reducible refine (huff_Decode.calls k a0 t164 t165 _ A6.out).mono ?_); rintro e w10 ⟨rfl, hb⟩; refine ⟨_, rfl, ?_⟩; have n0_ := Aside0.mk (below_step (by repeat (first | (with_reducible first | exact HB.out | apply below_alloc | apply pw_below_drewN | apply below_drew1) | exact HB.out)) hb); clear HB; have HB := n0_; clear n0_; (try clear hb); (try clear hb2); (try clear hk); (try clear hi)) | ((with_reducible refine gate_callee (f := 14) rfl ?_); refine goesL_ (some 19) rfl rfl Try.func14 (by kernel_rfl) rfl #[.string a0] rfl (by (try simp only [List.map_toArray, List.map_cons, List.map_nil]); first | done | rfl | (simp only [List.length_drop, List.length_take]; rfl)) ?_; (with_reducible refine (nuncioref10_Decode.calls k a0 t166 t167 _ A7.out).mono ?_); rintro e w11 ⟨rfl, hb⟩; refine ⟨_, rfl, ?_⟩; have n0_ := Aside0.mk (below_step (by repeat (first | (with_reducible first | exact HB.out | apply below_alloc | apply pw_below_drewN | apply below_drew1) | exact HB.out)) hb); clear HB; have HB := n0_; clear n0_; (try clear hb); (try clear hb2); (try clear hk); (try clear hi)))
    go_ret
    exact ⟨by first | rfl | (simp [errW_none, errW_some] <;> rfl) | (simp [*, errW_none, errW_some] <;> rfl), by repeat (first | (with_reducible first | exact HB.out | apply below_alloc | apply pw_below_drewN | apply below_drew1) | exact HB.out)⟩
   ·
    rw [if_neg c8] at H
    have c8b0 : (t164.toList == t166.toList) = false := beq_eq_false_iff_ne.mpr c8
    have c8b1 : (t164.toList != t166.toList) = true := bne_iff_ne.mpr c8
    exact absurd ((Option.some.inj H).trans HT.out) (by decide)
 ·
  replace c3 := Bool.eq_false_iff.mpr c3
  subst c3
  have H1 : (some false) = some r := by rw [if_neg (show ¬ (false = true) by decide)] at H; exact H
  clear H
  have H := H1
  clear H1
  exact absurd ((Option.some.inj H).trans HT.out) (by decide)

/-- THE ONE PURE STATEMENT of nunciolaw10_HuffDecodes: yours. -/
def nunciolaw10_HuffDecodes.Pure : Prop := ∀ (a0 : ByteArray), a0.size ≤ 140737488351232 → ∃ k, nunciolaw10_HuffDecodes.f k a0 = some true
theorem nunciolaw10_HuffDecodes.walk (P : nunciolaw10_HuffDecodes.Pure) (a0 : ByteArray) (w : World) (w0 : a0.size ≤ 140737488351232) :
  Calls Try.prog 4 #[.string a0] w fun e w' => e = .returned (.bool true) ∧ Below w.heap.size w w' := by
 obtain ⟨k, h⟩ := P a0 w0
 refine (nunciolaw10_HuffDecodes.calls k a0 true w h rfl).mono ?_
 rintro e w' ⟨rfl, hd⟩
 exact ⟨rfl, hd⟩

end Go.Proofs.Ytadnfcodaoflfaa.Mine
