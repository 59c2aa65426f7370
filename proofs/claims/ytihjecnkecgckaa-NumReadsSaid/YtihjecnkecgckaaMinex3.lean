-- Written by this repo's own printer (wip/print), which builds on the kit's.
import Derived.Test.YtihjecnkecgckaaMinex0
import Derived.Test.YtihjecnkecgckaaMinex1
import Derived.Test.YtihjecnkecgckaaMinex2
namespace Go.Proofs.Ytihjecnkecgckaa.Mine
open Go.RowKit Go.Proofs.YtihjecnkecgckaaW.PrintWords Go.Proofs.YtihjecnkecgckaaW.PrintLast Go.Proofs.YtihjecnkecgckaaW.PrintMore
attribute [local go_sem] max2_int min2_int max_two min_two max_three min_three max_four min_four   -- for this text's walks alone
set_option linter.unusedVariables false
set_option linter.unusedSimpArgs false

/-! ### nunciolaw01_awake: function 8 -/
def nunciolaw01_awake.f (k : Nat)  : Option (Bool) := (num_Get.f k (⟨#[1, 2]⟩ : ByteArray) 0 2).bind fun bt115 => ((num_Get.f k (⟨#[1, 2]⟩ : ByteArray) 1 2).bind fun bt117 => (if bt115.1 = 258 then (if bt115.2 = true then (if bt117.2 = true then (some false) else ((num_Put.f k ([] : List Int) 258 3).bind fun t119 => (if (strOfNums t119).toList = ([0, 1, 2] : List UInt8) then ((num_Add32.f 4294967295 1).bind fun t122 => (if t122 = 4294967295 then ((num_Add64.f 2 3).bind fun t123 => (if t123 = 5 then ((num_Mul64.f 4 5).bind fun t124 => (some (t124 == 20))) else (some false))) else (some false))) else (some false)))) else (some false)) else (some false)))
theorem nunciolaw01_awake.mono : ∀ k, LeO (nunciolaw01_awake.f k ) (nunciolaw01_awake.f (k + 1) ) := by
 intro  k
 unfold nunciolaw01_awake.f
 repeat' first
   | (with_reducible exact num_Get.mono _ _ _ _)
   | (with_reducible exact num_Put.mono _ _ _ _)
   | (with_reducible exact LeO.refl _)
   | (with_reducible exact LeO.none _)
   | (with_reducible refine LeO.ite ?_ ?_)
   | (with_reducible refine LeO.bind ?_ (fun _ => ?_))
   | exact num_Get.mono _ _ _ _
   | exact num_Put.mono _ _ _ _
   | exact LeO.none _
   | refine LeO.ite ?_ ?_
   | refine LeO.bind ?_ (fun _ => ?_)
set_option maxHeartbeats 8000000 in
set_option maxRecDepth 100000 in
theorem nunciolaw01_awake.calls (k : Nat)  (r : Bool) (w : World) (h : nunciolaw01_awake.f k  = some r) :
  Calls Try.prog 8 #[] w fun e w' => e = .returned (.bool r) ∧ Below w.heap.size w w' := by
 have HB := Aside0.mk (Below.refl w.heap.size w)
 have HT : Aside0 (r = true) := ⟨Option.some.inj ((at_rounds nunciolaw01_awake.mono (Nat.le_max_left k 400) h).symm.trans (at_rounds nunciolaw01_awake.mono (Nat.le_max_right k 400) (by decide +kernel : nunciolaw01_awake.f 400 = some true)))⟩
 have H : ((num_Get.f k (⟨#[1, 2]⟩ : ByteArray) 0 2).bind fun bt115 => ((num_Get.f k (⟨#[1, 2]⟩ : ByteArray) 1 2).bind fun bt117 => (if bt115.1 = 258 then (if bt115.2 = true then (if bt117.2 = true then (some false) else ((num_Put.f k ([] : List Int) 258 3).bind fun t119 => (if (strOfNums t119).toList = ([0, 1, 2] : List UInt8) then ((num_Add32.f 4294967295 1).bind fun t122 => (if t122 = 4294967295 then ((num_Add64.f 2 3).bind fun t123 => (if t123 = 5 then ((num_Mul64.f 4 5).bind fun t124 => (some (t124 == 20))) else (some false))) else (some false))) else (some false)))) else (some false)) else (some false)))) = some r := h
 clear h
 replace H := Option.bind_eq_some_iff.mp H
 obtain ⟨⟨t115, t116⟩, A10, H⟩ := H
 replace H : ((num_Get.f k (⟨#[1, 2]⟩ : ByteArray) 1 2).bind fun bt117 => (if t115 = 258 then (if t116 = true then (if bt117.2 = true then (some false) else ((num_Put.f k ([] : List Int) 258 3).bind fun t119 => (if (strOfNums t119).toList = ([0, 1, 2] : List UInt8) then ((num_Add32.f 4294967295 1).bind fun t122 => (if t122 = 4294967295 then ((num_Add64.f 2 3).bind fun t123 => (if t123 = 5 then ((num_Mul64.f 4 5).bind fun t124 => (some (t124 == 20))) else (some false))) else (some false))) else (some false)))) else (some false)) else (some false))) = some r := H
 have A1 := Aside0.mk A10
 clear A10
 replace H := Option.bind_eq_some_iff.mp H
 obtain ⟨⟨t117, t118⟩, A20, H⟩ := H
 replace H : (if t115 = 258 then (if t116 = true then (if t118 = true then (some false) else ((num_Put.f k ([] : List Int) 258 3).bind fun t119 => (if (strOfNums t119).toList = ([0, 1, 2] : List UInt8) then ((num_Add32.f 4294967295 1).bind fun t122 => (if t122 = 4294967295 then ((num_Add64.f 2 3).bind fun t123 => (if t123 = 5 then ((num_Mul64.f 4 5).bind fun t124 => (some (t124 == 20))) else (some false))) else (some false))) else (some false)))) else (some false)) else (some false)) = some r := H
 have A2 := Aside0.mk A20
 clear A20
 by_cases c3 : t115 = 258
 ·
  rw [if_pos c3] at H
  have c3b0 : (t115 == 258) = true := beq_iff_eq.mpr c3
  have c3b1 : (t115 != 258) = false := bne_eq_false_iff_eq.mpr c3
  clear c3
  by_cases c4 : t116 = true
  ·
   subst c4
   have H1 : (if t118 = true then (some false) else ((num_Put.f k ([] : List Int) 258 3).bind fun t119 => (if (strOfNums t119).toList = ([0, 1, 2] : List UInt8) then ((num_Add32.f 4294967295 1).bind fun t122 => (if t122 = 4294967295 then ((num_Add64.f 2 3).bind fun t123 => (if t123 = 5 then ((num_Mul64.f 4 5).bind fun t124 => (some (t124 == 20))) else (some false))) else (some false))) else (some false)))) = some r := by rw [if_pos rfl] at H; exact H
   clear H
   have H := H1
   clear H1
   by_cases c5 : t118 = true
   ·
    subst c5
    have H1 : (some false) = some r := by rw [if_pos rfl] at H; exact H
    clear H
    have H := H1
    clear H1
    exact absurd ((Option.some.inj H).trans HT.out) (by decide)
   ·
    replace c5 := Bool.eq_false_iff.mpr c5
    subst c5
    have H1 : ((num_Put.f k ([] : List Int) 258 3).bind fun t119 => (if (strOfNums t119).toList = ([0, 1, 2] : List UInt8) then ((num_Add32.f 4294967295 1).bind fun t122 => (if t122 = 4294967295 then ((num_Add64.f 2 3).bind fun t123 => (if t123 = 5 then ((num_Mul64.f 4 5).bind fun t124 => (some (t124 == 20))) else (some false))) else (some false))) else (some false))) = some r := by rw [if_neg (show ¬ (false = true) by decide)] at H; exact H
    clear H
    have H := H1
    clear H1
    replace H := Option.bind_eq_some_iff.mp H
    obtain ⟨t119, A60, H⟩ := H
    replace H : (if (strOfNums t119).toList = ([0, 1, 2] : List UInt8) then ((num_Add32.f 4294967295 1).bind fun t122 => (if t122 = 4294967295 then ((num_Add64.f 2 3).bind fun t123 => (if t123 = 5 then ((num_Mul64.f 4 5).bind fun t124 => (some (t124 == 20))) else (some false))) else (some false))) else (some false)) = some r := H
    have A6 := Aside0.mk A60
    clear A60
    by_cases c7 : (strOfNums t119).toList = ([0, 1, 2] : List UInt8)
    ·
     rw [if_pos c7] at H
     have c7b0 : ((strOfNums t119).toList == ([0, 1, 2] : List UInt8)) = true := beq_iff_eq.mpr c7
     have c7b1 : ((strOfNums t119).toList != ([0, 1, 2] : List UInt8)) = false := bne_eq_false_iff_eq.mpr c7
     clear c7
     replace H := Option.bind_eq_some_iff.mp H
     obtain ⟨t122, A80, H⟩ := H
     replace H : (if t122 = 4294967295 then ((num_Add64.f 2 3).bind fun t123 => (if t123 = 5 then ((num_Mul64.f 4 5).bind fun t124 => (some (t124 == 20))) else (some false))) else (some false)) = some r := H
     have A8 := Aside0.mk A80
     clear A80
     by_cases c9 : t122 = 4294967295
     ·
      rw [if_pos c9] at H
      have c9b0 : (t122 == 4294967295) = true := beq_iff_eq.mpr c9
      have c9b1 : (t122 != 4294967295) = false := bne_eq_false_iff_eq.mpr c9
      clear c9
      replace H := Option.bind_eq_some_iff.mp H
      obtain ⟨t123, A100, H⟩ := H
      replace H : (if t123 = 5 then ((num_Mul64.f 4 5).bind fun t124 => (some (t124 == 20))) else (some false)) = some r := H
      have A10 := Aside0.mk A100
      clear A100
      by_cases c11 : t123 = 5
      ·
       rw [if_pos c11] at H
       have c11b0 : (t123 == 5) = true := beq_iff_eq.mpr c11
       have c11b1 : (t123 != 5) = false := bne_eq_false_iff_eq.mpr c11
       clear c11
       replace H := Option.bind_eq_some_iff.mp H
       obtain ⟨t124, A120, H⟩ := H
       replace H : (some (t124 == 20)) = some r := H
       have A12 := Aside0.mk A120
       clear A120
       obtain rfl := Option.some.inj H
       go_enter Try.func8, Try.ntmps8
       have tk18 : True := trivial
       have tk19 : True := trivial
       go_wp2_with (first | (have _t : True := tk18; clear tk18 _t; (with_reducible refine gate_callee (f := 10) rfl ?_); refine goesL_ (some 6) rfl rfl Try.func10 (by kernel_rfl) rfl #[.string (⟨#[1, 2]⟩ : ByteArray), .int .i64 0, .int .i64 2] rfl (by (try simp only [List.map_toArray, List.map_cons, List.map_nil]); first | done | rfl | (simp only [List.length_drop, List.length_take]; rfl)) ?_; (with_reducible refine (num_Get.calls k (⟨#[1, 2]⟩ : ByteArray) 0 2 t115 true _ A1.out).mono ?_); rintro e w13 ⟨rfl, hb⟩; refine ⟨_, rfl, ?_⟩; have n0_ := Aside0.mk (below_step (by repeat (first | (with_reducible first | exact HB.out | apply below_alloc | apply pw_below_drewN | apply below_drew1) | exact HB.out)) hb); clear HB; have HB := n0_; clear n0_; (try clear hb); (try clear hb2); (try clear hk); (try clear hi)) | (have _t : True := tk19; clear tk19 _t; (with_reducible refine gate_callee (f := 10) rfl ?_); refine goesL_ (some 10) rfl rfl Try.func10 (by kernel_rfl) rfl #[.string (⟨#[1, 2]⟩ : ByteArray), .int .i64 1, .int .i64 2] rfl (by (try simp only [List.map_toArray, List.map_cons, List.map_nil]); first | done | rfl | (simp only [List.length_drop, List.length_take]; rfl)) ?_; (with_reducible refine (num_Get.calls k (⟨#[1, 2]⟩ : ByteArray) 1 2 t117 false _ A2.out).mono ?_); rintro e w14 ⟨rfl, hb⟩; refine ⟨_, rfl, ?_⟩; have n0_ := Aside0.mk (below_step (by repeat (first | (with_reducible first | exact HB.out | apply below_alloc | apply pw_below_drewN | apply below_drew1) | exact HB.out)) hb); clear HB; have HB := n0_; clear n0_; (try clear hb); (try clear hb2); (try clear hk); (try clear hi)) | (go_at_call 9; (refine (num_Put.calls k _ _ ([] : List Int) 258 3 t119 _ ?side1 ?side2 A6.out).mono ?_); (case side1 => exact Kd.C_nil _ _); (case side2 => exact Nat.le_refl _); rintro e w15 ⟨v120, rfl, ho0, hb⟩; have n0_ := Aside0.mk (Kd.R_lower ho0 (below_size (by repeat (first | (with_reducible first | exact HB.out | apply below_alloc | apply pw_below_drewN | apply below_drew1) | exact HB.out)))); have n1_ := Aside0.mk (below_step (by repeat (first | (with_reducible first | exact HB.out | apply below_alloc | apply pw_below_drewN | apply below_drew1) | exact HB.out)) hb); clear HB; have HO121 := n0_; have HB := n1_; clear n0_ n1_; (try clear hb); (try clear hb2); (try clear hk); (try clear hi); (try clear ho0); have hcv16 := own_string (P := Try.prog) Try.underlying22 Try.underlying5 Try.underlying9 (Kd.own_of_R HO121.out)) | (go_at_call 11; (with_reducible refine (num_Add32.calls 4294967295 1 t122 _ A8.out).mono ?_); rintro e w17 ⟨rfl, hb⟩; have n0_ := Aside0.mk (Kd.R_below (by (with_reducible repeat (first | apply Kd.R_alloc | apply Kd.R_drewN | apply Kd.R_drew)); exact HO121.out) hb); have n1_ := Aside0.mk (below_step (by repeat (first | (with_reducible first | exact HB.out | apply below_alloc | apply pw_below_drewN | apply below_drew1) | exact HB.out)) hb); clear HO121; clear HB; have HO121 := n0_; have HB := n1_; clear n0_ n1_; (try clear hb); (try clear hb2); (try clear hk); (try clear hi)) | (go_at_call 13; (with_reducible refine (num_Add64.calls 2 3 t123 _ A10.out).mono ?_); rintro e w' ⟨rfl, ⟨nd, rfl⟩⟩) | (go_at_call 15; (with_reducible refine (num_Mul64.calls 4 5 t124 _ A12.out).mono ?_); rintro e w' ⟨rfl, ⟨nd, rfl⟩⟩))
       go_ret
       exact ⟨by first | rfl | (simp [errW_none, errW_some] <;> rfl) | (simp [*, errW_none, errW_some] <;> rfl), by repeat (first | (with_reducible first | exact HB.out | apply below_alloc | apply pw_below_drewN | apply below_drew1) | exact HB.out)⟩
      ·
       rw [if_neg c11] at H
       have c11b0 : (t123 == 5) = false := beq_eq_false_iff_ne.mpr c11
       have c11b1 : (t123 != 5) = true := bne_iff_ne.mpr c11
       exact absurd ((Option.some.inj H).trans HT.out) (by decide)
     ·
      rw [if_neg c9] at H
      have c9b0 : (t122 == 4294967295) = false := beq_eq_false_iff_ne.mpr c9
      have c9b1 : (t122 != 4294967295) = true := bne_iff_ne.mpr c9
      exact absurd ((Option.some.inj H).trans HT.out) (by decide)
    ·
     rw [if_neg c7] at H
     have c7b0 : ((strOfNums t119).toList == ([0, 1, 2] : List UInt8)) = false := beq_eq_false_iff_ne.mpr c7
     have c7b1 : ((strOfNums t119).toList != ([0, 1, 2] : List UInt8)) = true := bne_iff_ne.mpr c7
     exact absurd ((Option.some.inj H).trans HT.out) (by decide)
  ·
   replace c4 := Bool.eq_false_iff.mpr c4
   subst c4
   have H1 : (some false) = some r := by rw [if_neg (show ¬ (false = true) by decide)] at H; exact H
   clear H
   have H := H1
   clear H1
   exact absurd ((Option.some.inj H).trans HT.out) (by decide)
 ·
  rw [if_neg c3] at H
  have c3b0 : (t115 == 258) = false := beq_eq_false_iff_ne.mpr c3
  have c3b1 : (t115 != 258) = true := bne_iff_ne.mpr c3
  exact absurd ((Option.some.inj H).trans HT.out) (by decide)

end Go.Proofs.Ytihjecnkecgckaa.Mine
