-- Written by this repo's own printer (wip/print), which builds on the kit's.
import Derived.Test.YtpnflloamidecaaMinex0
import Derived.Test.YtpnflloamidecaaMinex1
import Derived.Test.YtpnflloamidecaaMinex2
import Derived.Test.YtpnflloamidecaaMinex3
import Derived.Test.YtpnflloamidecaaMinex4
import Derived.Test.YtpnflloamidecaaMinex7
import Derived.Test.YtpnflloamidecaaMinex8
namespace Go.Proofs.Ytpnflloamidecaa.Mine
open Go.RowKit Go.Proofs.YtpnflloamidecaaW.PrintWords Go.Proofs.YtpnflloamidecaaW.PrintLast Go.Proofs.YtpnflloamidecaaW.PrintMore
attribute [local go_sem] max2_int min2_int max_two min_two max_three min_three max_four min_four   -- for this text's walks alone
set_option linter.unusedVariables false
set_option linter.unusedSimpArgs false

/-! ### nunciolaw04_awake: function 8 -/
def nunciolaw04_awake.f (k : Nat)  : Option (Bool) := (name_Make.f k (([(⟨#[119, 119, 119]⟩ : ByteArray), (⟨#[69, 120]⟩ : ByteArray)] : List ByteArray))).bind fun bt180 => ((name_Read.f k (⟨#[97, 92, 46, 98, 46]⟩ : ByteArray)).bind fun bt182 => (if bt180.1.toList = ([3, 119, 119, 119, 2, 69, 120, 0] : List UInt8) then (if bt180.2 = 0 then ((name_Is.f k bt180.1).bind fun t184 => (if t184 = true then ((name_Labels.f k bt180.1).bind fun t185 => (if (t185.length : Int) = 2 then ((name_Fold.f k bt180.1).bind fun t188 => (if t188.toList = ([3, 119, 119, 119, 2, 101, 120, 0] : List UInt8) then ((name_Text.f k bt180.1).bind fun t189 => (if t189.toList = ([119, 119, 119, 46, 69, 120, 46] : List UInt8) then (if bt182.1.toList = ([3, 97, 46, 98, 0] : List UInt8) then (if bt182.2 = 0 then ((name_Fold.f k bt180.1).bind fun t190 => ((name_Same.f k bt180.1 t190).bind fun t191 => (if t191 = true then ((name_Under.f k bt180.1 (⟨#[2, 101, 88, 0]⟩ : ByteArray)).bind fun t192 => (some t192)) else (some false)))) else (some false)) else (some false)) else (some false))) else (some false))) else (some false))) else (some false))) else (some false)) else (some false)))
theorem nunciolaw04_awake.mono : ∀ k, LeO (nunciolaw04_awake.f k ) (nunciolaw04_awake.f (k + 1) ) := by
 intro  k
 unfold nunciolaw04_awake.f
 repeat' first
   | (with_reducible exact name_Fold.mono _ _)
   | (with_reducible exact name_Is.mono _ _)
   | (with_reducible exact name_Labels.mono _ _)
   | (with_reducible exact name_Make.mono _ _)
   | (with_reducible exact name_Read.mono _ _)
   | (with_reducible exact name_Same.mono _ _ _)
   | (with_reducible exact name_Text.mono _ _)
   | (with_reducible exact name_Under.mono _ _ _)
   | (with_reducible exact LeO.refl _)
   | (with_reducible exact LeO.none _)
   | (with_reducible refine LeO.ite ?_ ?_)
   | (with_reducible refine LeO.bind ?_ (fun _ => ?_))
   | exact name_Fold.mono _ _
   | exact name_Is.mono _ _
   | exact name_Labels.mono _ _
   | exact name_Make.mono _ _
   | exact name_Read.mono _ _
   | exact name_Same.mono _ _ _
   | exact name_Text.mono _ _
   | exact name_Under.mono _ _ _
   | exact LeO.none _
   | refine LeO.ite ?_ ?_
   | refine LeO.bind ?_ (fun _ => ?_)
set_option maxHeartbeats 8000000 in
set_option maxRecDepth 100000 in
theorem nunciolaw04_awake.calls (k : Nat)  (r : Bool) (w : World) (h : nunciolaw04_awake.f k  = some r) :
  Calls Try.prog 8 #[] w fun e w' => e = .returned (.bool r) ∧ Below w.heap.size w w' := by
 have HB := Aside0.mk (Below.refl w.heap.size w)
 have HT : Aside0 (r = true) := ⟨Option.some.inj ((at_rounds nunciolaw04_awake.mono (Nat.le_max_left k 400) h).symm.trans (at_rounds nunciolaw04_awake.mono (Nat.le_max_right k 400) (by decide +kernel : nunciolaw04_awake.f 400 = some true)))⟩
 have H : ((name_Make.f k (([(⟨#[119, 119, 119]⟩ : ByteArray), (⟨#[69, 120]⟩ : ByteArray)] : List ByteArray))).bind fun bt180 => ((name_Read.f k (⟨#[97, 92, 46, 98, 46]⟩ : ByteArray)).bind fun bt182 => (if bt180.1.toList = ([3, 119, 119, 119, 2, 69, 120, 0] : List UInt8) then (if bt180.2 = 0 then ((name_Is.f k bt180.1).bind fun t184 => (if t184 = true then ((name_Labels.f k bt180.1).bind fun t185 => (if (t185.length : Int) = 2 then ((name_Fold.f k bt180.1).bind fun t188 => (if t188.toList = ([3, 119, 119, 119, 2, 101, 120, 0] : List UInt8) then ((name_Text.f k bt180.1).bind fun t189 => (if t189.toList = ([119, 119, 119, 46, 69, 120, 46] : List UInt8) then (if bt182.1.toList = ([3, 97, 46, 98, 0] : List UInt8) then (if bt182.2 = 0 then ((name_Fold.f k bt180.1).bind fun t190 => ((name_Same.f k bt180.1 t190).bind fun t191 => (if t191 = true then ((name_Under.f k bt180.1 (⟨#[2, 101, 88, 0]⟩ : ByteArray)).bind fun t192 => (some t192)) else (some false)))) else (some false)) else (some false)) else (some false))) else (some false))) else (some false))) else (some false))) else (some false)) else (some false)))) = some r := h
 clear h
 obtain ⟨y177, hy177⟩ : ∃ y_ : List ByteArray, y_ = (([(⟨#[119, 119, 119]⟩ : ByteArray), (⟨#[69, 120]⟩ : ByteArray)] : List ByteArray)) := ⟨_, rfl⟩
 replace H : ((name_Make.f k y177).bind fun bt180 => ((name_Read.f k (⟨#[97, 92, 46, 98, 46]⟩ : ByteArray)).bind fun bt182 => (if bt180.1.toList = ([3, 119, 119, 119, 2, 69, 120, 0] : List UInt8) then (if bt180.2 = 0 then ((name_Is.f k bt180.1).bind fun t184 => (if t184 = true then ((name_Labels.f k bt180.1).bind fun t185 => (if (t185.length : Int) = 2 then ((name_Fold.f k bt180.1).bind fun t188 => (if t188.toList = ([3, 119, 119, 119, 2, 101, 120, 0] : List UInt8) then ((name_Text.f k bt180.1).bind fun t189 => (if t189.toList = ([119, 119, 119, 46, 69, 120, 46] : List UInt8) then (if bt182.1.toList = ([3, 97, 46, 98, 0] : List UInt8) then (if bt182.2 = 0 then ((name_Fold.f k bt180.1).bind fun t190 => ((name_Same.f k bt180.1 t190).bind fun t191 => (if t191 = true then ((name_Under.f k bt180.1 (⟨#[2, 101, 88, 0]⟩ : ByteArray)).bind fun t192 => (some t192)) else (some false)))) else (some false)) else (some false)) else (some false))) else (some false))) else (some false))) else (some false))) else (some false)) else (some false)))) = some r := by first | (rw [hy177]; with_reducible exact H) | (have H2_ := (Option.bind_some _ _).symm.trans H; rw [hy177]; with_reducible exact H2_) | (have H2_ := (Option.bind_some _ _).symm.trans H; with_reducible exact H2_) | with_reducible exact H | (rw [hy177]; exact H) | exact H
 have Ny177 := Aside0.mk hy177
 clear hy177
 replace H := Option.bind_eq_some_iff.mp H
 obtain ⟨⟨t180, t181⟩, A10, H⟩ := H
 replace H : ((name_Read.f k (⟨#[97, 92, 46, 98, 46]⟩ : ByteArray)).bind fun bt182 => (if t180.toList = ([3, 119, 119, 119, 2, 69, 120, 0] : List UInt8) then (if t181 = 0 then ((name_Is.f k t180).bind fun t184 => (if t184 = true then ((name_Labels.f k t180).bind fun t185 => (if (t185.length : Int) = 2 then ((name_Fold.f k t180).bind fun t188 => (if t188.toList = ([3, 119, 119, 119, 2, 101, 120, 0] : List UInt8) then ((name_Text.f k t180).bind fun t189 => (if t189.toList = ([119, 119, 119, 46, 69, 120, 46] : List UInt8) then (if bt182.1.toList = ([3, 97, 46, 98, 0] : List UInt8) then (if bt182.2 = 0 then ((name_Fold.f k t180).bind fun t190 => ((name_Same.f k t180 t190).bind fun t191 => (if t191 = true then ((name_Under.f k t180 (⟨#[2, 101, 88, 0]⟩ : ByteArray)).bind fun t192 => (some t192)) else (some false)))) else (some false)) else (some false)) else (some false))) else (some false))) else (some false))) else (some false))) else (some false)) else (some false))) = some r := H
 have A1 := Aside0.mk A10
 clear A10
 replace H := Option.bind_eq_some_iff.mp H
 obtain ⟨⟨t182, t183⟩, A20, H⟩ := H
 replace H : (if t180.toList = ([3, 119, 119, 119, 2, 69, 120, 0] : List UInt8) then (if t181 = 0 then ((name_Is.f k t180).bind fun t184 => (if t184 = true then ((name_Labels.f k t180).bind fun t185 => (if (t185.length : Int) = 2 then ((name_Fold.f k t180).bind fun t188 => (if t188.toList = ([3, 119, 119, 119, 2, 101, 120, 0] : List UInt8) then ((name_Text.f k t180).bind fun t189 => (if t189.toList = ([119, 119, 119, 46, 69, 120, 46] : List UInt8) then (if t182.toList = ([3, 97, 46, 98, 0] : List UInt8) then (if t183 = 0 then ((name_Fold.f k t180).bind fun t190 => ((name_Same.f k t180 t190).bind fun t191 => (if t191 = true then ((name_Under.f k t180 (⟨#[2, 101, 88, 0]⟩ : ByteArray)).bind fun t192 => (some t192)) else (some false)))) else (some false)) else (some false)) else (some false))) else (some false))) else (some false))) else (some false))) else (some false)) else (some false)) = some r := H
 have A2 := Aside0.mk A20
 clear A20
 by_cases c3 : t180.toList = ([3, 119, 119, 119, 2, 69, 120, 0] : List UInt8)
 ·
  rw [if_pos c3] at H
  have c3b0 : (t180.toList == ([3, 119, 119, 119, 2, 69, 120, 0] : List UInt8)) = true := beq_iff_eq.mpr c3
  have c3b1 : (t180.toList != ([3, 119, 119, 119, 2, 69, 120, 0] : List UInt8)) = false := bne_eq_false_iff_eq.mpr c3
  clear c3
  by_cases c4 : t181 = 0
  ·
   rw [if_pos c4] at H
   have c4b0 : (t181 == 0) = true := beq_iff_eq.mpr c4
   have c4b1 : (t181 != 0) = false := bne_eq_false_iff_eq.mpr c4
   clear c4
   replace H := Option.bind_eq_some_iff.mp H
   obtain ⟨t184, A50, H⟩ := H
   replace H : (if t184 = true then ((name_Labels.f k t180).bind fun t185 => (if (t185.length : Int) = 2 then ((name_Fold.f k t180).bind fun t188 => (if t188.toList = ([3, 119, 119, 119, 2, 101, 120, 0] : List UInt8) then ((name_Text.f k t180).bind fun t189 => (if t189.toList = ([119, 119, 119, 46, 69, 120, 46] : List UInt8) then (if t182.toList = ([3, 97, 46, 98, 0] : List UInt8) then (if t183 = 0 then ((name_Fold.f k t180).bind fun t190 => ((name_Same.f k t180 t190).bind fun t191 => (if t191 = true then ((name_Under.f k t180 (⟨#[2, 101, 88, 0]⟩ : ByteArray)).bind fun t192 => (some t192)) else (some false)))) else (some false)) else (some false)) else (some false))) else (some false))) else (some false))) else (some false)) = some r := H
   have A5 := Aside0.mk A50
   clear A50
   by_cases c6 : t184 = true
   ·
    subst c6
    have H1 : ((name_Labels.f k t180).bind fun t185 => (if (t185.length : Int) = 2 then ((name_Fold.f k t180).bind fun t188 => (if t188.toList = ([3, 119, 119, 119, 2, 101, 120, 0] : List UInt8) then ((name_Text.f k t180).bind fun t189 => (if t189.toList = ([119, 119, 119, 46, 69, 120, 46] : List UInt8) then (if t182.toList = ([3, 97, 46, 98, 0] : List UInt8) then (if t183 = 0 then ((name_Fold.f k t180).bind fun t190 => ((name_Same.f k t180 t190).bind fun t191 => (if t191 = true then ((name_Under.f k t180 (⟨#[2, 101, 88, 0]⟩ : ByteArray)).bind fun t192 => (some t192)) else (some false)))) else (some false)) else (some false)) else (some false))) else (some false))) else (some false))) = some r := by rw [if_pos rfl] at H; exact H
    clear H
    have H := H1
    clear H1
    replace H := Option.bind_eq_some_iff.mp H
    obtain ⟨t185, A70, H⟩ := H
    replace H : (if (t185.length : Int) = 2 then ((name_Fold.f k t180).bind fun t188 => (if t188.toList = ([3, 119, 119, 119, 2, 101, 120, 0] : List UInt8) then ((name_Text.f k t180).bind fun t189 => (if t189.toList = ([119, 119, 119, 46, 69, 120, 46] : List UInt8) then (if t182.toList = ([3, 97, 46, 98, 0] : List UInt8) then (if t183 = 0 then ((name_Fold.f k t180).bind fun t190 => ((name_Same.f k t180 t190).bind fun t191 => (if t191 = true then ((name_Under.f k t180 (⟨#[2, 101, 88, 0]⟩ : ByteArray)).bind fun t192 => (some t192)) else (some false)))) else (some false)) else (some false)) else (some false))) else (some false))) else (some false)) = some r := H
    have A7 := Aside0.mk A70
    clear A70
    by_cases c8 : (t185.length : Int) = 2
    ·
     rw [if_pos c8] at H
     have c8b0 : ((t185.length : Int) == 2) = true := beq_iff_eq.mpr c8
     have c8b1 : ((t185.length : Int) != 2) = false := bne_eq_false_iff_eq.mpr c8
     clear c8
     replace H := Option.bind_eq_some_iff.mp H
     obtain ⟨t188, A90, H⟩ := H
     replace H : (if t188.toList = ([3, 119, 119, 119, 2, 101, 120, 0] : List UInt8) then ((name_Text.f k t180).bind fun t189 => (if t189.toList = ([119, 119, 119, 46, 69, 120, 46] : List UInt8) then (if t182.toList = ([3, 97, 46, 98, 0] : List UInt8) then (if t183 = 0 then ((name_Fold.f k t180).bind fun t190 => ((name_Same.f k t180 t190).bind fun t191 => (if t191 = true then ((name_Under.f k t180 (⟨#[2, 101, 88, 0]⟩ : ByteArray)).bind fun t192 => (some t192)) else (some false)))) else (some false)) else (some false)) else (some false))) else (some false)) = some r := H
     have A9 := Aside0.mk A90
     clear A90
     by_cases c10 : t188.toList = ([3, 119, 119, 119, 2, 101, 120, 0] : List UInt8)
     ·
      rw [if_pos c10] at H
      have c10b0 : (t188.toList == ([3, 119, 119, 119, 2, 101, 120, 0] : List UInt8)) = true := beq_iff_eq.mpr c10
      have c10b1 : (t188.toList != ([3, 119, 119, 119, 2, 101, 120, 0] : List UInt8)) = false := bne_eq_false_iff_eq.mpr c10
      clear c10
      replace H := Option.bind_eq_some_iff.mp H
      obtain ⟨t189, A110, H⟩ := H
      replace H : (if t189.toList = ([119, 119, 119, 46, 69, 120, 46] : List UInt8) then (if t182.toList = ([3, 97, 46, 98, 0] : List UInt8) then (if t183 = 0 then ((name_Fold.f k t180).bind fun t190 => ((name_Same.f k t180 t190).bind fun t191 => (if t191 = true then ((name_Under.f k t180 (⟨#[2, 101, 88, 0]⟩ : ByteArray)).bind fun t192 => (some t192)) else (some false)))) else (some false)) else (some false)) else (some false)) = some r := H
      have A11 := Aside0.mk A110
      clear A110
      by_cases c12 : t189.toList = ([119, 119, 119, 46, 69, 120, 46] : List UInt8)
      ·
       rw [if_pos c12] at H
       have c12b0 : (t189.toList == ([119, 119, 119, 46, 69, 120, 46] : List UInt8)) = true := beq_iff_eq.mpr c12
       have c12b1 : (t189.toList != ([119, 119, 119, 46, 69, 120, 46] : List UInt8)) = false := bne_eq_false_iff_eq.mpr c12
       clear c12
       by_cases c13 : t182.toList = ([3, 97, 46, 98, 0] : List UInt8)
       ·
        rw [if_pos c13] at H
        have c13b0 : (t182.toList == ([3, 97, 46, 98, 0] : List UInt8)) = true := beq_iff_eq.mpr c13
        have c13b1 : (t182.toList != ([3, 97, 46, 98, 0] : List UInt8)) = false := bne_eq_false_iff_eq.mpr c13
        clear c13
        by_cases c14 : t183 = 0
        ·
         rw [if_pos c14] at H
         have c14b0 : (t183 == 0) = true := beq_iff_eq.mpr c14
         have c14b1 : (t183 != 0) = false := bne_eq_false_iff_eq.mpr c14
         clear c14
         replace H := Option.bind_eq_some_iff.mp H
         obtain ⟨t190, A150, H⟩ := H
         replace H : ((name_Same.f k t180 t190).bind fun t191 => (if t191 = true then ((name_Under.f k t180 (⟨#[2, 101, 88, 0]⟩ : ByteArray)).bind fun t192 => (some t192)) else (some false))) = some r := H
         have A15 := Aside0.mk A150
         clear A150
         (try (have EA15 := Aside0.mk (Option.some.inj (A9.out.symm.trans A15.out))))
         replace H := Option.bind_eq_some_iff.mp H
         obtain ⟨t191, A160, H⟩ := H
         replace H : (if t191 = true then ((name_Under.f k t180 (⟨#[2, 101, 88, 0]⟩ : ByteArray)).bind fun t192 => (some t192)) else (some false)) = some r := H
         have A16 := Aside0.mk A160
         clear A160
         by_cases c17 : t191 = true
         ·
          subst c17
          have H1 : ((name_Under.f k t180 (⟨#[2, 101, 88, 0]⟩ : ByteArray)).bind fun t192 => (some t192)) = some r := by rw [if_pos rfl] at H; exact H
          clear H
          have H := H1
          clear H1
          replace H := Option.bind_eq_some_iff.mp H
          obtain ⟨t192, A180, H⟩ := H
          replace H : (some t192) = some r := H
          have A18 := Aside0.mk A180
          clear A180
          obtain rfl := Option.some.inj H
          go_enter Try.func8, Try.ntmps8
          have tk32 : True := trivial
          have tk33 : True := trivial
          go_wp2_with (first | ((with_reducible refine gate_dst (N := 6) rfl ?_); (try (refine gate_guard (by rfl) ?_; dsimp only)); refine Kd.R_lit Kd.string _ 9 ?hg (N := 6) ?hd (xs := ([(⟨#[119, 119, 119]⟩ : ByteArray), (⟨#[69, 120]⟩ : ByteArray)] : List ByteArray)) (inner := [.string (⟨#[119, 119, 119]⟩ : ByteArray), .string (⟨#[69, 120]⟩ : ByteArray)]) (ok := fun _ => True) (okp := fun _ => True) ?hr ?hp (fun _ hk => hk) trivial (Below.refl _ _) (Nat.le_refl _) (by simp) ?_; (case hd => rfl); (case hg => rfl); (case hr => first | (go_simp; done) | (go_simp; rfl)); (case hp => exact (Reps.one (show Kd.M Kd.string _ _ _ (⟨#[119, 119, 119]⟩ : ByteArray) [.string (⟨#[119, 119, 119]⟩ : ByteArray)] from rfl) (Reps.one (show Kd.M Kd.string _ _ _ (⟨#[69, 120]⟩ : ByteArray) [.string (⟨#[69, 120]⟩ : ByteArray)] from rfl) (Reps.none _ _)))); intro v178 w19 ho20 hb hg_ hnew_; clear hg_ hnew_; (first | rw [← Ny177.out] at ho20 | (simp only [Int.reduceToNat] at ho20; rw [← Ny177.out] at ho20)); have n0_ := Aside0.mk (Kd.R_lower ho20 (below_size (by repeat (first | (with_reducible first | exact HB.out | apply below_alloc | apply pw_below_drewN | apply below_drew1) | exact HB.out)))); have n1_ := Aside0.mk (below_step (by repeat (first | (with_reducible first | exact HB.out | apply below_alloc | apply pw_below_drewN | apply below_drew1) | exact HB.out)) hb); clear HB; have HO179 := n0_; have HB := n1_; clear n0_ n1_; clear hb ho20; obtain ⟨Ao21, co21, eo21⟩ := Kd.R_slice HO179.out; subst eo21) | ((with_reducible refine gate_callee (f := 10) rfl ?_); refine goesL_ (some 7) rfl rfl Try.func10 (by kernel_rfl) rfl #[.slice Ao21 y177.length co21] rfl (by (try simp only [List.map_toArray, List.map_cons, List.map_nil]); first | done | rfl | (simp only [List.length_drop, List.length_take]; rfl)) ?_; (with_reducible refine (name_Make.calls k _ _ y177 t180 t181 _ ?side1 ?side2 A1.out).mono ?_); (case side1 => repeat (first | exact (Kd.R_reads' HO179.out).2.2 | (with_reducible refine Kd.C_alloc ?_ _) | (with_reducible refine Kd.C_drewN ?_ _) | (with_reducible refine Kd.C_drew ?_))); (case side2 => exact (Kd.R_reads' HO179.out).2.1); rintro e w22 ⟨rfl, hb⟩; refine ⟨_, rfl, ?_⟩; have n0_ := Aside0.mk (Kd.R_below (by (with_reducible repeat (first | apply Kd.R_alloc | apply Kd.R_drewN | apply Kd.R_drew)); exact HO179.out) hb); have n1_ := Aside0.mk (below_step (by repeat (first | (with_reducible first | exact HB.out | apply below_alloc | apply pw_below_drewN | apply below_drew1) | exact HB.out)) hb); clear HO179; clear HB; have HO179 := n0_; have HB := n1_; clear n0_ n1_; (try clear hb); (try clear hb2); (try clear hk); (try clear hi)) | ((with_reducible refine gate_callee (f := 22) rfl ?_); refine goesL_ (some 11) rfl rfl Try.func22 (by kernel_rfl) rfl #[.string (⟨#[97, 92, 46, 98, 46]⟩ : ByteArray)] rfl (by (try simp only [List.map_toArray, List.map_cons, List.map_nil]); first | done | rfl | (simp only [List.length_drop, List.length_take]; rfl)) ?_; (with_reducible refine (name_Read.calls k (⟨#[97, 92, 46, 98, 46]⟩ : ByteArray) t182 t183 _ A2.out).mono ?_); rintro e w23 ⟨rfl, hb⟩; refine ⟨_, rfl, ?_⟩; have n0_ := Aside0.mk (Kd.R_below (by (with_reducible repeat (first | apply Kd.R_alloc | apply Kd.R_drewN | apply Kd.R_drew)); exact HO179.out) hb); have n1_ := Aside0.mk (below_step (by repeat (first | (with_reducible first | exact HB.out | apply below_alloc | apply pw_below_drewN | apply below_drew1) | exact HB.out)) hb); clear HO179; clear HB; have HO179 := n0_; have HB := n1_; clear n0_ n1_; (try clear hb); (try clear hb2); (try clear hk); (try clear hi)) | (go_at_call 13; (with_reducible refine (name_Is.calls k t180 true _ A5.out).mono ?_); rintro e w24 ⟨rfl, hb⟩; have n0_ := Aside0.mk (Kd.R_below (by (with_reducible repeat (first | apply Kd.R_alloc | apply Kd.R_drewN | apply Kd.R_drew)); exact HO179.out) hb); have n1_ := Aside0.mk (below_step (by repeat (first | (with_reducible first | exact HB.out | apply below_alloc | apply pw_below_drewN | apply below_drew1) | exact HB.out)) hb); clear HO179; clear HB; have HO179 := n0_; have HB := n1_; clear n0_ n1_; (try clear hb); (try clear hb2); (try clear hk); (try clear hi)) | (go_at_call 15; (with_reducible refine (name_Labels.calls k t180 t185 _ A7.out).mono ?_); rintro e w25 ⟨v186, rfl, ho0, hb⟩; have n0_ := Aside0.mk (Kd.R_elder' (by (with_reducible repeat (first | apply Kd.R_alloc | apply Kd.R_drewN | apply Kd.R_drew)); exact HO179.out) (Kd.R_base ho0) hb); have n1_ := Aside0.mk (Kd.R_lower (Kd.R_new' ho0 (Kd.R_lt (by (with_reducible repeat (first | apply Kd.R_alloc | apply Kd.R_drewN | apply Kd.R_drew)); exact HO179.out))) (below_size (by repeat (first | (with_reducible first | exact HB.out | apply below_alloc | apply pw_below_drewN | apply below_drew1) | exact HB.out)))); have n2_ := Aside0.mk (below_step (by repeat (first | (with_reducible first | exact HB.out | apply below_alloc | apply pw_below_drewN | apply below_drew1) | exact HB.out)) hb); clear HO179; clear HB; have HO179 := n0_; have HO187 := n1_; have HB := n2_; clear n0_ n1_ n2_; (try clear hb); (try clear hb2); (try clear hk); (try clear hi); (try clear ho0); obtain ⟨Ao26, co26, eo26⟩ := Kd.R_slice HO187.out; subst eo26) | (have _t : True := tk32; clear tk32 _t; go_at_call 16; (with_reducible refine (name_Fold.calls k t180 t188 _ A9.out).mono ?_); rintro e w27 ⟨rfl, hb⟩; have n0_ := Aside0.mk (Kd.R_below (by (with_reducible repeat (first | apply Kd.R_alloc | apply Kd.R_drewN | apply Kd.R_drew)); exact HO179.out) hb); have n1_ := Aside0.mk (Kd.R_below (by (with_reducible repeat (first | apply Kd.R_alloc | apply Kd.R_drewN | apply Kd.R_drew)); exact HO187.out) hb); have n2_ := Aside0.mk (below_step (by repeat (first | (with_reducible first | exact HB.out | apply below_alloc | apply pw_below_drewN | apply below_drew1) | exact HB.out)) hb); clear HO179; clear HO187; clear HB; have HO179 := n0_; have HO187 := n1_; have HB := n2_; clear n0_ n1_ n2_; (try clear hb); (try clear hb2); (try clear hk); (try clear hi)) | (go_at_call 24; (with_reducible refine (name_Text.calls k t180 t189 _ A11.out).mono ?_); rintro e w28 ⟨rfl, hb⟩; have n0_ := Aside0.mk (Kd.R_below (by (with_reducible repeat (first | apply Kd.R_alloc | apply Kd.R_drewN | apply Kd.R_drew)); exact HO179.out) hb); have n1_ := Aside0.mk (Kd.R_below (by (with_reducible repeat (first | apply Kd.R_alloc | apply Kd.R_drewN | apply Kd.R_drew)); exact HO187.out) hb); have n2_ := Aside0.mk (below_step (by repeat (first | (with_reducible first | exact HB.out | apply below_alloc | apply pw_below_drewN | apply below_drew1) | exact HB.out)) hb); clear HO179; clear HO187; clear HB; have HO179 := n0_; have HO187 := n1_; have HB := n2_; clear n0_ n1_ n2_; (try clear hb); (try clear hb2); (try clear hk); (try clear hi)) | (have _t : True := tk33; clear tk33 _t; go_at_call 16; (with_reducible refine (name_Fold.calls k t180 t190 _ A15.out).mono ?_); rintro e w29 ⟨rfl, hb⟩; have n0_ := Aside0.mk (Kd.R_below (by (with_reducible repeat (first | apply Kd.R_alloc | apply Kd.R_drewN | apply Kd.R_drew)); exact HO179.out) hb); have n1_ := Aside0.mk (Kd.R_below (by (with_reducible repeat (first | apply Kd.R_alloc | apply Kd.R_drewN | apply Kd.R_drew)); exact HO187.out) hb); have n2_ := Aside0.mk (below_step (by repeat (first | (with_reducible first | exact HB.out | apply below_alloc | apply pw_below_drewN | apply below_drew1) | exact HB.out)) hb); clear HO179; clear HO187; clear HB; have HO179 := n0_; have HO187 := n1_; have HB := n2_; clear n0_ n1_ n2_; (try clear hb); (try clear hb2); (try clear hk); (try clear hi)) | (go_at_call 18; (with_reducible refine (name_Same.calls k t180 t190 true _ A16.out).mono ?_); rintro e w30 ⟨rfl, hb⟩; have n0_ := Aside0.mk (Kd.R_below (by (with_reducible repeat (first | apply Kd.R_alloc | apply Kd.R_drewN | apply Kd.R_drew)); exact HO179.out) hb); have n1_ := Aside0.mk (Kd.R_below (by (with_reducible repeat (first | apply Kd.R_alloc | apply Kd.R_drewN | apply Kd.R_drew)); exact HO187.out) hb); have n2_ := Aside0.mk (below_step (by repeat (first | (with_reducible first | exact HB.out | apply below_alloc | apply pw_below_drewN | apply below_drew1) | exact HB.out)) hb); clear HO179; clear HO187; clear HB; have HO179 := n0_; have HO187 := n1_; have HB := n2_; clear n0_ n1_ n2_; (try clear hb); (try clear hb2); (try clear hk); (try clear hi)) | (go_at_call 20; (with_reducible refine (name_Under.calls k t180 (⟨#[2, 101, 88, 0]⟩ : ByteArray) t192 _ A18.out).mono ?_); rintro e w31 ⟨rfl, hb⟩; have n0_ := Aside0.mk (Kd.R_below (by (with_reducible repeat (first | apply Kd.R_alloc | apply Kd.R_drewN | apply Kd.R_drew)); exact HO179.out) hb); have n1_ := Aside0.mk (Kd.R_below (by (with_reducible repeat (first | apply Kd.R_alloc | apply Kd.R_drewN | apply Kd.R_drew)); exact HO187.out) hb); have n2_ := Aside0.mk (below_step (by repeat (first | (with_reducible first | exact HB.out | apply below_alloc | apply pw_below_drewN | apply below_drew1) | exact HB.out)) hb); clear HO179; clear HO187; clear HB; have HO179 := n0_; have HO187 := n1_; have HB := n2_; clear n0_ n1_ n2_; (try clear hb); (try clear hb2); (try clear hk); (try clear hi)))
          go_ret
          exact ⟨by first | rfl | (simp [errW_none, errW_some] <;> rfl) | (simp [*, errW_none, errW_some] <;> rfl) | (have e_ := EA15.out; subst e_; rfl), by repeat (first | (with_reducible first | exact HB.out | apply below_alloc | apply pw_below_drewN | apply below_drew1) | exact HB.out)⟩
         ·
          replace c17 := Bool.eq_false_iff.mpr c17
          subst c17
          have H1 : (some false) = some r := by rw [if_neg (show ¬ (false = true) by decide)] at H; exact H
          clear H
          have H := H1
          clear H1
          exact absurd ((Option.some.inj H).trans HT.out) (by decide)
        ·
         rw [if_neg c14] at H
         have c14b0 : (t183 == 0) = false := beq_eq_false_iff_ne.mpr c14
         have c14b1 : (t183 != 0) = true := bne_iff_ne.mpr c14
         exact absurd ((Option.some.inj H).trans HT.out) (by decide)
       ·
        rw [if_neg c13] at H
        have c13b0 : (t182.toList == ([3, 97, 46, 98, 0] : List UInt8)) = false := beq_eq_false_iff_ne.mpr c13
        have c13b1 : (t182.toList != ([3, 97, 46, 98, 0] : List UInt8)) = true := bne_iff_ne.mpr c13
        exact absurd ((Option.some.inj H).trans HT.out) (by decide)
      ·
       rw [if_neg c12] at H
       have c12b0 : (t189.toList == ([119, 119, 119, 46, 69, 120, 46] : List UInt8)) = false := beq_eq_false_iff_ne.mpr c12
       have c12b1 : (t189.toList != ([119, 119, 119, 46, 69, 120, 46] : List UInt8)) = true := bne_iff_ne.mpr c12
       exact absurd ((Option.some.inj H).trans HT.out) (by decide)
     ·
      rw [if_neg c10] at H
      have c10b0 : (t188.toList == ([3, 119, 119, 119, 2, 101, 120, 0] : List UInt8)) = false := beq_eq_false_iff_ne.mpr c10
      have c10b1 : (t188.toList != ([3, 119, 119, 119, 2, 101, 120, 0] : List UInt8)) = true := bne_iff_ne.mpr c10
      exact absurd ((Option.some.inj H).trans HT.out) (by decide)
    ·
     rw [if_neg c8] at H
     have c8b0 : ((t185.length : Int) == 2) = false := beq_eq_false_iff_ne.mpr c8
     have c8b1 : ((t185.length : Int) != 2) = true := bne_iff_ne.mpr c8
     exact absurd ((Option.some.inj H).trans HT.out) (by decide)
   ·
    replace c6 := Bool.eq_false_iff.mpr c6
    subst c6
    have H1 : (some false) = some r := by rw [if_neg (show ¬ (false = true) by decide)] at H; exact H
    clear H
    have H := H1
    clear H1
    exact absurd ((Option.some.inj H).trans HT.out) (by decide)
  ·
   rw [if_neg c4] at H
   have c4b0 : (t181 == 0) = false := beq_eq_false_iff_ne.mpr c4
   have c4b1 : (t181 != 0) = true := bne_iff_ne.mpr c4
   exact absurd ((Option.some.inj H).trans HT.out) (by decide)
 ·
  rw [if_neg c3] at H
  have c3b0 : (t180.toList == ([3, 119, 119, 119, 2, 69, 120, 0] : List UInt8)) = false := beq_eq_false_iff_ne.mpr c3
  have c3b1 : (t180.toList != ([3, 119, 119, 119, 2, 69, 120, 0] : List UInt8)) = true := bne_iff_ne.mpr c3
  exact absurd ((Option.some.inj H).trans HT.out) (by decide)

/-! ### nunciolaw04_Few: function 9 -/
def nunciolaw04_Few.l0 : Nat → List ByteArray → Int → Int → Option (Bool)
 | 0, _, _, _ => none
 | k + 1, x0, x3, x4 => if x4 < (x0.length : Int) then (if x3 < 5000 then (if 0 ≤ x4 then (nunciolaw04_Few.l0 k x0 (wrap64 (x3 + (mn ((rdOf ByteArray.empty x0 x4).size : Int) 5000))) (wrap64 (x4 + 1))) else (none)) else (some (decide (x3 < 5000)))) else (some (decide (x3 < 5000)))
def nunciolaw04_Few.f (k : Nat) (l0 : List ByteArray) : Option (Bool) := nunciolaw04_Few.l0 k l0 (mn (l0.length : Int) 5000) 0
theorem nunciolaw04_Few.mono_l : ∀ k, (∀ y0 y1 y2, LeO (nunciolaw04_Few.l0 k y0 y1 y2) (nunciolaw04_Few.l0 (k + 1) y0 y1 y2))
 | 0 => fun _ _ _ r h => by simp [nunciolaw04_Few.l0] at h
 | k + 1 => by
  have ih0 := nunciolaw04_Few.mono_l k
  ·
   intro y0 y1 y2
   unfold nunciolaw04_Few.l0
   repeat' first
   | (with_reducible exact ih0 _ _ _)
   | (with_reducible exact LeO.refl _)
   | (with_reducible exact LeO.none _)
   | (with_reducible refine LeO.ite ?_ ?_)
   | (with_reducible refine LeO.bind ?_ (fun _ => ?_))
   | exact ih0 _ _ _
   | exact LeO.none _
   | refine LeO.ite ?_ ?_
   | refine LeO.bind ?_ (fun _ => ?_)
theorem nunciolaw04_Few.mono : ∀ a0 k, LeO (nunciolaw04_Few.f k a0) (nunciolaw04_Few.f (k + 1) a0) := by
 intro a0 k
 have ih0 := nunciolaw04_Few.mono_l k
 unfold nunciolaw04_Few.f
 repeat' first
   | (with_reducible exact ih0 _ _ _)
   | (with_reducible exact LeO.refl _)
   | (with_reducible exact LeO.none _)
   | (with_reducible refine LeO.ite ?_ ?_)
   | (with_reducible refine LeO.bind ?_ (fun _ => ?_))
   | exact ih0 _ _ _
   | exact LeO.none _
   | refine LeO.ite ?_ ?_
   | refine LeO.bind ?_ (fun _ => ?_)
set_option maxHeartbeats 8000000 in
set_option maxRecDepth 100000 in
theorem nunciolaw04_Few.calls (k : Nat) (A0 : Option Addr) (c0 : Nat) (l0 : List ByteArray) (r : Bool) (w : World) (hr0 : Kd.C Kd.string w A0 l0.length l0) (hc0 : l0.length ≤ c0) (h : nunciolaw04_Few.f k l0 = some r) :
  Calls Try.prog 9 #[.slice A0 l0.length c0] w fun e w' => e = .returned (.bool r) ∧ Below w.heap.size w w' := by
 have HR0 := Aside0.mk hr0
 have HC0 := Aside0.mk hc0
 clear hr0 hc0
 have HB := Aside0.mk (Below.refl w.heap.size w)
 have H : (nunciolaw04_Few.l0 k l0 (mn (l0.length : Int) 5000) 0) = some r := h
 clear h
 obtain ⟨ji2, hji2⟩ : ∃ j_ : Int, (mn (l0.length : Int) 5000) = j_ := ⟨_, rfl⟩
 replace H : (nunciolaw04_Few.l0 k l0 ji2 0) = some r := by first | (rw [hji2] at H; exact H) | (simp only [hji2] at H ⊢; exact H)
 (try (have hji2h : ji2 ≤ 5000 := by (rw [← hji2]; unfold mn; (repeat' split) <;> omega)))
 (try (have hji2g : ji2 ≤ 64 := by omega))
 (try (have hji2l : 0 ≤ ji2 := by (rw [← hji2]; unfold mn; (repeat' split) <;> omega)))
 (try (have hji2m : 0 ≤ ji2 := by omega))
 have hji2_ : (if 5000 < (l0.length : Int) then 5000 else (l0.length : Int)) = ji2 := hji2
 have H' := Aside0.mk H
 clear H
 go_enter Try.func9, Try.ntmps9
 go_wp2
 go_loopg [3, 4] k (fun kq v3 v4 w' => ∃ (x3_1 : Int) (x4_1 : Int), v3 = .int .i64 x3_1 ∧ v4 = .int .i64 x4_1 ∧ Aside0 (nunciolaw04_Few.l0 kq l0 x3_1 x4_1 = some r) ∧ Aside0 (kq ≤ k) ∧ Aside0 (Below w.heap.size w w'))
 case atStart => exact ⟨(ji2), (0), (by first | rfl | (simp; done) | (simp only [← hji2] <;> (first | rfl | simp)) | (simp [*]; done)), (by first | rfl | (simp; done) | (simp [*]; done)), H', ⟨Nat.le_refl _⟩, ⟨by repeat (first | (with_reducible first | exact HB.out | apply below_alloc | apply pw_below_drewN | apply below_drew1) | exact HB.out)⟩⟩
 case round =>
  clear H'
  try clear p2
  obtain ⟨x3_1, x4_1, rfl, rfl, HA, HK1, HB⟩ := hrel
  cases gk with
  | zero => exact absurd HA.out (by simp [nunciolaw04_Few.l0])
  | succ k1 =>
   have H := HA.out
   clear HA
   simp only [nunciolaw04_Few.l0] at H
   by_cases c3 : x4_1 < (l0.length : Int)
   ·
    rw [if_pos c3] at H
    have c3b0 : decide (x4_1 < (l0.length : Int)) = true := decide_eq_true c3
    clear c3
    by_cases c4 : x3_1 < 5000
    ·
     rw [if_pos c4] at H
     have c4b0 : decide (x3_1 < 5000) = true := decide_eq_true c4
     clear c4
     by_cases c5 : 0 ≤ x4_1
     ·
      rw [if_pos c5] at H
      have c5b0 : decide (0 ≤ x4_1) = true := decide_eq_true c5
      clear c5
      obtain ⟨ji6, hji6⟩ : ∃ j_ : Int, (mn ((rdOf ByteArray.empty l0 x4_1).size : Int) 5000) = j_ := ⟨_, rfl⟩
      replace H : (nunciolaw04_Few.l0 k1 l0 (wrap64 (x3_1 + (ji6))) (wrap64 (x4_1 + 1))) = some r := by first | (rw [hji6] at H; exact H) | (simp only [hji6] at H ⊢; exact H)
      have hji6_ : (if 5000 < ((rdOf ByteArray.empty l0 x4_1).size : Int) then 5000 else ((rdOf ByteArray.empty l0 x4_1).size : Int)) = ji6 := hji6
      have H' := Aside0.mk H
      clear H
      have p193 : 0 ≤ (x4_1 : Int) := of_decide_eq_true (by first | (with_reducible assumption) | assumption)
      have q193 : x4_1 < (l0.length : Int) := of_decide_eq_true (by first | (with_reducible assumption) | assumption)
      obtain ⟨ad193, e193, hx193_0⟩ := Kd.at_string HR0.out x4_1 p193 q193
      cases e193
      replace hx193_0 := (HB.out.cell (World.block_lt_of_cell? w _ hx193_0)).trans hx193_0
      replace p193 := eq_true p193
      replace q193 := eq_true q193
      go_wp2
      go_roundg k1
      case measure => have := HK1.out; omega
      case rel => exact ⟨(wrap64 (x3_1 + (ji6))), (wrap64 (x4_1 + 1)), (by first | rfl | (simp; done) | (simp only [← hji6] <;> (first | rfl | simp)) | (simp [*]; done)), (by first | rfl | (simp; done) | (simp [*]; done)), H', ⟨by have := HK1.out; omega⟩, ⟨by repeat (first | (with_reducible first | exact HB.out | apply below_alloc | apply pw_below_drewN | apply below_drew1) | exact HB.out)⟩⟩
     ·
      rw [if_neg c5] at H
      exact absurd H (by simp)
    ·
     rw [if_neg c4] at H
     have c4b0 : decide (x3_1 < 5000) = false := decide_eq_false c4
     clear c4
     obtain rfl := Option.some.inj H
     go_wp2
     go_ret
     exact ⟨by first | rfl | (simp [errW_none, errW_some] <;> rfl) | (simp only [← hji2]; first | rfl | (simp [errW_none, errW_some] <;> rfl)) | (simp [*, errW_none, errW_some] <;> rfl), by repeat (first | (with_reducible first | exact HB.out | apply below_alloc | apply pw_below_drewN | apply below_drew1) | exact HB.out)⟩
   ·
    rw [if_neg c3] at H
    have c3b0 : decide (x4_1 < (l0.length : Int)) = false := decide_eq_false c3
    clear c3
    obtain rfl := Option.some.inj H
    go_wp2
    go_ret
    exact ⟨by first | rfl | (simp [errW_none, errW_some] <;> rfl) | (simp only [← hji2]; first | rfl | (simp [errW_none, errW_some] <;> rfl)) | (simp [*, errW_none, errW_some] <;> rfl), by repeat (first | (with_reducible first | exact HB.out | apply below_alloc | apply pw_below_drewN | apply below_drew1) | exact HB.out)⟩

end Go.Proofs.Ytpnflloamidecaa.Mine
