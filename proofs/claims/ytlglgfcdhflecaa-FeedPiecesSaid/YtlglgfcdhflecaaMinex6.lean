-- Written by this repo's own printer (wip/print), which builds on the kit's.
import Derived.Test.YtlglgfcdhflecaaMinex0
import Derived.Test.YtlglgfcdhflecaaMinex2
import Derived.Test.YtlglgfcdhflecaaMinex5
namespace Go.Proofs.Ytlglgfcdhflecaa.Mine
open Go.RowKit Go.Proofs.YtlglgfcdhflecaaW.PrintWords Go.Proofs.YtlglgfcdhflecaaW.PrintLast Go.Proofs.YtlglgfcdhflecaaW.PrintMore
attribute [local go_sem] max2_int min2_int max_two min_two max_three min_three max_four min_four   -- for this text's walks alone
set_option linter.unusedVariables false
set_option linter.unusedSimpArgs false

/-! ### nunciolaw15_awake: function 6 -/
def nunciolaw15_awake.f (k : Nat)  : Option (Bool) := (feed_New.f true).bind fun bt146 => (if 0 ≤ 5 then (if 5 ≤ 24 then ((feed_Feed_Add.f k bt146.1 bt146.2.1 bt146.2.2 ((⟨#[80, 82, 73, 32, 42, 32, 72, 84, 84, 80, 47, 50, 46, 48, 13, 10, 13, 10, 83, 77, 13, 10, 13, 10]⟩ : ByteArray).extract 0 5)).bind fun bt150 => (if ((⟨#[80, 82, 73, 32, 42, 32, 72, 84, 84, 80, 47, 50, 46, 48, 13, 10, 13, 10, 83, 77, 13, 10, 13, 10]⟩ : ByteArray).extract 5 (⟨#[80, 82, 73, 32, 42, 32, 72, 84, 84, 80, 47, 50, 46, 48, 13, 10, 13, 10, 83, 77, 13, 10, 13, 10]⟩ : ByteArray).size).size + 9 ≤ 9223372036854775807 then ((feed_Feed_Add.f k bt150.2.2.1 bt150.2.2.2.1 bt150.2.2.2.2 (((⟨#[80, 82, 73, 32, 42, 32, 72, 84, 84, 80, 47, 50, 46, 48, 13, 10, 13, 10, 83, 77, 13, 10, 13, 10]⟩ : ByteArray).extract 5 (⟨#[80, 82, 73, 32, 42, 32, 72, 84, 84, 80, 47, 50, 46, 48, 13, 10, 13, 10, 83, 77, 13, 10, 13, 10]⟩ : ByteArray).size) ++ (⟨#[0, 0, 0, 4, 0, 0, 0, 0, 0]⟩ : ByteArray))).bind fun bt157 => (if (bt150.1.length : Int) = 0 then (if bt150.2.1 = 0 then (if (bt157.1.length : Int) = 1 then (if 0 < (bt157.1.length : Int) then (if ((rd_T40 bt157.1 0).f0) = 4 then (if bt157.2.1 = 0 then ((feed_Feed_Held.f bt157.2.2.1 bt157.2.2.2.1 bt157.2.2.2.2).bind fun bt165 => (if bt165.1 = 0 then ((feed_Feed_Down.f bt165.2.1 bt165.2.2.1 bt165.2.2.2).bind fun bt169 => (some (!bt169.1))) else (some false))) else (some false)) else (some false)) else (none)) else (some false)) else (some false)) else (some false))) else (none))) else (none)) else (none))
theorem nunciolaw15_awake.mono : ∀ k, LeO (nunciolaw15_awake.f k ) (nunciolaw15_awake.f (k + 1) ) := by
 intro  k
 unfold nunciolaw15_awake.f
 repeat' first
   | (with_reducible exact feed_Feed_Add.mono _ _ _ _ _)
   | (with_reducible exact LeO.refl _)
   | (with_reducible exact LeO.none _)
   | (with_reducible refine LeO.ite ?_ ?_)
   | (with_reducible refine LeO.bind ?_ (fun _ => ?_))
   | exact feed_Feed_Add.mono _ _ _ _ _
   | exact LeO.none _
   | refine LeO.ite ?_ ?_
   | refine LeO.bind ?_ (fun _ => ?_)
set_option maxHeartbeats 8000000 in
set_option maxRecDepth 100000 in
theorem nunciolaw15_awake.calls (k : Nat)  (r : Bool) (w : World) (h : nunciolaw15_awake.f k  = some r) :
  Calls Try.prog 6 #[] w fun e w' => e = .returned (.bool r) ∧ Below w.heap.size w w' := by
 have HB := Aside0.mk (Below.refl w.heap.size w)
 have HT : Aside0 (r = true) := ⟨Option.some.inj ((at_rounds nunciolaw15_awake.mono (Nat.le_max_left k 400) h).symm.trans (at_rounds nunciolaw15_awake.mono (Nat.le_max_right k 400) (by decide +kernel : nunciolaw15_awake.f 400 = some true)))⟩
 have H : ((feed_New.f true).bind fun bt146 => (if 0 ≤ 5 then (if 5 ≤ 24 then ((feed_Feed_Add.f k bt146.1 bt146.2.1 bt146.2.2 ((⟨#[80, 82, 73, 32, 42, 32, 72, 84, 84, 80, 47, 50, 46, 48, 13, 10, 13, 10, 83, 77, 13, 10, 13, 10]⟩ : ByteArray).extract 0 5)).bind fun bt150 => (if ((⟨#[80, 82, 73, 32, 42, 32, 72, 84, 84, 80, 47, 50, 46, 48, 13, 10, 13, 10, 83, 77, 13, 10, 13, 10]⟩ : ByteArray).extract 5 (⟨#[80, 82, 73, 32, 42, 32, 72, 84, 84, 80, 47, 50, 46, 48, 13, 10, 13, 10, 83, 77, 13, 10, 13, 10]⟩ : ByteArray).size).size + 9 ≤ 9223372036854775807 then ((feed_Feed_Add.f k bt150.2.2.1 bt150.2.2.2.1 bt150.2.2.2.2 (((⟨#[80, 82, 73, 32, 42, 32, 72, 84, 84, 80, 47, 50, 46, 48, 13, 10, 13, 10, 83, 77, 13, 10, 13, 10]⟩ : ByteArray).extract 5 (⟨#[80, 82, 73, 32, 42, 32, 72, 84, 84, 80, 47, 50, 46, 48, 13, 10, 13, 10, 83, 77, 13, 10, 13, 10]⟩ : ByteArray).size) ++ (⟨#[0, 0, 0, 4, 0, 0, 0, 0, 0]⟩ : ByteArray))).bind fun bt157 => (if (bt150.1.length : Int) = 0 then (if bt150.2.1 = 0 then (if (bt157.1.length : Int) = 1 then (if 0 < (bt157.1.length : Int) then (if ((rd_T40 bt157.1 0).f0) = 4 then (if bt157.2.1 = 0 then ((feed_Feed_Held.f bt157.2.2.1 bt157.2.2.2.1 bt157.2.2.2.2).bind fun bt165 => (if bt165.1 = 0 then ((feed_Feed_Down.f bt165.2.1 bt165.2.2.1 bt165.2.2.2).bind fun bt169 => (some (!bt169.1))) else (some false))) else (some false)) else (some false)) else (none)) else (some false)) else (some false)) else (some false))) else (none))) else (none)) else (none))) = some r := h
 clear h
 replace H := Option.bind_eq_some_iff.mp H
 obtain ⟨⟨t146, t147, t148⟩, A10, H⟩ := H
 replace H : (if 0 ≤ 5 then (if 5 ≤ 24 then ((feed_Feed_Add.f k t146 t147 t148 ((⟨#[80, 82, 73, 32, 42, 32, 72, 84, 84, 80, 47, 50, 46, 48, 13, 10, 13, 10, 83, 77, 13, 10, 13, 10]⟩ : ByteArray).extract 0 5)).bind fun bt150 => (if ((⟨#[80, 82, 73, 32, 42, 32, 72, 84, 84, 80, 47, 50, 46, 48, 13, 10, 13, 10, 83, 77, 13, 10, 13, 10]⟩ : ByteArray).extract 5 (⟨#[80, 82, 73, 32, 42, 32, 72, 84, 84, 80, 47, 50, 46, 48, 13, 10, 13, 10, 83, 77, 13, 10, 13, 10]⟩ : ByteArray).size).size + 9 ≤ 9223372036854775807 then ((feed_Feed_Add.f k bt150.2.2.1 bt150.2.2.2.1 bt150.2.2.2.2 (((⟨#[80, 82, 73, 32, 42, 32, 72, 84, 84, 80, 47, 50, 46, 48, 13, 10, 13, 10, 83, 77, 13, 10, 13, 10]⟩ : ByteArray).extract 5 (⟨#[80, 82, 73, 32, 42, 32, 72, 84, 84, 80, 47, 50, 46, 48, 13, 10, 13, 10, 83, 77, 13, 10, 13, 10]⟩ : ByteArray).size) ++ (⟨#[0, 0, 0, 4, 0, 0, 0, 0, 0]⟩ : ByteArray))).bind fun bt157 => (if (bt150.1.length : Int) = 0 then (if bt150.2.1 = 0 then (if (bt157.1.length : Int) = 1 then (if 0 < (bt157.1.length : Int) then (if ((rd_T40 bt157.1 0).f0) = 4 then (if bt157.2.1 = 0 then ((feed_Feed_Held.f bt157.2.2.1 bt157.2.2.2.1 bt157.2.2.2.2).bind fun bt165 => (if bt165.1 = 0 then ((feed_Feed_Down.f bt165.2.1 bt165.2.2.1 bt165.2.2.2).bind fun bt169 => (some (!bt169.1))) else (some false))) else (some false)) else (some false)) else (none)) else (some false)) else (some false)) else (some false))) else (none))) else (none)) else (none)) = some r := H
 have A1 := Aside0.mk A10
 clear A10
 by_cases c2 : 0 ≤ 5
 ·
  rw [if_pos c2] at H
  have c2b0 := eq_true c2
  have c2b1 : decide (0 ≤ 5) = true := decide_eq_true c2
  clear c2
  by_cases c3 : 5 ≤ 24
  ·
   rw [if_pos c3] at H
   have c3b0 := eq_true c3
   have c3b1 : decide (5 ≤ 24) = true := decide_eq_true c3
   clear c3
   replace H := Option.bind_eq_some_iff.mp H
   obtain ⟨⟨t150, t153, t154, t155, t156⟩, A40, H⟩ := H
   replace H : (if ((⟨#[80, 82, 73, 32, 42, 32, 72, 84, 84, 80, 47, 50, 46, 48, 13, 10, 13, 10, 83, 77, 13, 10, 13, 10]⟩ : ByteArray).extract 5 (⟨#[80, 82, 73, 32, 42, 32, 72, 84, 84, 80, 47, 50, 46, 48, 13, 10, 13, 10, 83, 77, 13, 10, 13, 10]⟩ : ByteArray).size).size + 9 ≤ 9223372036854775807 then ((feed_Feed_Add.f k t154 t155 t156 (((⟨#[80, 82, 73, 32, 42, 32, 72, 84, 84, 80, 47, 50, 46, 48, 13, 10, 13, 10, 83, 77, 13, 10, 13, 10]⟩ : ByteArray).extract 5 (⟨#[80, 82, 73, 32, 42, 32, 72, 84, 84, 80, 47, 50, 46, 48, 13, 10, 13, 10, 83, 77, 13, 10, 13, 10]⟩ : ByteArray).size) ++ (⟨#[0, 0, 0, 4, 0, 0, 0, 0, 0]⟩ : ByteArray))).bind fun bt157 => (if (t150.length : Int) = 0 then (if t153 = 0 then (if (bt157.1.length : Int) = 1 then (if 0 < (bt157.1.length : Int) then (if ((rd_T40 bt157.1 0).f0) = 4 then (if bt157.2.1 = 0 then ((feed_Feed_Held.f bt157.2.2.1 bt157.2.2.2.1 bt157.2.2.2.2).bind fun bt165 => (if bt165.1 = 0 then ((feed_Feed_Down.f bt165.2.1 bt165.2.2.1 bt165.2.2.2).bind fun bt169 => (some (!bt169.1))) else (some false))) else (some false)) else (some false)) else (none)) else (some false)) else (some false)) else (some false))) else (none)) = some r := H
   have A4 := Aside0.mk A40
   clear A40
   have c5b0 := eq_true (of_decide_eq_true (by first | (with_reducible assumption) | assumption) : 5 ≤ 24)
   by_cases c6 : ((⟨#[80, 82, 73, 32, 42, 32, 72, 84, 84, 80, 47, 50, 46, 48, 13, 10, 13, 10, 83, 77, 13, 10, 13, 10]⟩ : ByteArray).extract 5 (⟨#[80, 82, 73, 32, 42, 32, 72, 84, 84, 80, 47, 50, 46, 48, 13, 10, 13, 10, 83, 77, 13, 10, 13, 10]⟩ : ByteArray).size).size + 9 ≤ 9223372036854775807
   ·
    rw [if_pos c6] at H
    have c6b0 := eq_true c6
    have c6b1 : decide (((⟨#[80, 82, 73, 32, 42, 32, 72, 84, 84, 80, 47, 50, 46, 48, 13, 10, 13, 10, 83, 77, 13, 10, 13, 10]⟩ : ByteArray).extract 5 (⟨#[80, 82, 73, 32, 42, 32, 72, 84, 84, 80, 47, 50, 46, 48, 13, 10, 13, 10, 83, 77, 13, 10, 13, 10]⟩ : ByteArray).size).size + 9 ≤ 9223372036854775807) = true := decide_eq_true c6
    try have c6b2 : (9223372036854775807 < ((⟨#[80, 82, 73, 32, 42, 32, 72, 84, 84, 80, 47, 50, 46, 48, 13, 10, 13, 10, 83, 77, 13, 10, 13, 10]⟩ : ByteArray).extract 5 (⟨#[80, 82, 73, 32, 42, 32, 72, 84, 84, 80, 47, 50, 46, 48, 13, 10, 13, 10, 83, 77, 13, 10, 13, 10]⟩ : ByteArray).size).size + 9) = False := eq_false (Nat.not_lt.2 c6)
    replace H := Option.bind_eq_some_iff.mp H
    obtain ⟨⟨t157, t160, t161, t162, t163⟩, A70, H⟩ := H
    replace H : (if (t150.length : Int) = 0 then (if t153 = 0 then (if (t157.length : Int) = 1 then (if 0 < (t157.length : Int) then (if ((rd_T40 t157 0).f0) = 4 then (if t160 = 0 then ((feed_Feed_Held.f t161 t162 t163).bind fun bt165 => (if bt165.1 = 0 then ((feed_Feed_Down.f bt165.2.1 bt165.2.2.1 bt165.2.2.2).bind fun bt169 => (some (!bt169.1))) else (some false))) else (some false)) else (some false)) else (none)) else (some false)) else (some false)) else (some false)) = some r := H
    have A7 := Aside0.mk A70
    clear A70
    by_cases c8 : (t150.length : Int) = 0
    ·
     rw [if_pos c8] at H
     have c8b0 : ((t150.length : Int) == 0) = true := beq_iff_eq.mpr c8
     have c8b1 : ((t150.length : Int) != 0) = false := bne_eq_false_iff_eq.mpr c8
     clear c8
     by_cases c9 : t153 = 0
     ·
      rw [if_pos c9] at H
      have c9b0 : (t153 == 0) = true := beq_iff_eq.mpr c9
      have c9b1 : (t153 != 0) = false := bne_eq_false_iff_eq.mpr c9
      clear c9
      by_cases c10 : (t157.length : Int) = 1
      ·
       rw [if_pos c10] at H
       have c10b0 : ((t157.length : Int) == 1) = true := beq_iff_eq.mpr c10
       have c10b1 : ((t157.length : Int) != 1) = false := bne_eq_false_iff_eq.mpr c10
       clear c10
       by_cases c11 : 0 < (t157.length : Int)
       ·
        rw [if_pos c11] at H
        have c11b0 : decide (0 < (t157.length : Int)) = true := decide_eq_true c11
        have c11b1 : decide (0 < t157.length) = true := decide_eq_true (by omega)
        clear c11
        by_cases c12 : ((rd_T40 t157 0).f0) = 4
        ·
         rw [if_pos c12] at H
         have c12b0 : (((rd_T40 t157 0).f0) == 4) = true := beq_iff_eq.mpr c12
         have c12b1 : (((rd_T40 t157 0).f0) != 4) = false := bne_eq_false_iff_eq.mpr c12
         clear c12
         by_cases c13 : t160 = 0
         ·
          rw [if_pos c13] at H
          have c13b0 : (t160 == 0) = true := beq_iff_eq.mpr c13
          have c13b1 : (t160 != 0) = false := bne_eq_false_iff_eq.mpr c13
          clear c13
          replace H := Option.bind_eq_some_iff.mp H
          obtain ⟨⟨t165, t166, t167, t168⟩, A140, H⟩ := H
          replace H : (if t165 = 0 then ((feed_Feed_Down.f t166 t167 t168).bind fun bt169 => (some (!bt169.1))) else (some false)) = some r := H
          have A14 := Aside0.mk A140
          clear A140
          by_cases c15 : t165 = 0
          ·
           rw [if_pos c15] at H
           have c15b0 : (t165 == 0) = true := beq_iff_eq.mpr c15
           have c15b1 : (t165 != 0) = false := bne_eq_false_iff_eq.mpr c15
           clear c15
           replace H := Option.bind_eq_some_iff.mp H
           obtain ⟨⟨t169, t170, t171, t172⟩, A160, H⟩ := H
           replace H : (some (!t169)) = some r := H
           have A16 := Aside0.mk A160
           clear A160
           obtain rfl := Option.some.inj H
           go_enter Try.func6, Try.ntmps6
           have tk24 : True := trivial
           have tk25 : True := trivial
           go_wp2_with (first | ((with_reducible refine gate_callee (f := 8) rfl ?_); refine goesL_ (some 6) rfl rfl Try.func8 (by kernel_rfl) rfl #[.bool true] rfl (by (try simp only [List.map_toArray, List.map_cons, List.map_nil]); first | done | rfl | (simp only [List.length_drop, List.length_take]; rfl)) ?_; (with_reducible refine (feed_New.calls true t146 t147 t148 w _ ?side1 A1.out).mono ?_); (case side1 => repeat (first | (with_reducible first | exact HB.out | apply below_alloc | apply pw_below_drewN | apply below_drew1) | exact HB.out)); rintro e w17 ⟨g149, rfl, hi, hb, hb2⟩; refine ⟨_, rfl, ?_⟩; have n0_ := Aside0.mk (hb); have n1_ := Aside0.mk (hi); clear HB; have HB := n0_; have HI149 := n1_; clear n0_ n1_; (try clear hb); (try clear hb2); (try clear hk); (try clear hi)) | (have _t : True := tk24; clear tk24 _t; (with_reducible refine gate_callee (f := 9) rfl ?_); refine goesL_ (some 12) rfl rfl Try.func9 (by kernel_rfl) rfl #[.pointer (some ⟨g149, 0, none⟩), .string ((⟨#[80, 82, 73, 32, 42, 32, 72, 84, 84, 80, 47, 50, 46, 48, 13, 10, 13, 10, 83, 77, 13, 10, 13, 10]⟩ : ByteArray).extract 0 5)] rfl (by (try simp only [List.map_toArray, List.map_cons, List.map_nil]); first | done | rfl | (simp only [List.length_drop, List.length_take]; rfl)) ?_; (with_reducible refine (feed_Feed_Add.calls k g149 t146 t147 t148 ((⟨#[80, 82, 73, 32, 42, 32, 72, 84, 84, 80, 47, 50, 46, 48, 13, 10, 13, 10, 83, 77, 13, 10, 13, 10]⟩ : ByteArray).extract 0 5) t150 t153 t154 t155 t156 w _ ?side1 ?side2 A4.out).mono ?_); (case side1 => repeat (first | (with_reducible first | exact HI149.out | apply IsS43.alloc | apply IsS43.drewN | apply IsS43.drew | apply IsS43.set_0 | apply IsS43.set_1 | apply IsS43.set_2) | exact HI149.out | simp only [*])); (case side2 => repeat (first | (with_reducible first | exact HB.out | apply below_alloc | apply pw_below_drewN | apply below_drew1 | refine below_set ?_ (IsS43.ge HI149.out)) | exact HB.out)); rintro e w18 ⟨v151, rfl, ho0, hi, hb, hk⟩; refine ⟨_, rfl, ?_⟩; have n0_ := Aside0.mk (Kd.R_lower ho0 (below_size (by repeat (first | (with_reducible first | exact HB.out | apply below_alloc | apply pw_below_drewN | apply below_drew1 | refine below_set ?_ (IsS43.ge HI149.out)) | exact HB.out)))); have n1_ := Aside0.mk (hb); have n2_ := Aside0.mk (hi); clear HB; clear HI149; have HO152 := n0_; have HB := n1_; have HI149 := n2_; clear n0_ n1_ n2_; (try clear hb); (try clear hb2); (try clear hk); (try clear hi); (try clear ho0)) | (have _t : True := tk25; clear tk25 _t; (with_reducible refine gate_callee (f := 9) rfl ?_); refine goesL_ (some 19) rfl rfl Try.func9 (by kernel_rfl) rfl #[.pointer (some ⟨g149, 0, none⟩), .string (((⟨#[80, 82, 73, 32, 42, 32, 72, 84, 84, 80, 47, 50, 46, 48, 13, 10, 13, 10, 83, 77, 13, 10, 13, 10]⟩ : ByteArray).extract 5 (⟨#[80, 82, 73, 32, 42, 32, 72, 84, 84, 80, 47, 50, 46, 48, 13, 10, 13, 10, 83, 77, 13, 10, 13, 10]⟩ : ByteArray).size) ++ (⟨#[0, 0, 0, 4, 0, 0, 0, 0, 0]⟩ : ByteArray))] rfl (by (try simp only [List.map_toArray, List.map_cons, List.map_nil]); first | done | rfl | (simp only [List.length_drop, List.length_take]; rfl)) ?_; (with_reducible refine (feed_Feed_Add.calls k g149 t154 t155 t156 (((⟨#[80, 82, 73, 32, 42, 32, 72, 84, 84, 80, 47, 50, 46, 48, 13, 10, 13, 10, 83, 77, 13, 10, 13, 10]⟩ : ByteArray).extract 5 (⟨#[80, 82, 73, 32, 42, 32, 72, 84, 84, 80, 47, 50, 46, 48, 13, 10, 13, 10, 83, 77, 13, 10, 13, 10]⟩ : ByteArray).size) ++ (⟨#[0, 0, 0, 4, 0, 0, 0, 0, 0]⟩ : ByteArray)) t157 t160 t161 t162 t163 w _ ?side1 ?side2 A7.out).mono ?_); (case side1 => repeat (first | (with_reducible first | exact HI149.out | apply IsS43.alloc | apply IsS43.drewN | apply IsS43.drew | apply IsS43.set_0 | apply IsS43.set_1 | apply IsS43.set_2) | exact HI149.out | simp only [*])); (case side2 => repeat (first | (with_reducible first | exact HB.out | apply below_alloc | apply pw_below_drewN | apply below_drew1 | refine below_set ?_ (IsS43.ge HI149.out)) | exact HB.out)); rintro e w19 ⟨v158, rfl, ho0, hi, hb, hk⟩; refine ⟨_, rfl, ?_⟩; have n0_ := Aside0.mk (Kd.R_mono (Kd.R_told (Kd.R_oldK (IsS43.apart (show IsS43 w _ g149 t154 t155 t156 from by repeat (first | (with_reducible first | exact HI149.out | apply IsS43.alloc | apply IsS43.drewN | apply IsS43.drew | apply IsS43.set_0 | apply IsS43.set_1 | apply IsS43.set_2) | exact HI149.out | simp only [*])) (by (with_reducible repeat (first | apply Kd.R_alloc | apply Kd.R_drewN | apply Kd.R_drew)); exact HO152.out) (by decide)) hk) (Kd.R_base ho0)) (fun _ h_ => h_.1)); have n1_ := Aside0.mk (Kd.R_lower (Kd.R_new' ho0 (Kd.R_lt (by (with_reducible repeat (first | apply Kd.R_alloc | apply Kd.R_drewN | apply Kd.R_drew)); exact HO152.out))) (below_size (by repeat (first | (with_reducible first | exact HB.out | apply below_alloc | apply pw_below_drewN | apply below_drew1 | refine below_set ?_ (IsS43.ge HI149.out)) | exact HB.out)))); have n2_ := Aside0.mk (hb); have n3_ := Aside0.mk (hi); clear HO152; clear HB; clear HI149; have HO152 := n0_; have HO159 := n1_; have HB := n2_; have HI149 := n3_; clear n0_ n1_ n2_ n3_; (try clear hb); (try clear hb2); (try clear hk); (try clear hi); (try clear ho0); obtain ⟨Ao20, co20, eo20⟩ := Kd.R_slice HO152.out; subst eo20; obtain ⟨Ao21, co21, eo21⟩ := Kd.R_slice HO159.out; subst eo21; have p164 : 0 ≤ (0 : Int) := (by omega); have q164 : 0 < (t157.length : Int) := of_decide_eq_true (by first | (with_reducible assumption) | assumption); obtain ⟨ad164, e164, hx164_0, hx164_1, hx164_2, hx164_3⟩ := at_T40 (Kd.R_reads' HO159.out).2.2 0 p164 q164; cases e164; have qi164 : (0 < t157.length) = True := eq_true (by omega); (try rw [show ((0 : Int)).toNat = 0 from rfl] at hx164_0); (try rw [show 0 * 4 = 0 from rfl] at hx164_0); (try rw [Addr.add_zero'] at hx164_0); (try rw [show ((0 : Int)).toNat = 0 from rfl] at hx164_1); (try rw [show 0 * 4 = 0 from rfl] at hx164_1); (try rw [Addr.add_zero'] at hx164_1); (try rw [show ((0 : Int)).toNat = 0 from rfl] at hx164_2); (try rw [show 0 * 4 = 0 from rfl] at hx164_2); (try rw [Addr.add_zero'] at hx164_2); (try rw [show ((0 : Int)).toNat = 0 from rfl] at hx164_3); (try rw [show 0 * 4 = 0 from rfl] at hx164_3); (try rw [Addr.add_zero'] at hx164_3); replace p164 := eq_true p164; replace q164 := eq_true q164) | (go_at_call 11; (with_reducible refine (feed_Feed_Held.calls g149 t161 t162 t163 t165 t166 t167 t168 w _ ?side1 ?side2 A14.out).mono ?_); (case side1 => repeat (first | (with_reducible first | exact HI149.out | apply IsS43.alloc | apply IsS43.drewN | apply IsS43.drew | apply IsS43.set_0 | apply IsS43.set_1 | apply IsS43.set_2) | exact HI149.out | simp only [*])); (case side2 => repeat (first | (with_reducible first | exact HB.out | apply below_alloc | apply pw_below_drewN | apply below_drew1 | refine below_set ?_ (IsS43.ge HI149.out)) | exact HB.out)); rintro e w22 ⟨rfl, hi, hb, hk⟩; have n0_ := Aside0.mk (Kd.R_mono (Kd.R_keep (IsS43.apart (show IsS43 w _ g149 t161 t162 t163 from by repeat (first | (with_reducible first | exact HI149.out | apply IsS43.alloc | apply IsS43.drewN | apply IsS43.drew | apply IsS43.set_0 | apply IsS43.set_1 | apply IsS43.set_2) | exact HI149.out | simp only [*])) (by (with_reducible repeat (first | apply Kd.R_alloc | apply Kd.R_drewN | apply Kd.R_drew)); exact HO152.out) (by decide)) hk (fun _ h => h.2)) (fun _ h => h.1)); have n1_ := Aside0.mk (Kd.R_mono (Kd.R_keep (IsS43.apart (show IsS43 w _ g149 t161 t162 t163 from by repeat (first | (with_reducible first | exact HI149.out | apply IsS43.alloc | apply IsS43.drewN | apply IsS43.drew | apply IsS43.set_0 | apply IsS43.set_1 | apply IsS43.set_2) | exact HI149.out | simp only [*])) (by (with_reducible repeat (first | apply Kd.R_alloc | apply Kd.R_drewN | apply Kd.R_drew)); exact HO159.out) (by decide)) hk (fun _ h => h.2)) (fun _ h => h.1)); have n2_ := Aside0.mk (hb); have n3_ := Aside0.mk (hi); clear HO152; clear HO159; clear HB; clear HI149; have HO152 := n0_; have HO159 := n1_; have HB := n2_; have HI149 := n3_; clear n0_ n1_ n2_ n3_; (try clear hb); (try clear hb2); (try clear hk); (try clear hi)) | (go_at_call 10; (with_reducible refine (feed_Feed_Down.calls g149 t166 t167 t168 t169 t170 t171 t172 w _ ?side1 ?side2 A16.out).mono ?_); (case side1 => repeat (first | (with_reducible first | exact HI149.out | apply IsS43.alloc | apply IsS43.drewN | apply IsS43.drew | apply IsS43.set_0 | apply IsS43.set_1 | apply IsS43.set_2) | exact HI149.out | simp only [*])); (case side2 => repeat (first | (with_reducible first | exact HB.out | apply below_alloc | apply pw_below_drewN | apply below_drew1 | refine below_set ?_ (IsS43.ge HI149.out)) | exact HB.out)); rintro e w23 ⟨rfl, hi, hb, hk⟩; have n0_ := Aside0.mk (Kd.R_mono (Kd.R_keep (IsS43.apart (show IsS43 w _ g149 t166 t167 t168 from by repeat (first | (with_reducible first | exact HI149.out | apply IsS43.alloc | apply IsS43.drewN | apply IsS43.drew | apply IsS43.set_0 | apply IsS43.set_1 | apply IsS43.set_2) | exact HI149.out | simp only [*])) (by (with_reducible repeat (first | apply Kd.R_alloc | apply Kd.R_drewN | apply Kd.R_drew)); exact HO152.out) (by decide)) hk (fun _ h => h.2)) (fun _ h => h.1)); have n1_ := Aside0.mk (Kd.R_mono (Kd.R_keep (IsS43.apart (show IsS43 w _ g149 t166 t167 t168 from by repeat (first | (with_reducible first | exact HI149.out | apply IsS43.alloc | apply IsS43.drewN | apply IsS43.drew | apply IsS43.set_0 | apply IsS43.set_1 | apply IsS43.set_2) | exact HI149.out | simp only [*])) (by (with_reducible repeat (first | apply Kd.R_alloc | apply Kd.R_drewN | apply Kd.R_drew)); exact HO159.out) (by decide)) hk (fun _ h => h.2)) (fun _ h => h.1)); have n2_ := Aside0.mk (hb); have n3_ := Aside0.mk (hi); clear HO152; clear HO159; clear HB; clear HI149; have HO152 := n0_; have HO159 := n1_; have HB := n2_; have HI149 := n3_; clear n0_ n1_ n2_ n3_; (try clear hb); (try clear hb2); (try clear hk); (try clear hi)))
           go_ret
           exact ⟨by first | rfl | (simp [errW_none, errW_some] <;> rfl) | (simp [*, errW_none, errW_some] <;> rfl), by repeat (first | (with_reducible first | exact HB.out | apply below_alloc | apply pw_below_drewN | apply below_drew1 | refine below_set ?_ (IsS43.ge HI149.out)) | exact HB.out)⟩
          ·
           rw [if_neg c15] at H
           have c15b0 : (t165 == 0) = false := beq_eq_false_iff_ne.mpr c15
           have c15b1 : (t165 != 0) = true := bne_iff_ne.mpr c15
           exact absurd ((Option.some.inj H).trans HT.out) (by decide)
         ·
          rw [if_neg c13] at H
          have c13b0 : (t160 == 0) = false := beq_eq_false_iff_ne.mpr c13
          have c13b1 : (t160 != 0) = true := bne_iff_ne.mpr c13
          exact absurd ((Option.some.inj H).trans HT.out) (by decide)
        ·
         rw [if_neg c12] at H
         have c12b0 : (((rd_T40 t157 0).f0) == 4) = false := beq_eq_false_iff_ne.mpr c12
         have c12b1 : (((rd_T40 t157 0).f0) != 4) = true := bne_iff_ne.mpr c12
         exact absurd ((Option.some.inj H).trans HT.out) (by decide)
       ·
        rw [if_neg c11] at H
        exact absurd H (by simp)
      ·
       rw [if_neg c10] at H
       have c10b0 : ((t157.length : Int) == 1) = false := beq_eq_false_iff_ne.mpr c10
       have c10b1 : ((t157.length : Int) != 1) = true := bne_iff_ne.mpr c10
       exact absurd ((Option.some.inj H).trans HT.out) (by decide)
     ·
      rw [if_neg c9] at H
      have c9b0 : (t153 == 0) = false := beq_eq_false_iff_ne.mpr c9
      have c9b1 : (t153 != 0) = true := bne_iff_ne.mpr c9
      exact absurd ((Option.some.inj H).trans HT.out) (by decide)
    ·
     rw [if_neg c8] at H
     have c8b0 : ((t150.length : Int) == 0) = false := beq_eq_false_iff_ne.mpr c8
     have c8b1 : ((t150.length : Int) != 0) = true := bne_iff_ne.mpr c8
     have c8b2 : ¬ (t150 = []) := fun h_ => c8 (by rw [h_]; rfl)
     exact absurd ((Option.some.inj H).trans HT.out) (by decide)
   ·
    rw [if_neg c6] at H
    exact absurd H (by simp)
  ·
   rw [if_neg c3] at H
   exact absurd H (by simp)
 ·
  rw [if_neg c2] at H
  exact absurd H (by simp)

/-! ### nunciolaw15_Few: function 7 -/
def nunciolaw15_Few.l0 : Nat → List ByteArray → Int → Int → Option (Bool)
 | 0, _, _, _ => none
 | k + 1, x0, x3, x4 => if x4 < (x0.length : Int) then (if x3 < 60000 then (if 0 ≤ x4 then (nunciolaw15_Few.l0 k x0 (wrap64 (x3 + (mn ((rdOf ByteArray.empty x0 x4).size : Int) 60000))) (wrap64 (x4 + 1))) else (none)) else (some (decide (x3 < 60000)))) else (some (decide (x3 < 60000)))
def nunciolaw15_Few.f (k : Nat) (l0 : List ByteArray) : Option (Bool) := nunciolaw15_Few.l0 k l0 (mn (l0.length : Int) 60000) 0
theorem nunciolaw15_Few.mono_l : ∀ k, (∀ y0 y1 y2, LeO (nunciolaw15_Few.l0 k y0 y1 y2) (nunciolaw15_Few.l0 (k + 1) y0 y1 y2))
 | 0 => fun _ _ _ r h => by simp [nunciolaw15_Few.l0] at h
 | k + 1 => by
  have ih0 := nunciolaw15_Few.mono_l k
  ·
   intro y0 y1 y2
   unfold nunciolaw15_Few.l0
   repeat' first
   | (with_reducible exact ih0 _ _ _)
   | (with_reducible exact LeO.refl _)
   | (with_reducible exact LeO.none _)
   | (with_reducible refine LeO.ite ?_ ?_)
   | (with_reducible refine LeO.bind ?_ (fun _ => ?_))
   | exact ih0 _ _ _
   | exact LeO.none _
   | refine LeO.ite ?_ ?_
   | refine LeO.bind ?_ (fun _ => ?_)
theorem nunciolaw15_Few.mono : ∀ a0 k, LeO (nunciolaw15_Few.f k a0) (nunciolaw15_Few.f (k + 1) a0) := by
 intro a0 k
 have ih0 := nunciolaw15_Few.mono_l k
 unfold nunciolaw15_Few.f
 repeat' first
   | (with_reducible exact ih0 _ _ _)
   | (with_reducible exact LeO.refl _)
   | (with_reducible exact LeO.none _)
   | (with_reducible refine LeO.ite ?_ ?_)
   | (with_reducible refine LeO.bind ?_ (fun _ => ?_))
   | exact ih0 _ _ _
   | exact LeO.none _
   | refine LeO.ite ?_ ?_
   | refine LeO.bind ?_ (fun _ => ?_)
set_option maxHeartbeats 8000000 in
set_option maxRecDepth 100000 in
theorem nunciolaw15_Few.calls (k : Nat) (A0 : Option Addr) (c0 : Nat) (l0 : List ByteArray) (r : Bool) (w : World) (hr0 : Kd.C Kd.string w A0 l0.length l0) (hc0 : l0.length ≤ c0) (h : nunciolaw15_Few.f k l0 = some r) :
  Calls Try.prog 7 #[.slice A0 l0.length c0] w fun e w' => e = .returned (.bool r) ∧ Below w.heap.size w w' := by
 have HR0 := Aside0.mk hr0
 have HC0 := Aside0.mk hc0
 clear hr0 hc0
 have HB := Aside0.mk (Below.refl w.heap.size w)
 have H : (nunciolaw15_Few.l0 k l0 (mn (l0.length : Int) 60000) 0) = some r := h
 clear h
 obtain ⟨ji2, hji2⟩ : ∃ j_ : Int, (mn (l0.length : Int) 60000) = j_ := ⟨_, rfl⟩
 replace H : (nunciolaw15_Few.l0 k l0 ji2 0) = some r := by first | (rw [hji2] at H; exact H) | (simp only [hji2] at H ⊢; exact H)
 (try (have hji2h : ji2 ≤ 60000 := by (rw [← hji2]; unfold mn; (repeat' split) <;> omega)))
 (try (have hji2g : ji2 ≤ 64 := by omega))
 (try (have hji2l : 0 ≤ ji2 := by (rw [← hji2]; unfold mn; (repeat' split) <;> omega)))
 (try (have hji2m : 0 ≤ ji2 := by omega))
 have hji2_ : (if 60000 < (l0.length : Int) then 60000 else (l0.length : Int)) = ji2 := hji2
 have H' := Aside0.mk H
 clear H
 go_enter Try.func7, Try.ntmps7
 go_wp2
 go_loopg [3, 4] k (fun kq v3 v4 w' => ∃ (x3_1 : Int) (x4_1 : Int), v3 = .int .i64 x3_1 ∧ v4 = .int .i64 x4_1 ∧ Aside0 (nunciolaw15_Few.l0 kq l0 x3_1 x4_1 = some r) ∧ Aside0 (kq ≤ k) ∧ Aside0 (Below w.heap.size w w'))
 case atStart => exact ⟨(ji2), (0), (by first | rfl | (simp; done) | (simp only [← hji2] <;> (first | rfl | simp)) | (simp [*]; done)), (by first | rfl | (simp; done) | (simp [*]; done)), H', ⟨Nat.le_refl _⟩, ⟨by repeat (first | (with_reducible first | exact HB.out | apply below_alloc | apply pw_below_drewN | apply below_drew1) | exact HB.out)⟩⟩
 case round =>
  clear H'
  try clear p2
  obtain ⟨x3_1, x4_1, rfl, rfl, HA, HK1, HB⟩ := hrel
  cases gk with
  | zero => exact absurd HA.out (by simp [nunciolaw15_Few.l0])
  | succ k1 =>
   have H := HA.out
   clear HA
   simp only [nunciolaw15_Few.l0] at H
   by_cases c3 : x4_1 < (l0.length : Int)
   ·
    rw [if_pos c3] at H
    have c3b0 : decide (x4_1 < (l0.length : Int)) = true := decide_eq_true c3
    clear c3
    by_cases c4 : x3_1 < 60000
    ·
     rw [if_pos c4] at H
     have c4b0 : decide (x3_1 < 60000) = true := decide_eq_true c4
     clear c4
     by_cases c5 : 0 ≤ x4_1
     ·
      rw [if_pos c5] at H
      have c5b0 : decide (0 ≤ x4_1) = true := decide_eq_true c5
      clear c5
      obtain ⟨ji6, hji6⟩ : ∃ j_ : Int, (mn ((rdOf ByteArray.empty l0 x4_1).size : Int) 60000) = j_ := ⟨_, rfl⟩
      replace H : (nunciolaw15_Few.l0 k1 l0 (wrap64 (x3_1 + (ji6))) (wrap64 (x4_1 + 1))) = some r := by first | (rw [hji6] at H; exact H) | (simp only [hji6] at H ⊢; exact H)
      have hji6_ : (if 60000 < ((rdOf ByteArray.empty l0 x4_1).size : Int) then 60000 else ((rdOf ByteArray.empty l0 x4_1).size : Int)) = ji6 := hji6
      have H' := Aside0.mk H
      clear H
      have p173 : 0 ≤ (x4_1 : Int) := of_decide_eq_true (by first | (with_reducible assumption) | assumption)
      have q173 : x4_1 < (l0.length : Int) := of_decide_eq_true (by first | (with_reducible assumption) | assumption)
      obtain ⟨ad173, e173, hx173_0⟩ := Kd.at_string HR0.out x4_1 p173 q173
      cases e173
      replace hx173_0 := (HB.out.cell (World.block_lt_of_cell? w _ hx173_0)).trans hx173_0
      replace p173 := eq_true p173
      replace q173 := eq_true q173
      go_wp2
      go_roundg k1
      case measure => have := HK1.out; omega
      case rel => exact ⟨(wrap64 (x3_1 + (ji6))), (wrap64 (x4_1 + 1)), (by first | rfl | (simp; done) | (simp only [← hji6] <;> (first | rfl | simp)) | (simp [*]; done)), (by first | rfl | (simp; done) | (simp [*]; done)), H', ⟨by have := HK1.out; omega⟩, ⟨by repeat (first | (with_reducible first | exact HB.out | apply below_alloc | apply pw_below_drewN | apply below_drew1) | exact HB.out)⟩⟩
     ·
      rw [if_neg c5] at H
      exact absurd H (by simp)
    ·
     rw [if_neg c4] at H
     have c4b0 : decide (x3_1 < 60000) = false := decide_eq_false c4
     clear c4
     obtain rfl := Option.some.inj H
     go_wp2
     go_ret
     exact ⟨by first | rfl | (simp [errW_none, errW_some] <;> rfl) | (simp only [← hji2]; first | rfl | (simp [errW_none, errW_some] <;> rfl)) | (simp [*, errW_none, errW_some] <;> rfl), by repeat (first | (with_reducible first | exact HB.out | apply below_alloc | apply pw_below_drewN | apply below_drew1) | exact HB.out)⟩
   ·
    rw [if_neg c3] at H
    have c3b0 : decide (x4_1 < (l0.length : Int)) = false := decide_eq_false c3
    clear c3
    obtain rfl := Option.some.inj H
    go_wp2
    go_ret
    exact ⟨by first | rfl | (simp [errW_none, errW_some] <;> rfl) | (simp only [← hji2]; first | rfl | (simp [errW_none, errW_some] <;> rfl)) | (simp [*, errW_none, errW_some] <;> rfl), by repeat (first | (with_reducible first | exact HB.out | apply below_alloc | apply pw_below_drewN | apply below_drew1) | exact HB.out)⟩

/-! ### nuncioref01_Part: function 28 -/
def nuncioref01_Part.f (a0 : ByteArray) (a1 : Int) (a2 : Int) : Option (ByteArray × Bool) := if a1 < 0 then (some ((⟨#[]⟩ : ByteArray), false)) else (if a2 < 0 then (some ((⟨#[]⟩ : ByteArray), false)) else (if a1 > (a0.size : Int) then (some ((⟨#[]⟩ : ByteArray), false)) else (if a2 > (wrap64 ((a0.size : Int) - a1)) then (some ((⟨#[]⟩ : ByteArray), false)) else (if 0 ≤ a1 then (if a1 ≤ (wrap64 (a1 + a2)) then (if (wrap64 (a1 + a2)) ≤ (a0.size : Int) then (some (a0.extract (a1 : Int).toNat ((wrap64 (a1 + a2)) : Int).toNat, true)) else (none)) else (none)) else (none)))))
set_option maxHeartbeats 8000000 in
set_option maxRecDepth 100000 in
theorem nuncioref01_Part.calls (a0 : ByteArray) (a1 : Int) (a2 : Int) (r1 : ByteArray) (r2 : Bool) (w : World) (h : nuncioref01_Part.f a0 a1 a2 = some (r1, r2)) :
  Calls Try.prog 28 #[.string a0, .int .i64 a1, .int .i64 a2] w fun e w' => e = .returned (.tuple #[.string r1, .bool r2]) ∧ Drawn0 w w' := by
 have H : (if a1 < 0 then (some ((⟨#[]⟩ : ByteArray), false)) else (if a2 < 0 then (some ((⟨#[]⟩ : ByteArray), false)) else (if a1 > (a0.size : Int) then (some ((⟨#[]⟩ : ByteArray), false)) else (if a2 > (wrap64 ((a0.size : Int) - a1)) then (some ((⟨#[]⟩ : ByteArray), false)) else (if 0 ≤ a1 then (if a1 ≤ (wrap64 (a1 + a2)) then (if (wrap64 (a1 + a2)) ≤ (a0.size : Int) then (some (a0.extract (a1 : Int).toNat ((wrap64 (a1 + a2)) : Int).toNat, true)) else (none)) else (none)) else (none)))))) = some (r1, r2) := h
 clear h
 by_cases c4 : a1 < 0
 ·
  rw [if_pos c4] at H
  have c4b0 : decide (a1 < 0) = true := decide_eq_true c4
  clear c4
  simp only [Option.some.injEq, Prod.mk.injEq] at H
  obtain ⟨rfl, rfl⟩ := H
  go_enter Try.func28, Try.ntmps28
  go_wp2
  go_ret2
  exact ⟨by first | rfl | (simp; done) | (simp [*]; done), by repeat (first | exact Drawn0.refl _ | apply Drawn0.step)⟩
 ·
  rw [if_neg c4] at H
  have c4b0 : decide (a1 < 0) = false := decide_eq_false c4
  clear c4
  by_cases c5 : a2 < 0
  ·
   rw [if_pos c5] at H
   have c5b0 : decide (a2 < 0) = true := decide_eq_true c5
   clear c5
   simp only [Option.some.injEq, Prod.mk.injEq] at H
   obtain ⟨rfl, rfl⟩ := H
   go_enter Try.func28, Try.ntmps28
   go_wp2
   go_ret2
   exact ⟨by first | rfl | (simp; done) | (simp [*]; done), by repeat (first | exact Drawn0.refl _ | apply Drawn0.step)⟩
  ·
   rw [if_neg c5] at H
   have c5b0 : decide (a2 < 0) = false := decide_eq_false c5
   clear c5
   by_cases c6 : a1 > (a0.size : Int)
   ·
    rw [if_pos c6] at H
    have c6b0 : decide ((a0.size : Int) < a1) = true := decide_eq_true c6
    clear c6
    simp only [Option.some.injEq, Prod.mk.injEq] at H
    obtain ⟨rfl, rfl⟩ := H
    go_enter Try.func28, Try.ntmps28
    go_wp2
    go_ret2
    exact ⟨by first | rfl | (simp; done) | (simp [*]; done), by repeat (first | exact Drawn0.refl _ | apply Drawn0.step)⟩
   ·
    rw [if_neg c6] at H
    have c6b0 : decide ((a0.size : Int) < a1) = false := decide_eq_false c6
    clear c6
    by_cases c7 : a2 > (wrap64 ((a0.size : Int) - a1))
    ·
     rw [if_pos c7] at H
     have c7b0 : decide ((wrap64 ((a0.size : Int) - a1)) < a2) = true := decide_eq_true c7
     clear c7
     simp only [Option.some.injEq, Prod.mk.injEq] at H
     obtain ⟨rfl, rfl⟩ := H
     go_enter Try.func28, Try.ntmps28
     go_wp2
     go_ret2
     exact ⟨by first | rfl | (simp; done) | (simp [*]; done), by repeat (first | exact Drawn0.refl _ | apply Drawn0.step)⟩
    ·
     rw [if_neg c7] at H
     have c7b0 : decide ((wrap64 ((a0.size : Int) - a1)) < a2) = false := decide_eq_false c7
     clear c7
     by_cases c8 : 0 ≤ a1
     ·
      rw [if_pos c8] at H
      have c8b0 := eq_true c8
      have c8b1 : decide (0 ≤ a1) = true := decide_eq_true c8
      clear c8
      by_cases c9 : a1 ≤ (wrap64 (a1 + a2))
      ·
       rw [if_pos c9] at H
       have c9b0 := eq_true c9
       have c9b1 : decide (a1 ≤ (wrap64 (a1 + a2))) = true := decide_eq_true c9
       by_cases c10 : (wrap64 (a1 + a2)) ≤ (a0.size : Int)
       ·
        rw [if_pos c10] at H
        have c10b0 := eq_true c10
        have c10b1 : decide ((wrap64 (a1 + a2)) ≤ (a0.size : Int)) = true := decide_eq_true c10
        simp only [Option.some.injEq, Prod.mk.injEq] at H
        obtain ⟨rfl, rfl⟩ := H
        go_enter Try.func28, Try.ntmps28
        go_wp2
        go_ret2
        exact ⟨by first | rfl | (simp; done) | (simp [*]; done), by repeat (first | exact Drawn0.refl _ | apply Drawn0.step)⟩
       ·
        rw [if_neg c10] at H
        exact absurd H (by simp)
      ·
       rw [if_neg c9] at H
       exact absurd H (by simp)
     ·
      rw [if_neg c8] at H
      exact absurd H (by simp)

end Go.Proofs.Ytlglgfcdhflecaa.Mine
