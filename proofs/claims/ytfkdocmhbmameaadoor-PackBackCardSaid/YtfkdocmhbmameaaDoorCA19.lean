/- The walks and the plain laws that the rows come to: merged out of this repo's texts. -/
import Derived.Test.YtfkdocmhbmameaaDoorProg
import Derived.Below
import Derived.Deep.Draws
import Derived.Deep.AppendLies
import Derived.Maps.AppendAt
import Derived.OwnWalk
import Derived.Laws.BytesArg
import Derived.Laws.MakeOwn
import Derived.Laws.OwnMore
import Derived.Deep.OwnRows
import Derived.Tactics
import Derived.Lib.ConvBytes
import Derived.Laws.Slices
import Derived.WalkKit
import Derived.KernelRfl
import Derived.RowKit3
import Derived.Deep.LoopGhost
import Derived.Deep.QuietTactic
import Derived.BigQuiet
import Derived.WideLaws
import Derived.Deep.DeepCutAuto
import Derived.Deep.CutBlock
import Derived.Deep.RegionHeld3
import Derived.Laws.Rows
import Derived.Lib.AppendStr
import Derived.ArgAppend
import Derived.Laws.IdiomCopy
import Derived.RowKit
import Derived.OrdersHeld
import Derived.Laws.BitsLemmas
import Derived.Laws.StructEq
import Derived.Laws.CopyOwn
import Derived.SizedLaws
import Derived.ChangeSlices
import Derived.Deep.Slices
import Derived.Lib.SmallJoins
import Derived.Lib.OthersKept
import Derived.Lib.AppendZerosOnto
import Derived.WalkSpells
import Derived.Shelf.Utf8.RuneCount
import Derived.Shelf.Strings.Search1
import Derived.Shelf.Strings.Search2
import Derived.Shelf.Strings.Search3
import Derived.Shelf.Strings.Cut
import Derived.Shelf.Strings.Count
import Derived.Shelf.LaysM
import Derived.Shelf.Strings.Shaped
import Derived.Shelf.Strings.Split
import Derived.Shelf.Strings.SplitShaped
import Derived.Shelf.Unicode.Decode
import Derived.Shelf.Strings.RuneCount
import Derived.Shelf.Strings.Explode
import Derived.Shelf.Unicode.DecodeSlow
import Derived.Shelf.Unicode.DecodeAny
import Derived.Recover
import Derived.WalkLawsBesides
import Derived.Test.YtfkdocmhbmameaaDoorCA1
import Derived.Test.YtfkdocmhbmameaaDoorCA2
import Derived.Test.YtfkdocmhbmameaaDoorCA3
import Derived.Test.YtfkdocmhbmameaaDoorCA4
import Derived.Test.YtfkdocmhbmameaaDoorCA5
import Derived.Test.YtfkdocmhbmameaaDoorCA6
import Derived.Test.YtfkdocmhbmameaaDoorCA7
import Derived.Test.YtfkdocmhbmameaaDoorCA8
import Derived.Test.YtfkdocmhbmameaaDoorCA9
import Derived.Test.YtfkdocmhbmameaaDoorCA10
import Derived.Test.YtfkdocmhbmameaaDoorCA11
import Derived.Test.YtfkdocmhbmameaaDoorCA12
import Derived.Test.YtfkdocmhbmameaaDoorCA13
import Derived.Test.YtfkdocmhbmameaaDoorCA14
import Derived.Test.YtfkdocmhbmameaaDoorCA15
import Derived.Test.YtfkdocmhbmameaaDoorCA16
import Derived.Test.YtfkdocmhbmameaaDoorCA17
import Derived.Test.YtfkdocmhbmameaaDoorCA18
namespace Go.Proofs.YtfkdocmhbmameaaDoor.Mine
open Go.RowKit Go.Proofs.YtfkdocmhbmameaaDoorW.PrintWords Go.Proofs.YtfkdocmhbmameaaDoorW.PrintLast Go.Proofs.YtfkdocmhbmameaaDoorW.PrintMore
attribute [local go_sem] max2_int min2_int max_two min_two max_three min_three max_four min_four
set_option linter.unusedVariables false
set_option linter.unusedSimpArgs false
attribute [local go_sem high] eqA26
def nunciolaw12_awake.f (k : Nat)  : Option (Bool) := (unpack_New.f).bind fun t385 => ((unpack_Decoder_Read.f k t385 (⟨#[130, 134, 132, 65, 15, 119, 119, 119, 46, 101, 120, 97, 109, 112, 108, 101, 46, 99, 111, 109]⟩ : ByteArray)).bind fun bt387 => ((unpack_Decoder_Read.f k bt387.2.2 (⟨#[130, 134, 132, 190, 88, 8, 110, 111, 45, 99, 97, 99, 104, 101]⟩ : ByteArray)).bind fun bt392 => (if (bt387.1.length : Int) = 4 then (if bt387.2.1 = 0 then (if 3 < (bt387.1.length : Int) then (if ((rd_T26 bt387.1 3).f1).toList = ([119, 119, 119, 46, 101, 120, 97, 109, 112, 108, 101, 46, 99, 111, 109] : List UInt8) then (if (bt392.1.length : Int) = 5 then (if bt392.2.1 = 0 then (if 3 < (bt392.1.length : Int) then (if ((((rd_T26 bt392.1 3).f0).toList) == (((rd_T26 bt387.1 3).f0).toList) && ((((rd_T26 bt392.1 3).f1).toList) == (((rd_T26 bt387.1 3).f1).toList) && (((rd_T26 bt392.1 3).f2) == ((rd_T26 bt387.1 3).f2)))) = true then (if 4 < (bt392.1.length : Int) then (if ((rd_T26 bt392.1 4).f0).toList = ([99, 97, 99, 104, 101, 45, 99, 111, 110, 116, 114, 111, 108] : List UInt8) then ((unpack_Decoder_Down.f bt392.2.2).bind fun bt401 => (some (!bt401.1))) else (some false)) else (none)) else (some false)) else (none)) else (some false)) else (some false)) else (some false)) else (none)) else (some false)) else (some false))))
theorem nunciolaw12_awake.mono : ∀ k, LeO (nunciolaw12_awake.f k ) (nunciolaw12_awake.f (k + 1) ) := by
 intro  k
 unfold nunciolaw12_awake.f
 repeat' first
   | (with_reducible exact unpack_Decoder_Read.mono _ _ _)
   | (with_reducible exact LeO.refl _)
   | (with_reducible exact LeO.none _)
   | (with_reducible refine LeO.ite ?_ ?_)
   | (with_reducible refine LeO.bind ?_ (fun _ => ?_))
   | exact unpack_Decoder_Read.mono _ _ _
   | exact LeO.none _
   | refine LeO.ite ?_ ?_
   | refine LeO.bind ?_ (fun _ => ?_)
def nunciolaw12_awake.T6 : Bool × List (List Nat × List Nat) := (true, [([], []), ([0], [0]), ([1], [1]), ([2], [2]), ([3], [3]), ([4, 3], [3, 4]), ([3, 5], [3, 5]), ([6, 3], [6]), ([7], [7]), ([8, 7], [7, 8]), ([9, 7], [7, 9]), ([10, 7], [7, 10]), ([11, 7], [7, 11]), ([7, 12], [7, 12]), ([13, 7], [13]), ([14], [14]), ([15, 14], [14, 15]), ([16, 14], [14, 16]), ([14, 17], [14, 17]), ([18, 14], [18]), ([19], [19]), ([20, 19], [19, 20]), ([19, 21], [19, 21]), ([22, 19], [22]), ([23], [23]), ([24, 23], [23, 24]), ([25, 23], [23, 25]), ([23], [23]), ([27, 23], [23, 27]), ([28, 23], [23, 28]), ([26, 29, 23], [23, 26, 29]), ([23, 30], [23, 30]), ([31, 23], [31]), ([32], [32]), ([33, 32], [32, 33]), ([34, 32], [32, 34]), ([35, 32], [32, 35]), ([36, 32], [32, 36]), ([32, 37], [32, 37]), ([38, 32], [38]), ([39], [39]), ([40, 39, 39], [39, 40]), ([41, 39], [39, 41]), ([39, 42], [39, 42]), ([43, 41, 0, 1, 2, 3, 4, 5, 6, 7, 8, 9, 10, 11, 12, 13, 14, 15, 16, 17, 18, 19, 20, 21, 22, 23, 24, 25, 26, 27, 28, 29, 30, 31, 32, 33, 34, 35, 36, 37, 38, 39, 40, 41, 42, 43], [43])])
def nunciolaw12_awake.B6 : List Nat := [0, 1, 3, 7, 15, 31, 63, 127, 255, 511, 1023, 2047, 4095, 8191, 16383, 32767, 65535, 131071, 262143, 524287, 1048575, 2097151, 4194303, 8388607, 16777215, 33554431, 67108863, 16777215, 150994943, 419430399, 1073741823, 2147483647, 4294967295, 8589934591, 17179869183, 34359738367, 68719476735, 137438953471, 274877906943, 549755813887, 1099511627775, 2199023255551, 4398046511103, 8796093022207, 17592186044415]
theorem nunciolaw12_awake.tab6 : rtab .any (opsOf Tryd.f21 6) = nunciolaw12_awake.T6 := by kernel_rfl
theorem nunciolaw12_awake.bits6 : waitsOk nunciolaw12_awake.T6.2 nunciolaw12_awake.B6 = true := by kernel_rfl
set_option maxHeartbeats 8000000 in
set_option maxRecDepth 100000 in
theorem nunciolaw12_awake.calls (k : Nat)  (r : Bool) (w : World) (hE : EnvW w) (h : nunciolaw12_awake.f k  = some r) :
  Calls Tryd.prog 21 #[] w fun e w' => e = .returned (.bool r) ∧ Below w.heap.size w w' := by
 have hu26 := Tryd.underlying26
 have HB := Aside0.mk (Below.refl w.heap.size w)
 have HEnv := Aside0.mk hE
 clear hE
 have HT : Aside0 (r = true) := ⟨Option.some.inj ((at_rounds nunciolaw12_awake.mono (Nat.le_max_left k 400) h).symm.trans (at_rounds nunciolaw12_awake.mono (Nat.le_max_right k 400) (nunciolaw12_awake_t : nunciolaw12_awake.f 400 = some true)))⟩
 have H : ((unpack_New.f).bind fun t385 => ((unpack_Decoder_Read.f k t385 (⟨#[130, 134, 132, 65, 15, 119, 119, 119, 46, 101, 120, 97, 109, 112, 108, 101, 46, 99, 111, 109]⟩ : ByteArray)).bind fun bt387 => ((unpack_Decoder_Read.f k bt387.2.2 (⟨#[130, 134, 132, 190, 88, 8, 110, 111, 45, 99, 97, 99, 104, 101]⟩ : ByteArray)).bind fun bt392 => (if (bt387.1.length : Int) = 4 then (if bt387.2.1 = 0 then (if 3 < (bt387.1.length : Int) then (if ((rd_T26 bt387.1 3).f1).toList = ([119, 119, 119, 46, 101, 120, 97, 109, 112, 108, 101, 46, 99, 111, 109] : List UInt8) then (if (bt392.1.length : Int) = 5 then (if bt392.2.1 = 0 then (if 3 < (bt392.1.length : Int) then (if ((((rd_T26 bt392.1 3).f0).toList) == (((rd_T26 bt387.1 3).f0).toList) && ((((rd_T26 bt392.1 3).f1).toList) == (((rd_T26 bt387.1 3).f1).toList) && (((rd_T26 bt392.1 3).f2) == ((rd_T26 bt387.1 3).f2)))) = true then (if 4 < (bt392.1.length : Int) then (if ((rd_T26 bt392.1 4).f0).toList = ([99, 97, 99, 104, 101, 45, 99, 111, 110, 116, 114, 111, 108] : List UInt8) then ((unpack_Decoder_Down.f bt392.2.2).bind fun bt401 => (some (!bt401.1))) else (some false)) else (none)) else (some false)) else (none)) else (some false)) else (some false)) else (some false)) else (none)) else (some false)) else (some false))))) = some r := h
 clear h
 replace H := Option.bind_eq_some_iff.mp H
 obtain ⟨t385, A10, H⟩ := H
 replace H : ((unpack_Decoder_Read.f k t385 (⟨#[130, 134, 132, 65, 15, 119, 119, 119, 46, 101, 120, 97, 109, 112, 108, 101, 46, 99, 111, 109]⟩ : ByteArray)).bind fun bt387 => ((unpack_Decoder_Read.f k bt387.2.2 (⟨#[130, 134, 132, 190, 88, 8, 110, 111, 45, 99, 97, 99, 104, 101]⟩ : ByteArray)).bind fun bt392 => (if (bt387.1.length : Int) = 4 then (if bt387.2.1 = 0 then (if 3 < (bt387.1.length : Int) then (if ((rd_T26 bt387.1 3).f1).toList = ([119, 119, 119, 46, 101, 120, 97, 109, 112, 108, 101, 46, 99, 111, 109] : List UInt8) then (if (bt392.1.length : Int) = 5 then (if bt392.2.1 = 0 then (if 3 < (bt392.1.length : Int) then (if ((((rd_T26 bt392.1 3).f0).toList) == (((rd_T26 bt387.1 3).f0).toList) && ((((rd_T26 bt392.1 3).f1).toList) == (((rd_T26 bt387.1 3).f1).toList) && (((rd_T26 bt392.1 3).f2) == ((rd_T26 bt387.1 3).f2)))) = true then (if 4 < (bt392.1.length : Int) then (if ((rd_T26 bt392.1 4).f0).toList = ([99, 97, 99, 104, 101, 45, 99, 111, 110, 116, 114, 111, 108] : List UInt8) then ((unpack_Decoder_Down.f bt392.2.2).bind fun bt401 => (some (!bt401.1))) else (some false)) else (none)) else (some false)) else (none)) else (some false)) else (some false)) else (some false)) else (none)) else (some false)) else (some false)))) = some r := H
 have A1 := Aside0.mk A10
 clear A10
 replace H := Option.bind_eq_some_iff.mp H
 obtain ⟨⟨t387, t390, t391⟩, A20, H⟩ := H
 replace H : ((unpack_Decoder_Read.f k t391 (⟨#[130, 134, 132, 190, 88, 8, 110, 111, 45, 99, 97, 99, 104, 101]⟩ : ByteArray)).bind fun bt392 => (if (t387.length : Int) = 4 then (if t390 = 0 then (if 3 < (t387.length : Int) then (if ((rd_T26 t387 3).f1).toList = ([119, 119, 119, 46, 101, 120, 97, 109, 112, 108, 101, 46, 99, 111, 109] : List UInt8) then (if (bt392.1.length : Int) = 5 then (if bt392.2.1 = 0 then (if 3 < (bt392.1.length : Int) then (if ((((rd_T26 bt392.1 3).f0).toList) == (((rd_T26 t387 3).f0).toList) && ((((rd_T26 bt392.1 3).f1).toList) == (((rd_T26 t387 3).f1).toList) && (((rd_T26 bt392.1 3).f2) == ((rd_T26 t387 3).f2)))) = true then (if 4 < (bt392.1.length : Int) then (if ((rd_T26 bt392.1 4).f0).toList = ([99, 97, 99, 104, 101, 45, 99, 111, 110, 116, 114, 111, 108] : List UInt8) then ((unpack_Decoder_Down.f bt392.2.2).bind fun bt401 => (some (!bt401.1))) else (some false)) else (none)) else (some false)) else (none)) else (some false)) else (some false)) else (some false)) else (none)) else (some false)) else (some false))) = some r := H
 have A2 := Aside0.mk A20
 clear A20
 replace H := Option.bind_eq_some_iff.mp H
 obtain ⟨⟨t392, t395, t396⟩, A30, H⟩ := H
 replace H : (if (t387.length : Int) = 4 then (if t390 = 0 then (if 3 < (t387.length : Int) then (if ((rd_T26 t387 3).f1).toList = ([119, 119, 119, 46, 101, 120, 97, 109, 112, 108, 101, 46, 99, 111, 109] : List UInt8) then (if (t392.length : Int) = 5 then (if t395 = 0 then (if 3 < (t392.length : Int) then (if ((((rd_T26 t392 3).f0).toList) == (((rd_T26 t387 3).f0).toList) && ((((rd_T26 t392 3).f1).toList) == (((rd_T26 t387 3).f1).toList) && (((rd_T26 t392 3).f2) == ((rd_T26 t387 3).f2)))) = true then (if 4 < (t392.length : Int) then (if ((rd_T26 t392 4).f0).toList = ([99, 97, 99, 104, 101, 45, 99, 111, 110, 116, 114, 111, 108] : List UInt8) then ((unpack_Decoder_Down.f t396).bind fun bt401 => (some (!bt401.1))) else (some false)) else (none)) else (some false)) else (none)) else (some false)) else (some false)) else (some false)) else (none)) else (some false)) else (some false)) = some r := H
 have A3 := Aside0.mk A30
 clear A30
 by_cases c4 : (t387.length : Int) = 4
 ·
  rw [if_pos c4] at H
  have c4b0 : ((t387.length : Int) == 4) = true := beq_iff_eq.mpr c4
  have c4b1 : ((t387.length : Int) != 4) = false := bne_eq_false_iff_eq.mpr c4
  clear c4
  by_cases c5 : t390 = 0
  ·
   rw [if_pos c5] at H
   have c5b0 : (t390 == 0) = true := beq_iff_eq.mpr c5
   have c5b1 : (t390 != 0) = false := bne_eq_false_iff_eq.mpr c5
   clear c5
   by_cases c6 : 3 < (t387.length : Int)
   ·
    rw [if_pos c6] at H
    have c6b0 : decide (3 < (t387.length : Int)) = true := decide_eq_true c6
    have c6b1 : decide (3 < t387.length) = true := decide_eq_true (by omega)
    clear c6
    by_cases c7 : ((rd_T26 t387 3).f1).toList = ([119, 119, 119, 46, 101, 120, 97, 109, 112, 108, 101, 46, 99, 111, 109] : List UInt8)
    ·
     rw [if_pos c7] at H
     have c7b0 : (((rd_T26 t387 3).f1).toList == ([119, 119, 119, 46, 101, 120, 97, 109, 112, 108, 101, 46, 99, 111, 109] : List UInt8)) = true := beq_iff_eq.mpr c7
     have c7b1 : (((rd_T26 t387 3).f1).toList != ([119, 119, 119, 46, 101, 120, 97, 109, 112, 108, 101, 46, 99, 111, 109] : List UInt8)) = false := bne_eq_false_iff_eq.mpr c7
     clear c7
     by_cases c8 : (t392.length : Int) = 5
     ·
      rw [if_pos c8] at H
      have c8b0 : ((t392.length : Int) == 5) = true := beq_iff_eq.mpr c8
      have c8b1 : ((t392.length : Int) != 5) = false := bne_eq_false_iff_eq.mpr c8
      clear c8
      by_cases c9 : t395 = 0
      ·
       rw [if_pos c9] at H
       have c9b0 : (t395 == 0) = true := beq_iff_eq.mpr c9
       have c9b1 : (t395 != 0) = false := bne_eq_false_iff_eq.mpr c9
       clear c9
       by_cases c10 : 3 < (t392.length : Int)
       ·
        rw [if_pos c10] at H
        have c10b0 : decide (3 < (t392.length : Int)) = true := decide_eq_true c10
        have c10b1 : decide (3 < t392.length) = true := decide_eq_true (by omega)
        clear c10
        by_cases c11 : ((((rd_T26 t392 3).f0).toList) == (((rd_T26 t387 3).f0).toList) && ((((rd_T26 t392 3).f1).toList) == (((rd_T26 t387 3).f1).toList) && (((rd_T26 t392 3).f2) == ((rd_T26 t387 3).f2)))) = true
        ·
         rw [if_pos c11] at H
         have c11b0 : ((((rd_T26 t392 3).f0).toList) == (((rd_T26 t387 3).f0).toList) && ((((rd_T26 t392 3).f1).toList) == (((rd_T26 t387 3).f1).toList) && (((rd_T26 t392 3).f2) == ((rd_T26 t387 3).f2)))) = true := c11
         (try (have c11b1 : decide ((((rd_T26 t392 3).f0).toList) = (((rd_T26 t387 3).f0).toList) && ((((rd_T26 t392 3).f1).toList) == (((rd_T26 t387 3).f1).toList) && (((rd_T26 t392 3).f2) == ((rd_T26 t387 3).f2)))) = true := by simpa using c11))
         (try (have c11b2 : ((((rd_T26 t392 3).f0).toList) == (((rd_T26 t387 3).f0).toList) && ((((rd_T26 t392 3).f1).toList) == (((rd_T26 t387 3).f1).toList) && (((rd_T26 t392 3).f2) == ((rd_T26 t387 3).f2)))) = true := by simpa using c11))
         clear c11
         (try (have c11b9 := c11b0; simp only [beq_true, beq_false] at c11b9))
         by_cases c12 : 4 < (t392.length : Int)
         ·
          rw [if_pos c12] at H
          have c12b0 : decide (4 < (t392.length : Int)) = true := decide_eq_true c12
          have c12b1 : decide (4 < t392.length) = true := decide_eq_true (by omega)
          clear c12
          by_cases c13 : ((rd_T26 t392 4).f0).toList = ([99, 97, 99, 104, 101, 45, 99, 111, 110, 116, 114, 111, 108] : List UInt8)
          ·
           rw [if_pos c13] at H
           have c13b0 : (((rd_T26 t392 4).f0).toList == ([99, 97, 99, 104, 101, 45, 99, 111, 110, 116, 114, 111, 108] : List UInt8)) = true := beq_iff_eq.mpr c13
           have c13b1 : (((rd_T26 t392 4).f0).toList != ([99, 97, 99, 104, 101, 45, 99, 111, 110, 116, 114, 111, 108] : List UInt8)) = false := bne_eq_false_iff_eq.mpr c13
           clear c13
           replace H := Option.bind_eq_some_iff.mp H
           obtain ⟨⟨t401, t402⟩, A140, H⟩ := H
           replace H : (some (!t401)) = some r := H
           have A14 := Aside0.mk A140
           clear A140
           obtain rfl := Option.some.inj H
           go_enter Tryd.func21, Tryd.ntmps21
           try go_wp2_with (first | ((with_reducible refine gate_callee (f := 23) rfl ?_); refine goesL_ (some 6) rfl rfl Tryd.func23 (by kernel_rfl) rfl #[] rfl (by (try simp only [List.map_toArray, List.map_cons, List.map_nil]); first | done | rfl | (simp only [List.length_drop, List.length_take]; rfl)) ?_; (with_reducible refine (unpack_New.calls  t385 _ _ (Below.refl _ _) ?side1 A1.out).mono ?_); (case side1 => exact EnvW.below HEnv.out rfl (by repeat (first | (with_reducible first | exact HB.out | apply below_alloc | apply pw_below_drewN | apply below_drew1) | exact HB.out))); rintro e w15 ⟨g386, rfl, hi, hb, hb2⟩; refine ⟨_, rfl, ?_⟩; have n0_ := Aside0.mk (below_step (by repeat (first | (with_reducible first | exact HB.out | apply below_alloc | apply pw_below_drewN | apply below_drew1) | exact HB.out)) hb2); have n1_ := Aside0.mk ((show IsS90 w w15 g386 t385 from IsS90.rebase hi (below_size (by repeat (first | (with_reducible first | exact HB.out | apply below_alloc | apply pw_below_drewN | apply below_drew1) | exact HB.out))))); clear HB; have HB := n0_; have HI386 := n1_; clear n0_ n1_; (try clear hb); (try clear hb2); (try clear hk); (try clear hi)) | ((with_reducible refine gate_callee (f := 25) rfl ?_); refine goesL_ (some 11) rfl rfl Tryd.func25 (by kernel_rfl) rfl #[.pointer (some ⟨g386, 0, none⟩), .string (⟨#[130, 134, 132, 65, 15, 119, 119, 119, 46, 101, 120, 97, 109, 112, 108, 101, 46, 99, 111, 109]⟩ : ByteArray)] rfl (by (try simp only [List.map_toArray, List.map_cons, List.map_nil]); first | done | rfl | (simp only [List.length_drop, List.length_take]; rfl)) ?_; (with_reducible refine (unpack_Decoder_Read.calls k g386 t385 (⟨#[130, 134, 132, 65, 15, 119, 119, 119, 46, 101, 120, 97, 109, 112, 108, 101, 46, 99, 111, 109]⟩ : ByteArray) t387 t390 t391 w _ ?side1 ?side2 A2.out).mono ?_); (case side1 => repeat (first | (with_reducible first | exact HI386.out | apply IsS90.alloc | apply IsS90.drewN | apply IsS90.drew) | exact HI386.out)); (case side2 => repeat (first | (with_reducible first | exact HB.out | apply below_alloc | apply pw_below_drewN | apply below_drew1 | refine below_set ?_ (IsS90.ge HI386.out)) | exact HB.out)); rintro e w16 ⟨v388, rfl, ho0, hi, hb, hk⟩; refine ⟨_, rfl, ?_⟩; have n0_ := Aside0.mk (Kd.R_lower ho0 (below_size (by repeat (first | (with_reducible first | exact HB.out | apply below_alloc | apply pw_below_drewN | apply below_drew1 | refine below_set ?_ (IsS90.ge HI386.out)) | exact HB.out)))); have n1_ := Aside0.mk (hb); have n2_ := Aside0.mk (hi); clear HB; clear HI386; have HO389 := n0_; have HB := n1_; have HI386 := n2_; clear n0_ n1_ n2_; (try clear hb); (try clear hb2); (try clear hk); (try clear hi); (try clear ho0)) | ((with_reducible refine gate_callee (f := 25) rfl ?_); refine goesL_ (some 16) rfl rfl Tryd.func25 (by kernel_rfl) rfl #[.pointer (some ⟨g386, 0, none⟩), .string (⟨#[130, 134, 132, 190, 88, 8, 110, 111, 45, 99, 97, 99, 104, 101]⟩ : ByteArray)] rfl (by (try simp only [List.map_toArray, List.map_cons, List.map_nil]); first | done | rfl | (simp only [List.length_drop, List.length_take]; rfl)) ?_; (with_reducible refine (unpack_Decoder_Read.calls k g386 t391 (⟨#[130, 134, 132, 190, 88, 8, 110, 111, 45, 99, 97, 99, 104, 101]⟩ : ByteArray) t392 t395 t396 w _ ?side1 ?side2 A3.out).mono ?_); (case side1 => repeat (first | (with_reducible first | exact HI386.out | apply IsS90.alloc | apply IsS90.drewN | apply IsS90.drew) | exact HI386.out)); (case side2 => repeat (first | (with_reducible first | exact HB.out | apply below_alloc | apply pw_below_drewN | apply below_drew1 | refine below_set ?_ (IsS90.ge HI386.out)) | exact HB.out)); rintro e w17 ⟨v393, rfl, ho0, hi, hb, hk⟩; refine ⟨_, rfl, ?_⟩; have n0_ := Aside0.mk (Kd.R_mono (Kd.R_told (Kd.R_oldK2 (IsS90.apart (show IsS90 w _ g386 t391 from by repeat (first | (with_reducible first | exact HI386.out | apply IsS90.alloc | apply IsS90.drewN | apply IsS90.drew) | exact HI386.out)) (by (with_reducible repeat (first | apply Kd.R_alloc | apply Kd.R_drewN | apply Kd.R_drew)); exact HO389.out) (by decide)) hk) (Kd.R_base ho0)) (fun _ h_ => h_.1)); have n1_ := Aside0.mk (Kd.R_lower (Kd.R_new' ho0 (Kd.R_lt (by (with_reducible repeat (first | apply Kd.R_alloc | apply Kd.R_drewN | apply Kd.R_drew)); exact HO389.out))) (below_size (by repeat (first | (with_reducible first | exact HB.out | apply below_alloc | apply pw_below_drewN | apply below_drew1 | refine below_set ?_ (IsS90.ge HI386.out)) | exact HB.out)))); have n2_ := Aside0.mk (hb); have n3_ := Aside0.mk (hi); clear HO389; clear HB; clear HI386; have HO389 := n0_; have HO394 := n1_; have HB := n2_; have HI386 := n3_; clear n0_ n1_ n2_ n3_; (try clear hb); (try clear hb2); (try clear hk); (try clear hi); (try clear ho0)))
           have n0_ := Aside0.mk (Kd.R_drew HO389.out)
           have n1_ := Aside0.mk (Kd.R_drew HO394.out)
           have n2_ := Aside0.mk (IsS90.drew HI386.out)
           have n3_ := Aside0.mk (below_drew1 HB.out)
           clear HO389
           clear HO394
           clear HI386
           clear HB
           have HO389 := n0_
           have HO394 := n1_
           have HI386 := n2_
           have HB := n3_
           clear n0_ n1_ n2_ n3_
           obtain ⟨Ao19, co19, eo19⟩ := Kd.R_slice HO389.out
           (first | subst eo19 | (injection eo19 with f1_ f2_ f3_; have f4_ := f1_.symm; have f5_ := f3_.symm; clear f1_ f2_ f3_; subst f4_; subst f5_))
           have p397 : 0 ≤ (3 : Int) := (by omega)
           have q397 : 3 < (t387.length : Int) := of_decide_eq_true (by first | (with_reducible assumption) | assumption)
           obtain ⟨ad397, e397, hx397_0, hx397_1, hx397_2⟩ := at_T26 (Kd.R_reads' HO389.out).2.2 3 p397 q397
           cases e397
           (try simp only [show (3 : Int).toNat = 3 from rfl, Nat.reduceMul, Nat.reduceEqDiff, Go.Addr.add, ↓reduceIte] at hx397_0)
           (try simp only [show (3 : Int).toNat = 3 from rfl, Nat.reduceMul, Nat.reduceEqDiff, Go.Addr.add, ↓reduceIte] at hx397_1)
           (try simp only [show (3 : Int).toNat = 3 from rfl, Nat.reduceMul, Nat.reduceEqDiff, Go.Addr.add, ↓reduceIte] at hx397_2)
           have qi397 : (3 < t387.length) = True := eq_true (by omega)
           (try rw [show ((3 : Int)).toNat = 3 from rfl] at hx397_0)
           (try rw [show 3 * 3 = 9 from rfl] at hx397_0)
           (try rw [show ((3 : Int)).toNat = 3 from rfl] at hx397_1)
           (try rw [show 3 * 3 = 9 from rfl] at hx397_1)
           (try rw [show ((3 : Int)).toNat = 3 from rfl] at hx397_2)
           (try rw [show 3 * 3 = 9 from rfl] at hx397_2)
           replace p397 := eq_true p397
           replace q397 := eq_true q397
           obtain ⟨Ao20, co20, eo20⟩ := Kd.R_slice HO394.out
           (first | subst eo20 | (injection eo20 with f1_ f2_ f3_; have f4_ := f1_.symm; have f5_ := f3_.symm; clear f1_ f2_ f3_; subst f4_; subst f5_))
           have p398 : 0 ≤ (3 : Int) := (by omega)
           have q398 : 3 < (t392.length : Int) := of_decide_eq_true (by first | (with_reducible assumption) | assumption)
           obtain ⟨ad398, e398, hx398_0, hx398_1, hx398_2⟩ := at_T26 (Kd.R_reads' HO394.out).2.2 3 p398 q398
           cases e398
           (try simp only [show (3 : Int).toNat = 3 from rfl, Nat.reduceMul, Nat.reduceEqDiff, Go.Addr.add, ↓reduceIte] at hx398_0)
           (try simp only [show (3 : Int).toNat = 3 from rfl, Nat.reduceMul, Nat.reduceEqDiff, Go.Addr.add, ↓reduceIte] at hx398_1)
           (try simp only [show (3 : Int).toNat = 3 from rfl, Nat.reduceMul, Nat.reduceEqDiff, Go.Addr.add, ↓reduceIte] at hx398_2)
           have qi398 : (3 < t392.length) = True := eq_true (by omega)
           (try rw [show ((3 : Int)).toNat = 3 from rfl] at hx398_0)
           (try rw [show 3 * 3 = 9 from rfl] at hx398_0)
           (try rw [show ((3 : Int)).toNat = 3 from rfl] at hx398_1)
           (try rw [show 3 * 3 = 9 from rfl] at hx398_1)
           (try rw [show ((3 : Int)).toNat = 3 from rfl] at hx398_2)
           (try rw [show 3 * 3 = 9 from rfl] at hx398_2)
           replace p398 := eq_true p398
           replace q398 := eq_true q398
           have p399 : 0 ≤ (3 : Int) := (by omega)
           have q399 : 3 < (t387.length : Int) := of_decide_eq_true (by first | (with_reducible assumption) | assumption)
           obtain ⟨ad399, e399, hx399_0, hx399_1, hx399_2⟩ := at_T26 (Kd.R_reads' HO389.out).2.2 3 p399 q399
           obtain rfl : ad397 = ad399 := (by injection e399)
           (try simp only [show (3 : Int).toNat = 3 from rfl, Nat.reduceMul, Nat.reduceEqDiff, Go.Addr.add, ↓reduceIte] at hx399_0)
           (try simp only [show (3 : Int).toNat = 3 from rfl, Nat.reduceMul, Nat.reduceEqDiff, Go.Addr.add, ↓reduceIte] at hx399_1)
           (try simp only [show (3 : Int).toNat = 3 from rfl, Nat.reduceMul, Nat.reduceEqDiff, Go.Addr.add, ↓reduceIte] at hx399_2)
           have qi399 : (3 < t387.length) = True := eq_true (by omega)
           (try rw [show ((3 : Int)).toNat = 3 from rfl] at hx399_0)
           (try rw [show 3 * 3 = 9 from rfl] at hx399_0)
           (try rw [show ((3 : Int)).toNat = 3 from rfl] at hx399_1)
           (try rw [show 3 * 3 = 9 from rfl] at hx399_1)
           (try rw [show ((3 : Int)).toNat = 3 from rfl] at hx399_2)
           (try rw [show 3 * 3 = 9 from rfl] at hx399_2)
           replace p399 := eq_true p399
           replace q399 := eq_true q399
           have p400 : 0 ≤ (4 : Int) := (by omega)
           have q400 : 4 < (t392.length : Int) := of_decide_eq_true (by first | (with_reducible assumption) | assumption)
           obtain ⟨ad400, e400, hx400_0, hx400_1, hx400_2⟩ := at_T26 (Kd.R_reads' HO394.out).2.2 4 p400 q400
           obtain rfl : ad398 = ad400 := (by injection e400)
           (try simp only [show (4 : Int).toNat = 4 from rfl, Nat.reduceMul, Nat.reduceEqDiff, Go.Addr.add, ↓reduceIte] at hx400_0)
           (try simp only [show (4 : Int).toNat = 4 from rfl, Nat.reduceMul, Nat.reduceEqDiff, Go.Addr.add, ↓reduceIte] at hx400_1)
           (try simp only [show (4 : Int).toNat = 4 from rfl, Nat.reduceMul, Nat.reduceEqDiff, Go.Addr.add, ↓reduceIte] at hx400_2)
           have qi400 : (4 < t392.length) = True := eq_true (by omega)
           (try rw [show ((4 : Int)).toNat = 4 from rfl] at hx400_0)
           (try rw [show 4 * 3 = 12 from rfl] at hx400_0)
           (try rw [show ((4 : Int)).toNat = 4 from rfl] at hx400_1)
           (try rw [show 4 * 3 = 12 from rfl] at hx400_1)
           (try rw [show ((4 : Int)).toNat = 4 from rfl] at hx400_2)
           (try rw [show 4 * 3 = 12 from rfl] at hx400_2)
           replace p400 := eq_true p400
           replace q400 := eq_true q400
           refine start_ (n := 45) (S := fun w' => w'.cell? ⟨ad397.block, ad397.off + 9, none⟩ = some (.string ((rd_T26 t387 3).f0)) ∧ w'.cell? ⟨ad397.block, ad397.off + 9 + 1, none⟩ = some (.string ((rd_T26 t387 3).f1)) ∧ w'.cell? ⟨ad397.block, ad397.off + 9 + 2, none⟩ = some (.bool ((rd_T26 t387 3).f2)) ∧ w'.cell? ⟨ad398.block, ad398.off + 9, none⟩ = some (.string ((rd_T26 t392 3).f0)) ∧ w'.cell? ⟨ad398.block, ad398.off + 9 + 1, none⟩ = some (.string ((rd_T26 t392 3).f1)) ∧ w'.cell? ⟨ad398.block, ad398.off + 9 + 2, none⟩ = some (.bool ((rd_T26 t392 3).f2)) ∧ w'.cell? ⟨ad397.block, ad397.off + 9, none⟩ = some (.string ((rd_T26 t387 3).f0)) ∧ w'.cell? ⟨ad397.block, ad397.off + 9 + 1, none⟩ = some (.string ((rd_T26 t387 3).f1)) ∧ w'.cell? ⟨ad397.block, ad397.off + 9 + 2, none⟩ = some (.bool ((rd_T26 t387 3).f2)) ∧ w'.cell? ⟨ad398.block, ad398.off + 12, none⟩ = some (.string ((rd_T26 t392 4).f0)) ∧ w'.cell? ⟨ad398.block, ad398.off + 12 + 1, none⟩ = some (.string ((rd_T26 t392 4).f1)) ∧ w'.cell? ⟨ad398.block, ad398.off + 12 + 2, none⟩ = some (.bool ((rd_T26 t392 4).f2))) (ds := []) #[false, false, false, false, false, false, false, false, false, false, false, false, false, false, false, false, false, false, false, false, false, false, false, false, false, false, false, false, false, false, false, false, false, false, false, false, false, false, false, false, false, false, false, false, false] (by kernel_rfl) rfl rfl ⟨hx397_0, hx397_1, hx397_2, hx398_0, hx398_1, hx398_2, hx399_0, hx399_1, hx399_2, hx400_0, hx400_1, hx400_2⟩ (fun hHeld => ?_); refine with_tabW nunciolaw12_awake.tab6 nunciolaw12_awake.bits6 (fun HT_ HW_ => ?_)
           generalize w17.drew = w18 at HO389 HO394 HI386 HB hx397_0 hx397_1 hx397_2 hx398_0 hx398_1 hx398_2 hx399_0 hx399_1 hx399_2 hx400_0 hx400_1 hx400_2 hHeld ⊢
           refine pure_ (i := 0) (N := some 19) (v := ?_) (a' := ?_) #[true, false, false, false, false, false, false, false, false, false, false, false, false, false, false, false, false, false, false, false, false, false, false, false, false, false, false, false, false, false, false, false, false, false, false, false, false, false, false, false, false, false, false, false, false] rfl rfl (any_of HT_.out (by kernel_rfl)) (fun _ _ _ h => h) (Or.inl ⟨by rfl, ?_⟩) ?_ ?_
           rotate_left
           ·
            intro w'
            go_simp
            with_reducible rfl
           rotate_left
           ·
            simp only [Act.put, List.setIfInBounds_toArray, List.set_cons_zero, List.set_cons_succ, i64_w, i32_w]
            rfl
           refine pure_ (i := 1) (N := some 20) (v := ?_) (a' := ?_) #[true, true, false, false, false, false, false, false, false, false, false, false, false, false, false, false, false, false, false, false, false, false, false, false, false, false, false, false, false, false, false, false, false, false, false, false, false, false, false, false, false, false, false, false, false] rfl rfl (any_of HT_.out (by kernel_rfl)) (fun _ _ _ h => h) (Or.inl ⟨by rfl, ?_⟩) ?_ ?_
           rotate_left
           ·
            intro w'
            go_simp
            with_reducible rfl
           rotate_left
           ·
            simp only [Act.put, List.setIfInBounds_toArray, List.set_cons_zero, List.set_cons_succ, i64_w, i32_w]
            rfl
           refine pure_ (i := 2) (N := some 21) (v := ?_) (a' := ?_) #[true, true, true, false, false, false, false, false, false, false, false, false, false, false, false, false, false, false, false, false, false, false, false, false, false, false, false, false, false, false, false, false, false, false, false, false, false, false, false, false, false, false, false, false, false] rfl rfl (any_of HT_.out (by kernel_rfl)) (fun _ _ _ h => h) (Or.inl ⟨by rfl, ?_⟩) ?_ ?_
           rotate_left
           ·
            intro w'
            go_simp
            with_reducible rfl
           rotate_left
           ·
            simp only [Act.put, List.setIfInBounds_toArray, List.set_cons_zero, List.set_cons_succ, i64_w, i32_w]
            rfl
           refine pure_ (i := 3) (N := some 22) (v := ?_) (a' := ?_) #[true, true, true, true, false, false, false, false, false, false, false, false, false, false, false, false, false, false, false, false, false, false, false, false, false, false, false, false, false, false, false, false, false, false, false, false, false, false, false, false, false, false, false, false, false] rfl rfl (any_of HT_.out (by kernel_rfl)) (fun _ _ _ h => h) (Or.inl ⟨by rfl, ?_⟩) ?_ ?_
           rotate_left
           ·
            intro w'
            go_simp
            with_reducible rfl
           rotate_left
           ·
            simp only [Act.put, List.setIfInBounds_toArray, List.set_cons_zero, List.set_cons_succ, i64_w, i32_w]
            rfl
           refine pure_ (i := 4) (N := some 23) (v := ?_) (a' := ?_) #[true, true, true, true, true, false, false, false, false, false, false, false, false, false, false, false, false, false, false, false, false, false, false, false, false, false, false, false, false, false, false, false, false, false, false, false, false, false, false, false, false, false, false, false, false] rfl rfl (any_of HT_.out (by kernel_rfl)) (fun _ _ _ h => h) (Or.inl ⟨by rfl, ?_⟩) ?_ ?_
           rotate_left
           ·
            intro w'
            go_simp
            with_reducible rfl
           rotate_left
           ·
            simp only [Act.put, List.setIfInBounds_toArray, List.set_cons_zero, List.set_cons_succ, i64_w, i32_w]
            rfl
           refine pure_ (i := 5) (N := some 24) (v := ?_) (a' := ?_) #[true, true, true, true, true, true, false, false, false, false, false, false, false, false, false, false, false, false, false, false, false, false, false, false, false, false, false, false, false, false, false, false, false, false, false, false, false, false, false, false, false, false, false, false, false] rfl rfl (any_of HT_.out (by kernel_rfl)) (fun _ _ _ h => h) (Or.inl ⟨by rfl, ?_⟩) ?_ ?_
           rotate_left
           ·
            intro w'
            go_simp
            with_reducible rfl
           rotate_left
           ·
            simp only [Act.put, List.setIfInBounds_toArray, List.set_cons_zero, List.set_cons_succ, i64_w, i32_w]
            rfl
           refine pure_ (i := 6) (N := some 25) (v := ?_) (a' := ?_) #[true, true, true, true, true, true, true, false, false, false, false, false, false, false, false, false, false, false, false, false, false, false, false, false, false, false, false, false, false, false, false, false, false, false, false, false, false, false, false, false, false, false, false, false, false] rfl rfl (any_of HT_.out (by kernel_rfl)) (fun _ _ _ h => h) (Or.inl ⟨by rfl, ?_⟩) ?_ ?_
           rotate_left
           ·
            intro w'
            go_simp
            with_reducible rfl
           rotate_left
           ·
            simp only [Act.put, List.setIfInBounds_toArray, List.set_cons_zero, List.set_cons_succ, i64_w, i32_w]
            rfl
           refine pure_ (i := 7) (N := some 26) (v := ?_) (a' := ?_) #[true, true, true, true, true, true, true, true, false, false, false, false, false, false, false, false, false, false, false, false, false, false, false, false, false, false, false, false, false, false, false, false, false, false, false, false, false, false, false, false, false, false, false, false, false] rfl rfl (any_of HT_.out (by kernel_rfl)) (fun _ _ _ h => h) (Or.inl ⟨by rfl, ?_⟩) ?_ ?_
           rotate_left
           ·
            intro w'
            go_simp
            with_reducible rfl
           rotate_left
           ·
            simp only [Act.put, List.setIfInBounds_toArray, List.set_cons_zero, List.set_cons_succ, i64_w, i32_w]
            rfl
           refine pure_ (i := 8) (N := some 27) (v := ?_) (a' := ?_) #[true, true, true, true, true, true, true, true, true, false, false, false, false, false, false, false, false, false, false, false, false, false, false, false, false, false, false, false, false, false, false, false, false, false, false, false, false, false, false, false, false, false, false, false, false] rfl rfl (any_of HT_.out (by kernel_rfl)) (fun _ _ _ h => h) (Or.inl ⟨by rfl, ?_⟩) ?_ ?_
           rotate_left
           ·
            intro w'
            go_simp
            with_reducible rfl
           rotate_left
           ·
            simp only [Act.put, List.setIfInBounds_toArray, List.set_cons_zero, List.set_cons_succ, i64_w, i32_w]
            rfl
           refine pure_ (i := 9) (N := some 28) (v := ?_) (a' := ?_) #[true, true, true, true, true, true, true, true, true, true, false, false, false, false, false, false, false, false, false, false, false, false, false, false, false, false, false, false, false, false, false, false, false, false, false, false, false, false, false, false, false, false, false, false, false] rfl rfl (any_of HT_.out (by kernel_rfl)) (fun _ _ _ h => h) (Or.inl ⟨by rfl, ?_⟩) ?_ ?_
           rotate_left
           ·
            intro w'
            go_simp
            with_reducible rfl
           rotate_left
           ·
            simp only [Act.put, List.setIfInBounds_toArray, List.set_cons_zero, List.set_cons_succ, i64_w, i32_w]
            rfl
           refine pure_ (i := 10) (N := some 29) (v := ?_) (a' := ?_) #[true, true, true, true, true, true, true, true, true, true, true, false, false, false, false, false, false, false, false, false, false, false, false, false, false, false, false, false, false, false, false, false, false, false, false, false, false, false, false, false, false, false, false, false, false] rfl rfl (any_of HT_.out (by kernel_rfl)) (fun _ _ _ h => h) (Or.inl ⟨by rfl, ?_⟩) ?_ ?_
           rotate_left
           ·
            intro w'
            go_simp
            with_reducible rfl
           rotate_left
           ·
            simp only [Act.put, List.setIfInBounds_toArray, List.set_cons_zero, List.set_cons_succ, i64_w, i32_w]
            rfl
           refine take_ (i := 11) (N := some 30) (v := ?_) (a' := ?_) #[true, true, true, true, true, true, true, true, true, true, true, true, false, false, false, false, false, false, false, false, false, false, false, false, false, false, false, false, false, false, false, false, false, false, false, false, false, false, false, false, false, false, false, false, false] rfl rfl (take_ofW HT_.out HW_.out (by kernel_rfl)) (fun _ _ _ h => h) (Or.inl ⟨by rfl, ?_⟩) hHeld ?_ ?_
           rotate_left
           ·
            rintro w' ⟨s0, s1, s2, s3, s4, s5, s6, s7, s8, s9, s10, s11⟩
            go_simp
            with_reducible rfl
           rotate_left
           ·
            simp only [Act.put, List.setIfInBounds_toArray, List.set_cons_zero, List.set_cons_succ, i64_w, i32_w]
            rfl
           refine pure_ (i := 12) (N := some 31) (v := ?_) (a' := ?_) #[true, true, true, true, true, true, true, true, true, true, true, true, true, false, false, false, false, false, false, false, false, false, false, false, false, false, false, false, false, false, false, false, false, false, false, false, false, false, false, false, false, false, false, false, false] rfl rfl (any_of HT_.out (by kernel_rfl)) (fun _ _ _ h => h) (Or.inl ⟨by rfl, ?_⟩) ?_ ?_
           rotate_left
           ·
            intro w'
            go_simp
            with_reducible rfl
           rotate_left
           ·
            simp only [Act.put, List.setIfInBounds_toArray, List.set_cons_zero, List.set_cons_succ, i64_w, i32_w]
            rfl
           refine pure_ (i := 13) (N := some 32) (v := ?_) (a' := ?_) #[true, true, true, true, true, true, true, true, true, true, true, true, true, true, false, false, false, false, false, false, false, false, false, false, false, false, false, false, false, false, false, false, false, false, false, false, false, false, false, false, false, false, false, false, false] rfl rfl (any_of HT_.out (by kernel_rfl)) (fun _ _ _ h => h) (Or.inl ⟨by rfl, ?_⟩) ?_ ?_
           rotate_left
           ·
            intro w'
            go_simp
            with_reducible rfl
           rotate_left
           ·
            simp only [Act.put, List.setIfInBounds_toArray, List.set_cons_zero, List.set_cons_succ, i64_w, i32_w]
            rfl
           refine pure_ (i := 14) (N := some 33) (v := ?_) (a' := ?_) #[true, true, true, true, true, true, true, true, true, true, true, true, true, true, true, false, false, false, false, false, false, false, false, false, false, false, false, false, false, false, false, false, false, false, false, false, false, false, false, false, false, false, false, false, false] rfl rfl (any_of HT_.out (by kernel_rfl)) (fun _ _ _ h => h) (Or.inl ⟨by rfl, ?_⟩) ?_ ?_
           rotate_left
           ·
            intro w'
            go_simp
            with_reducible rfl
           rotate_left
           ·
            simp only [Act.put, List.setIfInBounds_toArray, List.set_cons_zero, List.set_cons_succ, i64_w, i32_w]
            rfl
           refine pure_ (i := 15) (N := some 34) (v := ?_) (a' := ?_) #[true, true, true, true, true, true, true, true, true, true, true, true, true, true, true, true, false, false, false, false, false, false, false, false, false, false, false, false, false, false, false, false, false, false, false, false, false, false, false, false, false, false, false, false, false] rfl rfl (any_of HT_.out (by kernel_rfl)) (fun _ _ _ h => h) (Or.inl ⟨by rfl, ?_⟩) ?_ ?_
           rotate_left
           ·
            intro w'
            go_simp
            with_reducible rfl
           rotate_left
           ·
            simp only [Act.put, List.setIfInBounds_toArray, List.set_cons_zero, List.set_cons_succ, i64_w, i32_w]
            rfl
           refine pure_ (i := 16) (N := some 35) (v := ?_) (a' := ?_) #[true, true, true, true, true, true, true, true, true, true, true, true, true, true, true, true, true, false, false, false, false, false, false, false, false, false, false, false, false, false, false, false, false, false, false, false, false, false, false, false, false, false, false, false, false] rfl rfl (any_of HT_.out (by kernel_rfl)) (fun _ _ _ h => h) (Or.inl ⟨by rfl, ?_⟩) ?_ ?_
           rotate_left
           ·
            intro w'
            go_simp
            with_reducible rfl
           rotate_left
           ·
            simp only [Act.put, List.setIfInBounds_toArray, List.set_cons_zero, List.set_cons_succ, i64_w, i32_w]
            rfl
           refine pure_ (i := 17) (N := some 36) (v := ?_) (a' := ?_) #[true, true, true, true, true, true, true, true, true, true, true, true, true, true, true, true, true, true, false, false, false, false, false, false, false, false, false, false, false, false, false, false, false, false, false, false, false, false, false, false, false, false, false, false, false] rfl rfl (any_of HT_.out (by kernel_rfl)) (fun _ _ _ h => h) (Or.inl ⟨by rfl, ?_⟩) ?_ ?_
           rotate_left
           ·
            intro w'
            go_simp
            with_reducible rfl
           rotate_left
           ·
            simp only [Act.put, List.setIfInBounds_toArray, List.set_cons_zero, List.set_cons_succ, i64_w, i32_w]
            rfl
           refine pure_ (i := 18) (N := some 37) (v := ?_) (a' := ?_) #[true, true, true, true, true, true, true, true, true, true, true, true, true, true, true, true, true, true, true, false, false, false, false, false, false, false, false, false, false, false, false, false, false, false, false, false, false, false, false, false, false, false, false, false, false] rfl rfl (any_of HT_.out (by kernel_rfl)) (fun _ _ _ h => h) (Or.inl ⟨by rfl, ?_⟩) ?_ ?_
           rotate_left
           ·
            intro w'
            go_simp
            with_reducible rfl
           rotate_left
           ·
            simp only [Act.put, List.setIfInBounds_toArray, List.set_cons_zero, List.set_cons_succ, i64_w, i32_w]
            rfl
           refine pure_ (i := 19) (N := some 38) (v := ?_) (a' := ?_) #[true, true, true, true, true, true, true, true, true, true, true, true, true, true, true, true, true, true, true, true, false, false, false, false, false, false, false, false, false, false, false, false, false, false, false, false, false, false, false, false, false, false, false, false, false] rfl rfl (any_of HT_.out (by kernel_rfl)) (fun _ _ _ h => h) (Or.inl ⟨by rfl, ?_⟩) ?_ ?_
           rotate_left
           ·
            intro w'
            go_simp
            with_reducible rfl
           rotate_left
           ·
            simp only [Act.put, List.setIfInBounds_toArray, List.set_cons_zero, List.set_cons_succ, i64_w, i32_w]
            rfl
           refine pure_ (i := 20) (N := some 39) (v := ?_) (a' := ?_) #[true, true, true, true, true, true, true, true, true, true, true, true, true, true, true, true, true, true, true, true, true, false, false, false, false, false, false, false, false, false, false, false, false, false, false, false, false, false, false, false, false, false, false, false, false] rfl rfl (any_of HT_.out (by kernel_rfl)) (fun _ _ _ h => h) (Or.inl ⟨by rfl, ?_⟩) ?_ ?_
           rotate_left
           ·
            intro w'
            go_simp
            with_reducible rfl
           rotate_left
           ·
            simp only [Act.put, List.setIfInBounds_toArray, List.set_cons_zero, List.set_cons_succ, i64_w, i32_w]
            rfl
           refine pure_ (i := 21) (N := some 40) (v := ?_) (a' := ?_) #[true, true, true, true, true, true, true, true, true, true, true, true, true, true, true, true, true, true, true, true, true, true, false, false, false, false, false, false, false, false, false, false, false, false, false, false, false, false, false, false, false, false, false, false, false] rfl rfl (any_of HT_.out (by kernel_rfl)) (fun _ _ _ h => h) (Or.inl ⟨by rfl, ?_⟩) ?_ ?_
           rotate_left
           ·
            intro w'
            go_simp
            with_reducible rfl
           rotate_left
           ·
            simp only [Act.put, List.setIfInBounds_toArray, List.set_cons_zero, List.set_cons_succ, i64_w, i32_w]
            rfl
           refine pure_ (i := 22) (N := some 41) (v := ?_) (a' := ?_) #[true, true, true, true, true, true, true, true, true, true, true, true, true, true, true, true, true, true, true, true, true, true, true, false, false, false, false, false, false, false, false, false, false, false, false, false, false, false, false, false, false, false, false, false, false] rfl rfl (any_of HT_.out (by kernel_rfl)) (fun _ _ _ h => h) (Or.inl ⟨by rfl, ?_⟩) ?_ ?_
           rotate_left
           ·
            intro w'
            go_simp
            with_reducible rfl
           rotate_left
           ·
            simp only [Act.put, List.setIfInBounds_toArray, List.set_cons_zero, List.set_cons_succ, i64_w, i32_w]
            rfl
           refine pure_ (i := 23) (N := some 42) (v := ?_) (a' := ?_) #[true, true, true, true, true, true, true, true, true, true, true, true, true, true, true, true, true, true, true, true, true, true, true, true, false, false, false, false, false, false, false, false, false, false, false, false, false, false, false, false, false, false, false, false, false] rfl rfl (any_of HT_.out (by kernel_rfl)) (fun _ _ _ h => h) (Or.inl ⟨by rfl, ?_⟩) ?_ ?_
           rotate_left
           ·
            intro w'
            go_simp
            with_reducible rfl
           rotate_left
           ·
            simp only [Act.put, List.setIfInBounds_toArray, List.set_cons_zero, List.set_cons_succ, i64_w, i32_w]
            rfl
           refine pure_ (i := 24) (N := some 43) (v := ?_) (a' := ?_) #[true, true, true, true, true, true, true, true, true, true, true, true, true, true, true, true, true, true, true, true, true, true, true, true, true, false, false, false, false, false, false, false, false, false, false, false, false, false, false, false, false, false, false, false, false] rfl rfl (any_of HT_.out (by kernel_rfl)) (fun _ _ _ h => h) (Or.inl ⟨by rfl, ?_⟩) ?_ ?_
           rotate_left
           ·
            intro w'
            go_simp
            with_reducible rfl
           rotate_left
           ·
            simp only [Act.put, List.setIfInBounds_toArray, List.set_cons_zero, List.set_cons_succ, i64_w, i32_w]
            rfl
           refine pure_ (i := 25) (N := some 44) (v := ?_) (a' := ?_) #[true, true, true, true, true, true, true, true, true, true, true, true, true, true, true, true, true, true, true, true, true, true, true, true, true, true, false, false, false, false, false, false, false, false, false, false, false, false, false, false, false, false, false, false, false] rfl rfl (any_of HT_.out (by kernel_rfl)) (fun _ _ _ h => h) (Or.inl ⟨by rfl, ?_⟩) ?_ ?_
           rotate_left
           ·
            intro w'
            go_simp
            with_reducible rfl
           rotate_left
           ·
            simp only [Act.put, List.setIfInBounds_toArray, List.set_cons_zero, List.set_cons_succ, i64_w, i32_w]
            rfl
           refine pure_ (i := 27) (N := some 46) (v := ?_) (a' := ?_) #[true, true, true, true, true, true, true, true, true, true, true, true, true, true, true, true, true, true, true, true, true, true, true, true, true, true, false, true, false, false, false, false, false, false, false, false, false, false, false, false, false, false, false, false, false] rfl rfl (any_of HT_.out (by kernel_rfl)) (fun _ _ _ h => h) (Or.inl ⟨by rfl, ?_⟩) ?_ ?_
           rotate_left
           ·
            intro w'
            go_simp
            with_reducible rfl
           rotate_left
           ·
            simp only [Act.put, List.setIfInBounds_toArray, List.set_cons_zero, List.set_cons_succ, i64_w, i32_w]
            rfl
           refine pure_ (i := 28) (N := some 47) (v := ?_) (a' := ?_) #[true, true, true, true, true, true, true, true, true, true, true, true, true, true, true, true, true, true, true, true, true, true, true, true, true, true, false, true, true, false, false, false, false, false, false, false, false, false, false, false, false, false, false, false, false] rfl rfl (any_of HT_.out (by kernel_rfl)) (fun _ _ _ h => h) (Or.inl ⟨by rfl, ?_⟩) ?_ ?_
           rotate_left
           ·
            intro w'
            go_simp
            with_reducible rfl
           rotate_left
           ·
            simp only [Act.put, List.setIfInBounds_toArray, List.set_cons_zero, List.set_cons_succ, i64_w, i32_w]
            rfl
           refine take_ (i := 26) (N := some 45) (v := ?_) (a' := ?_) #[true, true, true, true, true, true, true, true, true, true, true, true, true, true, true, true, true, true, true, true, true, true, true, true, true, true, true, true, true, false, false, false, false, false, false, false, false, false, false, false, false, false, false, false, false] rfl rfl (take_ofW HT_.out HW_.out (by kernel_rfl)) (fun _ _ _ h => h) (Or.inl ⟨by rfl, ?_⟩) hHeld ?_ ?_
           rotate_left
           ·
            rintro w' ⟨s0, s1, s2, s3, s4, s5, s6, s7, s8, s9, s10, s11⟩
            go_simp
            with_reducible rfl
           rotate_left
           ·
            simp only [Act.put, List.setIfInBounds_toArray, List.set_cons_zero, List.set_cons_succ, i64_w, i32_w]
            rfl
           refine take_ (i := 29) (N := some 48) (v := ?_) (a' := ?_) #[true, true, true, true, true, true, true, true, true, true, true, true, true, true, true, true, true, true, true, true, true, true, true, true, true, true, true, true, true, true, false, false, false, false, false, false, false, false, false, false, false, false, false, false, false] rfl rfl (take_ofW HT_.out HW_.out (by kernel_rfl)) (fun _ _ _ h => h) (Or.inl ⟨by rfl, ?_⟩) hHeld ?_ ?_
           rotate_left
           ·
            rintro w' ⟨s0, s1, s2, s3, s4, s5, s6, s7, s8, s9, s10, s11⟩
            go_simp
            with_reducible rfl
           rotate_left
           ·
            simp only [Act.put, List.setIfInBounds_toArray, List.set_cons_zero, List.set_cons_succ, i64_w, i32_w]
            rfl
           refine pure_ (i := 30) (N := some 49) (v := ?_) (a' := ?_) #[true, true, true, true, true, true, true, true, true, true, true, true, true, true, true, true, true, true, true, true, true, true, true, true, true, true, true, true, true, true, true, false, false, false, false, false, false, false, false, false, false, false, false, false, false] rfl rfl (any_of HT_.out (by kernel_rfl)) (fun _ _ _ h => h) (Or.inl ⟨by rfl, ?_⟩) ?_ ?_
           rotate_left
           ·
            intro w'
            go_simp
            with_reducible rfl
           rotate_left
           ·
            simp only [Act.put, List.setIfInBounds_toArray, List.set_cons_zero, List.set_cons_succ, i64_w, i32_w]
            rfl
           refine pure_ (i := 31) (N := some 50) (v := ?_) (a' := ?_) #[true, true, true, true, true, true, true, true, true, true, true, true, true, true, true, true, true, true, true, true, true, true, true, true, true, true, true, true, true, true, true, true, false, false, false, false, false, false, false, false, false, false, false, false, false] rfl rfl (any_of HT_.out (by kernel_rfl)) (fun _ _ _ h => h) (Or.inl ⟨by rfl, ?_⟩) ?_ ?_
           rotate_left
           ·
            intro w'
            go_simp
            with_reducible rfl
           rotate_left
           ·
            simp only [Act.put, List.setIfInBounds_toArray, List.set_cons_zero, List.set_cons_succ, i64_w, i32_w]
            rfl
           refine pure_ (i := 32) (N := some 51) (v := ?_) (a' := ?_) #[true, true, true, true, true, true, true, true, true, true, true, true, true, true, true, true, true, true, true, true, true, true, true, true, true, true, true, true, true, true, true, true, true, false, false, false, false, false, false, false, false, false, false, false, false] rfl rfl (any_of HT_.out (by kernel_rfl)) (fun _ _ _ h => h) (Or.inl ⟨by rfl, ?_⟩) ?_ ?_
           rotate_left
           ·
            intro w'
            go_simp
            with_reducible rfl
           rotate_left
           ·
            simp only [Act.put, List.setIfInBounds_toArray, List.set_cons_zero, List.set_cons_succ, i64_w, i32_w]
            rfl
           refine pure_ (i := 33) (N := some 52) (v := ?_) (a' := ?_) #[true, true, true, true, true, true, true, true, true, true, true, true, true, true, true, true, true, true, true, true, true, true, true, true, true, true, true, true, true, true, true, true, true, true, false, false, false, false, false, false, false, false, false, false, false] rfl rfl (any_of HT_.out (by kernel_rfl)) (fun _ _ _ h => h) (Or.inl ⟨by rfl, ?_⟩) ?_ ?_
           rotate_left
           ·
            intro w'
            go_simp
            with_reducible rfl
           rotate_left
           ·
            simp only [Act.put, List.setIfInBounds_toArray, List.set_cons_zero, List.set_cons_succ, i64_w, i32_w]
            rfl
           refine pure_ (i := 34) (N := some 53) (v := ?_) (a' := ?_) #[true, true, true, true, true, true, true, true, true, true, true, true, true, true, true, true, true, true, true, true, true, true, true, true, true, true, true, true, true, true, true, true, true, true, true, false, false, false, false, false, false, false, false, false, false] rfl rfl (any_of HT_.out (by kernel_rfl)) (fun _ _ _ h => h) (Or.inl ⟨by rfl, ?_⟩) ?_ ?_
           rotate_left
           ·
            intro w'
            go_simp
            with_reducible rfl
           rotate_left
           ·
            simp only [Act.put, List.setIfInBounds_toArray, List.set_cons_zero, List.set_cons_succ, i64_w, i32_w]
            rfl
           refine pure_ (i := 35) (N := some 54) (v := ?_) (a' := ?_) #[true, true, true, true, true, true, true, true, true, true, true, true, true, true, true, true, true, true, true, true, true, true, true, true, true, true, true, true, true, true, true, true, true, true, true, true, false, false, false, false, false, false, false, false, false] rfl rfl (any_of HT_.out (by kernel_rfl)) (fun _ _ _ h => h) (Or.inl ⟨by rfl, ?_⟩) ?_ ?_
           rotate_left
           ·
            intro w'
            go_simp
            with_reducible rfl
           rotate_left
           ·
            simp only [Act.put, List.setIfInBounds_toArray, List.set_cons_zero, List.set_cons_succ, i64_w, i32_w]
            rfl
           refine take_ (i := 36) (N := some 55) (v := ?_) (a' := ?_) #[true, true, true, true, true, true, true, true, true, true, true, true, true, true, true, true, true, true, true, true, true, true, true, true, true, true, true, true, true, true, true, true, true, true, true, true, true, false, false, false, false, false, false, false, false] rfl rfl (take_ofW HT_.out HW_.out (by kernel_rfl)) (fun _ _ _ h => h) (Or.inl ⟨by rfl, ?_⟩) hHeld ?_ ?_
           rotate_left
           ·
            rintro w' ⟨s0, s1, s2, s3, s4, s5, s6, s7, s8, s9, s10, s11⟩
            go_simp
            with_reducible rfl
           rotate_left
           ·
            simp only [Act.put, List.setIfInBounds_toArray, List.set_cons_zero, List.set_cons_succ, i64_w, i32_w]
            rfl
           refine pure_ (i := 37) (N := some 56) (v := ?_) (a' := ?_) #[true, true, true, true, true, true, true, true, true, true, true, true, true, true, true, true, true, true, true, true, true, true, true, true, true, true, true, true, true, true, true, true, true, true, true, true, true, true, false, false, false, false, false, false, false] rfl rfl (any_of HT_.out (by kernel_rfl)) (fun _ _ _ h => h) (Or.inl ⟨by rfl, ?_⟩) ?_ ?_
           rotate_left
           ·
            intro w'
            go_simp
            with_reducible rfl
           rotate_left
           ·
            simp only [Act.put, List.setIfInBounds_toArray, List.set_cons_zero, List.set_cons_succ, i64_w, i32_w]
            rfl
           refine pure_ (i := 38) (N := some 57) (v := ?_) (a' := ?_) #[true, true, true, true, true, true, true, true, true, true, true, true, true, true, true, true, true, true, true, true, true, true, true, true, true, true, true, true, true, true, true, true, true, true, true, true, true, true, true, false, false, false, false, false, false] rfl rfl (any_of HT_.out (by kernel_rfl)) (fun _ _ _ h => h) (Or.inl ⟨by rfl, ?_⟩) ?_ ?_
           rotate_left
           ·
            intro w'
            go_simp
            with_reducible rfl
           rotate_left
           ·
            simp only [Act.put, List.setIfInBounds_toArray, List.set_cons_zero, List.set_cons_succ, i64_w, i32_w]
            rfl
           refine pure_ (i := 39) (N := some 58) (v := ?_) (a' := ?_) #[true, true, true, true, true, true, true, true, true, true, true, true, true, true, true, true, true, true, true, true, true, true, true, true, true, true, true, true, true, true, true, true, true, true, true, true, true, true, true, true, false, false, false, false, false] rfl rfl (any_of HT_.out (by kernel_rfl)) (fun _ _ _ h => h) (Or.inl ⟨by rfl, ?_⟩) ?_ ?_
           rotate_left
           ·
            intro w'
            go_simp
            with_reducible rfl
           rotate_left
           ·
            simp only [Act.put, List.setIfInBounds_toArray, List.set_cons_zero, List.set_cons_succ, i64_w, i32_w]
            rfl
           refine pure_ (i := 40) (N := some 59) (v := ?_) (a' := ?_) #[true, true, true, true, true, true, true, true, true, true, true, true, true, true, true, true, true, true, true, true, true, true, true, true, true, true, true, true, true, true, true, true, true, true, true, true, true, true, true, true, true, false, false, false, false] rfl rfl (any_of HT_.out (by kernel_rfl)) (fun _ _ _ h => h) (Or.inl ⟨by rfl, ?_⟩) ?_ ?_
           rotate_left
           ·
            intro w'
            go_simp
            with_reducible rfl
           rotate_left
           ·
            simp only [Act.put, List.setIfInBounds_toArray, List.set_cons_zero, List.set_cons_succ, i64_w, i32_w]
            rfl
           refine one_ (i := 41) (N := some 60) #[true, true, true, true, true, true, true, true, true, true, true, true, true, true, true, true, true, true, true, true, true, true, true, true, true, true, true, true, true, true, true, true, true, true, true, true, true, true, true, true, true, true, false, false, false] rfl rfl (one_of HT_.out (by kernel_rfl)) (by decide) (fun K hK => ?_)
           refine goes_ Tryd.func28 (by kernel_rfl) rfl #[.pointer (some ⟨g386, 0, none⟩)] (by rfl) rfl rfl (by (try simp only [List.map_toArray, List.map_cons, List.map_nil]); first | done | rfl | (simp only [List.length_drop, List.length_take]; rfl)) ?_
           with_reducible refine (unpack_Decoder_Down.calls g386 t396 t401 t402 w _ ?side1 ?side2 A14.out).mono ?_
           (case side1 => repeat (first | (with_reducible first | exact HI386.out | apply IsS90.alloc | apply IsS90.drewN | apply IsS90.drew) | exact HI386.out))
           (case side2 => repeat (first | (with_reducible first | exact HB.out | apply below_alloc | apply pw_below_drewN | apply below_drew1 | refine below_set ?_ (IsS90.ge HI386.out)) | exact HB.out))
           rintro e w21 ⟨rfl, hi, hb, hk⟩
           have HS0_ := keep_cell2 hk (hHeld.1) (by first | (rw [add_block]; exact Kd.own_blk (IsS90.own_ne HI386.out HO389.out (by decide))) | (show (Addr.add _ _).block ≠ _; rw [add_block]; exact Kd.own_blk (IsS90.own_ne HI386.out HO389.out (by decide))) | exact Kd.own_blk (IsS90.own_ne HI386.out HO389.out (by decide)) | (dsimp only; exact Kd.own_blk (IsS90.own_ne HI386.out HO389.out (by decide)))) (by first | (rw [add_block]; exact Kd.own_blk (IsS90.own_ne2 HI386.out HO389.out (by decide))) | (show (Addr.add _ _).block ≠ _; rw [add_block]; exact Kd.own_blk (IsS90.own_ne2 HI386.out HO389.out (by decide))) | exact Kd.own_blk (IsS90.own_ne2 HI386.out HO389.out (by decide)) | (dsimp only; exact Kd.own_blk (IsS90.own_ne2 HI386.out HO389.out (by decide))))
           have HS1_ := keep_cell2 hk (hHeld.2.1) (by first | (rw [add_block]; exact Kd.own_blk (IsS90.own_ne HI386.out HO389.out (by decide))) | (show (Addr.add _ _).block ≠ _; rw [add_block]; exact Kd.own_blk (IsS90.own_ne HI386.out HO389.out (by decide))) | exact Kd.own_blk (IsS90.own_ne HI386.out HO389.out (by decide)) | (dsimp only; exact Kd.own_blk (IsS90.own_ne HI386.out HO389.out (by decide)))) (by first | (rw [add_block]; exact Kd.own_blk (IsS90.own_ne2 HI386.out HO389.out (by decide))) | (show (Addr.add _ _).block ≠ _; rw [add_block]; exact Kd.own_blk (IsS90.own_ne2 HI386.out HO389.out (by decide))) | exact Kd.own_blk (IsS90.own_ne2 HI386.out HO389.out (by decide)) | (dsimp only; exact Kd.own_blk (IsS90.own_ne2 HI386.out HO389.out (by decide))))
           have HS2_ := keep_cell2 hk (hHeld.2.2.1) (by first | (rw [add_block]; exact Kd.own_blk (IsS90.own_ne HI386.out HO389.out (by decide))) | (show (Addr.add _ _).block ≠ _; rw [add_block]; exact Kd.own_blk (IsS90.own_ne HI386.out HO389.out (by decide))) | exact Kd.own_blk (IsS90.own_ne HI386.out HO389.out (by decide)) | (dsimp only; exact Kd.own_blk (IsS90.own_ne HI386.out HO389.out (by decide)))) (by first | (rw [add_block]; exact Kd.own_blk (IsS90.own_ne2 HI386.out HO389.out (by decide))) | (show (Addr.add _ _).block ≠ _; rw [add_block]; exact Kd.own_blk (IsS90.own_ne2 HI386.out HO389.out (by decide))) | exact Kd.own_blk (IsS90.own_ne2 HI386.out HO389.out (by decide)) | (dsimp only; exact Kd.own_blk (IsS90.own_ne2 HI386.out HO389.out (by decide))))
           have HS3_ := keep_cell2 hk (hHeld.2.2.2.1) (by first | (rw [add_block]; exact Kd.own_blk (IsS90.own_ne HI386.out HO394.out (by decide))) | (show (Addr.add _ _).block ≠ _; rw [add_block]; exact Kd.own_blk (IsS90.own_ne HI386.out HO394.out (by decide))) | exact Kd.own_blk (IsS90.own_ne HI386.out HO394.out (by decide)) | (dsimp only; exact Kd.own_blk (IsS90.own_ne HI386.out HO394.out (by decide)))) (by first | (rw [add_block]; exact Kd.own_blk (IsS90.own_ne2 HI386.out HO394.out (by decide))) | (show (Addr.add _ _).block ≠ _; rw [add_block]; exact Kd.own_blk (IsS90.own_ne2 HI386.out HO394.out (by decide))) | exact Kd.own_blk (IsS90.own_ne2 HI386.out HO394.out (by decide)) | (dsimp only; exact Kd.own_blk (IsS90.own_ne2 HI386.out HO394.out (by decide))))
           have HS4_ := keep_cell2 hk (hHeld.2.2.2.2.1) (by first | (rw [add_block]; exact Kd.own_blk (IsS90.own_ne HI386.out HO394.out (by decide))) | (show (Addr.add _ _).block ≠ _; rw [add_block]; exact Kd.own_blk (IsS90.own_ne HI386.out HO394.out (by decide))) | exact Kd.own_blk (IsS90.own_ne HI386.out HO394.out (by decide)) | (dsimp only; exact Kd.own_blk (IsS90.own_ne HI386.out HO394.out (by decide)))) (by first | (rw [add_block]; exact Kd.own_blk (IsS90.own_ne2 HI386.out HO394.out (by decide))) | (show (Addr.add _ _).block ≠ _; rw [add_block]; exact Kd.own_blk (IsS90.own_ne2 HI386.out HO394.out (by decide))) | exact Kd.own_blk (IsS90.own_ne2 HI386.out HO394.out (by decide)) | (dsimp only; exact Kd.own_blk (IsS90.own_ne2 HI386.out HO394.out (by decide))))
           have HS5_ := keep_cell2 hk (hHeld.2.2.2.2.2.1) (by first | (rw [add_block]; exact Kd.own_blk (IsS90.own_ne HI386.out HO394.out (by decide))) | (show (Addr.add _ _).block ≠ _; rw [add_block]; exact Kd.own_blk (IsS90.own_ne HI386.out HO394.out (by decide))) | exact Kd.own_blk (IsS90.own_ne HI386.out HO394.out (by decide)) | (dsimp only; exact Kd.own_blk (IsS90.own_ne HI386.out HO394.out (by decide)))) (by first | (rw [add_block]; exact Kd.own_blk (IsS90.own_ne2 HI386.out HO394.out (by decide))) | (show (Addr.add _ _).block ≠ _; rw [add_block]; exact Kd.own_blk (IsS90.own_ne2 HI386.out HO394.out (by decide))) | exact Kd.own_blk (IsS90.own_ne2 HI386.out HO394.out (by decide)) | (dsimp only; exact Kd.own_blk (IsS90.own_ne2 HI386.out HO394.out (by decide))))
           have HS6_ := keep_cell2 hk (hHeld.2.2.2.2.2.2.1) (by first | (rw [add_block]; exact Kd.own_blk (IsS90.own_ne HI386.out HO389.out (by decide))) | (show (Addr.add _ _).block ≠ _; rw [add_block]; exact Kd.own_blk (IsS90.own_ne HI386.out HO389.out (by decide))) | exact Kd.own_blk (IsS90.own_ne HI386.out HO389.out (by decide)) | (dsimp only; exact Kd.own_blk (IsS90.own_ne HI386.out HO389.out (by decide)))) (by first | (rw [add_block]; exact Kd.own_blk (IsS90.own_ne2 HI386.out HO389.out (by decide))) | (show (Addr.add _ _).block ≠ _; rw [add_block]; exact Kd.own_blk (IsS90.own_ne2 HI386.out HO389.out (by decide))) | exact Kd.own_blk (IsS90.own_ne2 HI386.out HO389.out (by decide)) | (dsimp only; exact Kd.own_blk (IsS90.own_ne2 HI386.out HO389.out (by decide))))
           have HS7_ := keep_cell2 hk (hHeld.2.2.2.2.2.2.2.1) (by first | (rw [add_block]; exact Kd.own_blk (IsS90.own_ne HI386.out HO389.out (by decide))) | (show (Addr.add _ _).block ≠ _; rw [add_block]; exact Kd.own_blk (IsS90.own_ne HI386.out HO389.out (by decide))) | exact Kd.own_blk (IsS90.own_ne HI386.out HO389.out (by decide)) | (dsimp only; exact Kd.own_blk (IsS90.own_ne HI386.out HO389.out (by decide)))) (by first | (rw [add_block]; exact Kd.own_blk (IsS90.own_ne2 HI386.out HO389.out (by decide))) | (show (Addr.add _ _).block ≠ _; rw [add_block]; exact Kd.own_blk (IsS90.own_ne2 HI386.out HO389.out (by decide))) | exact Kd.own_blk (IsS90.own_ne2 HI386.out HO389.out (by decide)) | (dsimp only; exact Kd.own_blk (IsS90.own_ne2 HI386.out HO389.out (by decide))))
           have HS8_ := keep_cell2 hk (hHeld.2.2.2.2.2.2.2.2.1) (by first | (rw [add_block]; exact Kd.own_blk (IsS90.own_ne HI386.out HO389.out (by decide))) | (show (Addr.add _ _).block ≠ _; rw [add_block]; exact Kd.own_blk (IsS90.own_ne HI386.out HO389.out (by decide))) | exact Kd.own_blk (IsS90.own_ne HI386.out HO389.out (by decide)) | (dsimp only; exact Kd.own_blk (IsS90.own_ne HI386.out HO389.out (by decide)))) (by first | (rw [add_block]; exact Kd.own_blk (IsS90.own_ne2 HI386.out HO389.out (by decide))) | (show (Addr.add _ _).block ≠ _; rw [add_block]; exact Kd.own_blk (IsS90.own_ne2 HI386.out HO389.out (by decide))) | exact Kd.own_blk (IsS90.own_ne2 HI386.out HO389.out (by decide)) | (dsimp only; exact Kd.own_blk (IsS90.own_ne2 HI386.out HO389.out (by decide))))
           have HS9_ := keep_cell2 hk (hHeld.2.2.2.2.2.2.2.2.2.1) (by first | (rw [add_block]; exact Kd.own_blk (IsS90.own_ne HI386.out HO394.out (by decide))) | (show (Addr.add _ _).block ≠ _; rw [add_block]; exact Kd.own_blk (IsS90.own_ne HI386.out HO394.out (by decide))) | exact Kd.own_blk (IsS90.own_ne HI386.out HO394.out (by decide)) | (dsimp only; exact Kd.own_blk (IsS90.own_ne HI386.out HO394.out (by decide)))) (by first | (rw [add_block]; exact Kd.own_blk (IsS90.own_ne2 HI386.out HO394.out (by decide))) | (show (Addr.add _ _).block ≠ _; rw [add_block]; exact Kd.own_blk (IsS90.own_ne2 HI386.out HO394.out (by decide))) | exact Kd.own_blk (IsS90.own_ne2 HI386.out HO394.out (by decide)) | (dsimp only; exact Kd.own_blk (IsS90.own_ne2 HI386.out HO394.out (by decide))))
           have HS10_ := keep_cell2 hk (hHeld.2.2.2.2.2.2.2.2.2.2.1) (by first | (rw [add_block]; exact Kd.own_blk (IsS90.own_ne HI386.out HO394.out (by decide))) | (show (Addr.add _ _).block ≠ _; rw [add_block]; exact Kd.own_blk (IsS90.own_ne HI386.out HO394.out (by decide))) | exact Kd.own_blk (IsS90.own_ne HI386.out HO394.out (by decide)) | (dsimp only; exact Kd.own_blk (IsS90.own_ne HI386.out HO394.out (by decide)))) (by first | (rw [add_block]; exact Kd.own_blk (IsS90.own_ne2 HI386.out HO394.out (by decide))) | (show (Addr.add _ _).block ≠ _; rw [add_block]; exact Kd.own_blk (IsS90.own_ne2 HI386.out HO394.out (by decide))) | exact Kd.own_blk (IsS90.own_ne2 HI386.out HO394.out (by decide)) | (dsimp only; exact Kd.own_blk (IsS90.own_ne2 HI386.out HO394.out (by decide))))
           have HS11_ := keep_cell2 hk (hHeld.2.2.2.2.2.2.2.2.2.2.2) (by first | (rw [add_block]; exact Kd.own_blk (IsS90.own_ne HI386.out HO394.out (by decide))) | (show (Addr.add _ _).block ≠ _; rw [add_block]; exact Kd.own_blk (IsS90.own_ne HI386.out HO394.out (by decide))) | exact Kd.own_blk (IsS90.own_ne HI386.out HO394.out (by decide)) | (dsimp only; exact Kd.own_blk (IsS90.own_ne HI386.out HO394.out (by decide)))) (by first | (rw [add_block]; exact Kd.own_blk (IsS90.own_ne2 HI386.out HO394.out (by decide))) | (show (Addr.add _ _).block ≠ _; rw [add_block]; exact Kd.own_blk (IsS90.own_ne2 HI386.out HO394.out (by decide))) | exact Kd.own_blk (IsS90.own_ne2 HI386.out HO394.out (by decide)) | (dsimp only; exact Kd.own_blk (IsS90.own_ne2 HI386.out HO394.out (by decide))))
           refine ⟨_, rfl, ?_⟩
           have n0_ := Aside0.mk (Kd.R_mono (Kd.R_keep2 (IsS90.apart (show IsS90 w _ g386 t396 from by repeat (first | (with_reducible first | exact HI386.out | apply IsS90.alloc | apply IsS90.drewN | apply IsS90.drew) | exact HI386.out)) (by (with_reducible repeat (first | apply Kd.R_alloc | apply Kd.R_drewN | apply Kd.R_drew)); exact HO389.out) (by decide)) hk (fun _ h => h.2)) (fun _ h => h.1))
           have n1_ := Aside0.mk (Kd.R_mono (Kd.R_keep2 (IsS90.apart (show IsS90 w _ g386 t396 from by repeat (first | (with_reducible first | exact HI386.out | apply IsS90.alloc | apply IsS90.drewN | apply IsS90.drew) | exact HI386.out)) (by (with_reducible repeat (first | apply Kd.R_alloc | apply Kd.R_drewN | apply Kd.R_drew)); exact HO394.out) (by decide)) hk (fun _ h => h.2)) (fun _ h => h.1))
           have n2_ := Aside0.mk (hb)
           have n3_ := Aside0.mk (hi)
           clear HO389
           clear HO394
           clear HB
           clear HI386
           have HO389 := n0_
           have HO394 := n1_
           have HB := n2_
           have HI386 := n3_
           clear n0_ n1_ n2_ n3_
           (try clear hb)
           (try clear hb2)
           (try clear hk)
           (try clear hi)
           refine hK.out _ _ ⟨HS0_, HS1_, HS2_, HS3_, HS4_, HS5_, HS6_, HS7_, HS8_, HS9_, HS10_, HS11_⟩ (fun hHeld => ?_)
           clear hK K
           refine norm_ (a' := ?_) ?_ ?_
           rotate_left
           ·
            show Act.put _ (some 60) _ = _
            simp only [Act.put, List.setIfInBounds_toArray, List.set_cons_zero, List.set_cons_succ, i64_w, i32_w]
            rfl
           refine pure_ (i := 42) (N := some 61) (v := ?_) (a' := ?_) #[true, true, true, true, true, true, true, true, true, true, true, true, true, true, true, true, true, true, true, true, true, true, true, true, true, true, true, true, true, true, true, true, true, true, true, true, true, true, true, true, true, true, true, false, false] rfl rfl (any_of HT_.out (by kernel_rfl)) (fun _ _ _ h => h) (Or.inl ⟨by rfl, ?_⟩) ?_ ?_
           rotate_left
           ·
            intro w'
            go_simp
            with_reducible rfl
           rotate_left
           ·
            simp only [Act.put, List.setIfInBounds_toArray, List.set_cons_zero, List.set_cons_succ, i64_w, i32_w]
            rfl
           refine pure_ (i := 43) (N := some 62) (v := ?_) (a' := ?_) #[true, true, true, true, true, true, true, true, true, true, true, true, true, true, true, true, true, true, true, true, true, true, true, true, true, true, true, true, true, true, true, true, true, true, true, true, true, true, true, true, true, true, true, true, false] rfl rfl (any_of HT_.out (by kernel_rfl)) (fun _ _ _ h => h) (Or.inl ⟨by rfl, ?_⟩) ?_ ?_
           rotate_left
           ·
            intro w'
            go_simp
            with_reducible rfl
           rotate_left
           ·
            simp only [Act.put, List.setIfInBounds_toArray, List.set_cons_zero, List.set_cons_succ, i64_w, i32_w]
            rfl
           refine pure_ (i := 44) (N := some 0) (v := ?_) (a' := ?_) #[true, true, true, true, true, true, true, true, true, true, true, true, true, true, true, true, true, true, true, true, true, true, true, true, true, true, true, true, true, true, true, true, true, true, true, true, true, true, true, true, true, true, true, true, true] rfl rfl (any_of HT_.out (by kernel_rfl)) (fun _ _ _ h => h) (Or.inl ⟨by rfl, ?_⟩) ?_ ?_
           rotate_left
           ·
            intro w'
            go_simp
            with_reducible rfl
           rotate_left
           ·
            simp only [Act.put, List.setIfInBounds_toArray, List.set_cons_zero, List.set_cons_succ, i64_w, i32_w]
            rfl
           refine done_ (done_of HT_.out (by kernel_rfl)) ?_
           try go_wp2
           go_ret
           exact ⟨by first | rfl | (simp [errW_none, errW_some] <;> rfl) | (simp [*, errW_none, errW_some] <;> rfl), by repeat (first | (with_reducible first | exact HB.out | apply below_alloc | apply pw_below_drewN | apply below_drew1 | refine below_set ?_ (IsS90.ge HI386.out)) | exact HB.out)⟩
          ·
           rw [if_neg c13] at H
           have c13b0 : (((rd_T26 t392 4).f0).toList == ([99, 97, 99, 104, 101, 45, 99, 111, 110, 116, 114, 111, 108] : List UInt8)) = false := beq_eq_false_iff_ne.mpr c13
           have c13b1 : (((rd_T26 t392 4).f0).toList != ([99, 97, 99, 104, 101, 45, 99, 111, 110, 116, 114, 111, 108] : List UInt8)) = true := bne_iff_ne.mpr c13
           exact absurd ((Option.some.inj H).trans HT.out) (by decide)
         ·
          rw [if_neg c12] at H
          exact absurd H (by simp)
        ·
         rw [if_neg c11] at H
         have c11b0 : ((((rd_T26 t392 3).f0).toList) == (((rd_T26 t387 3).f0).toList) && ((((rd_T26 t392 3).f1).toList) == (((rd_T26 t387 3).f1).toList) && (((rd_T26 t392 3).f2) == ((rd_T26 t387 3).f2)))) = false := by simpa using c11
         (try (have c11b1 : decide ((((rd_T26 t392 3).f0).toList) = (((rd_T26 t387 3).f0).toList) && ((((rd_T26 t392 3).f1).toList) == (((rd_T26 t387 3).f1).toList) && (((rd_T26 t392 3).f2) == ((rd_T26 t387 3).f2)))) = false := by simpa using c11))
         (try (have c11b2 : ((((rd_T26 t392 3).f0).toList) == (((rd_T26 t387 3).f0).toList) && ((((rd_T26 t392 3).f1).toList) == (((rd_T26 t387 3).f1).toList) && (((rd_T26 t392 3).f2) == ((rd_T26 t387 3).f2)))) = false := by simpa using c11))
         (try (have c11b3 : ¬ ((((rd_T26 t392 3).f0).toList) = (((rd_T26 t387 3).f0).toList) && ((((rd_T26 t392 3).f1).toList) == (((rd_T26 t387 3).f1).toList) && (((rd_T26 t392 3).f2) == ((rd_T26 t387 3).f2)))) := by simpa using c11))
         clear c11
         (try (have c11b9 := c11b0; simp only [beq_true, beq_false] at c11b9))
         exact absurd ((Option.some.inj H).trans HT.out) (by decide)
       ·
        rw [if_neg c10] at H
        exact absurd H (by simp)
      ·
       rw [if_neg c9] at H
       have c9b0 : (t395 == 0) = false := beq_eq_false_iff_ne.mpr c9
       have c9b1 : (t395 != 0) = true := bne_iff_ne.mpr c9
       exact absurd ((Option.some.inj H).trans HT.out) (by decide)
     ·
      rw [if_neg c8] at H
      have c8b0 : ((t392.length : Int) == 5) = false := beq_eq_false_iff_ne.mpr c8
      have c8b1 : ((t392.length : Int) != 5) = true := bne_iff_ne.mpr c8
      exact absurd ((Option.some.inj H).trans HT.out) (by decide)
    ·
     rw [if_neg c7] at H
     have c7b0 : (((rd_T26 t387 3).f1).toList == ([119, 119, 119, 46, 101, 120, 97, 109, 112, 108, 101, 46, 99, 111, 109] : List UInt8)) = false := beq_eq_false_iff_ne.mpr c7
     have c7b1 : (((rd_T26 t387 3).f1).toList != ([119, 119, 119, 46, 101, 120, 97, 109, 112, 108, 101, 46, 99, 111, 109] : List UInt8)) = true := bne_iff_ne.mpr c7
     exact absurd ((Option.some.inj H).trans HT.out) (by decide)
   ·
    rw [if_neg c6] at H
    exact absurd H (by simp)
  ·
   rw [if_neg c5] at H
   have c5b0 : (t390 == 0) = false := beq_eq_false_iff_ne.mpr c5
   have c5b1 : (t390 != 0) = true := bne_iff_ne.mpr c5
   exact absurd ((Option.some.inj H).trans HT.out) (by decide)
 ·
  rw [if_neg c4] at H
  have c4b0 : ((t387.length : Int) == 4) = false := beq_eq_false_iff_ne.mpr c4
  have c4b1 : ((t387.length : Int) != 4) = true := bne_iff_ne.mpr c4
  exact absurd ((Option.some.inj H).trans HT.out) (by decide)
end Go.Proofs.YtfkdocmhbmameaaDoor.Mine
