/- The walks and the plain laws that the row comes to: merged out of this repo's texts. -/
import Derived.Test.YtfkdocmhbmameaaDoorProg
import Derived.Below
import Derived.Deep.Draws
import Derived.Deep.AppendLies
import Derived.Maps.AppendAt
import Derived.OwnWalk
import Derived.Laws.BytesArg
import Derived.Laws.MakeOwn
import Derived.Laws.OwnMore
import Derived.Deep.OwnRows
import Derived.Tactics
import Derived.Lib.ConvBytes
import Derived.Laws.Slices
import Derived.WalkKit
import Derived.KernelRfl
import Derived.RowKit3
import Derived.Deep.LoopGhost
import Derived.Deep.QuietTactic
import Derived.BigQuiet
import Derived.WideLaws
import Derived.Deep.DeepCutAuto
import Derived.Deep.CutBlock
import Derived.Deep.RegionHeld3
import Derived.Laws.Rows
import Derived.Lib.AppendStr
import Derived.ArgAppend
import Derived.Laws.IdiomCopy
import Derived.RowKit
import Derived.OrdersHeld
import Derived.Laws.BitsLemmas
import Derived.Laws.StructEq
import Derived.Laws.CopyOwn
import Derived.SizedLaws
import Derived.ChangeSlices
import Derived.Deep.Slices
import Derived.Lib.SmallJoins
import Derived.Lib.OthersKept
import Derived.Lib.AppendZerosOnto
import Derived.WalkSpells
import Derived.Shelf.Utf8.RuneCount
import Derived.Shelf.Strings.Search1
import Derived.Shelf.Strings.Search2
import Derived.Shelf.Strings.Search3
import Derived.Shelf.Strings.Cut
import Derived.Shelf.Strings.Count
import Derived.Shelf.LaysM
import Derived.Shelf.Strings.Shaped
import Derived.Shelf.Strings.Split
import Derived.Shelf.Strings.SplitShaped
import Derived.Shelf.Unicode.Decode
import Derived.Shelf.Strings.RuneCount
import Derived.Shelf.Strings.Explode
import Derived.Shelf.Unicode.DecodeSlow
import Derived.Shelf.Unicode.DecodeAny
import Derived.Recover
import Derived.WalkLawsBesides
import Derived.Test.YtfkdocmhbmameaaDoorCUnpackReads1
import Derived.Test.YtfkdocmhbmameaaDoorCUnpackReads2
import Derived.Test.YtfkdocmhbmameaaDoorCUnpackReads3
import Derived.Test.YtfkdocmhbmameaaDoorCUnpackReads4
import Derived.Test.YtfkdocmhbmameaaDoorCUnpackReads5
import Derived.Test.YtfkdocmhbmameaaDoorCUnpackReads6
import Derived.Test.YtfkdocmhbmameaaDoorCUnpackReads7
import Derived.Test.YtfkdocmhbmameaaDoorCUnpackReads8
import Derived.Test.YtfkdocmhbmameaaDoorCUnpackReads9
import Derived.Test.YtfkdocmhbmameaaDoorCUnpackReads10
import Derived.Test.YtfkdocmhbmameaaDoorCUnpackReads11
import Derived.Test.YtfkdocmhbmameaaDoorCUnpackReads12
import Derived.Test.YtfkdocmhbmameaaDoorCUnpackReads13
import Derived.Test.YtfkdocmhbmameaaDoorCUnpackReads14
import Derived.Test.YtfkdocmhbmameaaDoorCUnpackReads15
import Derived.Test.YtfkdocmhbmameaaDoorCUnpackReads16
import Derived.Test.YtfkdocmhbmameaaDoorCUnpackReads17
import Derived.Test.YtfkdocmhbmameaaDoorCUnpackReads18
import Derived.Test.YtfkdocmhbmameaaDoorCUnpackReads19
import Derived.Test.YtfkdocmhbmameaaDoorCUnpackReads20
import Derived.Test.YtfkdocmhbmameaaDoorCUnpackReads21
import Derived.Test.YtfkdocmhbmameaaDoorCUnpackReads22
namespace Go.Proofs.YtfkdocmhbmameaaDoor.Mine
open Go.RowKit Go.Proofs.YtfkdocmhbmameaaDoorW.PrintWords Go.Proofs.YtfkdocmhbmameaaDoorW.PrintLast Go.Proofs.YtfkdocmhbmameaaDoorW.PrintMore
attribute [local go_sem] max2_int min2_int max_two min_two max_three min_three max_four min_four
set_option linter.unusedVariables false
set_option linter.unusedSimpArgs false
mutual
def nunciolaw12_UnpackReads.j0 : Nat → List ByteArray → Bool → Option (Bool)
 | 0, _, _ => none
 | k + 1, x0, x20 => if x20 = true then (some true) else ((unpack_New.f).bind fun t452 => ((nuncioref12_New.f).bind fun bt454 => (nunciolaw12_UnpackReads.l0 k x0 0 t452 bt454.1 bt454.2.1 bt454.2.2)))
def nunciolaw12_UnpackReads.l0 : Nat → List ByteArray → Int → TD → Int → List (S88) → Bool → Option (Bool)
 | 0, _, _, _, _, _, _ => none
 | k + 1, x0, x5, x454000, x460000, x460001, x460002 => if x5 < (x0.length : Int) then (if 0 ≤ x5 then ((unpack_Decoder_Read.f k x454000 (rdOf ByteArray.empty x0 x5)).bind fun bt461 => ((nuncioref12_Read.f k x460000 x460001 x460002 (rdOf ByteArray.empty x0 x5)).bind fun bt467 => ((nuncioref12_Same.f k bt461.1 bt467.2.2.2.1).bind fun t477 => (if t477 = true then (if bt461.2.1 = bt467.2.2.2.2 then ((unpack_Decoder_Down.f bt461.2.2).bind fun bt478 => (if (bt478.1 != bt467.2.2.1) = true then (some false) else ((unpack_Decoder_Table.f bt478.2).bind fun t480 => ((nunciolaw12_Tells.f k t480 bt467.1 bt467.2.1).bind fun bt482 => (if bt482.1 = true then (nunciolaw12_UnpackReads.l0 k x0 (wrap64 (x5 + 1)) bt478.2 bt467.1 bt467.2.1 bt467.2.2.1) else (some false)))))) else (some false)) else (some false))))) else (none)) else (some true)
end
def nunciolaw12_UnpackReads.f (k : Nat) (l0 : List ByteArray) : Option (Bool) := (nunciolaw12_awake.f k).bind fun t450 => (if t450 = true then ((nunciolaw12_Few.f k l0).bind fun t451 => (if t451 = true then (nunciolaw12_UnpackReads.j0 k l0 (decide ((l0.length : Int) > 40))) else (nunciolaw12_UnpackReads.j0 k l0 true))) else (some false))
def nunciolaw12_UnpackReads.T11 : Bool × List (List Nat × List Nat) := (true, [([], []), ([], []), ([], []), ([1, 2], [1, 2]), ([3], [3]), ([0, 4], [0, 4]), ([5], [5]), ([6], [6]), ([6], [6]), ([6], [6]), ([], []), ([10, 7, 5, 0, 1, 2, 3, 4, 5, 6, 7, 10], [7, 10]), ([8, 11, 0, 1, 2, 3, 4, 5, 6, 7, 8, 10, 11], [8]), ([9, 12, 0, 1, 2, 3, 4, 5, 6, 7, 8, 9, 10, 11, 12], [9])])
def nunciolaw12_UnpackReads.B11 : List Nat := [0, 0, 0, 6, 14, 31, 63, 127, 127, 127, 0, 1279, 3583, 8191]
theorem nunciolaw12_UnpackReads.tab11 : rtab .any (opsOf Tryd.f5 11) = nunciolaw12_UnpackReads.T11 := by kernel_rfl
theorem nunciolaw12_UnpackReads.bits11 : waitsOk nunciolaw12_UnpackReads.T11.2 nunciolaw12_UnpackReads.B11 = true := by kernel_rfl
def nunciolaw12_UnpackReads.T13 : Bool × List (List Nat × List Nat) := (true, [([], []), ([], []), ([0, 1], [0, 1]), ([2], [2]), ([3, 2], [3]), ([4], [4]), ([4], [4]), ([5, 6, 4], [4, 5, 6]), ([4, 7], [4, 7]), ([8, 4], [8]), ([9], [9]), ([10, 9, 9], [9, 10]), ([9], [9]), ([12, 9], [9, 12]), ([11, 13, 9], [9, 11, 13]), ([9, 14], [9, 14]), ([15, 11], [15]), ([16], [16]), ([17, 16, 16], [16, 17]), ([16], [16]), ([19, 16], [16, 19]), ([18, 20, 18, 16], [16, 18, 20]), ([21, 16], [16, 21]), ([16, 22], [16, 22])])
def nunciolaw12_UnpackReads.B13 : List Nat := [0, 0, 3, 7, 15, 31, 31, 127, 255, 511, 1023, 2047, 1023, 5119, 16383, 32767, 65535, 131071, 262143, 131071, 655359, 2097151, 4194303, 8388607]
theorem nunciolaw12_UnpackReads.tab13 : rtab .any (opsOf Tryd.f5 13) = nunciolaw12_UnpackReads.T13 := by kernel_rfl
theorem nunciolaw12_UnpackReads.bits13 : waitsOk nunciolaw12_UnpackReads.T13.2 nunciolaw12_UnpackReads.B13 = true := by kernel_rfl
set_option maxHeartbeats 8000000 in
set_option maxRecDepth 100000 in
theorem nunciolaw12_UnpackReads.calls (k : Nat) (A0 : Option Addr) (c0 : Nat) (l0 : List ByteArray) (r : Bool) (w : World) (hE : EnvW w) (hr0 : Kd.C Kd.string w A0 l0.length l0) (hc0 : l0.length ≤ c0) (h : nunciolaw12_UnpackReads.f k l0 = some r) (hT : r = true) :
  Calls Tryd.prog 5 #[.slice A0 l0.length c0] w fun e w' => e = .returned (.bool r) ∧ Below w.heap.size w w' := by
 have hu56 := Tryd.underlying56
 have hu37 := Tryd.underlying37
 have HR0 := Aside0.mk hr0
 have HC0 := Aside0.mk hc0
 clear hr0 hc0
 have HB := Aside0.mk (Below.refl w.heap.size w)
 have HEnv := Aside0.mk hE
 clear hE
 have HT := Aside0.mk hT
 clear hT
 have H : ((nunciolaw12_awake.f k).bind fun t450 => (if t450 = true then ((nunciolaw12_Few.f k l0).bind fun t451 => (if t451 = true then (nunciolaw12_UnpackReads.j0 k l0 (decide ((l0.length : Int) > 40))) else (nunciolaw12_UnpackReads.j0 k l0 true))) else (some false))) = some r := h
 clear h
 replace H := Option.bind_eq_some_iff.mp H
 obtain ⟨t450, A20, H⟩ := H
 replace H : (if t450 = true then ((nunciolaw12_Few.f k l0).bind fun t451 => (if t451 = true then (nunciolaw12_UnpackReads.j0 k l0 (decide ((l0.length : Int) > 40))) else (nunciolaw12_UnpackReads.j0 k l0 true))) else (some false)) = some r := H
 have A2 := Aside0.mk A20
 clear A20
 by_cases c3 : t450 = true
 ·
  subst c3
  have H1 : ((nunciolaw12_Few.f k l0).bind fun t451 => (if t451 = true then (nunciolaw12_UnpackReads.j0 k l0 (decide ((l0.length : Int) > 40))) else (nunciolaw12_UnpackReads.j0 k l0 true))) = some r := by rw [if_pos rfl] at H; exact H
  clear H
  have H := H1
  clear H1
  have HC4 := Aside0.mk H
  clear H
  go_enter Tryd.func5, Tryd.ntmps5
  go_upto_region 3 with (first | ((with_reducible refine gate_callee (f := 21) rfl ?_); refine goesL_ (some 11) rfl rfl Tryd.func21 (by kernel_rfl) rfl #[] rfl (by (try simp only [List.map_toArray, List.map_cons, List.map_nil]); first | done | rfl | (simp only [List.length_drop, List.length_take]; rfl)) ?_; (with_reducible refine (nunciolaw12_awake.calls k  true _ ?side1 A2.out).mono ?_); (case side1 => exact EnvW.below HEnv.out rfl (by repeat (first | (with_reducible first | exact HB.out | apply below_alloc | apply pw_below_drewN | apply below_drew1) | exact HB.out))); rintro e w5 ⟨rfl, hb⟩; refine ⟨_, rfl, ?_⟩; have n0_ := Aside0.mk (below_step (by repeat (first | (with_reducible first | exact HB.out | apply below_alloc | apply pw_below_drewN | apply below_drew1) | exact HB.out)) hb); clear HB; have HB := n0_; clear n0_; (try clear hb); (try clear hb2); (try clear hk); (try clear hi)))
  (try simp only [Act.put, List.setIfInBounds_toArray, List.set_cons_zero, List.set_cons_succ])
  go_cut [20] (fun v20 wc => ∃ (kq : Nat) (x20_3 : Bool), v20 = .bool x20_3 ∧ Aside0 (nunciolaw12_UnpackReads.j0 kq l0 x20_3 = some r) ∧ Aside0 (kq ≤ k) ∧ Aside0 (Below w.heap.size w wc))
  case first =>
   have H := HC4.out
   clear HC4
   replace H := Option.bind_eq_some_iff.mp H
   obtain ⟨t451, A60, H⟩ := H
   replace H : (if t451 = true then (nunciolaw12_UnpackReads.j0 k l0 (decide ((l0.length : Int) > 40))) else (nunciolaw12_UnpackReads.j0 k l0 true)) = some r := H
   have A6 := Aside0.mk A60
   clear A60
   by_cases c7 : t451 = true
   ·
    subst c7
    have H1 : (nunciolaw12_UnpackReads.j0 k l0 (decide ((l0.length : Int) > 40))) = some r := by rw [if_pos rfl] at H; exact H
    clear H
    have H := H1
    clear H1
    have H' := Aside0.mk H
    clear H
    go_wp2_with (first | ((with_reducible refine gate_callee (f := 22) rfl ?_); refine goesL_ (some 14) rfl rfl Tryd.func22 (by kernel_rfl) rfl #[.slice A0 l0.length c0] rfl (by (try simp only [List.map_toArray, List.map_cons, List.map_nil]); first | done | rfl | (simp only [List.length_drop, List.length_take]; rfl)) ?_; (with_reducible refine (nunciolaw12_Few.calls k _ _ l0 true _ ?side1 ?side2 A6.out).mono ?_); (case side1 => repeat (first | exact (Kd.C_below HR0.out HB.out) | (with_reducible refine Kd.C_alloc ?_ _) | (with_reducible refine Kd.C_drewN ?_ _) | (with_reducible refine Kd.C_drew ?_))); (case side2 => exact HC0.out); rintro e w8 ⟨rfl, hb⟩; refine ⟨_, rfl, ?_⟩; have n0_ := Aside0.mk (below_step (by repeat (first | (with_reducible first | exact HB.out | apply below_alloc | apply pw_below_drewN | apply below_drew1) | exact HB.out)) hb); clear HB; have HB := n0_; clear n0_; (try clear hb); (try clear hb2); (try clear hk); (try clear hi)))
    go_meet
    case rel => exact ⟨_, (decide ((l0.length : Int) > 40)), (by first | rfl | (simp; done) | (simp [*]; done)), H', ⟨by first | omega | exact Nat.le_refl _⟩, ⟨by repeat (first | (with_reducible first | exact HB.out | apply below_alloc | apply pw_below_drewN | apply below_drew1) | exact HB.out)⟩⟩
   ·
    replace c7 := Bool.eq_false_iff.mpr c7
    subst c7
    have H1 : (nunciolaw12_UnpackReads.j0 k l0 true) = some r := by rw [if_neg (show ¬ (false = true) by decide)] at H; exact H
    clear H
    have H := H1
    clear H1
    have H' := Aside0.mk H
    clear H
    go_wp2_with (first | ((with_reducible refine gate_callee (f := 22) rfl ?_); refine goesL_ (some 14) rfl rfl Tryd.func22 (by kernel_rfl) rfl #[.slice A0 l0.length c0] rfl (by (try simp only [List.map_toArray, List.map_cons, List.map_nil]); first | done | rfl | (simp only [List.length_drop, List.length_take]; rfl)) ?_; (with_reducible refine (nunciolaw12_Few.calls k _ _ l0 false _ ?side1 ?side2 A6.out).mono ?_); (case side1 => repeat (first | exact (Kd.C_below HR0.out HB.out) | (with_reducible refine Kd.C_alloc ?_ _) | (with_reducible refine Kd.C_drewN ?_ _) | (with_reducible refine Kd.C_drew ?_))); (case side2 => exact HC0.out); rintro e w9 ⟨rfl, hb⟩; refine ⟨_, rfl, ?_⟩; have n0_ := Aside0.mk (below_step (by repeat (first | (with_reducible first | exact HB.out | apply below_alloc | apply pw_below_drewN | apply below_drew1) | exact HB.out)) hb); clear HB; have HB := n0_; clear n0_; (try clear hb); (try clear hb2); (try clear hk); (try clear hi)))
    go_meet
    case rel => exact ⟨_, (true), (by first | rfl | (simp; done) | (simp [*]; done)), H', ⟨by first | omega | exact Nat.le_refl _⟩, ⟨by repeat (first | (with_reducible first | exact HB.out | apply below_alloc | apply pw_below_drewN | apply below_drew1) | exact HB.out)⟩⟩
  case rest =>
   clear HC4
   try clear c2
   try clear p2
   try clear c3
   try clear c5
   try clear c7
   obtain ⟨kq, x20_3, rfl, HA, HJ3, HB⟩ := hcut
   cases kq with
   | zero => exact absurd HA.out (by simp [nunciolaw12_UnpackReads.j0])
   | succ kj3 =>
    have H := HA.out
    clear HA
    simp only [nunciolaw12_UnpackReads.j0] at H
    by_cases c10 : x20_3 = true
    ·
     subst c10
     have H1 : (some true) = some r := by rw [if_pos rfl] at H; exact H
     clear H
     have H := H1
     clear H1
     obtain rfl := Option.some.inj H
     go_wp2
     go_ret
     exact ⟨by first | rfl | (simp [errW_none, errW_some] <;> rfl) | (simp [*, errW_none, errW_some] <;> rfl), by repeat (first | (with_reducible first | exact HB.out | apply below_alloc | apply pw_below_drewN | apply below_drew1) | exact HB.out)⟩
    ·
     replace c10 := Bool.eq_false_iff.mpr c10
     subst c10
     have H1 : ((unpack_New.f).bind fun t452 => ((nuncioref12_New.f).bind fun bt454 => (nunciolaw12_UnpackReads.l0 kj3 l0 0 t452 bt454.1 bt454.2.1 bt454.2.2))) = some r := by rw [if_neg (show ¬ (false = true) by decide)] at H; exact H
     clear H
     have H := H1
     clear H1
     replace H := Option.bind_eq_some_iff.mp H
     obtain ⟨t452, A110, H⟩ := H
     replace H : ((nuncioref12_New.f).bind fun bt454 => (nunciolaw12_UnpackReads.l0 kj3 l0 0 t452 bt454.1 bt454.2.1 bt454.2.2)) = some r := H
     have A11 := Aside0.mk A110
     clear A110
     replace H := Option.bind_eq_some_iff.mp H
     obtain ⟨⟨t454, t455, t458⟩, A120, H⟩ := H
     replace H : (nunciolaw12_UnpackReads.l0 kj3 l0 0 t452 t454 t455 t458) = some r := H
     have A12 := Aside0.mk A120
     clear A120
     have H' := Aside0.mk H
     clear H
     go_wp2_with (first | ((with_reducible refine gate_callee (f := 23) rfl ?_); refine goesL_ (some 21) rfl rfl Tryd.func23 (by kernel_rfl) rfl #[] rfl (by (try simp only [List.map_toArray, List.map_cons, List.map_nil]); first | done | rfl | (simp only [List.length_drop, List.length_take]; rfl)) ?_; (with_reducible refine (unpack_New.calls  t452 _ _ (Below.refl _ _) ?side1 A11.out).mono ?_); (case side1 => exact EnvW.below HEnv.out rfl (by repeat (first | (with_reducible first | exact HB.out | apply below_alloc | apply pw_below_drewN | apply below_drew1) | exact HB.out))); rintro e w13 ⟨g453, rfl, hi, hb, hb2⟩; refine ⟨_, rfl, ?_⟩; have n0_ := Aside0.mk (below_step (by repeat (first | (with_reducible first | exact HB.out | apply below_alloc | apply pw_below_drewN | apply below_drew1) | exact HB.out)) hb2); have n1_ := Aside0.mk ((show IsS90 w w13 g453 t452 from IsS90.rebase hi (below_size (by repeat (first | (with_reducible first | exact HB.out | apply below_alloc | apply pw_below_drewN | apply below_drew1) | exact HB.out))))); clear HB; have HB := n0_; have HI453 := n1_; clear n0_ n1_; (try clear hb); (try clear hb2); (try clear hk); (try clear hi)) | ((with_reducible refine gate_callee (f := 24) rfl ?_); refine goesL_ (some 22) rfl rfl Tryd.func24 (by kernel_rfl) rfl #[] rfl (by (try simp only [List.map_toArray, List.map_cons, List.map_nil]); first | done | rfl | (simp only [List.length_drop, List.length_take]; rfl)) ?_; (with_reducible refine (nuncioref12_New.calls  t454 t455 t458 _ A12.out).mono ?_); rintro e w14 ⟨v456, rfl, ho0, hb⟩; refine ⟨_, rfl, ?_⟩; have n0_ := Aside0.mk (Kd.R_lower ho0 (below_size (by repeat (first | (with_reducible first | exact HB.out | apply below_alloc | apply pw_below_drewN | apply below_drew1 | refine below_set ?_ (IsS90.ge HI453.out)) | exact HB.out)))); have n1_ := Aside0.mk (IsS90.below (by repeat (first | (with_reducible first | exact HI453.out | apply IsS90.alloc | apply IsS90.drewN | apply IsS90.drew) | exact HI453.out)) hb); have n2_ := Aside0.mk (below_step (by repeat (first | (with_reducible first | exact HB.out | apply below_alloc | apply pw_below_drewN | apply below_drew1 | refine below_set ?_ (IsS90.ge HI453.out)) | exact HB.out)) hb); clear HI453; clear HB; have HO457 := n0_; have HI453 := n1_; have HB := n2_; clear n0_ n1_ n2_; (try clear hb); (try clear hb2); (try clear hk); (try clear hi); (try clear ho0)) | ((with_reducible refine gate_dst (N := 4) rfl ?_); (try (refine gate_guard (by rfl) ?_; dsimp only)); refine box_event ?hg (N := 4) ?hd (cs := #[.int .i64 0, .slice none 0 0, .bool false]) (t := 56) ?hr ?_; (case hd => rfl); (case hg => rfl); (case hr => first | (go_simp; done) | (go_simp; rfl)); intro gb459 hg w15 hbox hb; have n0_ := Aside0.mk (Kd.R_below (by (with_reducible repeat (first | apply Kd.R_alloc | apply Kd.R_drewN | apply Kd.R_drew)); exact HO457.out) hb); have n1_ := Aside0.mk (IsS90.below (by repeat (first | (with_reducible first | exact HI453.out | apply IsS90.alloc | apply IsS90.drewN | apply IsS90.drew) | exact HI453.out)) hb); have n2_ := Aside0.mk (below_step (by repeat (first | (with_reducible first | exact HB.out | apply below_alloc | apply pw_below_drewN | apply below_drew1 | refine below_set ?_ (IsS90.ge HI453.out)) | exact HB.out)) hb); have n3_ := Aside0.mk (hbox); have n4_ := Aside0.mk ((by rw [hg]; exact (below_size (by repeat (first | (with_reducible first | exact HB.out | apply below_alloc | apply pw_below_drewN | apply below_drew1 | refine below_set ?_ (IsS90.ge HI453.out)) | exact HB.out))) : w.heap.size ≤ gb459)); have n5_ := Aside0.mk ((by rw [hg]; exact (below_size (by repeat (first | (with_reducible first | exact HB.out | apply below_alloc | apply pw_below_drewN | apply below_drew1 | refine below_set ?_ (IsS90.ge HI453.out)) | exact HB.out))) : w.heap.size ≤ gb459)); have n6_ := Aside0.mk ((by rw [hg]; exact Nat.ne_of_lt (IsS90.lt (show IsS90 w _ g453 t452 from by repeat (first | (with_reducible first | exact HI453.out | apply IsS90.alloc | apply IsS90.drewN | apply IsS90.drew) | exact HI453.out))) : g453 ≠ gb459)); have n7_ := Aside0.mk ((by rw [hg]; exact Nat.ne_of_gt (IsS90.lt (show IsS90 w _ g453 t452 from by repeat (first | (with_reducible first | exact HI453.out | apply IsS90.alloc | apply IsS90.drewN | apply IsS90.drew) | exact HI453.out))) : gb459 ≠ g453)); clear HO457; clear HI453; clear HB; have HO457 := n0_; have HI453 := n1_; have HB := n2_; have BK459 := n3_; have GW459 := n4_; have GE459 := n5_; have NB453_459 := n6_; have NB459_453 := n7_; clear n0_ n1_ n2_ n3_ n4_ n5_ n6_ n7_; clear hb hbox hg; have hnb16 := NB459_453.out; have hnc16 := NB453_459.out; have hcz17_0 : w15.cell? ⟨gb459, 0, none⟩ = some (.int .i64 0) := (blk_cell BK459.out 0).trans rfl; have hcz17_1 : w15.cell? ⟨gb459, 1, none⟩ = some (.slice none 0 0) := (blk_cell BK459.out 1).trans rfl; have hcz17_2 : w15.cell? ⟨gb459, 2, none⟩ = some (.bool false) := (blk_cell BK459.out 2).trans rfl; have hfz17_0 := blk_frozen BK459.out 0; have hfz17_1 := blk_frozen BK459.out 1; have hfz17_2 := blk_frozen BK459.out 2; obtain ⟨Ao18, co18, eo18⟩ := Kd.R_slice HO457.out; subst eo18))
     go_loopg [5] kj3 (fun kq v5 w' => ∃ (x5_2 : Int) (x454000_2 : TD) (x460000_2 : Int) (x460001_2 : List (S88)) (x460002_2 : Bool) (u460001 : Value), v5 = .int .i64 x5_2 ∧ Aside0 (nunciolaw12_UnpackReads.l0 kq l0 x5_2 x454000_2 x460000_2 x460001_2 x460002_2 = some r) ∧ Aside0 (kq ≤ kj3) ∧ Aside0 (Kd.R k88 88 w' w.heap.size (fun _ => True) u460001 x460001_2) ∧ Aside0 (w'.heap[gb459]? = some (.cells #[.int .i64 x460000_2, u460001, .bool x460002_2] 56 (0, 0))) ∧ Aside0 (IsS90 w w' g453 x454000_2) ∧ Aside0 (Below w.heap.size w w'))
     case atStart => exact ⟨(0), (t452), (t454), (t455), (t458), (.slice Ao18 t455.length co18), (by first | rfl | (simp; done) | (simp [*]; done)), H', ⟨Nat.le_refl _⟩, ⟨by (with_reducible repeat (first | apply Kd.R_alloc | apply Kd.R_drewN | apply Kd.R_drew)); exact Kd.R_mono (Kd.R_far (p := ⟨gb459, 2, none⟩) (Kd.R_far (p := ⟨gb459, 1, none⟩) (Kd.R_far (p := ⟨gb459, 0, none⟩) (Kd.R_types HO457.out BK459.out (by decide)) (fun _ hk => hk.2) (.int .i64 t454)) (fun _ hk => hk.2) (.slice Ao18 t455.length co18)) (fun _ hk => hk.2) (.bool t458)) (fun _ hk => trivial)⟩, ⟨by (with_reducible repeat (first | refine blk_drewN ?_ _ | refine blk_drew ?_ | refine blk_alloc ?_ _)); refine blk_put (cs := #[.int .i64 t454, .slice Ao18 t455.length co18, .bool false]) ?_ 2 _ rfl; (with_reducible repeat (first | refine blk_drewN ?_ _ | refine blk_drew ?_ | refine blk_alloc ?_ _)); refine blk_put (cs := #[.int .i64 t454, .slice none 0 0, .bool false]) ?_ 1 _ rfl; (with_reducible repeat (first | refine blk_drewN ?_ _ | refine blk_drew ?_ | refine blk_alloc ?_ _)); refine blk_put (cs := #[.int .i64 0, .slice none 0 0, .bool false]) ?_ 0 _ rfl; (with_reducible repeat (first | refine blk_drewN ?_ _ | refine blk_drew ?_ | refine blk_alloc ?_ _)); exact BK459.out⟩, ⟨by repeat (first | (with_reducible first | exact HI453.out | apply IsS90.alloc | apply IsS90.drewN | apply IsS90.drew | refine IsS90.farT ?_ (by repeat (first | exact TyOf.mk BK459.out | apply TyOf.alloc | apply TyOf.drewN | apply TyOf.drew | apply TyOf.set)) (by decide) _) | exact HI453.out)⟩, ⟨by repeat (first | (with_reducible first | exact HB.out | apply below_alloc | apply pw_below_drewN | apply below_drew1 | refine below_set ?_ (IsS90.ge HI453.out) | refine below_set ?_ GE459.out) | exact HB.out)⟩⟩
     case round =>
      clear H'
      try clear c1
      try clear c2
      try clear p2
      try clear c3
      try clear c5
      try clear c7
      try clear c10
      try clear c16
      try clear hcz17_0
      try clear hcz17_1
      try clear hcz17_2
      try clear hfz17_0
      try clear hfz17_1
      try clear hfz17_2
      try clear p2
      obtain ⟨x5_2, x454000_2, x460000_2, x460001_2, x460002_2, u460001, rfl, HA, HK2, HO_460001, BK459, HI453, HB⟩ := hrel
      cases gk with
      | zero => exact absurd HA.out (by simp [nunciolaw12_UnpackReads.l0])
      | succ k2 =>
       have H := HA.out
       clear HA
       simp only [nunciolaw12_UnpackReads.l0] at H
       by_cases c19 : x5_2 < (l0.length : Int)
       ·
        rw [if_pos c19] at H
        have c19b0 : decide (x5_2 < (l0.length : Int)) = true := decide_eq_true c19
        clear c19
        by_cases c20 : 0 ≤ x5_2
        ·
         rw [if_pos c20] at H
         have c20b0 : decide (0 ≤ x5_2) = true := decide_eq_true c20
         clear c20
         replace H := Option.bind_eq_some_iff.mp H
         obtain ⟨⟨t461, t464, t465⟩, A210, H⟩ := H
         replace H : ((nuncioref12_Read.f k2 x460000_2 x460001_2 x460002_2 (rdOf ByteArray.empty l0 x5_2)).bind fun bt467 => ((nuncioref12_Same.f k2 t461 bt467.2.2.2.1).bind fun t477 => (if t477 = true then (if t464 = bt467.2.2.2.2 then ((unpack_Decoder_Down.f t465).bind fun bt478 => (if (bt478.1 != bt467.2.2.1) = true then (some false) else ((unpack_Decoder_Table.f bt478.2).bind fun t480 => ((nunciolaw12_Tells.f k2 t480 bt467.1 bt467.2.1).bind fun bt482 => (if bt482.1 = true then (nunciolaw12_UnpackReads.l0 k2 l0 (wrap64 (x5_2 + 1)) bt478.2 bt467.1 bt467.2.1 bt467.2.2.1) else (some false)))))) else (some false)) else (some false)))) = some r := H
         have A21 := Aside0.mk A210
         clear A210
         replace H := Option.bind_eq_some_iff.mp H
         obtain ⟨⟨t467, t468, t471, t472, t475⟩, A220, H⟩ := H
         replace H : ((nuncioref12_Same.f k2 t461 t472).bind fun t477 => (if t477 = true then (if t464 = t475 then ((unpack_Decoder_Down.f t465).bind fun bt478 => (if (bt478.1 != t471) = true then (some false) else ((unpack_Decoder_Table.f bt478.2).bind fun t480 => ((nunciolaw12_Tells.f k2 t480 t467 t468).bind fun bt482 => (if bt482.1 = true then (nunciolaw12_UnpackReads.l0 k2 l0 (wrap64 (x5_2 + 1)) bt478.2 t467 t468 t471) else (some false)))))) else (some false)) else (some false))) = some r := H
         have A22 := Aside0.mk A220
         clear A220
         replace H := Option.bind_eq_some_iff.mp H
         obtain ⟨t477, A230, H⟩ := H
         replace H : (if t477 = true then (if t464 = t475 then ((unpack_Decoder_Down.f t465).bind fun bt478 => (if (bt478.1 != t471) = true then (some false) else ((unpack_Decoder_Table.f bt478.2).bind fun t480 => ((nunciolaw12_Tells.f k2 t480 t467 t468).bind fun bt482 => (if bt482.1 = true then (nunciolaw12_UnpackReads.l0 k2 l0 (wrap64 (x5_2 + 1)) bt478.2 t467 t468 t471) else (some false)))))) else (some false)) else (some false)) = some r := H
         have A23 := Aside0.mk A230
         clear A230
         by_cases c24 : t477 = true
         ·
          subst c24
          have H1 : (if t464 = t475 then ((unpack_Decoder_Down.f t465).bind fun bt478 => (if (bt478.1 != t471) = true then (some false) else ((unpack_Decoder_Table.f bt478.2).bind fun t480 => ((nunciolaw12_Tells.f k2 t480 t467 t468).bind fun bt482 => (if bt482.1 = true then (nunciolaw12_UnpackReads.l0 k2 l0 (wrap64 (x5_2 + 1)) bt478.2 t467 t468 t471) else (some false)))))) else (some false)) = some r := by rw [if_pos rfl] at H; exact H
          clear H
          have H := H1
          clear H1
          by_cases c25 : t464 = t475
          ·
           rw [if_pos c25] at H
           have c25b0 : (t464 == t475) = true := beq_iff_eq.mpr c25
           have c25b1 : (t464 != t475) = false := bne_eq_false_iff_eq.mpr c25
           clear c25
           replace H := Option.bind_eq_some_iff.mp H
           obtain ⟨⟨t478, t479⟩, A260, H⟩ := H
           replace H : (if (t478 != t471) = true then (some false) else ((unpack_Decoder_Table.f t479).bind fun t480 => ((nunciolaw12_Tells.f k2 t480 t467 t468).bind fun bt482 => (if bt482.1 = true then (nunciolaw12_UnpackReads.l0 k2 l0 (wrap64 (x5_2 + 1)) t479 t467 t468 t471) else (some false))))) = some r := H
           have A26 := Aside0.mk A260
           clear A260
           by_cases c27 : (t478 != t471) = true
           ·
            rw [if_pos c27] at H
            have c27b0 : (t478 != t471) = true := c27
            (try (have c27b1 : decide (t478 = t471) = false := by simpa using c27))
            (try (have c27b2 : (t478 == t471) = false := by simpa using c27))
            (try (have c27b3 : ¬ (t478 = t471) := by simpa using c27))
            clear c27
            exact absurd ((Option.some.inj H).trans HT.out) (by decide)
           ·
            rw [if_neg c27] at H
            have c27b0 : (t478 != t471) = false := by simpa using c27
            (try (have c27b1 : decide (t478 = t471) = true := by simpa using c27))
            (try (have c27b2 : (t478 == t471) = true := by simpa using c27))
            clear c27
            replace H := Option.bind_eq_some_iff.mp H
            obtain ⟨t480, A280, H⟩ := H
            replace H : ((nunciolaw12_Tells.f k2 t480 t467 t468).bind fun bt482 => (if bt482.1 = true then (nunciolaw12_UnpackReads.l0 k2 l0 (wrap64 (x5_2 + 1)) t479 t467 t468 t471) else (some false))) = some r := H
            have A28 := Aside0.mk A280
            clear A280
            replace H := Option.bind_eq_some_iff.mp H
            obtain ⟨⟨t482, t483⟩, A290, H⟩ := H
            replace H : (if t482 = true then (nunciolaw12_UnpackReads.l0 k2 l0 (wrap64 (x5_2 + 1)) t479 t467 t468 t471) else (some false)) = some r := H
            have A29 := Aside0.mk A290
            clear A290
            by_cases c30 : t482 = true
            ·
             subst c30
             have H1 : (nunciolaw12_UnpackReads.l0 k2 l0 (wrap64 (x5_2 + 1)) t479 t467 t468 t471) = some r := by rw [if_pos rfl] at H; exact H
             clear H
             have H := H1
             clear H1
             have H' := Aside0.mk H
             clear H
             have p460 : 0 ≤ (x5_2 : Int) := of_decide_eq_true (by first | (with_reducible assumption) | assumption)
             have q460 : x5_2 < (l0.length : Int) := of_decide_eq_true (by first | (with_reducible assumption) | assumption)
             obtain ⟨ad460, e460, hx460_0⟩ := Kd.at_string HR0.out x5_2 p460 q460
             cases e460
             replace hx460_0 := (HB.out.cell (World.block_lt_of_cell? w _ hx460_0)).trans hx460_0
             replace p460 := eq_true p460
             replace q460 := eq_true q460
             try go_wp2_with (first | ((with_reducible refine gate_callee (f := 25) rfl ?_); refine goesL_ (some 35) rfl rfl Tryd.func25 (by kernel_rfl) rfl #[.pointer (some ⟨g453, 0, none⟩), .string (rdOf ByteArray.empty l0 x5_2)] rfl (by (try simp only [List.map_toArray, List.map_cons, List.map_nil]); first | done | rfl | (simp only [List.length_drop, List.length_take]; rfl)) ?_; (with_reducible refine (unpack_Decoder_Read.calls k2 g453 x454000_2 (rdOf ByteArray.empty l0 x5_2) t461 t464 t465 w _ ?side1 ?side2 A21.out).mono ?_); (case side1 => repeat (first | (with_reducible first | exact HI453.out | apply IsS90.alloc | apply IsS90.drewN | apply IsS90.drew | refine IsS90.farT ?_ (by repeat (first | exact TyOf.mk BK459.out | apply TyOf.alloc | apply TyOf.drewN | apply TyOf.drew | apply TyOf.set)) (by decide) _) | exact HI453.out)); (case side2 => repeat (first | (with_reducible first | exact HB.out | apply below_alloc | apply pw_below_drewN | apply below_drew1 | refine below_set ?_ (IsS90.ge HI453.out) | refine below_set ?_ GE459.out) | exact HB.out)); rintro e w31 ⟨v462, rfl, ho0, hi, hb, hk⟩; refine ⟨_, rfl, ?_⟩; have n0_ := Aside0.mk (Kd.R_mono (Kd.R_keep2 (IsS90.apart (show IsS90 w _ g453 x454000_2 from by repeat (first | (with_reducible first | exact HI453.out | apply IsS90.alloc | apply IsS90.drewN | apply IsS90.drew | refine IsS90.farT ?_ (by repeat (first | exact TyOf.mk BK459.out | apply TyOf.alloc | apply TyOf.drewN | apply TyOf.drew | apply TyOf.set)) (by decide) _) | exact HI453.out)) (by (with_reducible repeat (first | apply Kd.R_alloc | apply Kd.R_drewN | apply Kd.R_drew)); exact HO_460001.out) (by decide)) hk (fun _ h => h.2)) (fun _ h => h.1)); have n1_ := Aside0.mk (IsS90.blkK hk (show IsS90 w _ g453 x454000_2 from by repeat (first | (with_reducible first | exact HI453.out | apply IsS90.alloc | apply IsS90.drewN | apply IsS90.drew | refine IsS90.farT ?_ (by repeat (first | exact TyOf.mk BK459.out | apply TyOf.alloc | apply TyOf.drewN | apply TyOf.drew | apply TyOf.set)) (by decide) _) | exact HI453.out)) (g' := gb459) (o := .cells #[.int .i64 x460000_2, u460001, .bool x460002_2] 56 (0, 0)) (by (with_reducible repeat (first | refine blk_drewN ?_ _ | refine blk_drew ?_ | refine blk_alloc ?_ _)); exact BK459.out) NB459_453.out rfl (by decide)); have n2_ := Aside0.mk (Kd.R_lower ho0 (below_size (by repeat (first | (with_reducible first | exact HB.out | apply below_alloc | apply pw_below_drewN | apply below_drew1 | refine below_set ?_ (IsS90.ge HI453.out) | refine below_set ?_ GE459.out) | exact HB.out)))); have n3_ := Aside0.mk (hb); have n4_ := Aside0.mk (hi); clear HO_460001; clear BK459; clear HB; clear HI453; have HO_460001 := n0_; have BK459 := n1_; have HO463 := n2_; have HB := n3_; have HI453 := n4_; clear n0_ n1_ n2_ n3_ n4_; (try clear hb); (try clear hb2); (try clear hk); (try clear hi); (try clear ho0); obtain ⟨Ao32, co32, eo32⟩ := Kd.R_slice HO_460001.out; subst eo32))
             have n0_ := Aside0.mk (Kd.R_drew HO_460001.out)
             have n1_ := Aside0.mk (Kd.R_drew HO463.out)
             have n2_ := Aside0.mk (blk_drew BK459.out)
             have n3_ := Aside0.mk (IsS90.drew HI453.out)
             have n4_ := Aside0.mk (below_drew1 HB.out)
             clear HO_460001
             clear HO463
             clear BK459
             clear HI453
             clear HB
             have HO_460001 := n0_
             have HO463 := n1_
             have BK459 := n2_
             have HI453 := n3_
             have HB := n4_
             clear n0_ n1_ n2_ n3_ n4_
             have p466 : 0 ≤ (x5_2 : Int) := of_decide_eq_true (by first | (with_reducible assumption) | assumption)
             have q466 : x5_2 < (l0.length : Int) := of_decide_eq_true (by first | (with_reducible assumption) | assumption)
             obtain ⟨ad466, e466, hx466_0⟩ := Kd.at_string HR0.out x5_2 p466 q466
             have hw466_0 := hx466_0
             obtain rfl : ad460 = ad466 := (by injection e466)
             replace hx466_0 := (HB.out.cell (World.block_lt_of_cell? w _ hx466_0)).trans hx466_0
             replace p466 := eq_true p466
             replace q466 := eq_true q466
             refine start_ (n := 14) (S := fun w' => w'.cell? ⟨gb459, 0, none⟩ = some (.int .i64 x460000_2) ∧ w'.cell? ⟨gb459, 1, none⟩ = some (.slice Ao32 x460001_2.length co32) ∧ w'.cell? ⟨gb459, 2, none⟩ = some (.bool x460002_2) ∧ w'.cell? (ad460.add (x5_2).toNat) = some (.string (rdOf ByteArray.empty l0 x5_2))) (ds := []) #[false, false, false, false, false, false, false, false, false, false, false, false, false, false] (by kernel_rfl) rfl rfl ⟨(blk_cell BK459.out 0).trans rfl, (blk_cell BK459.out 1).trans rfl, (blk_cell BK459.out 2).trans rfl, ((HB.out.cell (World.block_lt_of_cell? w _ hw466_0)).trans hw466_0)⟩ (fun hHeld => ?_); refine with_tabW nunciolaw12_UnpackReads.tab11 nunciolaw12_UnpackReads.bits11 (fun HT_ HW_ => ?_)
             generalize w31.drew = w33 at HO_460001 HO463 BK459 HI453 HB hx466_0 hHeld ⊢
             refine pure_ (i := 1) (N := some 40) (v := ?_) (a' := ?_) #[false, true, false, false, false, false, false, false, false, false, false, false, false, false] rfl rfl (any_of HT_.out (by kernel_rfl)) (fun _ _ _ h => h) (Or.inl ⟨by rfl, ?_⟩) ?_ ?_
             rotate_left
             ·
              intro w'
              go_simp
              with_reducible rfl
             rotate_left
             ·
              simp only [Act.put, List.setIfInBounds_toArray, List.set_cons_zero, List.set_cons_succ, i64_w, i32_w]
              rfl
             refine pure_ (i := 2) (N := some 41) (v := ?_) (a' := ?_) #[false, true, true, false, false, false, false, false, false, false, false, false, false, false] rfl rfl (any_of HT_.out (by kernel_rfl)) (fun _ _ _ h => h) (Or.inl ⟨by rfl, ?_⟩) ?_ ?_
             rotate_left
             ·
              intro w'
              go_simp
              with_reducible rfl
             rotate_left
             ·
              simp only [Act.put, List.setIfInBounds_toArray, List.set_cons_zero, List.set_cons_succ, i64_w, i32_w]
              rfl
             refine pure_ (i := 3) (N := some 42) (v := ?_) (a' := ?_) #[false, true, true, true, false, false, false, false, false, false, false, false, false, false] rfl rfl (any_of HT_.out (by kernel_rfl)) (fun _ _ _ h => h) (Or.inl ⟨by rfl, ?_⟩) ?_ ?_
             rotate_left
             ·
              intro w'
              go_simp
              with_reducible rfl
             rotate_left
             ·
              simp only [Act.put, List.setIfInBounds_toArray, List.set_cons_zero, List.set_cons_succ, i64_w, i32_w]
              rfl
             refine take_ (i := 0) (N := some 39) (v := ?_) (a' := ?_) #[true, true, true, true, false, false, false, false, false, false, false, false, false, false] rfl rfl (take_ofW HT_.out HW_.out (by kernel_rfl)) (fun _ _ _ h => h) (Or.inl ⟨by rfl, ?_⟩) hHeld ?_ ?_
             rotate_left
             ·
              rintro w' ⟨s0, s1, s2, s3⟩
              go_simp
              with_reducible rfl
             rotate_left
             ·
              simp only [Act.put, List.setIfInBounds_toArray, List.set_cons_zero, List.set_cons_succ, i64_w, i32_w]
              rfl
             refine take_ (i := 4) (N := some 43) (v := ?_) (a' := ?_) #[true, true, true, true, true, false, false, false, false, false, false, false, false, false] rfl rfl (take_ofW HT_.out HW_.out (by kernel_rfl)) (fun _ _ _ h => h) (Or.inl ⟨by rfl, ?_⟩) hHeld ?_ ?_
             rotate_left
             ·
              rintro w' ⟨s0, s1, s2, s3⟩
              go_simp
              with_reducible rfl
             rotate_left
             ·
              simp only [Act.put, List.setIfInBounds_toArray, List.set_cons_zero, List.set_cons_succ, i64_w, i32_w]
              rfl
             refine join_ (σ := Value × Value × Nat) 3 #[true, true, true, true, true, true, true, true, true, true, true, false, false, false] (fun s_ => [(44, .tuple #[.agg #[.int .i64 t467, s_.1, .bool t471], s_.2.1, .int .i64 t475]), (8, .pointer (some ⟨s_.2.2, 0, none⟩)), (38, .tuple #[.agg #[.int .i64 t467, s_.1, .bool t471], s_.2.1, .int .i64 t475]), (45, .agg #[.int .i64 t467, s_.1, .bool t471]), (46, s_.2.1), (47, .int .i64 t475)]) (fun s_ w' => (w'.cell? ⟨gb459, 0, none⟩ = some (.int .i64 x460000_2) ∧ w'.cell? ⟨gb459, 1, none⟩ = some (.slice Ao32 x460001_2.length co32) ∧ w'.cell? ⟨gb459, 2, none⟩ = some (.bool x460002_2) ∧ w'.cell? (ad460.add (x5_2).toNat) = some (.string (rdOf ByteArray.empty l0 x5_2))) ∧ (Kd.R k26 26 w' w.heap.size (fun k_ => some k_ ≠ (s_.2.1 : Value).ownBlock) v462 t461) ∧ (Kd.R k88 88 w' w.heap.size (fun _ => True) s_.1 t468) ∧ (Kd.R k26 26 w' w.heap.size (fun k_ => some k_ ≠ (v462 : Value).ownBlock) s_.2.1 t472) ∧ (w'.heap[gb459]? = some (.cells #[.int .i64 x460000_2, .slice Ao32 x460001_2.length co32, .bool x460002_2] 56 (0, 0))) ∧ (w'.heap[s_.2.2]? = some (.cells #[.int .i64 0, .slice none 0 0, .bool false] 56 (0, 0))) ∧ (w.heap.size ≤ s_.2.2) ∧ (w.heap.size ≤ s_.2.2) ∧ (g453 ≠ s_.2.2) ∧ (s_.2.2 ≠ g453) ∧ (gb459 ≠ s_.2.2) ∧ (s_.2.2 ≠ gb459) ∧ (IsS90 w w' g453 t465) ∧ (Below w.heap.size w w')) ?_ ?_
             rotate_left
             ·
              intro hCont
              refine two_ (i := 5) (j := 10) (Ni := some 44) (Nj := some 8) #[true, true, true, true, true, true, false, false, false, false, false, false, false, false] #[true, true, true, true, true, false, false, false, false, false, true, false, false, false] rfl rfl rfl rfl (two_of HT_.out (by kernel_rfl)) (by decide) (by decide) (fun K hK => ?_) (fun K hK => ?_)
              ·
               skip
               refine goes_ Tryd.func26 (by kernel_rfl) rfl #[.agg #[.int .i64 x460000_2, .slice Ao32 x460001_2.length co32, .bool x460002_2], .string (rdOf ByteArray.empty l0 x5_2)] (by rfl) rfl rfl (by (try simp only [List.map_toArray, List.map_cons, List.map_nil]); first | done | rfl | (simp only [List.length_drop, List.length_take]; rfl)) ?_
               with_reducible refine (nuncioref12_Read.calls k2 x460000_2 (fun k_ => some k_ = (.slice Ao32 x460001_2.length co32 : Value).ownBlock) (.slice Ao32 x460001_2.length co32) x460001_2 x460002_2 (rdOf ByteArray.empty l0 x5_2) t467 t468 t471 t472 t475 w _ ?side1 ?side2 A22.out).mono ?_
               (case side1 => repeat (first | (with_reducible first | exact HB.out | apply below_alloc | apply pw_below_drewN | apply below_drew1 | refine below_set ?_ (IsS90.ge HI453.out) | refine below_set ?_ GE459.out) | exact HB.out))
               (case side2 => exact Kd.R_tight rfl HO_460001.out)
               rintro e w34 ⟨v469, v473, rfl, ho0, ho1, hb, hkp⟩
               refine ⟨_, rfl, ?_⟩
               have n0_ := Aside0.mk (blk_kept (by (with_reducible repeat (first | refine blk_drewN ?_ _ | refine blk_drew ?_ | refine blk_alloc ?_ _)); exact BK459.out) hkp (fun hs_ => (fun e_ => (Kd.R_ne HO_460001.out BK459.out (by decide)) e_) hs_))
               have n1_ := Aside0.mk (IsS90.keptT (by repeat (first | (with_reducible first | exact HI453.out | apply IsS90.alloc | apply IsS90.drewN | apply IsS90.drew | refine IsS90.farT ?_ (by repeat (first | exact TyOf.mk BK459.out | apply TyOf.alloc | apply TyOf.drewN | apply TyOf.drew | apply TyOf.set)) (by decide) _) | exact HI453.out)) hkp (fun k_ hs_ => (fun e_ => ⟨88, by repeat (first | exact Kd.R_typed HO_460001.out _ e_.symm | apply TyOf.alloc | apply TyOf.drewN | apply TyOf.drew), by decide⟩) hs_))
               have n2_ := Aside0.mk (Kd.R_mono (ok' := fun k_ => some k_ ≠ (v473 : Value).ownBlock) (Kd.R_keptB ((Kd.R_apart' HO463.out (Kd.R_typed HO_460001.out) (by decide))) hkp (fun k_ hk_ hs_ => (hk_.2) hs_)) (fun k_ hk_ => fun e_ => Or.elim (ho1.1 k_ e_.symm) (fun hs_ => hk_.2.1 hs_) (fun hn_ => Nat.not_le.2 hk_.2.2 hn_)))
               have n3_ := Aside0.mk (Kd.R_mono (ok' := fun k_ => True) ho0 (fun k_ hk_ => trivial))
               have n4_ := Aside0.mk (Kd.R_mono (ok' := fun k_ => some k_ ≠ (v462 : Value).ownBlock) ho1 (fun k_ hk_ => Or.elim hk_ (fun hs_ => fun e_ => ((((Kd.R_apart' HO463.out (Kd.R_typed HO_460001.out) (by decide))).1 k_ e_.symm).2) hs_) (fun hn_ => (Kd.fresh' (Kd.R_lt (by (with_reducible repeat (first | apply Kd.R_alloc | apply Kd.R_drewN | apply Kd.R_drew)); exact HO463.out)) k_ hn_))))
               have n5_ := Aside0.mk (hb)
               clear BK459
               clear HI453
               clear HO463
               clear HB
               clear HO_460001
               have BK459 := n0_
               have HI453 := n1_
               have HO463 := n2_
               have HO470 := n3_
               have HO474 := n4_
               have HB := n5_
               clear n0_ n1_ n2_ n3_ n4_ n5_
               (try clear hb)
               (try clear hkp)
               (try clear ho0)
               (try clear ho1)
               refine hK.out _ _ ⟨(blk_cell BK459.out 0).trans rfl, (blk_cell BK459.out 1).trans rfl, (blk_cell BK459.out 2).trans rfl, ((HB.out.cell (World.block_lt_of_cell? w _ hw466_0)).trans hw466_0)⟩ (fun hHeld => ?_)
               clear hK K
               refine norm_ (a' := ?_) ?_ ?_
               rotate_left
               ·
                show Act.put _ (some 44) _ = _
                simp only [Act.put, List.setIfInBounds_toArray, List.set_cons_zero, List.set_cons_succ, i64_w, i32_w]
                rfl
               refine pure_ (i := 6) (N := some 38) (v := ?_) (a' := ?_) #[true, true, true, true, true, true, true, false, false, false, false, false, false, false] rfl rfl (any_of HT_.out (by kernel_rfl)) (fun _ _ _ h => h) (Or.inl ⟨by rfl, ?_⟩) ?_ ?_
               rotate_left
               ·
                intro w'
                go_simp
                with_reducible rfl
               rotate_left
               ·
                simp only [Act.put, List.setIfInBounds_toArray, List.set_cons_zero, List.set_cons_succ, i64_w, i32_w]
                rfl
               refine pure_ (i := 7) (N := some 45) (v := ?_) (a' := ?_) #[true, true, true, true, true, true, true, true, false, false, false, false, false, false] rfl rfl (any_of HT_.out (by kernel_rfl)) (fun _ _ _ h => h) (Or.inl ⟨by rfl, ?_⟩) ?_ ?_
               rotate_left
               ·
                intro w'
                go_simp
                with_reducible rfl
               rotate_left
               ·
                simp only [Act.put, List.setIfInBounds_toArray, List.set_cons_zero, List.set_cons_succ, i64_w, i32_w]
                rfl
               refine pure_ (i := 8) (N := some 46) (v := ?_) (a' := ?_) #[true, true, true, true, true, true, true, true, true, false, false, false, false, false] rfl rfl (any_of HT_.out (by kernel_rfl)) (fun _ _ _ h => h) (Or.inl ⟨by rfl, ?_⟩) ?_ ?_
               rotate_left
               ·
                intro w'
                go_simp
                with_reducible rfl
               rotate_left
               ·
                simp only [Act.put, List.setIfInBounds_toArray, List.set_cons_zero, List.set_cons_succ, i64_w, i32_w]
                rfl
               refine pure_ (i := 9) (N := some 47) (v := ?_) (a' := ?_) #[true, true, true, true, true, true, true, true, true, true, false, false, false, false] rfl rfl (any_of HT_.out (by kernel_rfl)) (fun _ _ _ h => h) (Or.inl ⟨by rfl, ?_⟩) ?_ ?_
               rotate_left
               ·
                intro w'
                go_simp
                with_reducible rfl
               rotate_left
               ·
                simp only [Act.put, List.setIfInBounds_toArray, List.set_cons_zero, List.set_cons_succ, i64_w, i32_w]
                rfl
               refine one_ (i := 10) (N := some 8) #[true, true, true, true, true, true, true, true, true, true, true, false, false, false] rfl rfl (one_of HT_.out (by kernel_rfl)) (by decide) (fun K hK => ?_)
               refine box_step ?hg (N := 8) ?hd (cs := #[.int .i64 0, .slice none 0 0, .bool false]) (t := 56) ?hr ?_; (case hd => rfl); (case hg => rfl); (case hr => first | (go_simp; done) | (go_simp; rfl))
               intro gb476 hg w35 hbox hb
               have n0_ := Aside0.mk (Kd.R_below (by (with_reducible repeat (first | apply Kd.R_alloc | apply Kd.R_drewN | apply Kd.R_drew)); exact HO463.out) hb)
               have n1_ := Aside0.mk (Kd.R_below (by (with_reducible repeat (first | apply Kd.R_alloc | apply Kd.R_drewN | apply Kd.R_drew)); exact HO470.out) hb)
               have n2_ := Aside0.mk (Kd.R_below (by (with_reducible repeat (first | apply Kd.R_alloc | apply Kd.R_drewN | apply Kd.R_drew)); exact HO474.out) hb)
               have n3_ := Aside0.mk (blk_below (g := gb459) (o := .cells #[.int .i64 x460000_2, .slice Ao32 x460001_2.length co32, .bool x460002_2] 56 (0, 0)) (by (with_reducible repeat (first | refine blk_drewN ?_ _ | refine blk_drew ?_ | refine blk_alloc ?_ _)); exact BK459.out) hb)
               have n4_ := Aside0.mk (IsS90.below (by repeat (first | (with_reducible first | exact HI453.out | apply IsS90.alloc | apply IsS90.drewN | apply IsS90.drew | refine IsS90.farT ?_ (by repeat (first | exact TyOf.mk BK459.out | apply TyOf.alloc | apply TyOf.drewN | apply TyOf.drew | apply TyOf.set)) (by decide) _) | exact HI453.out)) hb)
               have n5_ := Aside0.mk (below_step (by repeat (first | (with_reducible first | exact HB.out | apply below_alloc | apply pw_below_drewN | apply below_drew1 | refine below_set ?_ (IsS90.ge HI453.out) | refine below_set ?_ GE459.out) | exact HB.out)) hb)
               have n6_ := Aside0.mk (hbox)
               have n7_ := Aside0.mk ((by rw [hg]; exact (below_size (by repeat (first | (with_reducible first | exact HB.out | apply below_alloc | apply pw_below_drewN | apply below_drew1 | refine below_set ?_ (IsS90.ge HI453.out) | refine below_set ?_ GE459.out) | exact HB.out))) : w.heap.size ≤ gb476))
               have n8_ := Aside0.mk ((by rw [hg]; exact (below_size (by repeat (first | (with_reducible first | exact HB.out | apply below_alloc | apply pw_below_drewN | apply below_drew1 | refine below_set ?_ (IsS90.ge HI453.out) | refine below_set ?_ GE459.out) | exact HB.out))) : w.heap.size ≤ gb476))
               have n9_ := Aside0.mk ((by rw [hg]; exact Nat.ne_of_lt (blk_lt (g := gb459) (o := .cells #[.int .i64 x460000_2, .slice Ao32 x460001_2.length co32, .bool x460002_2] 56 (0, 0)) (by (with_reducible repeat (first | refine blk_drewN ?_ _ | refine blk_drew ?_ | refine blk_alloc ?_ _)); exact BK459.out)) : gb459 ≠ gb476))
               have n10_ := Aside0.mk ((by rw [hg]; exact Nat.ne_of_gt (blk_lt (g := gb459) (o := .cells #[.int .i64 x460000_2, .slice Ao32 x460001_2.length co32, .bool x460002_2] 56 (0, 0)) (by (with_reducible repeat (first | refine blk_drewN ?_ _ | refine blk_drew ?_ | refine blk_alloc ?_ _)); exact BK459.out)) : gb476 ≠ gb459))
               have n11_ := Aside0.mk ((by rw [hg]; exact Nat.ne_of_lt (IsS90.lt (show IsS90 w _ g453 t465 from by repeat (first | (with_reducible first | exact HI453.out | apply IsS90.alloc | apply IsS90.drewN | apply IsS90.drew | refine IsS90.farT ?_ (by repeat (first | exact TyOf.mk BK459.out | apply TyOf.alloc | apply TyOf.drewN | apply TyOf.drew | apply TyOf.set)) (by decide) _) | exact HI453.out))) : g453 ≠ gb476))
               have n12_ := Aside0.mk ((by rw [hg]; exact Nat.ne_of_gt (IsS90.lt (show IsS90 w _ g453 t465 from by repeat (first | (with_reducible first | exact HI453.out | apply IsS90.alloc | apply IsS90.drewN | apply IsS90.drew | refine IsS90.farT ?_ (by repeat (first | exact TyOf.mk BK459.out | apply TyOf.alloc | apply TyOf.drewN | apply TyOf.drew | apply TyOf.set)) (by decide) _) | exact HI453.out))) : gb476 ≠ g453))
               clear HO463
               clear HO470
               clear HO474
               clear BK459
               clear HI453
               clear HB
               have HO463 := n0_
               have HO470 := n1_
               have HO474 := n2_
               have BK459 := n3_
               have HI453 := n4_
               have HB := n5_
               have BK476 := n6_
               have GW476 := n7_
               have GE476 := n8_
               have NB459_476 := n9_
               have NB476_459 := n10_
               have NB453_476 := n11_
               have NB476_453 := n12_
               clear n0_ n1_ n2_ n3_ n4_ n5_ n6_ n7_ n8_ n9_ n10_ n11_ n12_
               clear hb hbox hg
               refine hK.out _ _ ⟨(blk_cell BK459.out 0).trans rfl, (blk_cell BK459.out 1).trans rfl, (blk_cell BK459.out 2).trans rfl, ((HB.out.cell (World.block_lt_of_cell? w _ hw466_0)).trans hw466_0)⟩ (fun hHeld => ?_)
               clear hK K
               refine norm_ (a' := ?_) ?_ ?_
               rotate_left
               ·
                show Act.put _ (some 8) _ = _
                simp only [Act.put, List.setIfInBounds_toArray, List.set_cons_zero, List.set_cons_succ, i64_w, i32_w]
                rfl
               exact norm_ (by simp only [putAll, Act.put, List.setIfInBounds_toArray, List.set_cons_zero, List.set_cons_succ]) (hCont (v469, v473, gb476) _ ⟨hHeld, (by (with_reducible repeat (first | apply Kd.R_alloc | apply Kd.R_drewN | apply Kd.R_drew)); exact HO463.out), (by (with_reducible repeat (first | apply Kd.R_alloc | apply Kd.R_drewN | apply Kd.R_drew)); exact HO470.out), (by (with_reducible repeat (first | apply Kd.R_alloc | apply Kd.R_drewN | apply Kd.R_drew)); exact HO474.out), (by (with_reducible repeat (first | refine blk_drewN ?_ _ | refine blk_drew ?_ | refine blk_alloc ?_ _)); exact BK459.out), (by (with_reducible repeat (first | refine blk_drewN ?_ _ | refine blk_drew ?_ | refine blk_alloc ?_ _)); exact BK476.out), GW476.out, GE476.out, NB453_476.out, NB476_453.out, NB459_476.out, NB476_459.out, (by repeat (first | (with_reducible first | exact HI453.out | apply IsS90.alloc | apply IsS90.drewN | apply IsS90.drew | refine IsS90.farT ?_ (by repeat (first | exact TyOf.mk BK459.out | apply TyOf.alloc | apply TyOf.drewN | apply TyOf.drew | apply TyOf.set)) (by decide) _ | refine IsS90.farT ?_ (by repeat (first | exact TyOf.mk BK476.out | apply TyOf.alloc | apply TyOf.drewN | apply TyOf.drew | apply TyOf.set)) (by decide) _) | exact HI453.out)), (by repeat (first | (with_reducible first | exact HB.out | apply below_alloc | apply pw_below_drewN | apply below_drew1 | refine below_set ?_ (IsS90.ge HI453.out) | refine below_set ?_ GE459.out | refine below_set ?_ GE476.out) | exact HB.out))⟩)
              ·
               skip
               refine box_step ?hg (N := 8) ?hd (cs := #[.int .i64 0, .slice none 0 0, .bool false]) (t := 56) ?hr ?_; (case hd => rfl); (case hg => rfl); (case hr => first | (go_simp; done) | (go_simp; rfl))
               intro gb476 hg w34 hbox hb
               have n0_ := Aside0.mk (Kd.R_below (by (with_reducible repeat (first | apply Kd.R_alloc | apply Kd.R_drewN | apply Kd.R_drew)); exact HO_460001.out) hb)
               have n1_ := Aside0.mk (Kd.R_below (by (with_reducible repeat (first | apply Kd.R_alloc | apply Kd.R_drewN | apply Kd.R_drew)); exact HO463.out) hb)
               have n2_ := Aside0.mk (blk_below (g := gb459) (o := .cells #[.int .i64 x460000_2, .slice Ao32 x460001_2.length co32, .bool x460002_2] 56 (0, 0)) (by (with_reducible repeat (first | refine blk_drewN ?_ _ | refine blk_drew ?_ | refine blk_alloc ?_ _)); exact BK459.out) hb)
               have n3_ := Aside0.mk (IsS90.below (by repeat (first | (with_reducible first | exact HI453.out | apply IsS90.alloc | apply IsS90.drewN | apply IsS90.drew | refine IsS90.farT ?_ (by repeat (first | exact TyOf.mk BK459.out | apply TyOf.alloc | apply TyOf.drewN | apply TyOf.drew | apply TyOf.set)) (by decide) _) | exact HI453.out)) hb)
               have n4_ := Aside0.mk (below_step (by repeat (first | (with_reducible first | exact HB.out | apply below_alloc | apply pw_below_drewN | apply below_drew1 | refine below_set ?_ (IsS90.ge HI453.out) | refine below_set ?_ GE459.out) | exact HB.out)) hb)
               have n5_ := Aside0.mk (hbox)
               have n6_ := Aside0.mk ((by rw [hg]; exact (below_size (by repeat (first | (with_reducible first | exact HB.out | apply below_alloc | apply pw_below_drewN | apply below_drew1 | refine below_set ?_ (IsS90.ge HI453.out) | refine below_set ?_ GE459.out) | exact HB.out))) : w.heap.size ≤ gb476))
               have n7_ := Aside0.mk ((by rw [hg]; exact (below_size (by repeat (first | (with_reducible first | exact HB.out | apply below_alloc | apply pw_below_drewN | apply below_drew1 | refine below_set ?_ (IsS90.ge HI453.out) | refine below_set ?_ GE459.out) | exact HB.out))) : w.heap.size ≤ gb476))
               have n8_ := Aside0.mk ((by rw [hg]; exact Nat.ne_of_lt (blk_lt (g := gb459) (o := .cells #[.int .i64 x460000_2, .slice Ao32 x460001_2.length co32, .bool x460002_2] 56 (0, 0)) (by (with_reducible repeat (first | refine blk_drewN ?_ _ | refine blk_drew ?_ | refine blk_alloc ?_ _)); exact BK459.out)) : gb459 ≠ gb476))
               have n9_ := Aside0.mk ((by rw [hg]; exact Nat.ne_of_gt (blk_lt (g := gb459) (o := .cells #[.int .i64 x460000_2, .slice Ao32 x460001_2.length co32, .bool x460002_2] 56 (0, 0)) (by (with_reducible repeat (first | refine blk_drewN ?_ _ | refine blk_drew ?_ | refine blk_alloc ?_ _)); exact BK459.out)) : gb476 ≠ gb459))
               have n10_ := Aside0.mk ((by rw [hg]; exact Nat.ne_of_lt (IsS90.lt (show IsS90 w _ g453 t465 from by repeat (first | (with_reducible first | exact HI453.out | apply IsS90.alloc | apply IsS90.drewN | apply IsS90.drew | refine IsS90.farT ?_ (by repeat (first | exact TyOf.mk BK459.out | apply TyOf.alloc | apply TyOf.drewN | apply TyOf.drew | apply TyOf.set)) (by decide) _) | exact HI453.out))) : g453 ≠ gb476))
               have n11_ := Aside0.mk ((by rw [hg]; exact Nat.ne_of_gt (IsS90.lt (show IsS90 w _ g453 t465 from by repeat (first | (with_reducible first | exact HI453.out | apply IsS90.alloc | apply IsS90.drewN | apply IsS90.drew | refine IsS90.farT ?_ (by repeat (first | exact TyOf.mk BK459.out | apply TyOf.alloc | apply TyOf.drewN | apply TyOf.drew | apply TyOf.set)) (by decide) _) | exact HI453.out))) : gb476 ≠ g453))
               clear HO_460001
               clear HO463
               clear BK459
               clear HI453
               clear HB
               have HO_460001 := n0_
               have HO463 := n1_
               have BK459 := n2_
               have HI453 := n3_
               have HB := n4_
               have BK476 := n5_
               have GW476 := n6_
               have GE476 := n7_
               have NB459_476 := n8_
               have NB476_459 := n9_
               have NB453_476 := n10_
               have NB476_453 := n11_
               clear n0_ n1_ n2_ n3_ n4_ n5_ n6_ n7_ n8_ n9_ n10_ n11_
               clear hb hbox hg
               refine hK.out _ _ ⟨(blk_cell BK459.out 0).trans rfl, (blk_cell BK459.out 1).trans rfl, (blk_cell BK459.out 2).trans rfl, ((HB.out.cell (World.block_lt_of_cell? w _ hw466_0)).trans hw466_0)⟩ (fun hHeld => ?_)
               clear hK K
               refine norm_ (a' := ?_) ?_ ?_
               rotate_left
               ·
                show Act.put _ (some 8) _ = _
                simp only [Act.put, List.setIfInBounds_toArray, List.set_cons_zero, List.set_cons_succ, i64_w, i32_w]
                rfl
               refine one_ (i := 5) (N := some 44) #[true, true, true, true, true, true, false, false, false, false, true, false, false, false] rfl rfl (one_of HT_.out (by kernel_rfl)) (by decide) (fun K hK => ?_)
               refine goes_ Tryd.func26 (by kernel_rfl) rfl #[.agg #[.int .i64 x460000_2, .slice Ao32 x460001_2.length co32, .bool x460002_2], .string (rdOf ByteArray.empty l0 x5_2)] (by rfl) rfl rfl (by (try simp only [List.map_toArray, List.map_cons, List.map_nil]); first | done | rfl | (simp only [List.length_drop, List.length_take]; rfl)) ?_
               with_reducible refine (nuncioref12_Read.calls k2 x460000_2 (fun k_ => some k_ = (.slice Ao32 x460001_2.length co32 : Value).ownBlock) (.slice Ao32 x460001_2.length co32) x460001_2 x460002_2 (rdOf ByteArray.empty l0 x5_2) t467 t468 t471 t472 t475 w _ ?side1 ?side2 A22.out).mono ?_
               (case side1 => repeat (first | (with_reducible first | exact HB.out | apply below_alloc | apply pw_below_drewN | apply below_drew1 | refine below_set ?_ (IsS90.ge HI453.out) | refine below_set ?_ GE459.out | refine below_set ?_ GE476.out) | exact HB.out))
               (case side2 => exact Kd.R_tight rfl HO_460001.out)
               rintro e w35 ⟨v469, v473, rfl, ho0, ho1, hb, hkp⟩
               refine ⟨_, rfl, ?_⟩
               have n0_ := Aside0.mk (blk_kept (by (with_reducible repeat (first | refine blk_drewN ?_ _ | refine blk_drew ?_ | refine blk_alloc ?_ _)); exact BK459.out) hkp (fun hs_ => (fun e_ => (Kd.R_ne HO_460001.out BK459.out (by decide)) e_) hs_))
               have n1_ := Aside0.mk (IsS90.keptT (by repeat (first | (with_reducible first | exact HI453.out | apply IsS90.alloc | apply IsS90.drewN | apply IsS90.drew | refine IsS90.farT ?_ (by repeat (first | exact TyOf.mk BK459.out | apply TyOf.alloc | apply TyOf.drewN | apply TyOf.drew | apply TyOf.set)) (by decide) _ | refine IsS90.farT ?_ (by repeat (first | exact TyOf.mk BK476.out | apply TyOf.alloc | apply TyOf.drewN | apply TyOf.drew | apply TyOf.set)) (by decide) _) | exact HI453.out)) hkp (fun k_ hs_ => (fun e_ => ⟨88, by repeat (first | exact Kd.R_typed HO_460001.out _ e_.symm | apply TyOf.alloc | apply TyOf.drewN | apply TyOf.drew), by decide⟩) hs_))
               have n2_ := Aside0.mk (Kd.R_mono (ok' := fun k_ => some k_ ≠ (v473 : Value).ownBlock) (Kd.R_keptB ((Kd.R_apart' HO463.out (Kd.R_typed HO_460001.out) (by decide))) hkp (fun k_ hk_ hs_ => (hk_.2) hs_)) (fun k_ hk_ => fun e_ => Or.elim (ho1.1 k_ e_.symm) (fun hs_ => hk_.2.1 hs_) (fun hn_ => Nat.not_le.2 hk_.2.2 hn_)))
               have n3_ := Aside0.mk (blk_kept (by (with_reducible repeat (first | refine blk_drewN ?_ _ | refine blk_drew ?_ | refine blk_alloc ?_ _)); exact BK476.out) hkp (fun hs_ => (fun e_ => (Kd.R_ne HO_460001.out BK476.out (by decide)) e_) hs_))
               have n4_ := Aside0.mk (Kd.R_mono (ok' := fun k_ => True) ho0 (fun k_ hk_ => trivial))
               have n5_ := Aside0.mk (Kd.R_mono (ok' := fun k_ => some k_ ≠ (v462 : Value).ownBlock) ho1 (fun k_ hk_ => Or.elim hk_ (fun hs_ => fun e_ => ((((Kd.R_apart' HO463.out (Kd.R_typed HO_460001.out) (by decide))).1 k_ e_.symm).2) hs_) (fun hn_ => (Kd.fresh' (Kd.R_lt (by (with_reducible repeat (first | apply Kd.R_alloc | apply Kd.R_drewN | apply Kd.R_drew)); exact HO463.out)) k_ hn_))))
               have n6_ := Aside0.mk (hb)
               clear BK459
               clear HI453
               clear HO463
               clear BK476
               clear HB
               clear HO_460001
               have BK459 := n0_
               have HI453 := n1_
               have HO463 := n2_
               have BK476 := n3_
               have HO470 := n4_
               have HO474 := n5_
               have HB := n6_
               clear n0_ n1_ n2_ n3_ n4_ n5_ n6_
               (try clear hb)
               (try clear hkp)
               (try clear ho0)
               (try clear ho1)
               refine hK.out _ _ ⟨(blk_cell BK459.out 0).trans rfl, (blk_cell BK459.out 1).trans rfl, (blk_cell BK459.out 2).trans rfl, ((HB.out.cell (World.block_lt_of_cell? w _ hw466_0)).trans hw466_0)⟩ (fun hHeld => ?_)
               clear hK K
               refine norm_ (a' := ?_) ?_ ?_
               rotate_left
               ·
                show Act.put _ (some 44) _ = _
                simp only [Act.put, List.setIfInBounds_toArray, List.set_cons_zero, List.set_cons_succ, i64_w, i32_w]
                rfl
               refine pure_ (i := 6) (N := some 38) (v := ?_) (a' := ?_) #[true, true, true, true, true, true, true, false, false, false, true, false, false, false] rfl rfl (any_of HT_.out (by kernel_rfl)) (fun _ _ _ h => h) (Or.inl ⟨by rfl, ?_⟩) ?_ ?_
               rotate_left
               ·
                intro w'
                go_simp
                with_reducible rfl
               rotate_left
               ·
                simp only [Act.put, List.setIfInBounds_toArray, List.set_cons_zero, List.set_cons_succ, i64_w, i32_w]
                rfl
               refine pure_ (i := 7) (N := some 45) (v := ?_) (a' := ?_) #[true, true, true, true, true, true, true, true, false, false, true, false, false, false] rfl rfl (any_of HT_.out (by kernel_rfl)) (fun _ _ _ h => h) (Or.inl ⟨by rfl, ?_⟩) ?_ ?_
               rotate_left
               ·
                intro w'
                go_simp
                with_reducible rfl
               rotate_left
               ·
                simp only [Act.put, List.setIfInBounds_toArray, List.set_cons_zero, List.set_cons_succ, i64_w, i32_w]
                rfl
               refine pure_ (i := 8) (N := some 46) (v := ?_) (a' := ?_) #[true, true, true, true, true, true, true, true, true, false, true, false, false, false] rfl rfl (any_of HT_.out (by kernel_rfl)) (fun _ _ _ h => h) (Or.inl ⟨by rfl, ?_⟩) ?_ ?_
               rotate_left
               ·
                intro w'
                go_simp
                with_reducible rfl
               rotate_left
               ·
                simp only [Act.put, List.setIfInBounds_toArray, List.set_cons_zero, List.set_cons_succ, i64_w, i32_w]
                rfl
               refine pure_ (i := 9) (N := some 47) (v := ?_) (a' := ?_) #[true, true, true, true, true, true, true, true, true, true, true, false, false, false] rfl rfl (any_of HT_.out (by kernel_rfl)) (fun _ _ _ h => h) (Or.inl ⟨by rfl, ?_⟩) ?_ ?_
               rotate_left
               ·
                intro w'
                go_simp
                with_reducible rfl
               rotate_left
               ·
                simp only [Act.put, List.setIfInBounds_toArray, List.set_cons_zero, List.set_cons_succ, i64_w, i32_w]
                rfl
               exact norm_ (by simp only [putAll, Act.put, List.setIfInBounds_toArray, List.set_cons_zero, List.set_cons_succ]) (hCont (v469, v473, gb476) _ ⟨hHeld, (by (with_reducible repeat (first | apply Kd.R_alloc | apply Kd.R_drewN | apply Kd.R_drew)); exact HO463.out), (by (with_reducible repeat (first | apply Kd.R_alloc | apply Kd.R_drewN | apply Kd.R_drew)); exact HO470.out), (by (with_reducible repeat (first | apply Kd.R_alloc | apply Kd.R_drewN | apply Kd.R_drew)); exact HO474.out), (by (with_reducible repeat (first | refine blk_drewN ?_ _ | refine blk_drew ?_ | refine blk_alloc ?_ _)); exact BK459.out), (by (with_reducible repeat (first | refine blk_drewN ?_ _ | refine blk_drew ?_ | refine blk_alloc ?_ _)); exact BK476.out), GW476.out, GE476.out, NB453_476.out, NB476_453.out, NB459_476.out, NB476_459.out, (by repeat (first | (with_reducible first | exact HI453.out | apply IsS90.alloc | apply IsS90.drewN | apply IsS90.drew | refine IsS90.farT ?_ (by repeat (first | exact TyOf.mk BK459.out | apply TyOf.alloc | apply TyOf.drewN | apply TyOf.drew | apply TyOf.set)) (by decide) _ | refine IsS90.farT ?_ (by repeat (first | exact TyOf.mk BK476.out | apply TyOf.alloc | apply TyOf.drewN | apply TyOf.drew | apply TyOf.set)) (by decide) _) | exact HI453.out)), (by repeat (first | (with_reducible first | exact HB.out | apply below_alloc | apply pw_below_drewN | apply below_drew1 | refine below_set ?_ (IsS90.ge HI453.out) | refine below_set ?_ GE459.out | refine below_set ?_ GE476.out) | exact HB.out))⟩)
             rintro ⟨v469, v473, gb476⟩ w36 ⟨hS_, h0_, h1_, h2_, h3_, h4_, h5_, h6_, h7_, h8_, h9_, h10_, h11_, h12_⟩
             have n0_ : Aside0 (Kd.R k26 26 w36 w.heap.size (fun k_ => some k_ ≠ (v473 : Value).ownBlock) v462 t461) := ⟨h0_⟩
             have n1_ : Aside0 (Kd.R k88 88 w36 w.heap.size (fun _ => True) v469 t468) := ⟨h1_⟩
             have n2_ : Aside0 (Kd.R k26 26 w36 w.heap.size (fun k_ => some k_ ≠ (v462 : Value).ownBlock) v473 t472) := ⟨h2_⟩
             have n3_ : Aside0 (w36.heap[gb459]? = some (.cells #[.int .i64 x460000_2, .slice Ao32 x460001_2.length co32, .bool x460002_2] 56 (0, 0))) := ⟨h3_⟩
             have n4_ : Aside0 (w36.heap[gb476]? = some (.cells #[.int .i64 0, .slice none 0 0, .bool false] 56 (0, 0))) := ⟨h4_⟩
             have n5_ : Aside0 (w.heap.size ≤ gb476) := ⟨h5_⟩
             have n6_ : Aside0 (w.heap.size ≤ gb476) := ⟨h6_⟩
             have n7_ : Aside0 (g453 ≠ gb476) := ⟨h7_⟩
             have n8_ : Aside0 (gb476 ≠ g453) := ⟨h8_⟩
             have n9_ : Aside0 (gb459 ≠ gb476) := ⟨h9_⟩
             have n10_ : Aside0 (gb476 ≠ gb459) := ⟨h10_⟩
             have n11_ : Aside0 (IsS90 w w36 g453 t465) := ⟨h11_⟩
             have n12_ : Aside0 (Below w.heap.size w w36) := ⟨h12_⟩
             clear HO_460001
             clear HO463
             clear BK459
             clear HI453
             clear HB
             clear h0_ h1_ h2_ h3_ h4_ h5_ h6_ h7_ h8_ h9_ h10_ h11_ h12_
             have HO463 := n0_
             have HO470 := n1_
             have HO474 := n2_
             have BK459 := n3_
             have BK476 := n4_
             have GW476 := n5_
             have GE476 := n6_
             have NB453_476 := n7_
             have NB476_453 := n8_
             have NB459_476 := n9_
             have NB476_459 := n10_
             have HI453 := n11_
             have HB := n12_
             clear n0_ n1_ n2_ n3_ n4_ n5_ n6_ n7_ n8_ n9_ n10_ n11_ n12_
             have hHeld : w36.cell? ⟨gb459, 0, none⟩ = some (.int .i64 x460000_2) ∧ w36.cell? ⟨gb459, 1, none⟩ = some (.slice Ao32 x460001_2.length co32) ∧ w36.cell? ⟨gb459, 2, none⟩ = some (.bool x460002_2) ∧ w36.cell? (ad460.add (x5_2).toNat) = some (.string (rdOf ByteArray.empty l0 x5_2)) := hS_
             obtain ⟨Ao38, co38, eo38⟩ := Kd.R_slice HO470.out
             (first | subst eo38 | (injection eo38 with f1_ f2_ f3_; have f4_ := f1_.symm; have f5_ := f3_.symm; clear f1_ f2_ f3_; subst f4_; subst f5_))
             refine norm_ (a' := ?_) ?_ ?_
             rotate_left
             ·
              simp only [putAll, Act.put, List.setIfInBounds_toArray, List.set_cons_zero, List.set_cons_succ]
              rfl
             refine one_ (i := 11) (N := none) #[true, true, true, true, true, true, true, true, true, true, true, true, false, false] rfl rfl (one_of HT_.out (by kernel_rfl)) (by decide) (fun K hK => ?_)
             have hs37 : w36.cell? ⟨gb476, 0, none⟩ = some (.int .i64 0) := (blk_cell BK476.out 0).trans rfl
             have hfs37 := blk_frozen BK476.out 0
             have hns37_0 := NB459_476.out
             have hms37_0 := NB476_459.out
             have hs39 : w36.cell? ⟨gb476, 1, none⟩ = some (.slice none 0 0) := (blk_cell BK476.out 1).trans rfl
             have hfs39 := blk_frozen BK476.out 1
             have hns39_0 := NB459_476.out
             have hms39_0 := NB476_459.out
             have hs40 : w36.cell? ⟨gb476, 2, none⟩ = some (.bool false) := (blk_cell BK476.out 2).trans rfl
             have hfs40 := blk_frozen BK476.out 2
             have hns40_0 := NB459_476.out
             have hms40_0 := NB476_459.out
             refine skip_ (w1 := ?_) (by rfl) rfl ?_ ?_
             rotate_left
             ·
              go_simp
              rfl
             refine hK.out _ _ ⟨((cell_far (p := ⟨gb476, _, none⟩) NB459_476.out _).trans (((cell_far (p := ⟨gb476, _, none⟩) NB459_476.out _).trans (((cell_far (p := ⟨gb476, _, none⟩) NB459_476.out _).trans (hHeld.1)))))), ((cell_far (p := ⟨gb476, _, none⟩) NB459_476.out _).trans (((cell_far (p := ⟨gb476, _, none⟩) NB459_476.out _).trans (((cell_far (p := ⟨gb476, _, none⟩) NB459_476.out _).trans (hHeld.2.1)))))), ((cell_far (p := ⟨gb476, _, none⟩) NB459_476.out _).trans (((cell_far (p := ⟨gb476, _, none⟩) NB459_476.out _).trans (((cell_far (p := ⟨gb476, _, none⟩) NB459_476.out _).trans (hHeld.2.2.1)))))), ((cell_far (p := ⟨gb476, _, none⟩) (by first | exact Nat.ne_of_lt (Nat.lt_of_lt_of_le (by have := World.block_lt_of_cell? _ _ hw466_0; first | rwa [add_block] at this | exact this) GW476.out) | (rw [add_block]; exact Nat.ne_of_lt (Nat.lt_of_lt_of_le (by have := World.block_lt_of_cell? _ _ hw466_0; first | rwa [add_block] at this | exact this) GW476.out)) | (show (Addr.add _ _).block ≠ _; rw [add_block]; exact Nat.ne_of_lt (Nat.lt_of_lt_of_le (by have := World.block_lt_of_cell? _ _ hw466_0; first | rwa [add_block] at this | exact this) GW476.out)) | (dsimp only; exact Nat.ne_of_lt (Nat.lt_of_lt_of_le (by have := World.block_lt_of_cell? _ _ hw466_0; first | rwa [add_block] at this | exact this) GW476.out))) _).trans (((cell_far (p := ⟨gb476, _, none⟩) (by first | exact Nat.ne_of_lt (Nat.lt_of_lt_of_le (by have := World.block_lt_of_cell? _ _ hw466_0; first | rwa [add_block] at this | exact this) GW476.out) | (rw [add_block]; exact Nat.ne_of_lt (Nat.lt_of_lt_of_le (by have := World.block_lt_of_cell? _ _ hw466_0; first | rwa [add_block] at this | exact this) GW476.out)) | (show (Addr.add _ _).block ≠ _; rw [add_block]; exact Nat.ne_of_lt (Nat.lt_of_lt_of_le (by have := World.block_lt_of_cell? _ _ hw466_0; first | rwa [add_block] at this | exact this) GW476.out)) | (dsimp only; exact Nat.ne_of_lt (Nat.lt_of_lt_of_le (by have := World.block_lt_of_cell? _ _ hw466_0; first | rwa [add_block] at this | exact this) GW476.out))) _).trans (((cell_far (p := ⟨gb476, _, none⟩) (by first | exact Nat.ne_of_lt (Nat.lt_of_lt_of_le (by have := World.block_lt_of_cell? _ _ hw466_0; first | rwa [add_block] at this | exact this) GW476.out) | (rw [add_block]; exact Nat.ne_of_lt (Nat.lt_of_lt_of_le (by have := World.block_lt_of_cell? _ _ hw466_0; first | rwa [add_block] at this | exact this) GW476.out)) | (show (Addr.add _ _).block ≠ _; rw [add_block]; exact Nat.ne_of_lt (Nat.lt_of_lt_of_le (by have := World.block_lt_of_cell? _ _ hw466_0; first | rwa [add_block] at this | exact this) GW476.out)) | (dsimp only; exact Nat.ne_of_lt (Nat.lt_of_lt_of_le (by have := World.block_lt_of_cell? _ _ hw466_0; first | rwa [add_block] at this | exact this) GW476.out))) _).trans (hHeld.2.2.2))))))⟩ (fun hHeld => ?_)
             clear hK K
             refine pure_ (i := 12) (N := some 9) (v := ?_) (a' := ?_) #[true, true, true, true, true, true, true, true, true, true, true, true, true, false] rfl rfl (any_of HT_.out (by kernel_rfl)) (fun _ _ _ h => h) (Or.inl ⟨by rfl, ?_⟩) ?_ ?_
             rotate_left
             ·
              intro w'
              go_simp
              with_reducible rfl
             rotate_left
             ·
              simp only [Act.put, List.setIfInBounds_toArray, List.set_cons_zero, List.set_cons_succ, i64_w, i32_w]
              rfl
             refine pure_ (i := 13) (N := some 10) (v := ?_) (a' := ?_) #[true, true, true, true, true, true, true, true, true, true, true, true, true, true] rfl rfl (any_of HT_.out (by kernel_rfl)) (fun _ _ _ h => h) (Or.inl ⟨by rfl, ?_⟩) ?_ ?_
             rotate_left
             ·
              intro w'
              go_simp
              with_reducible rfl
             rotate_left
             ·
              simp only [Act.put, List.setIfInBounds_toArray, List.set_cons_zero, List.set_cons_succ, i64_w, i32_w]
              rfl
             refine done_ (done_of HT_.out (by kernel_rfl)) ?_
             have hnb41 := NB476_459.out
             have hnc41 := NB459_476.out
             have hnb42 := NB476_453.out
             have hnc42 := NB453_476.out
             have hcz43_0 : w36.cell? ⟨gb476, 0, none⟩ = some (.int .i64 0) := (blk_cell BK476.out 0).trans rfl
             have hcz43_1 : w36.cell? ⟨gb476, 1, none⟩ = some (.slice none 0 0) := (blk_cell BK476.out 1).trans rfl
             have hcz43_2 : w36.cell? ⟨gb476, 2, none⟩ = some (.bool false) := (blk_cell BK476.out 2).trans rfl
             have hfz43_0 := blk_frozen BK476.out 0
             have hfz43_1 := blk_frozen BK476.out 1
             have hfz43_2 := blk_frozen BK476.out 2
             have hnb44 := NB459_453.out
             have hnc44 := NB453_459.out
             have hcz45_0 : w36.cell? ⟨gb459, 0, none⟩ = some (.int .i64 x460000_2) := (blk_cell BK459.out 0).trans rfl
             have hcz45_1 : w36.cell? ⟨gb459, 1, none⟩ = some (.slice Ao32 x460001_2.length co32) := (blk_cell BK459.out 1).trans rfl
             have hcz45_2 : w36.cell? ⟨gb459, 2, none⟩ = some (.bool x460002_2) := (blk_cell BK459.out 2).trans rfl
             have hfz45_0 := blk_frozen BK459.out 0
             have hfz45_1 := blk_frozen BK459.out 1
             have hfz45_2 := blk_frozen BK459.out 2
             try go_wp2
             have n0_ : Aside0 (Kd.R k26 26 ((((((w36.setCell ⟨gb476, 0, none⟩ (.int .i64 t467)).setCell ⟨gb476, 1, none⟩ (.slice Ao38 t468.length co38)).setCell ⟨gb476, 2, none⟩ (.bool t471)).setCell ⟨gb459, 0, none⟩ (.int .i64 t467)).setCell ⟨gb459, 1, none⟩ (.slice Ao38 t468.length co38)).setCell ⟨gb459, 2, none⟩ (.bool t471)) w.heap.size (fun k_ => some k_ ≠ (v473 : Value).ownBlock) v462 t461) := ⟨by (with_reducible repeat (first | apply Kd.R_alloc | apply Kd.R_drewN | apply Kd.R_drew)); exact Kd.R_mono (Kd.R_far (p := ⟨gb459, 2, none⟩) (Kd.R_far (p := ⟨gb459, 1, none⟩) (Kd.R_far (p := ⟨gb459, 0, none⟩) (Kd.R_far (p := ⟨gb476, 2, none⟩) (Kd.R_far (p := ⟨gb476, 1, none⟩) (Kd.R_far (p := ⟨gb476, 0, none⟩) (Kd.R_types (Kd.R_types HO463.out BK476.out (by decide)) BK459.out (by decide)) (fun _ hk => hk.1.2) (.int .i64 t467)) (fun _ hk => hk.1.2) (.slice Ao38 t468.length co38)) (fun _ hk => hk.1.2) (.bool t471)) (fun _ hk => hk.2) (.int .i64 t467)) (fun _ hk => hk.2) (.slice Ao38 t468.length co38)) (fun _ hk => hk.2) (.bool t471)) (fun _ hk => hk.1.1)⟩
             have n1_ : Aside0 (Kd.R k88 88 ((((((w36.setCell ⟨gb476, 0, none⟩ (.int .i64 t467)).setCell ⟨gb476, 1, none⟩ (.slice Ao38 t468.length co38)).setCell ⟨gb476, 2, none⟩ (.bool t471)).setCell ⟨gb459, 0, none⟩ (.int .i64 t467)).setCell ⟨gb459, 1, none⟩ (.slice Ao38 t468.length co38)).setCell ⟨gb459, 2, none⟩ (.bool t471)) w.heap.size (fun _ => True) (.slice Ao38 t468.length co38) t468) := ⟨by (with_reducible repeat (first | apply Kd.R_alloc | apply Kd.R_drewN | apply Kd.R_drew)); exact Kd.R_mono (Kd.R_far (p := ⟨gb459, 2, none⟩) (Kd.R_far (p := ⟨gb459, 1, none⟩) (Kd.R_far (p := ⟨gb459, 0, none⟩) (Kd.R_far (p := ⟨gb476, 2, none⟩) (Kd.R_far (p := ⟨gb476, 1, none⟩) (Kd.R_far (p := ⟨gb476, 0, none⟩) (Kd.R_types (Kd.R_types HO470.out BK476.out (by decide)) BK459.out (by decide)) (fun _ hk => hk.1.2) (.int .i64 t467)) (fun _ hk => hk.1.2) (.slice Ao38 t468.length co38)) (fun _ hk => hk.1.2) (.bool t471)) (fun _ hk => hk.2) (.int .i64 t467)) (fun _ hk => hk.2) (.slice Ao38 t468.length co38)) (fun _ hk => hk.2) (.bool t471)) (fun _ hk => trivial)⟩
             have n2_ : Aside0 (Kd.R k26 26 ((((((w36.setCell ⟨gb476, 0, none⟩ (.int .i64 t467)).setCell ⟨gb476, 1, none⟩ (.slice Ao38 t468.length co38)).setCell ⟨gb476, 2, none⟩ (.bool t471)).setCell ⟨gb459, 0, none⟩ (.int .i64 t467)).setCell ⟨gb459, 1, none⟩ (.slice Ao38 t468.length co38)).setCell ⟨gb459, 2, none⟩ (.bool t471)) w.heap.size (fun k_ => some k_ ≠ (v462 : Value).ownBlock) v473 t472) := ⟨by (with_reducible repeat (first | apply Kd.R_alloc | apply Kd.R_drewN | apply Kd.R_drew)); exact Kd.R_mono (Kd.R_far (p := ⟨gb459, 2, none⟩) (Kd.R_far (p := ⟨gb459, 1, none⟩) (Kd.R_far (p := ⟨gb459, 0, none⟩) (Kd.R_far (p := ⟨gb476, 2, none⟩) (Kd.R_far (p := ⟨gb476, 1, none⟩) (Kd.R_far (p := ⟨gb476, 0, none⟩) (Kd.R_types (Kd.R_types HO474.out BK476.out (by decide)) BK459.out (by decide)) (fun _ hk => hk.1.2) (.int .i64 t467)) (fun _ hk => hk.1.2) (.slice Ao38 t468.length co38)) (fun _ hk => hk.1.2) (.bool t471)) (fun _ hk => hk.2) (.int .i64 t467)) (fun _ hk => hk.2) (.slice Ao38 t468.length co38)) (fun _ hk => hk.2) (.bool t471)) (fun _ hk => hk.1.1)⟩
             have n3_ : Aside0 (((((((w36.setCell ⟨gb476, 0, none⟩ (.int .i64 t467)).setCell ⟨gb476, 1, none⟩ (.slice Ao38 t468.length co38)).setCell ⟨gb476, 2, none⟩ (.bool t471)).setCell ⟨gb459, 0, none⟩ (.int .i64 t467)).setCell ⟨gb459, 1, none⟩ (.slice Ao38 t468.length co38)).setCell ⟨gb459, 2, none⟩ (.bool t471)).heap[gb459]? = some (.cells #[.int .i64 t467, .slice Ao38 t468.length co38, .bool t471] 56 (0, 0))) := ⟨by (with_reducible repeat (first | refine blk_drewN ?_ _ | refine blk_drew ?_ | refine blk_alloc ?_ _)); refine blk_put (cs := #[.int .i64 t467, .slice Ao38 t468.length co38, .bool x460002_2]) ?_ 2 _ rfl; (with_reducible repeat (first | refine blk_drewN ?_ _ | refine blk_drew ?_ | refine blk_alloc ?_ _)); refine blk_put (cs := #[.int .i64 t467, .slice Ao32 x460001_2.length co32, .bool x460002_2]) ?_ 1 _ rfl; (with_reducible repeat (first | refine blk_drewN ?_ _ | refine blk_drew ?_ | refine blk_alloc ?_ _)); refine blk_put (cs := #[.int .i64 x460000_2, .slice Ao32 x460001_2.length co32, .bool x460002_2]) ?_ 0 _ rfl; (with_reducible repeat (first | refine blk_drewN ?_ _ | refine blk_drew ?_ | refine blk_alloc ?_ _)); refine blk_far ?_ NB459_476.out _; (with_reducible repeat (first | refine blk_drewN ?_ _ | refine blk_drew ?_ | refine blk_alloc ?_ _)); refine blk_far ?_ NB459_476.out _; (with_reducible repeat (first | refine blk_drewN ?_ _ | refine blk_drew ?_ | refine blk_alloc ?_ _)); refine blk_far ?_ NB459_476.out _; (with_reducible repeat (first | refine blk_drewN ?_ _ | refine blk_drew ?_ | refine blk_alloc ?_ _)); exact BK459.out⟩
             have n4_ : Aside0 (((((((w36.setCell ⟨gb476, 0, none⟩ (.int .i64 t467)).setCell ⟨gb476, 1, none⟩ (.slice Ao38 t468.length co38)).setCell ⟨gb476, 2, none⟩ (.bool t471)).setCell ⟨gb459, 0, none⟩ (.int .i64 t467)).setCell ⟨gb459, 1, none⟩ (.slice Ao38 t468.length co38)).setCell ⟨gb459, 2, none⟩ (.bool t471)).heap[gb476]? = some (.cells #[.int .i64 t467, .slice Ao38 t468.length co38, .bool t471] 56 (0, 0))) := ⟨by (with_reducible repeat (first | refine blk_drewN ?_ _ | refine blk_drew ?_ | refine blk_alloc ?_ _)); refine blk_far ?_ NB476_459.out _; (with_reducible repeat (first | refine blk_drewN ?_ _ | refine blk_drew ?_ | refine blk_alloc ?_ _)); refine blk_far ?_ NB476_459.out _; (with_reducible repeat (first | refine blk_drewN ?_ _ | refine blk_drew ?_ | refine blk_alloc ?_ _)); refine blk_far ?_ NB476_459.out _; (with_reducible repeat (first | refine blk_drewN ?_ _ | refine blk_drew ?_ | refine blk_alloc ?_ _)); refine blk_put (cs := #[.int .i64 t467, .slice Ao38 t468.length co38, .bool false]) ?_ 2 _ rfl; (with_reducible repeat (first | refine blk_drewN ?_ _ | refine blk_drew ?_ | refine blk_alloc ?_ _)); refine blk_put (cs := #[.int .i64 t467, .slice none 0 0, .bool false]) ?_ 1 _ rfl; (with_reducible repeat (first | refine blk_drewN ?_ _ | refine blk_drew ?_ | refine blk_alloc ?_ _)); refine blk_put (cs := #[.int .i64 0, .slice none 0 0, .bool false]) ?_ 0 _ rfl; (with_reducible repeat (first | refine blk_drewN ?_ _ | refine blk_drew ?_ | refine blk_alloc ?_ _)); exact BK476.out⟩
             have n5_ : Aside0 (IsS90 w ((((((w36.setCell ⟨gb476, 0, none⟩ (.int .i64 t467)).setCell ⟨gb476, 1, none⟩ (.slice Ao38 t468.length co38)).setCell ⟨gb476, 2, none⟩ (.bool t471)).setCell ⟨gb459, 0, none⟩ (.int .i64 t467)).setCell ⟨gb459, 1, none⟩ (.slice Ao38 t468.length co38)).setCell ⟨gb459, 2, none⟩ (.bool t471)) g453 t465) := ⟨by repeat (first | (with_reducible first | exact HI453.out | apply IsS90.alloc | apply IsS90.drewN | apply IsS90.drew | refine IsS90.farT ?_ (by repeat (first | exact TyOf.mk BK459.out | apply TyOf.alloc | apply TyOf.drewN | apply TyOf.drew | apply TyOf.set)) (by decide) _ | refine IsS90.farT ?_ (by repeat (first | exact TyOf.mk BK476.out | apply TyOf.alloc | apply TyOf.drewN | apply TyOf.drew | apply TyOf.set)) (by decide) _) | exact HI453.out)⟩
             have n6_ : Aside0 (Below w.heap.size w ((((((w36.setCell ⟨gb476, 0, none⟩ (.int .i64 t467)).setCell ⟨gb476, 1, none⟩ (.slice Ao38 t468.length co38)).setCell ⟨gb476, 2, none⟩ (.bool t471)).setCell ⟨gb459, 0, none⟩ (.int .i64 t467)).setCell ⟨gb459, 1, none⟩ (.slice Ao38 t468.length co38)).setCell ⟨gb459, 2, none⟩ (.bool t471))) := ⟨by repeat (first | (with_reducible first | exact HB.out | apply below_alloc | apply pw_below_drewN | apply below_drew1 | refine below_set ?_ (IsS90.ge HI453.out) | refine below_set ?_ GE459.out | refine below_set ?_ GE476.out) | exact HB.out)⟩
             (try clear HO463)
             (try clear HO470)
             (try clear HO474)
             (try clear BK459)
             (try clear BK476)
             (try clear HI453)
             (try clear HB)
             generalize ((((((w36.setCell ⟨gb476, 0, none⟩ (.int .i64 t467)).setCell ⟨gb476, 1, none⟩ (.slice Ao38 t468.length co38)).setCell ⟨gb476, 2, none⟩ (.bool t471)).setCell ⟨gb459, 0, none⟩ (.int .i64 t467)).setCell ⟨gb459, 1, none⟩ (.slice Ao38 t468.length co38)).setCell ⟨gb459, 2, none⟩ (.bool t471)) = w46 at n0_ n1_ n2_ n3_ n4_ n5_ n6_ ⊢
             have HO463 := n0_
             have HO470 := n1_
             have HO474 := n2_
             have BK459 := n3_
             have BK476 := n4_
             have HI453 := n5_
             have HB := n6_
             clear n0_ n1_ n2_ n3_ n4_ n5_ n6_
             have n0_ := Aside0.mk (Kd.R_drew HO463.out)
             have n1_ := Aside0.mk (Kd.R_drew HO470.out)
             have n2_ := Aside0.mk (Kd.R_drew HO474.out)
             have n3_ := Aside0.mk (blk_drew BK459.out)
             have n4_ := Aside0.mk (blk_drew BK476.out)
             have n5_ := Aside0.mk (IsS90.drew HI453.out)
             have n6_ := Aside0.mk (below_drew1 HB.out)
             clear HO463
             clear HO470
             clear HO474
             clear BK459
             clear BK476
             clear HI453
             clear HB
             have HO463 := n0_
             have HO470 := n1_
             have HO474 := n2_
             have BK459 := n3_
             have BK476 := n4_
             have HI453 := n5_
             have HB := n6_
             clear n0_ n1_ n2_ n3_ n4_ n5_ n6_
             obtain ⟨Ao48, co48, eo48⟩ := Kd.R_slice HO463.out
             (first | subst eo48 | (injection eo48 with f1_ f2_ f3_; have f4_ := f1_.symm; have f5_ := f3_.symm; clear f1_ f2_ f3_; subst f4_; subst f5_))
             obtain ⟨Ao49, co49, eo49⟩ := Kd.R_slice HO474.out
             (first | subst eo49 | (injection eo49 with f1_ f2_ f3_; have f4_ := f1_.symm; have f5_ := f3_.symm; clear f1_ f2_ f3_; subst f4_; subst f5_))
             refine start_ (n := 24) (S := fun w' => w'.cell? ⟨gb459, 0, none⟩ = some (.int .i64 t467) ∧ w'.cell? ⟨gb459, 1, none⟩ = some (.slice Ao38 t468.length co38) ∧ w'.cell? ⟨gb459, 2, none⟩ = some (.bool t471)) (ds := []) #[false, false, false, false, false, false, false, false, false, false, false, false, false, false, false, false, false, false, false, false, false, false, false, false] (by kernel_rfl) rfl rfl ⟨(blk_cell BK459.out 0).trans rfl, (blk_cell BK459.out 1).trans rfl, (blk_cell BK459.out 2).trans rfl⟩ (fun hHeld => ?_); refine with_tabW nunciolaw12_UnpackReads.tab13 nunciolaw12_UnpackReads.bits13 (fun HT_ HW_ => ?_)
             generalize w46.drew = w47 at HO463 HO470 HO474 BK459 BK476 HI453 HB hHeld ⊢
             refine pure_ (i := 0) (N := some 49) (v := ?_) (a' := ?_) #[true, false, false, false, false, false, false, false, false, false, false, false, false, false, false, false, false, false, false, false, false, false, false, false] rfl rfl (any_of HT_.out (by kernel_rfl)) (fun _ _ _ h => h) (Or.inl ⟨by rfl, ?_⟩) ?_ ?_
             rotate_left
             ·
              intro w'
              go_simp
              with_reducible rfl
             rotate_left
             ·
              simp only [Act.put, List.setIfInBounds_toArray, List.set_cons_zero, List.set_cons_succ, i64_w, i32_w]
              rfl
             refine pure_ (i := 1) (N := some 50) (v := ?_) (a' := ?_) #[true, true, false, false, false, false, false, false, false, false, false, false, false, false, false, false, false, false, false, false, false, false, false, false] rfl rfl (any_of HT_.out (by kernel_rfl)) (fun _ _ _ h => h) (Or.inl ⟨by rfl, ?_⟩) ?_ ?_
             rotate_left
             ·
              intro w'
              go_simp
              with_reducible rfl
             rotate_left
             ·
              simp only [Act.put, List.setIfInBounds_toArray, List.set_cons_zero, List.set_cons_succ, i64_w, i32_w]
              rfl
             refine one_ (i := 2) (N := some 51) #[true, true, true, false, false, false, false, false, false, false, false, false, false, false, false, false, false, false, false, false, false, false, false, false] rfl rfl (one_of HT_.out (by kernel_rfl)) (by decide) (fun K hK => ?_)
             refine goes_ Tryd.func27 (by kernel_rfl) rfl #[.slice Ao48 t461.length co48, .slice Ao49 t472.length co49] (by rfl) rfl rfl (by (try simp only [List.map_toArray, List.map_cons, List.map_nil]); first | done | rfl | (simp only [List.length_drop, List.length_take]; rfl)) ?_
             with_reducible refine (nuncioref12_Same.calls k2 _ _ t461 _ _ t472 true _ ?side1 ?side2 ?side3 ?side4 A23.out).mono ?_
             (case side1 => repeat (first | exact (Kd.R_reads' HO463.out).2.2 | (with_reducible refine Kd.C_alloc ?_ _) | (with_reducible refine Kd.C_drewN ?_ _) | (with_reducible refine Kd.C_drew ?_)))
             (case side2 => exact (Kd.R_reads' HO463.out).2.1)
             (case side3 => repeat (first | exact (Kd.R_reads' HO474.out).2.2 | (with_reducible refine Kd.C_alloc ?_ _) | (with_reducible refine Kd.C_drewN ?_ _) | (with_reducible refine Kd.C_drew ?_)))
             (case side4 => exact (Kd.R_reads' HO474.out).2.1)
             rintro e w' ⟨rfl, ⟨nd, rfl⟩⟩
             refine ⟨_, rfl, ?_⟩
             refine hK.out _ _ ⟨(blk_cell BK459.out 0).trans rfl, (blk_cell BK459.out 1).trans rfl, (blk_cell BK459.out 2).trans rfl⟩ (fun hHeld => ?_)
             clear hK K
             refine norm_ (a' := ?_) ?_ ?_
             rotate_left
             ·
              show Act.put _ (some 51) _ = _
              simp only [Act.put, List.setIfInBounds_toArray, List.set_cons_zero, List.set_cons_succ, i64_w, i32_w]
              rfl
             refine pure_ (i := 3) (N := some 52) (v := ?_) (a' := ?_) #[true, true, true, true, false, false, false, false, false, false, false, false, false, false, false, false, false, false, false, false, false, false, false, false] rfl rfl (any_of HT_.out (by kernel_rfl)) (fun _ _ _ h => h) (Or.inl ⟨by rfl, ?_⟩) ?_ ?_
             rotate_left
             ·
              intro w'
              go_simp
              with_reducible rfl
             rotate_left
             ·
              simp only [Act.put, List.setIfInBounds_toArray, List.set_cons_zero, List.set_cons_succ, i64_w, i32_w]
              rfl
             refine pure_ (i := 4) (N := some 53) (v := ?_) (a' := ?_) #[true, true, true, true, true, false, false, false, false, false, false, false, false, false, false, false, false, false, false, false, false, false, false, false] rfl rfl (any_of HT_.out (by kernel_rfl)) (fun _ _ _ h => h) (Or.inl ⟨by rfl, ?_⟩) ?_ ?_
             rotate_left
             ·
              intro w'
              go_simp
              with_reducible rfl
             rotate_left
             ·
              simp only [Act.put, List.setIfInBounds_toArray, List.set_cons_zero, List.set_cons_succ, i64_w, i32_w]
              rfl
             refine pure_ (i := 5) (N := some 54) (v := ?_) (a' := ?_) #[true, true, true, true, true, true, false, false, false, false, false, false, false, false, false, false, false, false, false, false, false, false, false, false] rfl rfl (any_of HT_.out (by kernel_rfl)) (fun _ _ _ h => h) (Or.inl ⟨by rfl, ?_⟩) ?_ ?_
             rotate_left
             ·
              intro w'
              go_simp
              with_reducible rfl
             rotate_left
             ·
              simp only [Act.put, List.setIfInBounds_toArray, List.set_cons_zero, List.set_cons_succ, i64_w, i32_w]
              rfl
             refine pure_ (i := 6) (N := some 55) (v := ?_) (a' := ?_) #[true, true, true, true, true, true, true, false, false, false, false, false, false, false, false, false, false, false, false, false, false, false, false, false] rfl rfl (any_of HT_.out (by kernel_rfl)) (fun _ _ _ h => h) (Or.inl ⟨by rfl, ?_⟩) ?_ ?_
             rotate_left
             ·
              intro w'
              go_simp
              with_reducible rfl
             rotate_left
             ·
              simp only [Act.put, List.setIfInBounds_toArray, List.set_cons_zero, List.set_cons_succ, i64_w, i32_w]
              rfl
             refine pure_ (i := 7) (N := some 56) (v := ?_) (a' := ?_) #[true, true, true, true, true, true, true, true, false, false, false, false, false, false, false, false, false, false, false, false, false, false, false, false] rfl rfl (any_of HT_.out (by kernel_rfl)) (fun _ _ _ h => h) (Or.inl ⟨by rfl, ?_⟩) ?_ ?_
             rotate_left
             ·
              intro w'
              go_simp
              with_reducible rfl
             rotate_left
             ·
              simp only [Act.put, List.setIfInBounds_toArray, List.set_cons_zero, List.set_cons_succ, i64_w, i32_w]
              rfl
             refine pure_ (i := 8) (N := some 57) (v := ?_) (a' := ?_) #[true, true, true, true, true, true, true, true, true, false, false, false, false, false, false, false, false, false, false, false, false, false, false, false] rfl rfl (any_of HT_.out (by kernel_rfl)) (fun _ _ _ h => h) (Or.inl ⟨by rfl, ?_⟩) ?_ ?_
             rotate_left
             ·
              intro w'
              go_simp
              with_reducible rfl
             rotate_left
             ·
              simp only [Act.put, List.setIfInBounds_toArray, List.set_cons_zero, List.set_cons_succ, i64_w, i32_w]
              rfl
             refine pure_ (i := 9) (N := some 58) (v := ?_) (a' := ?_) #[true, true, true, true, true, true, true, true, true, true, false, false, false, false, false, false, false, false, false, false, false, false, false, false] rfl rfl (any_of HT_.out (by kernel_rfl)) (fun _ _ _ h => h) (Or.inl ⟨by rfl, ?_⟩) ?_ ?_
             rotate_left
             ·
              intro w'
              go_simp
              with_reducible rfl
             rotate_left
             ·
              simp only [Act.put, List.setIfInBounds_toArray, List.set_cons_zero, List.set_cons_succ, i64_w, i32_w]
              rfl
             refine pure_ (i := 10) (N := some 59) (v := ?_) (a' := ?_) #[true, true, true, true, true, true, true, true, true, true, true, false, false, false, false, false, false, false, false, false, false, false, false, false] rfl rfl (any_of HT_.out (by kernel_rfl)) (fun _ _ _ h => h) (Or.inl ⟨by rfl, ?_⟩) ?_ ?_
             rotate_left
             ·
              intro w'
              go_simp
              with_reducible rfl
             rotate_left
             ·
              simp only [Act.put, List.setIfInBounds_toArray, List.set_cons_zero, List.set_cons_succ, i64_w, i32_w]
              rfl
             refine pure_ (i := 12) (N := some 61) (v := ?_) (a' := ?_) #[true, true, true, true, true, true, true, true, true, true, true, false, true, false, false, false, false, false, false, false, false, false, false, false] rfl rfl (any_of HT_.out (by kernel_rfl)) (fun _ _ _ h => h) (Or.inl ⟨by rfl, ?_⟩) ?_ ?_
             rotate_left
             ·
              intro w'
              go_simp
              with_reducible rfl
             rotate_left
             ·
              simp only [Act.put, List.setIfInBounds_toArray, List.set_cons_zero, List.set_cons_succ, i64_w, i32_w]
              rfl
             refine take_ (i := 13) (N := some 62) (v := ?_) (a' := ?_) #[true, true, true, true, true, true, true, true, true, true, true, false, true, true, false, false, false, false, false, false, false, false, false, false] rfl rfl (take_ofW HT_.out HW_.out (by kernel_rfl)) (fun _ _ _ h => h) (Or.inl ⟨by rfl, ?_⟩) hHeld ?_ ?_
             rotate_left
             ·
              rintro w' ⟨s0, s1, s2⟩
              go_simp
              with_reducible rfl
             rotate_left
             ·
              simp only [Act.put, List.setIfInBounds_toArray, List.set_cons_zero, List.set_cons_succ, i64_w, i32_w]
              rfl
             refine one_ (i := 11) (N := some 60) #[true, true, true, true, true, true, true, true, true, true, true, true, true, true, false, false, false, false, false, false, false, false, false, false] rfl rfl (one_of HT_.out (by kernel_rfl)) (by decide) (fun K hK => ?_)
             refine goes_ Tryd.func28 (by kernel_rfl) rfl #[.pointer (some ⟨g453, 0, none⟩)] (by rfl) rfl rfl (by (try simp only [List.map_toArray, List.map_cons, List.map_nil]); first | done | rfl | (simp only [List.length_drop, List.length_take]; rfl)) ?_
             with_reducible refine (unpack_Decoder_Down.calls g453 t465 t478 t479 w _ ?side1 ?side2 A26.out).mono ?_
             (case side1 => repeat (first | (with_reducible first | exact HI453.out | apply IsS90.alloc | apply IsS90.drewN | apply IsS90.drew | refine IsS90.farT ?_ (by repeat (first | exact TyOf.mk BK459.out | apply TyOf.alloc | apply TyOf.drewN | apply TyOf.drew | apply TyOf.set)) (by decide) _ | refine IsS90.farT ?_ (by repeat (first | exact TyOf.mk BK476.out | apply TyOf.alloc | apply TyOf.drewN | apply TyOf.drew | apply TyOf.set)) (by decide) _) | exact HI453.out))
             (case side2 => repeat (first | (with_reducible first | exact HB.out | apply below_alloc | apply pw_below_drewN | apply below_drew1 | refine below_set ?_ (IsS90.ge HI453.out) | refine below_set ?_ GE459.out | refine below_set ?_ GE476.out) | exact HB.out))
             rintro e w50 ⟨rfl, hi, hb, hk⟩
             refine ⟨_, rfl, ?_⟩
             have n0_ := Aside0.mk (IsS90.blkK hk (show IsS90 w _ g453 t465 from by repeat (first | (with_reducible first | exact HI453.out | apply IsS90.alloc | apply IsS90.drewN | apply IsS90.drew | refine IsS90.farT ?_ (by repeat (first | exact TyOf.mk BK459.out | apply TyOf.alloc | apply TyOf.drewN | apply TyOf.drew | apply TyOf.set)) (by decide) _ | refine IsS90.farT ?_ (by repeat (first | exact TyOf.mk BK476.out | apply TyOf.alloc | apply TyOf.drewN | apply TyOf.drew | apply TyOf.set)) (by decide) _) | exact HI453.out)) (g' := gb459) (o := .cells #[.int .i64 t467, .slice Ao38 t468.length co38, .bool t471] 56 (0, 0)) (by (with_reducible repeat (first | refine blk_drewN ?_ _ | refine blk_drew ?_ | refine blk_alloc ?_ _)); exact BK459.out) NB459_453.out rfl (by decide))
             have n1_ := Aside0.mk (Kd.R_mono (Kd.R_keep2 (IsS90.apart (show IsS90 w _ g453 t465 from by repeat (first | (with_reducible first | exact HI453.out | apply IsS90.alloc | apply IsS90.drewN | apply IsS90.drew | refine IsS90.farT ?_ (by repeat (first | exact TyOf.mk BK459.out | apply TyOf.alloc | apply TyOf.drewN | apply TyOf.drew | apply TyOf.set)) (by decide) _ | refine IsS90.farT ?_ (by repeat (first | exact TyOf.mk BK476.out | apply TyOf.alloc | apply TyOf.drewN | apply TyOf.drew | apply TyOf.set)) (by decide) _) | exact HI453.out)) (by (with_reducible repeat (first | apply Kd.R_alloc | apply Kd.R_drewN | apply Kd.R_drew)); exact HO463.out) (by decide)) hk (fun _ h => h.2)) (fun _ h => h.1))
             have n2_ := Aside0.mk (Kd.R_mono (Kd.R_keep2 (IsS90.apart (show IsS90 w _ g453 t465 from by repeat (first | (with_reducible first | exact HI453.out | apply IsS90.alloc | apply IsS90.drewN | apply IsS90.drew | refine IsS90.farT ?_ (by repeat (first | exact TyOf.mk BK459.out | apply TyOf.alloc | apply TyOf.drewN | apply TyOf.drew | apply TyOf.set)) (by decide) _ | refine IsS90.farT ?_ (by repeat (first | exact TyOf.mk BK476.out | apply TyOf.alloc | apply TyOf.drewN | apply TyOf.drew | apply TyOf.set)) (by decide) _) | exact HI453.out)) (by (with_reducible repeat (first | apply Kd.R_alloc | apply Kd.R_drewN | apply Kd.R_drew)); exact HO470.out) (by decide)) hk (fun _ h => h.2)) (fun _ h => h.1))
             have n3_ := Aside0.mk (Kd.R_mono (Kd.R_keep2 (IsS90.apart (show IsS90 w _ g453 t465 from by repeat (first | (with_reducible first | exact HI453.out | apply IsS90.alloc | apply IsS90.drewN | apply IsS90.drew | refine IsS90.farT ?_ (by repeat (first | exact TyOf.mk BK459.out | apply TyOf.alloc | apply TyOf.drewN | apply TyOf.drew | apply TyOf.set)) (by decide) _ | refine IsS90.farT ?_ (by repeat (first | exact TyOf.mk BK476.out | apply TyOf.alloc | apply TyOf.drewN | apply TyOf.drew | apply TyOf.set)) (by decide) _) | exact HI453.out)) (by (with_reducible repeat (first | apply Kd.R_alloc | apply Kd.R_drewN | apply Kd.R_drew)); exact HO474.out) (by decide)) hk (fun _ h => h.2)) (fun _ h => h.1))
             have n4_ := Aside0.mk (IsS90.blkK hk (show IsS90 w _ g453 t465 from by repeat (first | (with_reducible first | exact HI453.out | apply IsS90.alloc | apply IsS90.drewN | apply IsS90.drew | refine IsS90.farT ?_ (by repeat (first | exact TyOf.mk BK459.out | apply TyOf.alloc | apply TyOf.drewN | apply TyOf.drew | apply TyOf.set)) (by decide) _ | refine IsS90.farT ?_ (by repeat (first | exact TyOf.mk BK476.out | apply TyOf.alloc | apply TyOf.drewN | apply TyOf.drew | apply TyOf.set)) (by decide) _) | exact HI453.out)) (g' := gb476) (o := .cells #[.int .i64 t467, .slice Ao38 t468.length co38, .bool t471] 56 (0, 0)) (by (with_reducible repeat (first | refine blk_drewN ?_ _ | refine blk_drew ?_ | refine blk_alloc ?_ _)); exact BK476.out) NB476_453.out rfl (by decide))
             have n5_ := Aside0.mk (hb)
             have n6_ := Aside0.mk (hi)
             clear BK459
             clear HO463
             clear HO470
             clear HO474
             clear BK476
             clear HB
             clear HI453
             have BK459 := n0_
             have HO463 := n1_
             have HO470 := n2_
             have HO474 := n3_
             have BK476 := n4_
             have HB := n5_
             have HI453 := n6_
             clear n0_ n1_ n2_ n3_ n4_ n5_ n6_
             (try clear hb)
             (try clear hb2)
             (try clear hk)
             (try clear hi)
             refine hK.out _ _ ⟨(blk_cell BK459.out 0).trans rfl, (blk_cell BK459.out 1).trans rfl, (blk_cell BK459.out 2).trans rfl⟩ (fun hHeld => ?_)
             clear hK K
             refine norm_ (a' := ?_) ?_ ?_
             rotate_left
             ·
              show Act.put _ (some 60) _ = _
              simp only [Act.put, List.setIfInBounds_toArray, List.set_cons_zero, List.set_cons_succ, i64_w, i32_w]
              rfl
             refine pure_ (i := 14) (N := some 63) (v := ?_) (a' := ?_) #[true, true, true, true, true, true, true, true, true, true, true, true, true, true, true, false, false, false, false, false, false, false, false, false] rfl rfl (any_of HT_.out (by kernel_rfl)) (fun _ _ _ h => h) (Or.inl ⟨by rfl, ?_⟩) ?_ ?_
             rotate_left
             ·
              intro w'
              go_simp
              with_reducible rfl
             rotate_left
             ·
              simp only [Act.put, List.setIfInBounds_toArray, List.set_cons_zero, List.set_cons_succ, i64_w, i32_w]
              rfl
             refine pure_ (i := 15) (N := some 64) (v := ?_) (a' := ?_) #[true, true, true, true, true, true, true, true, true, true, true, true, true, true, true, true, false, false, false, false, false, false, false, false] rfl rfl (any_of HT_.out (by kernel_rfl)) (fun _ _ _ h => h) (Or.inl ⟨by rfl, ?_⟩) ?_ ?_
             rotate_left
             ·
              intro w'
              go_simp
              with_reducible rfl
             rotate_left
             ·
              simp only [Act.put, List.setIfInBounds_toArray, List.set_cons_zero, List.set_cons_succ, i64_w, i32_w]
              rfl
             refine pure_ (i := 16) (N := some 65) (v := ?_) (a' := ?_) #[true, true, true, true, true, true, true, true, true, true, true, true, true, true, true, true, true, false, false, false, false, false, false, false] rfl rfl (any_of HT_.out (by kernel_rfl)) (fun _ _ _ h => h) (Or.inl ⟨by rfl, ?_⟩) ?_ ?_
             rotate_left
             ·
              intro w'
              go_simp
              with_reducible rfl
             rotate_left
             ·
              simp only [Act.put, List.setIfInBounds_toArray, List.set_cons_zero, List.set_cons_succ, i64_w, i32_w]
              rfl
             refine pure_ (i := 17) (N := some 66) (v := ?_) (a' := ?_) #[true, true, true, true, true, true, true, true, true, true, true, true, true, true, true, true, true, true, false, false, false, false, false, false] rfl rfl (any_of HT_.out (by kernel_rfl)) (fun _ _ _ h => h) (Or.inl ⟨by rfl, ?_⟩) ?_ ?_
             rotate_left
             ·
              intro w'
              go_simp
              with_reducible rfl
             rotate_left
             ·
              simp only [Act.put, List.setIfInBounds_toArray, List.set_cons_zero, List.set_cons_succ, i64_w, i32_w]
              rfl
             refine pure_ (i := 19) (N := some 68) (v := ?_) (a' := ?_) #[true, true, true, true, true, true, true, true, true, true, true, true, true, true, true, true, true, true, false, true, false, false, false, false] rfl rfl (any_of HT_.out (by kernel_rfl)) (fun _ _ _ h => h) (Or.inl ⟨by rfl, ?_⟩) ?_ ?_
             rotate_left
             ·
              intro w'
              go_simp
              with_reducible rfl
             rotate_left
             ·
              simp only [Act.put, List.setIfInBounds_toArray, List.set_cons_zero, List.set_cons_succ, i64_w, i32_w]
              rfl
             refine take_ (i := 20) (N := some 69) (v := ?_) (a' := ?_) #[true, true, true, true, true, true, true, true, true, true, true, true, true, true, true, true, true, true, false, true, true, false, false, false] rfl rfl (take_ofW HT_.out HW_.out (by kernel_rfl)) (fun _ _ _ h => h) (Or.inl ⟨by rfl, ?_⟩) hHeld ?_ ?_
             rotate_left
             ·
              rintro w' ⟨s0, s1, s2⟩
              go_simp
              with_reducible rfl
             rotate_left
             ·
              simp only [Act.put, List.setIfInBounds_toArray, List.set_cons_zero, List.set_cons_succ, i64_w, i32_w]
              rfl
             refine one_ (i := 18) (N := some 67) #[true, true, true, true, true, true, true, true, true, true, true, true, true, true, true, true, true, true, true, true, true, false, false, false] rfl rfl (one_of HT_.out (by kernel_rfl)) (by decide) (fun K hK => ?_)
             refine goes_ Tryd.func29 (by kernel_rfl) rfl #[.pointer (some ⟨g453, 0, none⟩)] (by rfl) rfl rfl (by (try simp only [List.map_toArray, List.map_cons, List.map_nil]); first | done | rfl | (simp only [List.length_drop, List.length_take]; rfl)) ?_
             with_reducible refine (unpack_Decoder_Table.calls (w1 := w) g453 t479 t480 _ _ ?side1 (Below.refl _ _) A28.out).mono ?_
             (case side1 => repeat (first | (with_reducible first | exact HI453.out | apply IsS90.alloc | apply IsS90.drewN | apply IsS90.drew | refine IsS90.farT ?_ (by repeat (first | exact TyOf.mk BK459.out | apply TyOf.alloc | apply TyOf.drewN | apply TyOf.drew | apply TyOf.set)) (by decide) _ | refine IsS90.farT ?_ (by repeat (first | exact TyOf.mk BK476.out | apply TyOf.alloc | apply TyOf.drewN | apply TyOf.drew | apply TyOf.set)) (by decide) _) | exact HI453.out))
             rintro e w51 ⟨g481, rfl, hi, hb, hb2⟩
             refine ⟨_, rfl, ?_⟩
             have n0_ := Aside0.mk (Kd.R_below (by (with_reducible repeat (first | apply Kd.R_alloc | apply Kd.R_drewN | apply Kd.R_drew)); exact HO463.out) hb2)
             have n1_ := Aside0.mk (Kd.R_below (by (with_reducible repeat (first | apply Kd.R_alloc | apply Kd.R_drewN | apply Kd.R_drew)); exact HO470.out) hb2)
             have n2_ := Aside0.mk (Kd.R_below (by (with_reducible repeat (first | apply Kd.R_alloc | apply Kd.R_drewN | apply Kd.R_drew)); exact HO474.out) hb2)
             have n3_ := Aside0.mk (blk_below (g := gb459) (o := .cells #[.int .i64 t467, .slice Ao38 t468.length co38, .bool t471] 56 (0, 0)) (by (with_reducible repeat (first | refine blk_drewN ?_ _ | refine blk_drew ?_ | refine blk_alloc ?_ _)); exact BK459.out) hb2)
             have n4_ := Aside0.mk (IsS90.below (by repeat (first | (with_reducible first | exact HI453.out | apply IsS90.alloc | apply IsS90.drewN | apply IsS90.drew | refine IsS90.farT ?_ (by repeat (first | exact TyOf.mk BK459.out | apply TyOf.alloc | apply TyOf.drewN | apply TyOf.drew | apply TyOf.set)) (by decide) _ | refine IsS90.farT ?_ (by repeat (first | exact TyOf.mk BK476.out | apply TyOf.alloc | apply TyOf.drewN | apply TyOf.drew | apply TyOf.set)) (by decide) _) | exact HI453.out)) hb2)
             have n5_ := Aside0.mk (blk_below (g := gb476) (o := .cells #[.int .i64 t467, .slice Ao38 t468.length co38, .bool t471] 56 (0, 0)) (by (with_reducible repeat (first | refine blk_drewN ?_ _ | refine blk_drew ?_ | refine blk_alloc ?_ _)); exact BK476.out) hb2)
             have n6_ := Aside0.mk (below_step (by repeat (first | (with_reducible first | exact HB.out | apply below_alloc | apply pw_below_drewN | apply below_drew1 | refine below_set ?_ (IsS90.ge HI453.out) | refine below_set ?_ GE459.out | refine below_set ?_ GE476.out) | exact HB.out)) hb2)
             have n7_ := Aside0.mk ((show IsS77 w w51 g481 t480 from IsS77.rebase hi (below_size (by repeat (first | (with_reducible first | exact HB.out | apply below_alloc | apply pw_below_drewN | apply below_drew1 | refine below_set ?_ (IsS90.ge HI453.out) | refine below_set ?_ GE459.out | refine below_set ?_ GE476.out) | exact HB.out)))))
             have n8_ := Aside0.mk ((Nat.ne_of_gt (Nat.lt_of_le_of_lt (Nat.sub_le _ _) (Nat.lt_of_lt_of_le (IsS90.lt (show IsS90 w _ g453 t479 from by repeat (first | (with_reducible first | exact HI453.out | apply IsS90.alloc | apply IsS90.drewN | apply IsS90.drew | refine IsS90.farT ?_ (by repeat (first | exact TyOf.mk BK459.out | apply TyOf.alloc | apply TyOf.drewN | apply TyOf.drew | apply TyOf.set)) (by decide) _ | refine IsS90.farT ?_ (by repeat (first | exact TyOf.mk BK476.out | apply TyOf.alloc | apply TyOf.drewN | apply TyOf.drew | apply TyOf.set)) (by decide) _) | exact HI453.out))) (IsS77.ge hi))) : g481 ≠ g453 - 1))
             have n9_ := Aside0.mk ((Nat.ne_of_lt (Nat.lt_of_lt_of_le (IsS90.lt (show IsS90 w _ g453 t479 from by repeat (first | (with_reducible first | exact HI453.out | apply IsS90.alloc | apply IsS90.drewN | apply IsS90.drew | refine IsS90.farT ?_ (by repeat (first | exact TyOf.mk BK459.out | apply TyOf.alloc | apply TyOf.drewN | apply TyOf.drew | apply TyOf.set)) (by decide) _ | refine IsS90.farT ?_ (by repeat (first | exact TyOf.mk BK476.out | apply TyOf.alloc | apply TyOf.drewN | apply TyOf.drew | apply TyOf.set)) (by decide) _) | exact HI453.out))) (IsS77.ge hi)) : g453 ≠ g481))
             have n10_ := Aside0.mk ((Nat.ne_of_gt (Nat.lt_of_lt_of_le (IsS90.lt (show IsS90 w _ g453 t479 from by repeat (first | (with_reducible first | exact HI453.out | apply IsS90.alloc | apply IsS90.drewN | apply IsS90.drew | refine IsS90.farT ?_ (by repeat (first | exact TyOf.mk BK459.out | apply TyOf.alloc | apply TyOf.drewN | apply TyOf.drew | apply TyOf.set)) (by decide) _ | refine IsS90.farT ?_ (by repeat (first | exact TyOf.mk BK476.out | apply TyOf.alloc | apply TyOf.drewN | apply TyOf.drew | apply TyOf.set)) (by decide) _) | exact HI453.out))) (IsS77.ge hi)) : g481 ≠ g453))
             have n11_ := Aside0.mk (IsS77.ne_blk hi (blk_below (g := gb459) (o := .cells #[.int .i64 t467, .slice Ao38 t468.length co38, .bool t471] 56 (0, 0)) (by (with_reducible repeat (first | refine blk_drewN ?_ _ | refine blk_drew ?_ | refine blk_alloc ?_ _)); exact BK459.out) hb2) (by decide))
             have n12_ := Aside0.mk (Ne.symm (IsS77.ne_blk hi (blk_below (g := gb459) (o := .cells #[.int .i64 t467, .slice Ao38 t468.length co38, .bool t471] 56 (0, 0)) (by (with_reducible repeat (first | refine blk_drewN ?_ _ | refine blk_drew ?_ | refine blk_alloc ?_ _)); exact BK459.out) hb2) (by decide)))
             have n13_ := Aside0.mk (IsS77.ne_blk hi (blk_below (g := gb476) (o := .cells #[.int .i64 t467, .slice Ao38 t468.length co38, .bool t471] 56 (0, 0)) (by (with_reducible repeat (first | refine blk_drewN ?_ _ | refine blk_drew ?_ | refine blk_alloc ?_ _)); exact BK476.out) hb2) (by decide))
             have n14_ := Aside0.mk (Ne.symm (IsS77.ne_blk hi (blk_below (g := gb476) (o := .cells #[.int .i64 t467, .slice Ao38 t468.length co38, .bool t471] 56 (0, 0)) (by (with_reducible repeat (first | refine blk_drewN ?_ _ | refine blk_drew ?_ | refine blk_alloc ?_ _)); exact BK476.out) hb2) (by decide)))
             clear HO463
             clear HO470
             clear HO474
             clear BK459
             clear HI453
             clear BK476
             clear HB
             have HO463 := n0_
             have HO470 := n1_
             have HO474 := n2_
             have BK459 := n3_
             have HI453 := n4_
             have BK476 := n5_
             have HB := n6_
             have HI481 := n7_
             have NC481_453 := n8_
             have NB453_481 := n9_
             have NB481_453 := n10_
             have NB481_459 := n11_
             have NB459_481 := n12_
             have NB481_476 := n13_
             have NB476_481 := n14_
             clear n0_ n1_ n2_ n3_ n4_ n5_ n6_ n7_ n8_ n9_ n10_ n11_ n12_ n13_ n14_
             (try clear hb)
             (try clear hb2)
             (try clear hk)
             (try clear hi)
             refine hK.out _ _ ⟨(blk_cell BK459.out 0).trans rfl, (blk_cell BK459.out 1).trans rfl, (blk_cell BK459.out 2).trans rfl⟩ (fun hHeld => ?_)
             clear hK K
             refine norm_ (a' := ?_) ?_ ?_
             rotate_left
             ·
              show Act.put _ (some 67) _ = _
              simp only [Act.put, List.setIfInBounds_toArray, List.set_cons_zero, List.set_cons_succ, i64_w, i32_w]
              rfl
             refine one_ (i := 21) (N := some 70) #[true, true, true, true, true, true, true, true, true, true, true, true, true, true, true, true, true, true, true, true, true, true, false, false] rfl rfl (one_of HT_.out (by kernel_rfl)) (by decide) (fun K hK => ?_)
             refine goes_ Tryd.func20 (by kernel_rfl) rfl #[.pointer (some ⟨g481, 0, none⟩), .agg #[.int .i64 t467, .slice Ao38 t468.length co38]] (by rfl) rfl rfl (by (try simp only [List.map_toArray, List.map_cons, List.map_nil]); first | done | rfl | (simp only [List.length_drop, List.length_take]; rfl)) ?_
             with_reducible refine (nunciolaw12_Tells.calls k2 g481 t480 t467 _ _ t468 true t483 w _ ?side1 ?side2 ?side3 ?side4 A29.out).mono ?_
             (case side1 => repeat (first | (with_reducible first | exact HI481.out | apply IsS77.alloc | apply IsS77.drewN | apply IsS77.drew | refine IsS77.farT ?_ (by repeat (first | exact TyOf.mk BK459.out | apply TyOf.alloc | apply TyOf.drewN | apply TyOf.drew | apply TyOf.set)) (by decide) _ | refine IsS77.farT ?_ (by repeat (first | exact TyOf.mk BK476.out | apply TyOf.alloc | apply TyOf.drewN | apply TyOf.drew | apply TyOf.set)) (by decide) _) | exact HI481.out))
             (case side2 => repeat (first | (with_reducible first | exact HB.out | apply below_alloc | apply pw_below_drewN | apply below_drew1 | refine below_set ?_ (IsS90.ge HI453.out) | refine below_set ?_ (IsS77.ge HI481.out) | refine below_set ?_ GE459.out | refine below_set ?_ GE476.out) | exact HB.out))
             (case side3 => exact Kd.C_foot_own (IsS77.apart (show IsS77 w _ g481 t480 from by repeat (first | (with_reducible first | exact HI481.out | apply IsS77.alloc | apply IsS77.drewN | apply IsS77.drew | refine IsS77.farT ?_ (by repeat (first | exact TyOf.mk BK459.out | apply TyOf.alloc | apply TyOf.drewN | apply TyOf.drew | apply TyOf.set)) (by decide) _ | refine IsS77.farT ?_ (by repeat (first | exact TyOf.mk BK476.out | apply TyOf.alloc | apply TyOf.drewN | apply TyOf.drew | apply TyOf.set)) (by decide) _) | exact HI481.out)) (by (with_reducible repeat (first | apply Kd.R_alloc | apply Kd.R_drewN | apply Kd.R_drew)); exact HO470.out) (by decide)) (fun _ h_ => h_.2))
             (case side4 => exact (Kd.R_reads' HO470.out).2.1)
             rintro e w52 ⟨rfl, hi, hb, hk⟩
             refine ⟨_, rfl, ?_⟩
             have n0_ := Aside0.mk (KeepBut.blk hk (g' := gb459) (o := .cells #[.int .i64 t467, .slice Ao38 t468.length co38, .bool t471] 56 (0, 0)) (by (with_reducible repeat (first | refine blk_drewN ?_ _ | refine blk_drew ?_ | refine blk_alloc ?_ _)); exact BK459.out) NB459_481.out (by simp))
             have n1_ := Aside0.mk (IsS90.otherT (show IsS90 w _ g453 t479 from by repeat (first | (with_reducible first | exact HI453.out | apply IsS90.alloc | apply IsS90.drewN | apply IsS90.drew | refine IsS90.farT ?_ (by repeat (first | exact TyOf.mk BK459.out | apply TyOf.alloc | apply TyOf.drewN | apply TyOf.drew | apply TyOf.set)) (by decide) _ | refine IsS90.farT ?_ (by repeat (first | exact TyOf.mk BK476.out | apply TyOf.alloc | apply TyOf.drewN | apply TyOf.drew | apply TyOf.set)) (by decide) _) | exact HI453.out)) (show IsS77 w _ g481 t480 from by repeat (first | (with_reducible first | exact HI481.out | apply IsS77.alloc | apply IsS77.drewN | apply IsS77.drew | refine IsS77.farT ?_ (by repeat (first | exact TyOf.mk BK459.out | apply TyOf.alloc | apply TyOf.drewN | apply TyOf.drew | apply TyOf.set)) (by decide) _ | refine IsS77.farT ?_ (by repeat (first | exact TyOf.mk BK476.out | apply TyOf.alloc | apply TyOf.drewN | apply TyOf.drew | apply TyOf.set)) (by decide) _) | exact HI481.out)) hk NC481_453.out)
             have n2_ := Aside0.mk (Kd.R_mono (Kd.R_keep (IsS77.apart (show IsS77 w _ g481 t480 from by repeat (first | (with_reducible first | exact HI481.out | apply IsS77.alloc | apply IsS77.drewN | apply IsS77.drew | refine IsS77.farT ?_ (by repeat (first | exact TyOf.mk BK459.out | apply TyOf.alloc | apply TyOf.drewN | apply TyOf.drew | apply TyOf.set)) (by decide) _ | refine IsS77.farT ?_ (by repeat (first | exact TyOf.mk BK476.out | apply TyOf.alloc | apply TyOf.drewN | apply TyOf.drew | apply TyOf.set)) (by decide) _) | exact HI481.out)) (by (with_reducible repeat (first | apply Kd.R_alloc | apply Kd.R_drewN | apply Kd.R_drew)); exact HO463.out) (by decide)) hk (fun _ h => h.2)) (fun _ h => h.1))
             have n3_ := Aside0.mk (Kd.R_mono (Kd.R_keep (IsS77.apart (show IsS77 w _ g481 t480 from by repeat (first | (with_reducible first | exact HI481.out | apply IsS77.alloc | apply IsS77.drewN | apply IsS77.drew | refine IsS77.farT ?_ (by repeat (first | exact TyOf.mk BK459.out | apply TyOf.alloc | apply TyOf.drewN | apply TyOf.drew | apply TyOf.set)) (by decide) _ | refine IsS77.farT ?_ (by repeat (first | exact TyOf.mk BK476.out | apply TyOf.alloc | apply TyOf.drewN | apply TyOf.drew | apply TyOf.set)) (by decide) _) | exact HI481.out)) (by (with_reducible repeat (first | apply Kd.R_alloc | apply Kd.R_drewN | apply Kd.R_drew)); exact HO470.out) (by decide)) hk (fun _ h => h.2)) (fun _ h => h.1))
             have n4_ := Aside0.mk (Kd.R_mono (Kd.R_keep (IsS77.apart (show IsS77 w _ g481 t480 from by repeat (first | (with_reducible first | exact HI481.out | apply IsS77.alloc | apply IsS77.drewN | apply IsS77.drew | refine IsS77.farT ?_ (by repeat (first | exact TyOf.mk BK459.out | apply TyOf.alloc | apply TyOf.drewN | apply TyOf.drew | apply TyOf.set)) (by decide) _ | refine IsS77.farT ?_ (by repeat (first | exact TyOf.mk BK476.out | apply TyOf.alloc | apply TyOf.drewN | apply TyOf.drew | apply TyOf.set)) (by decide) _) | exact HI481.out)) (by (with_reducible repeat (first | apply Kd.R_alloc | apply Kd.R_drewN | apply Kd.R_drew)); exact HO474.out) (by decide)) hk (fun _ h => h.2)) (fun _ h => h.1))
             have n5_ := Aside0.mk (KeepBut.blk hk (g' := gb476) (o := .cells #[.int .i64 t467, .slice Ao38 t468.length co38, .bool t471] 56 (0, 0)) (by (with_reducible repeat (first | refine blk_drewN ?_ _ | refine blk_drew ?_ | refine blk_alloc ?_ _)); exact BK476.out) NB476_481.out (by simp))
             have n6_ := Aside0.mk (hb)
             have n7_ := Aside0.mk (hi)
             clear BK459
             clear HI453
             clear HO463
             clear HO470
             clear HO474
             clear BK476
             clear HB
             clear HI481
             have BK459 := n0_
             have HI453 := n1_
             have HO463 := n2_
             have HO470 := n3_
             have HO474 := n4_
             have BK476 := n5_
             have HB := n6_
             have HI481 := n7_
             clear n0_ n1_ n2_ n3_ n4_ n5_ n6_ n7_
             (try clear hb)
             (try clear hb2)
             (try clear hk)
             (try clear hi)
             refine hK.out _ _ ⟨(blk_cell BK459.out 0).trans rfl, (blk_cell BK459.out 1).trans rfl, (blk_cell BK459.out 2).trans rfl⟩ (fun hHeld => ?_)
             clear hK K
             refine norm_ (a' := ?_) ?_ ?_
             rotate_left
             ·
              show Act.put _ (some 70) _ = _
              simp only [Act.put, List.setIfInBounds_toArray, List.set_cons_zero, List.set_cons_succ, i64_w, i32_w]
              rfl
             refine pure_ (i := 22) (N := some 71) (v := ?_) (a' := ?_) #[true, true, true, true, true, true, true, true, true, true, true, true, true, true, true, true, true, true, true, true, true, true, true, false] rfl rfl (any_of HT_.out (by kernel_rfl)) (fun _ _ _ h => h) (Or.inl ⟨by rfl, ?_⟩) ?_ ?_
             rotate_left
             ·
              intro w'
              go_simp
              with_reducible rfl
             rotate_left
             ·
              simp only [Act.put, List.setIfInBounds_toArray, List.set_cons_zero, List.set_cons_succ, i64_w, i32_w]
              rfl
             refine pure_ (i := 23) (N := some 72) (v := ?_) (a' := ?_) #[true, true, true, true, true, true, true, true, true, true, true, true, true, true, true, true, true, true, true, true, true, true, true, true] rfl rfl (any_of HT_.out (by kernel_rfl)) (fun _ _ _ h => h) (Or.inl ⟨by rfl, ?_⟩) ?_ ?_
             rotate_left
             ·
              intro w'
              go_simp
              with_reducible rfl
             rotate_left
             ·
              simp only [Act.put, List.setIfInBounds_toArray, List.set_cons_zero, List.set_cons_succ, i64_w, i32_w]
              rfl
             refine done_ (done_of HT_.out (by kernel_rfl)) ?_
             try go_wp2
             go_roundg k2
             case measure => have := HJ3.out; have := HK2.out; omega
             case rel => exact ⟨(wrap64 (x5_2 + 1)), (t479), (t467), (t468), (t471), (.slice Ao38 t468.length co38), (by first | rfl | (simp; done) | (simp [*]; done)), H', ⟨by have := HJ3.out; have := HK2.out; omega⟩, ⟨by (with_reducible repeat (first | apply Kd.R_alloc | apply Kd.R_drewN | apply Kd.R_drew)); exact HO470.out⟩, ⟨by (with_reducible repeat (first | refine blk_drewN ?_ _ | refine blk_drew ?_ | refine blk_alloc ?_ _)); exact BK459.out⟩, ⟨by repeat (first | (with_reducible first | exact HI453.out | apply IsS90.alloc | apply IsS90.drewN | apply IsS90.drew | refine IsS90.farT ?_ (by repeat (first | exact TyOf.mk BK459.out | apply TyOf.alloc | apply TyOf.drewN | apply TyOf.drew | apply TyOf.set)) (by decide) _ | refine IsS90.farT ?_ (by repeat (first | exact TyOf.mk BK476.out | apply TyOf.alloc | apply TyOf.drewN | apply TyOf.drew | apply TyOf.set)) (by decide) _) | exact HI453.out)⟩, ⟨by repeat (first | (with_reducible first | exact HB.out | apply below_alloc | apply pw_below_drewN | apply below_drew1 | refine below_set ?_ (IsS90.ge HI453.out) | refine below_set ?_ (IsS77.ge HI481.out) | refine below_set ?_ GE459.out | refine below_set ?_ GE476.out) | exact HB.out)⟩⟩
            ·
             replace c30 := Bool.eq_false_iff.mpr c30
             subst c30
             have H1 : (some false) = some r := by rw [if_neg (show ¬ (false = true) by decide)] at H; exact H
             clear H
             have H := H1
             clear H1
             exact absurd ((Option.some.inj H).trans HT.out) (by decide)
          ·
           rw [if_neg c25] at H
           have c25b0 : (t464 == t475) = false := beq_eq_false_iff_ne.mpr c25
           have c25b1 : (t464 != t475) = true := bne_iff_ne.mpr c25
           exact absurd ((Option.some.inj H).trans HT.out) (by decide)
         ·
          replace c24 := Bool.eq_false_iff.mpr c24
          subst c24
          have H1 : (some false) = some r := by rw [if_neg (show ¬ (false = true) by decide)] at H; exact H
          clear H
          have H := H1
          clear H1
          exact absurd ((Option.some.inj H).trans HT.out) (by decide)
        ·
         rw [if_neg c20] at H
         exact absurd H (by simp)
       ·
        rw [if_neg c19] at H
        have c19b0 : decide (x5_2 < (l0.length : Int)) = false := decide_eq_false c19
        clear c19
        obtain rfl := Option.some.inj H
        go_wp2
        go_ret
        exact ⟨by first | rfl | (simp [errW_none, errW_some] <;> rfl) | (simp [*, errW_none, errW_some] <;> rfl), by repeat (first | (with_reducible first | exact HB.out | apply below_alloc | apply pw_below_drewN | apply below_drew1 | refine below_set ?_ (IsS90.ge HI453.out) | refine below_set ?_ GE459.out) | exact HB.out)⟩
 ·
  replace c3 := Bool.eq_false_iff.mpr c3
  subst c3
  have H1 : (some false) = some r := by rw [if_neg (show ¬ (false = true) by decide)] at H; exact H
  clear H
  have H := H1
  clear H1
  exact absurd ((Option.some.inj H).trans HT.out) (by decide)
def nunciolaw12_UnpackReads.Pure : Prop := ∀ (l0 : List ByteArray), (l0.length ≤ 9223372036854775807 ∧ l0.length * 16 ≤ 140737488351232 ∧ ∀ x_ ∈ l0, x_.size ≤ 140737488351232) → ∃ k, nunciolaw12_UnpackReads.f k l0 = some true
theorem nunciolaw12_UnpackReads.walk (P : nunciolaw12_UnpackReads.Pure) (A0 : Option Addr) (c0 : Nat) (l0 : List ByteArray) (w : World) (hE : EnvW w) (hr0 : Kd.C Kd.string w A0 l0.length l0) (hc0 : l0.length ≤ c0) (w0 : l0.length ≤ 9223372036854775807 ∧ l0.length * 16 ≤ 140737488351232 ∧ ∀ x_ ∈ l0, x_.size ≤ 140737488351232) :
  Calls Tryd.prog 5 #[.slice A0 l0.length c0] w fun e w' => e = .returned (.bool true) ∧ Below w.heap.size w w' := by
 obtain ⟨k, h⟩ := P l0 w0
 refine (nunciolaw12_UnpackReads.calls k _ _ l0 true w hE hr0 hc0 h rfl).mono ?_
 rintro e w' ⟨rfl, hd⟩
 exact ⟨rfl, hd⟩
end Go.Proofs.YtfkdocmhbmameaaDoor.Mine
