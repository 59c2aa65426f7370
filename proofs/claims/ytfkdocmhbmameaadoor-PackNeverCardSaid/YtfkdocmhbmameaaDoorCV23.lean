/- The walks and the plain laws that the rows come to: merged out of this repo's texts. -/
import Derived.Test.YtfkdocmhbmameaaDoorProg
import Derived.Below
import Derived.Deep.Draws
import Derived.Deep.AppendLies
import Derived.Maps.AppendAt
import Derived.OwnWalk
import Derived.Laws.BytesArg
import Derived.Laws.MakeOwn
import Derived.Laws.OwnMore
import Derived.Deep.OwnRows
import Derived.Tactics
import Derived.Lib.ConvBytes
import Derived.Laws.Slices
import Derived.WalkKit
import Derived.KernelRfl
import Derived.RowKit3
import Derived.Deep.LoopGhost
import Derived.Deep.QuietTactic
import Derived.BigQuiet
import Derived.WideLaws
import Derived.Deep.DeepCutAuto
import Derived.Deep.CutBlock
import Derived.Deep.RegionHeld3
import Derived.Laws.Rows
import Derived.Lib.AppendStr
import Derived.ArgAppend
import Derived.Laws.IdiomCopy
import Derived.RowKit
import Derived.OrdersHeld
import Derived.Laws.BitsLemmas
import Derived.Laws.StructEq
import Derived.Laws.CopyOwn
import Derived.SizedLaws
import Derived.ChangeSlices
import Derived.Deep.Slices
import Derived.Lib.SmallJoins
import Derived.Lib.OthersKept
import Derived.Lib.AppendZerosOnto
import Derived.WalkSpells
import Derived.Shelf.Utf8.RuneCount
import Derived.Shelf.Strings.Search1
import Derived.Shelf.Strings.Search2
import Derived.Shelf.Strings.Search3
import Derived.Shelf.Strings.Cut
import Derived.Shelf.Strings.Count
import Derived.Shelf.LaysM
import Derived.Shelf.Strings.Shaped
import Derived.Shelf.Strings.Split
import Derived.Shelf.Strings.SplitShaped
import Derived.Shelf.Unicode.Decode
import Derived.Shelf.Strings.RuneCount
import Derived.Shelf.Strings.Explode
import Derived.Shelf.Unicode.DecodeSlow
import Derived.Shelf.Unicode.DecodeAny
import Derived.Recover
import Derived.WalkLawsBesides
import Derived.Test.YtfkdocmhbmameaaDoorCV1
import Derived.Test.YtfkdocmhbmameaaDoorCV2
import Derived.Test.YtfkdocmhbmameaaDoorCV3
import Derived.Test.YtfkdocmhbmameaaDoorCV4
import Derived.Test.YtfkdocmhbmameaaDoorCV5
import Derived.Test.YtfkdocmhbmameaaDoorCV6
import Derived.Test.YtfkdocmhbmameaaDoorCV7
import Derived.Test.YtfkdocmhbmameaaDoorCV8
import Derived.Test.YtfkdocmhbmameaaDoorCV9
import Derived.Test.YtfkdocmhbmameaaDoorCV10
import Derived.Test.YtfkdocmhbmameaaDoorCV11
import Derived.Test.YtfkdocmhbmameaaDoorCV12
import Derived.Test.YtfkdocmhbmameaaDoorCV13
import Derived.Test.YtfkdocmhbmameaaDoorCV14
import Derived.Test.YtfkdocmhbmameaaDoorCV15
import Derived.Test.YtfkdocmhbmameaaDoorCV16
import Derived.Test.YtfkdocmhbmameaaDoorCV17
import Derived.Test.YtfkdocmhbmameaaDoorCV18
import Derived.Test.YtfkdocmhbmameaaDoorCV19
import Derived.Test.YtfkdocmhbmameaaDoorCV20
import Derived.Test.YtfkdocmhbmameaaDoorCV21
import Derived.Test.YtfkdocmhbmameaaDoorCV22
namespace Go.Proofs.YtfkdocmhbmameaaDoor.Mine
open Go.RowKit Go.Proofs.YtfkdocmhbmameaaDoorW.PrintWords Go.Proofs.YtfkdocmhbmameaaDoorW.PrintLast Go.Proofs.YtfkdocmhbmameaaDoorW.PrintMore
attribute [local go_sem] max2_int min2_int max_two min_two max_three min_three max_four min_four
set_option linter.unusedVariables false
set_option linter.unusedSimpArgs false
mutual
def nunciolaw13_PackNever.j0 : Nat → List (S44) → Bool → ByteArray → ByteArray → Bool → Option (Bool)
 | 0, _, _, _, _, _ => none
 | k + 1, x0, x18, x332000, x332001, x332002 => if x18 = true then (some true) else ((pack_New.f).bind fun t338 => ((nuncioref13_New.f).bind fun bt340 => (nunciolaw13_PackNever.l0 k x0 0 x332000 x332001 x332002 t338 bt340.1 bt340.2.1 bt340.2.2)))
def nunciolaw13_PackNever.l0 : Nat → List (S44) → Int → ByteArray → ByteArray → Bool → TE → Int → List (S88) → List Int → Option (Bool)
 | 0, _, _, _, _, _, _, _, _, _ => none
 | k + 1, x0, x7, x332000, x332001, x332002, x340000, x348000, x348001, x348002 => if x7 < (x0.length : Int) then (if 0 ≤ x7 then (if (rd_T44 x0 x7).f0 = true then ((pack_Encoder_Limit.f x340000 ((rd_T44 x0 x7).f1)).bind fun t359 => ((nuncioref13_Limit.f k x348000 x348001 x348002 ((rd_T44 x0 x7).f1)).bind fun bt361 => (nunciolaw13_PackNever.l0 k x0 (wrap64 (x7 + 1)) x332000 x332001 x332002 t359 bt361.1 bt361.2.1 bt361.2.2))) else ((pack_Encoder_Write.f k x340000 ((rd_T44 x0 x7).f2)).bind fun bt369 => ((nuncioref13_Write.f k x348000 x348001 x348002 ((rd_T44 x0 x7).f2)).bind fun bt372 => (nunciolaw13_PackNever.l0 k x0 (wrap64 (x7 + 1)) x332000 x332001 x332002 bt369.2 bt372.1 bt372.2.1 bt372.2.2.1)))) else (none)) else ((pack_Encoder_Write.f k x340000 (([(⟨x332000, x332001, true⟩ : S26)] : List (S26)))).bind fun bt351 => ((pack_Encoder_Table.f bt351.2).bind fun t353 => ((nunciolaw12_Tells.f k t353 x348000 x348001).bind fun bt355 => (some bt355.1))))
end
def nunciolaw13_PackNever.f (k : Nat) (l0 : List (S44)) (a1_0 : ByteArray) (a1_1 : ByteArray) (a1_2 : Bool) : Option (Bool) := (nunciolaw13_awake.f k).bind fun t332 => (if t332 = true then ((nunciolaw13_few.f k l0).bind fun t333 => (if t333 = true then ((nunciolaw13_FewFields.f k (([(⟨a1_0, a1_1, a1_2⟩ : S26)] : List (S26)))).bind fun t337 => (nunciolaw13_PackNever.j0 k l0 (!t337) a1_0 a1_1 a1_2)) else (nunciolaw13_PackNever.j0 k l0 true a1_0 a1_1 a1_2))) else (some false))
def nunciolaw13_PackNever.T12 : Bool × List (List Nat × List Nat) := (true, [([], []), ([], []), ([], []), ([1, 2], [1, 2]), ([3], [3]), ([4], [4]), ([0, 5], [0, 5]), ([6, 6, 0, 1, 2, 3, 4, 5, 6], [6])])
def nunciolaw13_PackNever.B12 : List Nat := [0, 0, 0, 6, 14, 30, 63, 127]
theorem nunciolaw13_PackNever.tab12 : rtab .any (opsOf Tryd.f4 12) = nunciolaw13_PackNever.T12 := by kernel_rfl
theorem nunciolaw13_PackNever.bits12 : waitsOk nunciolaw13_PackNever.T12.2 nunciolaw13_PackNever.B12 = true := by kernel_rfl
def nunciolaw13_PackNever.T14 : Bool × List (List Nat × List Nat) := (true, [([], []), ([], []), ([], []), ([1, 2], [1, 2]), ([3], [3]), ([4], [4]), ([0, 5], [0, 5]), ([6], [6]), ([7], [7]), ([7], [7]), ([8, 6, 0, 1, 2, 3, 4, 5, 6, 7, 8], [8])])
def nunciolaw13_PackNever.B14 : List Nat := [0, 0, 0, 6, 14, 30, 63, 127, 255, 255, 511]
theorem nunciolaw13_PackNever.tab14 : rtab .any (opsOf Tryd.f4 14) = nunciolaw13_PackNever.T14 := by kernel_rfl
theorem nunciolaw13_PackNever.bits14 : waitsOk nunciolaw13_PackNever.T14.2 nunciolaw13_PackNever.B14 = true := by kernel_rfl
set_option maxHeartbeats 8000000 in
set_option maxRecDepth 100000 in
theorem nunciolaw13_PackNever.calls (k : Nat) (A0 : Option Addr) (c0 : Nat) (l0 : List (S44)) (a1_0 : ByteArray) (a1_1 : ByteArray) (a1_2 : Bool) (r : Bool) (w : World) (hE : EnvW w) (hr0 : Kd.C k44 w A0 l0.length l0) (hc0 : l0.length ≤ c0) (h : nunciolaw13_PackNever.f k l0 a1_0 a1_1 a1_2 = some r) (hT : r = true) :
  Calls Tryd.prog 4 #[.slice A0 l0.length c0, .agg #[.string a1_0, .string a1_1, .bool a1_2]] w fun e w' => e = .returned (.bool r) ∧ Below w.heap.size w w' := by
 have hu26 := Tryd.underlying26
 have hu40 := Tryd.underlying40
 have hu37 := Tryd.underlying37
 have HR0 := Aside0.mk hr0
 have HC0 := Aside0.mk hc0
 clear hr0 hc0
 have HB := Aside0.mk (Below.refl w.heap.size w)
 have HEnv := Aside0.mk hE
 clear hE
 have HT := Aside0.mk hT
 clear hT
 have H : ((nunciolaw13_awake.f k).bind fun t332 => (if t332 = true then ((nunciolaw13_few.f k l0).bind fun t333 => (if t333 = true then ((nunciolaw13_FewFields.f k (([(⟨a1_0, a1_1, a1_2⟩ : S26)] : List (S26)))).bind fun t337 => (nunciolaw13_PackNever.j0 k l0 (!t337) a1_0 a1_1 a1_2)) else (nunciolaw13_PackNever.j0 k l0 true a1_0 a1_1 a1_2))) else (some false))) = some r := h
 clear h
 replace H := Option.bind_eq_some_iff.mp H
 obtain ⟨t332, A30, H⟩ := H
 replace H : (if t332 = true then ((nunciolaw13_few.f k l0).bind fun t333 => (if t333 = true then ((nunciolaw13_FewFields.f k (([(⟨a1_0, a1_1, a1_2⟩ : S26)] : List (S26)))).bind fun t337 => (nunciolaw13_PackNever.j0 k l0 (!t337) a1_0 a1_1 a1_2)) else (nunciolaw13_PackNever.j0 k l0 true a1_0 a1_1 a1_2))) else (some false)) = some r := H
 have A3 := Aside0.mk A30
 clear A30
 by_cases c4 : t332 = true
 ·
  subst c4
  have H1 : ((nunciolaw13_few.f k l0).bind fun t333 => (if t333 = true then ((nunciolaw13_FewFields.f k (([(⟨a1_0, a1_1, a1_2⟩ : S26)] : List (S26)))).bind fun t337 => (nunciolaw13_PackNever.j0 k l0 (!t337) a1_0 a1_1 a1_2)) else (nunciolaw13_PackNever.j0 k l0 true a1_0 a1_1 a1_2))) = some r := by rw [if_pos rfl] at H; exact H
  clear H
  have H := H1
  clear H1
  have HC5 := Aside0.mk H
  clear H
  go_enter Tryd.func4, Tryd.ntmps4
  go_upto_region 3 with (first | ((with_reducible refine gate_dst (N := 3) rfl ?_); (try (refine gate_guard (by rfl) ?_; dsimp only)); refine box_event ?hg (N := 3) ?hd (cs := #[.string a1_0, .string a1_1, .bool a1_2]) (t := 26) ?hr ?_; (case hd => rfl); (case hg => rfl); (case hr => first | (go_simp; done) | (go_simp; rfl)); intro gb331 hg w6 hbox hb; have n0_ := Aside0.mk (below_step (by repeat (first | (with_reducible first | exact HB.out | apply below_alloc | apply pw_below_drewN | apply below_drew1) | exact HB.out)) hb); have n1_ := Aside0.mk (hbox); have n2_ := Aside0.mk ((by rw [hg]; exact (below_size (by repeat (first | (with_reducible first | exact HB.out | apply below_alloc | apply pw_below_drewN | apply below_drew1) | exact HB.out))) : w.heap.size ≤ gb331)); have n3_ := Aside0.mk ((by rw [hg]; exact (below_size (by repeat (first | (with_reducible first | exact HB.out | apply below_alloc | apply pw_below_drewN | apply below_drew1) | exact HB.out))) : w.heap.size ≤ gb331)); clear HB; have HB := n0_; have BK331 := n1_; have GW331 := n2_; have GE331 := n3_; clear n0_ n1_ n2_ n3_; clear hb hbox hg) | ((with_reducible refine gate_callee (f := 9) rfl ?_); refine goesL_ (some 8) rfl rfl Tryd.func9 (by kernel_rfl) rfl #[] rfl (by (try simp only [List.map_toArray, List.map_cons, List.map_nil]); first | done | rfl | (simp only [List.length_drop, List.length_take]; rfl)) ?_; (with_reducible refine (nunciolaw13_awake.calls k  true _ ?side1 A3.out).mono ?_); (case side1 => exact EnvW.below HEnv.out rfl (by repeat (first | (with_reducible first | exact HB.out | apply below_alloc | apply pw_below_drewN | apply below_drew1 | refine below_set ?_ GE331.out) | exact HB.out))); rintro e w7 ⟨rfl, hb⟩; refine ⟨_, rfl, ?_⟩; have n0_ := Aside0.mk (blk_below (g := gb331) (o := .cells #[.string a1_0, .string a1_1, .bool a1_2] 26 (0, 0)) (by (with_reducible repeat (first | refine blk_drewN ?_ _ | refine blk_drew ?_ | refine blk_alloc ?_ _)); exact BK331.out) hb); have n1_ := Aside0.mk (below_step (by repeat (first | (with_reducible first | exact HB.out | apply below_alloc | apply pw_below_drewN | apply below_drew1 | refine below_set ?_ GE331.out) | exact HB.out)) hb); clear BK331; clear HB; have BK331 := n0_; have HB := n1_; clear n0_ n1_; (try clear hb); (try clear hb2); (try clear hk); (try clear hi)))
  (try simp only [Act.put, List.setIfInBounds_toArray, List.set_cons_zero, List.set_cons_succ])
  go_cut [18] (fun v18 wc => ∃ (kq : Nat) (x18_4 : Bool), v18 = .bool x18_4 ∧ Aside0 (nunciolaw13_PackNever.j0 kq l0 x18_4 a1_0 a1_1 a1_2 = some r) ∧ Aside0 (kq ≤ k) ∧ Aside0 (wc.heap[gb331]? = some (.cells #[.string a1_0, .string a1_1, .bool a1_2] 26 (0, 0))) ∧ Aside0 (Below w.heap.size w wc))
  case first =>
   have H := HC5.out
   clear HC5
   replace H := Option.bind_eq_some_iff.mp H
   obtain ⟨t333, A80, H⟩ := H
   replace H : (if t333 = true then ((nunciolaw13_FewFields.f k (([(⟨a1_0, a1_1, a1_2⟩ : S26)] : List (S26)))).bind fun t337 => (nunciolaw13_PackNever.j0 k l0 (!t337) a1_0 a1_1 a1_2)) else (nunciolaw13_PackNever.j0 k l0 true a1_0 a1_1 a1_2)) = some r := H
   have A8 := Aside0.mk A80
   clear A80
   by_cases c9 : t333 = true
   ·
    subst c9
    have H1 : ((nunciolaw13_FewFields.f k (([(⟨a1_0, a1_1, a1_2⟩ : S26)] : List (S26)))).bind fun t337 => (nunciolaw13_PackNever.j0 k l0 (!t337) a1_0 a1_1 a1_2)) = some r := by rw [if_pos rfl] at H; exact H
    clear H
    have H := H1
    clear H1
    obtain ⟨y334, hy334⟩ : ∃ y_ : List (S26), y_ = (([(⟨a1_0, a1_1, a1_2⟩ : S26)] : List (S26))) := ⟨_, rfl⟩
    replace H : ((nunciolaw13_FewFields.f k y334).bind fun t337 => (nunciolaw13_PackNever.j0 k l0 (!t337) a1_0 a1_1 a1_2)) = some r := by first | (rw [hy334]; with_reducible exact H) | (have H2_ := (Option.bind_some _ _).symm.trans H; rw [hy334]; with_reducible exact H2_) | (have H2_ := (Option.bind_some _ _).symm.trans H; with_reducible exact H2_) | with_reducible exact H | (rw [hy334]; exact H) | exact H
    have Ny334 := Aside0.mk hy334
    clear hy334
    replace H := Option.bind_eq_some_iff.mp H
    obtain ⟨t337, A100, H⟩ := H
    replace H : (nunciolaw13_PackNever.j0 k l0 (!t337) a1_0 a1_1 a1_2) = some r := H
    have A10 := Aside0.mk A100
    clear A100
    have H' := Aside0.mk H
    clear H
    go_wp2_with (first | ((with_reducible refine gate_callee (f := 15) rfl ?_); refine goesL_ (some 11) rfl rfl Tryd.func15 (by kernel_rfl) rfl #[.slice A0 l0.length c0] rfl (by (try simp only [List.map_toArray, List.map_cons, List.map_nil]); first | done | rfl | (simp only [List.length_drop, List.length_take]; rfl)) ?_; (with_reducible refine (nunciolaw13_few.calls k _ _ l0 true _ ?side1 ?side2 A8.out).mono ?_); (case side1 => repeat (first | exact (Kd.C_below HR0.out HB.out) | (with_reducible refine Kd.C_alloc ?_ _) | (with_reducible refine Kd.C_drewN ?_ _) | (with_reducible refine Kd.C_drew ?_))); (case side2 => exact HC0.out); rintro e w11 ⟨rfl, hb⟩; refine ⟨_, rfl, ?_⟩; have n0_ := Aside0.mk (blk_below (g := gb331) (o := .cells #[.string a1_0, .string a1_1, .bool a1_2] 26 (0, 0)) (by (with_reducible repeat (first | refine blk_drewN ?_ _ | refine blk_drew ?_ | refine blk_alloc ?_ _)); exact BK331.out) hb); have n1_ := Aside0.mk (below_step (by repeat (first | (with_reducible first | exact HB.out | apply below_alloc | apply pw_below_drewN | apply below_drew1 | refine below_set ?_ GE331.out) | exact HB.out)) hb); clear BK331; clear HB; have BK331 := n0_; have HB := n1_; clear n0_ n1_; (try clear hb); (try clear hb2); (try clear hk); (try clear hi); have hcz12_0 : w11.cell? ⟨gb331, 0, none⟩ = some (.string a1_0) := (blk_cell BK331.out 0).trans rfl; have hcz12_1 : w11.cell? ⟨gb331, 1, none⟩ = some (.string a1_1) := (blk_cell BK331.out 1).trans rfl; have hcz12_2 : w11.cell? ⟨gb331, 2, none⟩ = some (.bool a1_2) := (blk_cell BK331.out 2).trans rfl; have hfz12_0 := blk_frozen BK331.out 0; have hfz12_1 := blk_frozen BK331.out 1; have hfz12_2 := blk_frozen BK331.out 2) | ((with_reducible refine gate_dst (N := 15) rfl ?_); (try (refine gate_guard (by rfl) ?_; dsimp only)); refine Kd.R_lit k26 _ 26 ?hg (N := 15) ?hd (xs := ([(⟨a1_0, a1_1, a1_2⟩ : S26)] : List (S26))) (inner := [.string a1_0, .string a1_1, .bool a1_2]) (ok := fun _ => True) (okp := fun _ => True) ?hr ?hp (fun _ hk => hk) trivial (Below.refl _ _) (Nat.le_refl _) (by simp) ?_; (case hd => rfl); (case hg => rfl); (case hr => first | (go_simp; done) | (go_simp; rfl)); (case hp => exact (Reps.c3 (show Kd.M k26 _ _ _ (⟨a1_0, a1_1, a1_2⟩ : S26) [.string a1_0, .string a1_1, .bool a1_2] from (k26_mkM _ _ _ (⟨a1_0, a1_1, a1_2⟩ : S26) )) (Reps.none _ _))); intro v335 w13 ho14 hb hg_ hnew_; clear hg_ hnew_; (first | rw [← Ny334.out] at ho14 | (simp only [Int.reduceToNat] at ho14; rw [← Ny334.out] at ho14)); have n0_ := Aside0.mk (Kd.R_lower (Kd.R_newB ho14 (g := gb331) (o := .cells #[.string a1_0, .string a1_1, .bool a1_2] 26 (0, 0)) (by (with_reducible repeat (first | refine blk_drewN ?_ _ | refine blk_drew ?_ | refine blk_alloc ?_ _)); exact BK331.out)) (below_size (by repeat (first | (with_reducible first | exact HB.out | apply below_alloc | apply pw_below_drewN | apply below_drew1 | refine below_set ?_ GE331.out) | exact HB.out)))); have n1_ := Aside0.mk (blk_below (g := gb331) (o := .cells #[.string a1_0, .string a1_1, .bool a1_2] 26 (0, 0)) (by (with_reducible repeat (first | refine blk_drewN ?_ _ | refine blk_drew ?_ | refine blk_alloc ?_ _)); exact BK331.out) hb); have n2_ := Aside0.mk (below_step (by repeat (first | (with_reducible first | exact HB.out | apply below_alloc | apply pw_below_drewN | apply below_drew1 | refine below_set ?_ GE331.out) | exact HB.out)) hb); clear BK331; clear HB; have HO336 := n0_; have BK331 := n1_; have HB := n2_; clear n0_ n1_ n2_; clear hb ho14; obtain ⟨Ao15, co15, eo15⟩ := Kd.R_slice HO336.out; subst eo15) | (go_at_call 10; (with_reducible refine (nunciolaw13_FewFields.calls k _ _ y334 t337 _ ?side1 ?side2 A10.out).mono ?_); (case side1 => repeat (first | exact (Kd.R_reads' HO336.out).2.2 | (with_reducible refine Kd.C_alloc ?_ _) | (with_reducible refine Kd.C_drewN ?_ _) | (with_reducible refine Kd.C_drew ?_))); (case side2 => exact (Kd.R_reads' HO336.out).2.1); rintro e w16 ⟨rfl, hb⟩; have n0_ := Aside0.mk (Kd.R_below (by (with_reducible repeat (first | apply Kd.R_alloc | apply Kd.R_drewN | apply Kd.R_drew)); exact HO336.out) hb); have n1_ := Aside0.mk (blk_below (g := gb331) (o := .cells #[.string a1_0, .string a1_1, .bool a1_2] 26 (0, 0)) (by (with_reducible repeat (first | refine blk_drewN ?_ _ | refine blk_drew ?_ | refine blk_alloc ?_ _)); exact BK331.out) hb); have n2_ := Aside0.mk (below_step (by repeat (first | (with_reducible first | exact HB.out | apply below_alloc | apply pw_below_drewN | apply below_drew1 | refine below_set ?_ GE331.out) | exact HB.out)) hb); clear HO336; clear BK331; clear HB; have HO336 := n0_; have BK331 := n1_; have HB := n2_; clear n0_ n1_ n2_; (try clear hb); (try clear hb2); (try clear hk); (try clear hi)))
    go_meet
    case rel => exact ⟨_, (!t337), (by first | rfl | (simp; done) | (simp [*]; done)), H', ⟨by first | omega | exact Nat.le_refl _⟩, ⟨by (with_reducible repeat (first | refine blk_drewN ?_ _ | refine blk_drew ?_ | refine blk_alloc ?_ _)); exact BK331.out⟩, ⟨by repeat (first | (with_reducible first | exact HB.out | apply below_alloc | apply pw_below_drewN | apply below_drew1 | refine below_set ?_ GE331.out) | exact HB.out)⟩⟩
   ·
    replace c9 := Bool.eq_false_iff.mpr c9
    subst c9
    have H1 : (nunciolaw13_PackNever.j0 k l0 true a1_0 a1_1 a1_2) = some r := by rw [if_neg (show ¬ (false = true) by decide)] at H; exact H
    clear H
    have H := H1
    clear H1
    have H' := Aside0.mk H
    clear H
    go_wp2_with (first | ((with_reducible refine gate_callee (f := 15) rfl ?_); refine goesL_ (some 11) rfl rfl Tryd.func15 (by kernel_rfl) rfl #[.slice A0 l0.length c0] rfl (by (try simp only [List.map_toArray, List.map_cons, List.map_nil]); first | done | rfl | (simp only [List.length_drop, List.length_take]; rfl)) ?_; (with_reducible refine (nunciolaw13_few.calls k _ _ l0 false _ ?side1 ?side2 A8.out).mono ?_); (case side1 => repeat (first | exact (Kd.C_below HR0.out HB.out) | (with_reducible refine Kd.C_alloc ?_ _) | (with_reducible refine Kd.C_drewN ?_ _) | (with_reducible refine Kd.C_drew ?_))); (case side2 => exact HC0.out); rintro e w17 ⟨rfl, hb⟩; refine ⟨_, rfl, ?_⟩; have n0_ := Aside0.mk (blk_below (g := gb331) (o := .cells #[.string a1_0, .string a1_1, .bool a1_2] 26 (0, 0)) (by (with_reducible repeat (first | refine blk_drewN ?_ _ | refine blk_drew ?_ | refine blk_alloc ?_ _)); exact BK331.out) hb); have n1_ := Aside0.mk (below_step (by repeat (first | (with_reducible first | exact HB.out | apply below_alloc | apply pw_below_drewN | apply below_drew1 | refine below_set ?_ GE331.out) | exact HB.out)) hb); clear BK331; clear HB; have BK331 := n0_; have HB := n1_; clear n0_ n1_; (try clear hb); (try clear hb2); (try clear hk); (try clear hi)))
    go_meet
    case rel => exact ⟨_, (true), (by first | rfl | (simp; done) | (simp [*]; done)), H', ⟨by first | omega | exact Nat.le_refl _⟩, ⟨by (with_reducible repeat (first | refine blk_drewN ?_ _ | refine blk_drew ?_ | refine blk_alloc ?_ _)); exact BK331.out⟩, ⟨by repeat (first | (with_reducible first | exact HB.out | apply below_alloc | apply pw_below_drewN | apply below_drew1 | refine below_set ?_ GE331.out) | exact HB.out)⟩⟩
  case rest =>
   clear HC5
   try clear c1
   try clear p2
   try clear c3
   try clear c4
   try clear c9
   try clear c15
   try clear hcz12_0
   try clear hcz12_1
   try clear hcz12_2
   try clear hfz12_0
   try clear hfz12_1
   try clear hfz12_2
   obtain ⟨kq, x18_4, rfl, HA, HJ4, BK331, HB⟩ := hcut
   cases kq with
   | zero => exact absurd HA.out (by simp [nunciolaw13_PackNever.j0])
   | succ kj4 =>
    have H := HA.out
    clear HA
    simp only [nunciolaw13_PackNever.j0] at H
    by_cases c18 : x18_4 = true
    ·
     subst c18
     have H1 : (some true) = some r := by rw [if_pos rfl] at H; exact H
     clear H
     have H := H1
     clear H1
     obtain rfl := Option.some.inj H
     go_wp2
     go_ret
     exact ⟨by first | rfl | (simp [errW_none, errW_some] <;> rfl) | (simp [*, errW_none, errW_some] <;> rfl), by repeat (first | (with_reducible first | exact HB.out | apply below_alloc | apply pw_below_drewN | apply below_drew1 | refine below_set ?_ GE331.out) | exact HB.out)⟩
    ·
     replace c18 := Bool.eq_false_iff.mpr c18
     subst c18
     have H1 : ((pack_New.f).bind fun t338 => ((nuncioref13_New.f).bind fun bt340 => (nunciolaw13_PackNever.l0 kj4 l0 0 a1_0 a1_1 a1_2 t338 bt340.1 bt340.2.1 bt340.2.2))) = some r := by rw [if_neg (show ¬ (false = true) by decide)] at H; exact H
     clear H
     have H := H1
     clear H1
     replace H := Option.bind_eq_some_iff.mp H
     obtain ⟨t338, A190, H⟩ := H
     replace H : ((nuncioref13_New.f).bind fun bt340 => (nunciolaw13_PackNever.l0 kj4 l0 0 a1_0 a1_1 a1_2 t338 bt340.1 bt340.2.1 bt340.2.2)) = some r := H
     have A19 := Aside0.mk A190
     clear A190
     replace H := Option.bind_eq_some_iff.mp H
     obtain ⟨⟨t340, t341, t344⟩, A200, H⟩ := H
     replace H : (nunciolaw13_PackNever.l0 kj4 l0 0 a1_0 a1_1 a1_2 t338 t340 t341 t344) = some r := H
     have A20 := Aside0.mk A200
     clear A200
     have H' := Aside0.mk H
     clear H
     go_wp2_with (first | ((with_reducible refine gate_callee (f := 11) rfl ?_); refine goesL_ (some 19) rfl rfl Tryd.func11 (by kernel_rfl) rfl #[] rfl (by (try simp only [List.map_toArray, List.map_cons, List.map_nil]); first | done | rfl | (simp only [List.length_drop, List.length_take]; rfl)) ?_; (with_reducible refine (pack_New.calls  t338 _ _ (Below.refl _ _) ?side1 A19.out).mono ?_); (case side1 => exact EnvW.below HEnv.out rfl (by repeat (first | (with_reducible first | exact HB.out | apply below_alloc | apply pw_below_drewN | apply below_drew1 | refine below_set ?_ GE331.out) | exact HB.out))); rintro e w21 ⟨g339, rfl, hi, hb, hb2⟩; refine ⟨_, rfl, ?_⟩; have n0_ := Aside0.mk (blk_below (g := gb331) (o := .cells #[.string a1_0, .string a1_1, .bool a1_2] 26 (0, 0)) (by (with_reducible repeat (first | refine blk_drewN ?_ _ | refine blk_drew ?_ | refine blk_alloc ?_ _)); exact BK331.out) hb2); have n1_ := Aside0.mk (below_step (by repeat (first | (with_reducible first | exact HB.out | apply below_alloc | apply pw_below_drewN | apply below_drew1 | refine below_set ?_ GE331.out) | exact HB.out)) hb2); have n2_ := Aside0.mk ((show IsS70 w w21 g339 t338 from IsS70.rebase hi (below_size (by repeat (first | (with_reducible first | exact HB.out | apply below_alloc | apply pw_below_drewN | apply below_drew1 | refine below_set ?_ GE331.out) | exact HB.out))))); have n3_ := Aside0.mk (IsS70.ne_blk hi (blk_below (g := gb331) (o := .cells #[.string a1_0, .string a1_1, .bool a1_2] 26 (0, 0)) (by (with_reducible repeat (first | refine blk_drewN ?_ _ | refine blk_drew ?_ | refine blk_alloc ?_ _)); exact BK331.out) hb2) (by decide)); have n4_ := Aside0.mk (Ne.symm (IsS70.ne_blk hi (blk_below (g := gb331) (o := .cells #[.string a1_0, .string a1_1, .bool a1_2] 26 (0, 0)) (by (with_reducible repeat (first | refine blk_drewN ?_ _ | refine blk_drew ?_ | refine blk_alloc ?_ _)); exact BK331.out) hb2) (by decide))); clear BK331; clear HB; have BK331 := n0_; have HB := n1_; have HI339 := n2_; have NB339_331 := n3_; have NB331_339 := n4_; clear n0_ n1_ n2_ n3_ n4_; (try clear hb); (try clear hb2); (try clear hk); (try clear hi)) | ((with_reducible refine gate_callee (f := 16) rfl ?_); refine goesL_ (some 20) rfl rfl Tryd.func16 (by kernel_rfl) rfl #[] rfl (by (try simp only [List.map_toArray, List.map_cons, List.map_nil]); first | done | rfl | (simp only [List.length_drop, List.length_take]; rfl)) ?_; (with_reducible refine (nuncioref13_New.calls  t340 t341 t344 _ A20.out).mono ?_); rintro e w22 ⟨v342, v345, rfl, ho0, ho1, hb⟩; refine ⟨_, rfl, ?_⟩; have n0_ := Aside0.mk (Kd.R_lower ho0 (below_size (by repeat (first | (with_reducible first | exact HB.out | apply below_alloc | apply pw_below_drewN | apply below_drew1 | refine below_set ?_ (IsS70.ge HI339.out) | refine below_set ?_ GE331.out) | exact HB.out)))); have n1_ := Aside0.mk (Kd.R_lower ho1 (below_size (by repeat (first | (with_reducible first | exact HB.out | apply below_alloc | apply pw_below_drewN | apply below_drew1 | refine below_set ?_ (IsS70.ge HI339.out) | refine below_set ?_ GE331.out) | exact HB.out)))); have n2_ := Aside0.mk (blk_below (g := gb331) (o := .cells #[.string a1_0, .string a1_1, .bool a1_2] 26 (0, 0)) (by (with_reducible repeat (first | refine blk_drewN ?_ _ | refine blk_drew ?_ | refine blk_alloc ?_ _)); exact BK331.out) hb); have n3_ := Aside0.mk (IsS70.below (by repeat (first | (with_reducible first | exact HI339.out | apply IsS70.alloc | apply IsS70.drewN | apply IsS70.drew | refine IsS70.farT ?_ (by repeat (first | exact TyOf.mk BK331.out | apply TyOf.alloc | apply TyOf.drewN | apply TyOf.drew | apply TyOf.set)) (by decide) _) | exact HI339.out)) hb); have n4_ := Aside0.mk (below_step (by repeat (first | (with_reducible first | exact HB.out | apply below_alloc | apply pw_below_drewN | apply below_drew1 | refine below_set ?_ (IsS70.ge HI339.out) | refine below_set ?_ GE331.out) | exact HB.out)) hb); clear BK331; clear HI339; clear HB; have HO343 := n0_; have HO346 := n1_; have BK331 := n2_; have HI339 := n3_; have HB := n4_; clear n0_ n1_ n2_ n3_ n4_; (try clear hb); (try clear hb2); (try clear hk); (try clear hi); (try clear ho0); (try clear ho1)) | ((with_reducible refine gate_dst (N := 6) rfl ?_); (try (refine gate_guard (by rfl) ?_; dsimp only)); refine box_event ?hg (N := 6) ?hd (cs := #[.int .i64 0, .slice none 0 0, .slice none 0 0]) (t := 40) ?hr ?_; (case hd => rfl); (case hg => rfl); (case hr => first | (go_simp; done) | (go_simp; rfl)); intro gb347 hg w23 hbox hb; have n0_ := Aside0.mk (Kd.R_below (by (with_reducible repeat (first | apply Kd.R_alloc | apply Kd.R_drewN | apply Kd.R_drew)); exact HO343.out) hb); have n1_ := Aside0.mk (Kd.R_below (by (with_reducible repeat (first | apply Kd.R_alloc | apply Kd.R_drewN | apply Kd.R_drew)); exact HO346.out) hb); have n2_ := Aside0.mk (blk_below (g := gb331) (o := .cells #[.string a1_0, .string a1_1, .bool a1_2] 26 (0, 0)) (by (with_reducible repeat (first | refine blk_drewN ?_ _ | refine blk_drew ?_ | refine blk_alloc ?_ _)); exact BK331.out) hb); have n3_ := Aside0.mk (IsS70.below (by repeat (first | (with_reducible first | exact HI339.out | apply IsS70.alloc | apply IsS70.drewN | apply IsS70.drew | refine IsS70.farT ?_ (by repeat (first | exact TyOf.mk BK331.out | apply TyOf.alloc | apply TyOf.drewN | apply TyOf.drew | apply TyOf.set)) (by decide) _) | exact HI339.out)) hb); have n4_ := Aside0.mk (below_step (by repeat (first | (with_reducible first | exact HB.out | apply below_alloc | apply pw_below_drewN | apply below_drew1 | refine below_set ?_ (IsS70.ge HI339.out) | refine below_set ?_ GE331.out) | exact HB.out)) hb); have n5_ := Aside0.mk (hbox); have n6_ := Aside0.mk ((by rw [hg]; exact (below_size (by repeat (first | (with_reducible first | exact HB.out | apply below_alloc | apply pw_below_drewN | apply below_drew1 | refine below_set ?_ (IsS70.ge HI339.out) | refine below_set ?_ GE331.out) | exact HB.out))) : w.heap.size ≤ gb347)); have n7_ := Aside0.mk ((by rw [hg]; exact (below_size (by repeat (first | (with_reducible first | exact HB.out | apply below_alloc | apply pw_below_drewN | apply below_drew1 | refine below_set ?_ (IsS70.ge HI339.out) | refine below_set ?_ GE331.out) | exact HB.out))) : w.heap.size ≤ gb347)); have n8_ := Aside0.mk ((by rw [hg]; exact Nat.ne_of_lt (blk_lt (g := gb331) (o := .cells #[.string a1_0, .string a1_1, .bool a1_2] 26 (0, 0)) (by (with_reducible repeat (first | refine blk_drewN ?_ _ | refine blk_drew ?_ | refine blk_alloc ?_ _)); exact BK331.out)) : gb331 ≠ gb347)); have n9_ := Aside0.mk ((by rw [hg]; exact Nat.ne_of_gt (blk_lt (g := gb331) (o := .cells #[.string a1_0, .string a1_1, .bool a1_2] 26 (0, 0)) (by (with_reducible repeat (first | refine blk_drewN ?_ _ | refine blk_drew ?_ | refine blk_alloc ?_ _)); exact BK331.out)) : gb347 ≠ gb331)); have n10_ := Aside0.mk ((by rw [hg]; exact Nat.ne_of_lt (IsS70.lt (show IsS70 w _ g339 t338 from by repeat (first | (with_reducible first | exact HI339.out | apply IsS70.alloc | apply IsS70.drewN | apply IsS70.drew | refine IsS70.farT ?_ (by repeat (first | exact TyOf.mk BK331.out | apply TyOf.alloc | apply TyOf.drewN | apply TyOf.drew | apply TyOf.set)) (by decide) _) | exact HI339.out))) : g339 ≠ gb347)); have n11_ := Aside0.mk ((by rw [hg]; exact Nat.ne_of_gt (IsS70.lt (show IsS70 w _ g339 t338 from by repeat (first | (with_reducible first | exact HI339.out | apply IsS70.alloc | apply IsS70.drewN | apply IsS70.drew | refine IsS70.farT ?_ (by repeat (first | exact TyOf.mk BK331.out | apply TyOf.alloc | apply TyOf.drewN | apply TyOf.drew | apply TyOf.set)) (by decide) _) | exact HI339.out))) : gb347 ≠ g339)); clear HO343; clear HO346; clear BK331; clear HI339; clear HB; have HO343 := n0_; have HO346 := n1_; have BK331 := n2_; have HI339 := n3_; have HB := n4_; have BK347 := n5_; have GW347 := n6_; have GE347 := n7_; have NB331_347 := n8_; have NB347_331 := n9_; have NB339_347 := n10_; have NB347_339 := n11_; clear n0_ n1_ n2_ n3_ n4_ n5_ n6_ n7_ n8_ n9_ n10_ n11_; clear hb hbox hg; have hnb24 := NB347_331.out; have hnc24 := NB331_347.out; have hnb25 := NB347_339.out; have hnc25 := NB339_347.out; have hcz26_0 : w23.cell? ⟨gb347, 0, none⟩ = some (.int .i64 0) := (blk_cell BK347.out 0).trans rfl; have hcz26_1 : w23.cell? ⟨gb347, 1, none⟩ = some (.slice none 0 0) := (blk_cell BK347.out 1).trans rfl; have hcz26_2 : w23.cell? ⟨gb347, 2, none⟩ = some (.slice none 0 0) := (blk_cell BK347.out 2).trans rfl; have hfz26_0 := blk_frozen BK347.out 0; have hfz26_1 := blk_frozen BK347.out 1; have hfz26_2 := blk_frozen BK347.out 2; obtain ⟨Ao27, co27, eo27⟩ := Kd.R_slice HO343.out; subst eo27; obtain ⟨Ao28, co28, eo28⟩ := Kd.R_slice HO346.out; subst eo28))
     go_loopg [7] kj4 (fun kq v7 w' => ∃ (x7_2 : Int) (x340000_2 : TE) (x348000_2 : Int) (x348001_2 : List (S88)) (x348002_2 : List Int) (u348001 : Value) (u348002 : Value), v7 = .int .i64 x7_2 ∧ Aside0 (nunciolaw13_PackNever.l0 kq l0 x7_2 a1_0 a1_1 a1_2 x340000_2 x348000_2 x348001_2 x348002_2 = some r) ∧ Aside0 (kq ≤ kj4) ∧ Aside0 (Kd.R k88 88 w' w.heap.size (fun _ => True) u348001 x348001_2) ∧ Aside0 (Kd.R (Kd.int .i64) 3 w' w.heap.size (fun _ => True) u348002 x348002_2) ∧ Aside0 (w'.heap[gb331]? = some (.cells #[.string a1_0, .string a1_1, .bool a1_2] 26 (0, 0))) ∧ Aside0 (w'.heap[gb347]? = some (.cells #[.int .i64 x348000_2, u348001, u348002] 40 (0, 0))) ∧ Aside0 (IsS70 w w' g339 x340000_2) ∧ Aside0 (Below w.heap.size w w'))
     case atStart => exact ⟨(0), (t338), (t340), (t341), (t344), (.slice Ao27 t341.length co27), (.slice Ao28 t344.length co28), (by first | rfl | (simp; done) | (simp [*]; done)), H', ⟨Nat.le_refl _⟩, ⟨by (with_reducible repeat (first | apply Kd.R_alloc | apply Kd.R_drewN | apply Kd.R_drew)); exact Kd.R_mono (Kd.R_far (p := ⟨gb347, 2, none⟩) (Kd.R_far (p := ⟨gb347, 1, none⟩) (Kd.R_far (p := ⟨gb347, 0, none⟩) (Kd.R_types HO343.out BK347.out (by decide)) (fun _ hk => hk.2) (.int .i64 t340)) (fun _ hk => hk.2) (.slice Ao27 t341.length co27)) (fun _ hk => hk.2) (.slice Ao28 t344.length co28)) (fun _ hk => trivial)⟩, ⟨by (with_reducible repeat (first | apply Kd.R_alloc | apply Kd.R_drewN | apply Kd.R_drew)); exact Kd.R_mono (Kd.R_far (p := ⟨gb347, 2, none⟩) (Kd.R_far (p := ⟨gb347, 1, none⟩) (Kd.R_far (p := ⟨gb347, 0, none⟩) (Kd.R_types HO346.out BK347.out (by decide)) (fun _ hk => hk.2) (.int .i64 t340)) (fun _ hk => hk.2) (.slice Ao27 t341.length co27)) (fun _ hk => hk.2) (.slice Ao28 t344.length co28)) (fun _ hk => trivial)⟩, ⟨by (with_reducible repeat (first | refine blk_drewN ?_ _ | refine blk_drew ?_ | refine blk_alloc ?_ _)); refine blk_far ?_ NB331_347.out _; (with_reducible repeat (first | refine blk_drewN ?_ _ | refine blk_drew ?_ | refine blk_alloc ?_ _)); refine blk_far ?_ NB331_347.out _; (with_reducible repeat (first | refine blk_drewN ?_ _ | refine blk_drew ?_ | refine blk_alloc ?_ _)); refine blk_far ?_ NB331_347.out _; (with_reducible repeat (first | refine blk_drewN ?_ _ | refine blk_drew ?_ | refine blk_alloc ?_ _)); exact BK331.out⟩, ⟨by (with_reducible repeat (first | refine blk_drewN ?_ _ | refine blk_drew ?_ | refine blk_alloc ?_ _)); refine blk_put (cs := #[.int .i64 t340, .slice Ao27 t341.length co27, .slice none 0 0]) ?_ 2 _ rfl; (with_reducible repeat (first | refine blk_drewN ?_ _ | refine blk_drew ?_ | refine blk_alloc ?_ _)); refine blk_put (cs := #[.int .i64 t340, .slice none 0 0, .slice none 0 0]) ?_ 1 _ rfl; (with_reducible repeat (first | refine blk_drewN ?_ _ | refine blk_drew ?_ | refine blk_alloc ?_ _)); refine blk_put (cs := #[.int .i64 0, .slice none 0 0, .slice none 0 0]) ?_ 0 _ rfl; (with_reducible repeat (first | refine blk_drewN ?_ _ | refine blk_drew ?_ | refine blk_alloc ?_ _)); exact BK347.out⟩, ⟨by repeat (first | (with_reducible first | exact HI339.out | apply IsS70.alloc | apply IsS70.drewN | apply IsS70.drew | refine IsS70.farT ?_ (by repeat (first | exact TyOf.mk BK331.out | apply TyOf.alloc | apply TyOf.drewN | apply TyOf.drew | apply TyOf.set)) (by decide) _ | refine IsS70.farT ?_ (by repeat (first | exact TyOf.mk BK347.out | apply TyOf.alloc | apply TyOf.drewN | apply TyOf.drew | apply TyOf.set)) (by decide) _) | exact HI339.out)⟩, ⟨by repeat (first | (with_reducible first | exact HB.out | apply below_alloc | apply pw_below_drewN | apply below_drew1 | refine below_set ?_ (IsS70.ge HI339.out) | refine below_set ?_ GE331.out | refine below_set ?_ GE347.out) | exact HB.out)⟩⟩
     case round =>
      clear H'
      try clear c1
      try clear c2
      try clear p2
      try clear c3
      try clear c4
      try clear c9
      try clear c11
      try clear c15
      try clear c16
      try clear c18
      try clear c24
      try clear c25
      try clear hcz12_0
      try clear hcz12_1
      try clear hcz12_2
      try clear hcz26_0
      try clear hcz26_1
      try clear hcz26_2
      try clear hfz12_0
      try clear hfz12_1
      try clear hfz12_2
      try clear hfz26_0
      try clear hfz26_1
      try clear hfz26_2
      try clear p2
      obtain ⟨x7_2, x340000_2, x348000_2, x348001_2, x348002_2, u348001, u348002, rfl, HA, HK2, HO_348001, HO_348002, BK331, BK347, HI339, HB⟩ := hrel
      cases gk with
      | zero => exact absurd HA.out (by simp [nunciolaw13_PackNever.l0])
      | succ k2 =>
       have H := HA.out
       clear HA
       simp only [nunciolaw13_PackNever.l0] at H
       by_cases c29 : x7_2 < (l0.length : Int)
       ·
        rw [if_pos c29] at H
        have c29b0 : decide (x7_2 < (l0.length : Int)) = true := decide_eq_true c29
        clear c29
        by_cases c30 : 0 ≤ x7_2
        ·
         rw [if_pos c30] at H
         have c30b0 : decide (0 ≤ x7_2) = true := decide_eq_true c30
         clear c30
         obtain ⟨bq31, hbq31⟩ : ∃ b_ : Bool, b_ = ((rd_T44 l0 x7_2).f0) := ⟨_, rfl⟩
         replace H : (if bq31 = true then ((pack_Encoder_Limit.f x340000_2 ((rd_T44 l0 x7_2).f1)).bind fun t359 => ((nuncioref13_Limit.f k2 x348000_2 x348001_2 x348002_2 ((rd_T44 l0 x7_2).f1)).bind fun bt361 => (nunciolaw13_PackNever.l0 k2 l0 (wrap64 (x7_2 + 1)) a1_0 a1_1 a1_2 t359 bt361.1 bt361.2.1 bt361.2.2))) else ((pack_Encoder_Write.f k2 x340000_2 ((rd_T44 l0 x7_2).f2)).bind fun bt369 => ((nuncioref13_Write.f k2 x348000_2 x348001_2 x348002_2 ((rd_T44 l0 x7_2).f2)).bind fun bt372 => (nunciolaw13_PackNever.l0 k2 l0 (wrap64 (x7_2 + 1)) a1_0 a1_1 a1_2 bt369.2 bt372.1 bt372.2.1 bt372.2.2.1)))) = some r := by rw [← hbq31] at H; exact H
         have Nbq31 := Aside0.mk hbq31
         clear hbq31
         by_cases c32 : bq31 = true
         ·
          subst c32
          have H1 : ((pack_Encoder_Limit.f x340000_2 ((rd_T44 l0 x7_2).f1)).bind fun t359 => ((nuncioref13_Limit.f k2 x348000_2 x348001_2 x348002_2 ((rd_T44 l0 x7_2).f1)).bind fun bt361 => (nunciolaw13_PackNever.l0 k2 l0 (wrap64 (x7_2 + 1)) a1_0 a1_1 a1_2 t359 bt361.1 bt361.2.1 bt361.2.2))) = some r := by rw [if_pos rfl] at H; exact H
          clear H
          have H := H1
          clear H1
          replace H := Option.bind_eq_some_iff.mp H
          obtain ⟨t359, A330, H⟩ := H
          replace H : ((nuncioref13_Limit.f k2 x348000_2 x348001_2 x348002_2 ((rd_T44 l0 x7_2).f1)).bind fun bt361 => (nunciolaw13_PackNever.l0 k2 l0 (wrap64 (x7_2 + 1)) a1_0 a1_1 a1_2 t359 bt361.1 bt361.2.1 bt361.2.2)) = some r := H
          have A33 := Aside0.mk A330
          clear A330
          replace H := Option.bind_eq_some_iff.mp H
          obtain ⟨⟨t361, t362, t365⟩, A340, H⟩ := H
          replace H : (nunciolaw13_PackNever.l0 k2 l0 (wrap64 (x7_2 + 1)) a1_0 a1_1 a1_2 t359 t361 t362 t365) = some r := H
          have A34 := Aside0.mk A340
          clear A340
          have H' := Aside0.mk H
          clear H
          have p357 : 0 ≤ (x7_2 : Int) := of_decide_eq_true (by first | (with_reducible assumption) | assumption)
          have q357 : x7_2 < (l0.length : Int) := of_decide_eq_true (by first | (with_reducible assumption) | assumption)
          obtain ⟨ad357, A357_2, c357_2, e357, hx357_0, hx357_1, hx357_2, hl357_2, hi357_2⟩ := at_T44 HR0.out x7_2 p357 q357
          (try rw [← Nbq31.out] at hx357_0)
          cases e357
          replace hx357_0 := (HB.out.cell (World.block_lt_of_cell? w _ hx357_0)).trans hx357_0
          replace hx357_1 := (HB.out.cell (World.block_lt_of_cell? w _ hx357_1)).trans hx357_1
          replace hx357_2 := (HB.out.cell (World.block_lt_of_cell? w _ hx357_2)).trans hx357_2
          have HR357_2 := Aside0.mk hi357_2
          have HC357_2 := Aside0.mk hl357_2
          clear hi357_2 hl357_2
          replace p357 := eq_true p357
          replace q357 := eq_true q357
          have p358 : 0 ≤ (x7_2 : Int) := of_decide_eq_true (by first | (with_reducible assumption) | assumption)
          have q358 : x7_2 < (l0.length : Int) := of_decide_eq_true (by first | (with_reducible assumption) | assumption)
          obtain ⟨ad358, A358_2, c358_2, e358, hx358_0, hx358_1, hx358_2, hl358_2, hi358_2⟩ := at_T44 HR0.out x7_2 p358 q358
          (try rw [← Nbq31.out] at hx358_0)
          obtain rfl : ad357 = ad358 := (by injection e358)
          replace hx358_0 := (HB.out.cell (World.block_lt_of_cell? w _ hx358_0)).trans hx358_0
          replace hx358_1 := (HB.out.cell (World.block_lt_of_cell? w _ hx358_1)).trans hx358_1
          replace hx358_2 := (HB.out.cell (World.block_lt_of_cell? w _ hx358_2)).trans hx358_2
          have HR358_2 := Aside0.mk hi358_2
          have HC358_2 := Aside0.mk hl358_2
          clear hi358_2 hl358_2
          replace p358 := eq_true p358
          replace q358 := eq_true q358
          have ea_ := Option.some.inj (hx357_2.symm.trans hx358_2)
          injection ea_ with ea_ en_ ec_
          subst ea_
          subst ec_
          clear en_
          try go_wp2_with (first | ((with_reducible refine gate_callee (f := 17) rfl ?_); refine goesL_ (some 38) rfl rfl Tryd.func17 (by kernel_rfl) rfl #[.pointer (some ⟨g339, 0, none⟩), .int .u32 ((rd_T44 l0 x7_2).f1)] rfl (by (try simp only [List.map_toArray, List.map_cons, List.map_nil]); first | done | rfl | (simp only [List.length_drop, List.length_take]; rfl)) ?_; (with_reducible refine (pack_Encoder_Limit.calls g339 x340000_2 ((rd_T44 l0 x7_2).f1) t359 w _ ?side1 ?side2 A33.out).mono ?_); (case side1 => repeat (first | (with_reducible first | exact HI339.out | apply IsS70.alloc | apply IsS70.drewN | apply IsS70.drew | refine IsS70.farT ?_ (by repeat (first | exact TyOf.mk BK331.out | apply TyOf.alloc | apply TyOf.drewN | apply TyOf.drew | apply TyOf.set)) (by decide) _ | refine IsS70.farT ?_ (by repeat (first | exact TyOf.mk BK347.out | apply TyOf.alloc | apply TyOf.drewN | apply TyOf.drew | apply TyOf.set)) (by decide) _) | exact HI339.out)); (case side2 => repeat (first | (with_reducible first | exact HB.out | apply below_alloc | apply pw_below_drewN | apply below_drew1 | refine below_set ?_ (IsS70.ge HI339.out) | refine below_set ?_ GE331.out | refine below_set ?_ GE347.out) | exact HB.out)); rintro e w35 ⟨rfl, hi, hb, hk⟩; refine ⟨_, rfl, ?_⟩; have n0_ := Aside0.mk (Kd.R_mono (Kd.R_keep2 (IsS70.apart (show IsS70 w _ g339 x340000_2 from by repeat (first | (with_reducible first | exact HI339.out | apply IsS70.alloc | apply IsS70.drewN | apply IsS70.drew | refine IsS70.farT ?_ (by repeat (first | exact TyOf.mk BK331.out | apply TyOf.alloc | apply TyOf.drewN | apply TyOf.drew | apply TyOf.set)) (by decide) _ | refine IsS70.farT ?_ (by repeat (first | exact TyOf.mk BK347.out | apply TyOf.alloc | apply TyOf.drewN | apply TyOf.drew | apply TyOf.set)) (by decide) _) | exact HI339.out)) (by (with_reducible repeat (first | apply Kd.R_alloc | apply Kd.R_drewN | apply Kd.R_drew)); exact HO_348001.out) (by decide)) hk (fun _ h => h.2)) (fun _ h => h.1)); have n1_ := Aside0.mk (Kd.R_mono (Kd.R_keep2 (IsS70.apart (show IsS70 w _ g339 x340000_2 from by repeat (first | (with_reducible first | exact HI339.out | apply IsS70.alloc | apply IsS70.drewN | apply IsS70.drew | refine IsS70.farT ?_ (by repeat (first | exact TyOf.mk BK331.out | apply TyOf.alloc | apply TyOf.drewN | apply TyOf.drew | apply TyOf.set)) (by decide) _ | refine IsS70.farT ?_ (by repeat (first | exact TyOf.mk BK347.out | apply TyOf.alloc | apply TyOf.drewN | apply TyOf.drew | apply TyOf.set)) (by decide) _) | exact HI339.out)) (by (with_reducible repeat (first | apply Kd.R_alloc | apply Kd.R_drewN | apply Kd.R_drew)); exact HO_348002.out) (by decide)) hk (fun _ h => h.2)) (fun _ h => h.1)); have n2_ := Aside0.mk (IsS70.blkK hk (show IsS70 w _ g339 x340000_2 from by repeat (first | (with_reducible first | exact HI339.out | apply IsS70.alloc | apply IsS70.drewN | apply IsS70.drew | refine IsS70.farT ?_ (by repeat (first | exact TyOf.mk BK331.out | apply TyOf.alloc | apply TyOf.drewN | apply TyOf.drew | apply TyOf.set)) (by decide) _ | refine IsS70.farT ?_ (by repeat (first | exact TyOf.mk BK347.out | apply TyOf.alloc | apply TyOf.drewN | apply TyOf.drew | apply TyOf.set)) (by decide) _) | exact HI339.out)) (g' := gb331) (o := .cells #[.string a1_0, .string a1_1, .bool a1_2] 26 (0, 0)) (by (with_reducible repeat (first | refine blk_drewN ?_ _ | refine blk_drew ?_ | refine blk_alloc ?_ _)); exact BK331.out) NB331_339.out rfl (by decide)); have n3_ := Aside0.mk (IsS70.blkK hk (show IsS70 w _ g339 x340000_2 from by repeat (first | (with_reducible first | exact HI339.out | apply IsS70.alloc | apply IsS70.drewN | apply IsS70.drew | refine IsS70.farT ?_ (by repeat (first | exact TyOf.mk BK331.out | apply TyOf.alloc | apply TyOf.drewN | apply TyOf.drew | apply TyOf.set)) (by decide) _ | refine IsS70.farT ?_ (by repeat (first | exact TyOf.mk BK347.out | apply TyOf.alloc | apply TyOf.drewN | apply TyOf.drew | apply TyOf.set)) (by decide) _) | exact HI339.out)) (g' := gb347) (o := .cells #[.int .i64 x348000_2, u348001, u348002] 40 (0, 0)) (by (with_reducible repeat (first | refine blk_drewN ?_ _ | refine blk_drew ?_ | refine blk_alloc ?_ _)); exact BK347.out) NB347_339.out rfl (by decide)); have n4_ := Aside0.mk (hb); have n5_ := Aside0.mk (hi); clear HO_348001; clear HO_348002; clear BK331; clear BK347; clear HB; clear HI339; have HO_348001 := n0_; have HO_348002 := n1_; have BK331 := n2_; have BK347 := n3_; have HB := n4_; have HI339 := n5_; clear n0_ n1_ n2_ n3_ n4_ n5_; (try clear hb); (try clear hb2); (try clear hk); (try clear hi)))
          have n0_ := Aside0.mk (Kd.R_drew HO_348001.out)
          have n1_ := Aside0.mk (Kd.R_drew HO_348002.out)
          have n2_ := Aside0.mk (blk_drew BK331.out)
          have n3_ := Aside0.mk (blk_drew BK347.out)
          have n4_ := Aside0.mk (IsS70.drew HI339.out)
          have n5_ := Aside0.mk (below_drew1 HB.out)
          clear HO_348001
          clear HO_348002
          clear BK331
          clear BK347
          clear HI339
          clear HB
          have HO_348001 := n0_
          have HO_348002 := n1_
          have BK331 := n2_
          have BK347 := n3_
          have HI339 := n4_
          have HB := n5_
          clear n0_ n1_ n2_ n3_ n4_ n5_
          have p360 : 0 ≤ (x7_2 : Int) := of_decide_eq_true (by first | (with_reducible assumption) | assumption)
          have q360 : x7_2 < (l0.length : Int) := of_decide_eq_true (by first | (with_reducible assumption) | assumption)
          obtain ⟨ad360, A360_2, c360_2, e360, hx360_0, hx360_1, hx360_2, hl360_2, hi360_2⟩ := at_T44 HR0.out x7_2 p360 q360
          have hw360_2 := hx360_2
          have hw360_1 := hx360_1
          have hw360_0 := hx360_0
          (try rw [← Nbq31.out] at hx360_0)
          (try rw [← Nbq31.out] at hw360_0)
          obtain rfl : ad357 = ad360 := (by injection e360)
          replace hx360_0 := (HB.out.cell (World.block_lt_of_cell? w _ hx360_0)).trans hx360_0
          replace hx360_1 := (HB.out.cell (World.block_lt_of_cell? w _ hx360_1)).trans hx360_1
          replace hx360_2 := (HB.out.cell (World.block_lt_of_cell? w _ hx360_2)).trans hx360_2
          have HR360_2 := Aside0.mk hi360_2
          have HC360_2 := Aside0.mk hl360_2
          clear hi360_2 hl360_2
          replace p360 := eq_true p360
          replace q360 := eq_true q360
          obtain ⟨Ao37, co37, eo37⟩ := Kd.R_slice HO_348001.out
          (first | subst eo37 | (injection eo37 with f1_ f2_ f3_; have f4_ := f1_.symm; have f5_ := f3_.symm; clear f1_ f2_ f3_; subst f4_; subst f5_))
          obtain ⟨Ao38, co38, eo38⟩ := Kd.R_slice HO_348002.out
          (first | subst eo38 | (injection eo38 with f1_ f2_ f3_; have f4_ := f1_.symm; have f5_ := f3_.symm; clear f1_ f2_ f3_; subst f4_; subst f5_))
          refine start_ (n := 8) (S := fun w' => w'.cell? ⟨gb347, 0, none⟩ = some (.int .i64 x348000_2) ∧ w'.cell? ⟨gb347, 1, none⟩ = some (.slice Ao37 x348001_2.length co37) ∧ w'.cell? ⟨gb347, 2, none⟩ = some (.slice Ao38 x348002_2.length co38) ∧ w'.cell? (ad357.add ((x7_2).toNat * 3)) = some (.bool (true)) ∧ w'.cell? ⟨(ad357.add ((x7_2).toNat * 3)).block, (ad357.add ((x7_2).toNat * 3)).off + 1, none⟩ = some (.int .u32 ((rd_T44 l0 x7_2).f1)) ∧ w'.cell? ⟨(ad357.add ((x7_2).toNat * 3)).block, (ad357.add ((x7_2).toNat * 3)).off + 2, none⟩ = some (.slice A360_2 ((rd_T44 l0 x7_2).f2).length c360_2)) (ds := [7]) #[false, false, false, false, false, false, false, false] (by kernel_rfl) rfl rfl ⟨(blk_cell BK347.out 0).trans rfl, (blk_cell BK347.out 1).trans rfl, (blk_cell BK347.out 2).trans rfl, ((HB.out.cell (World.block_lt_of_cell? w _ hw360_0)).trans hw360_0), ((HB.out.cell (World.block_lt_of_cell? w _ hw360_1)).trans hw360_1), ((HB.out.cell (World.block_lt_of_cell? w _ hw360_2)).trans hw360_2)⟩ (fun hHeld => ?_); refine with_tabW nunciolaw13_PackNever.tab12 nunciolaw13_PackNever.bits12 (fun HT_ HW_ => ?_)
          generalize w35.drew = w36 at HO_348001 HO_348002 BK331 BK347 HI339 HB HR360_2 hx360_0 hx360_1 hx360_2 hHeld ⊢
          refine pure_ (i := 1) (N := some 40) (v := ?_) (a' := ?_) #[false, true, false, false, false, false, false, false] rfl rfl (any_of HT_.out (by kernel_rfl)) (fun _ _ _ h => h) (Or.inl ⟨by rfl, ?_⟩) ?_ ?_
          rotate_left
          ·
           intro w'
           go_simp
           with_reducible rfl
          rotate_left
          ·
           simp only [Act.put, List.setIfInBounds_toArray, List.set_cons_zero, List.set_cons_succ, i64_w, i32_w]
           rfl
          refine pure_ (i := 2) (N := some 41) (v := ?_) (a' := ?_) #[false, true, true, false, false, false, false, false] rfl rfl (any_of HT_.out (by kernel_rfl)) (fun _ _ _ h => h) (Or.inl ⟨by rfl, ?_⟩) ?_ ?_
          rotate_left
          ·
           intro w'
           go_simp
           with_reducible rfl
          rotate_left
          ·
           simp only [Act.put, List.setIfInBounds_toArray, List.set_cons_zero, List.set_cons_succ, i64_w, i32_w]
           rfl
          refine pure_ (i := 3) (N := some 42) (v := ?_) (a' := ?_) #[false, true, true, true, false, false, false, false] rfl rfl (any_of HT_.out (by kernel_rfl)) (fun _ _ _ h => h) (Or.inl ⟨by rfl, ?_⟩) ?_ ?_
          rotate_left
          ·
           intro w'
           go_simp
           with_reducible rfl
          rotate_left
          ·
           simp only [Act.put, List.setIfInBounds_toArray, List.set_cons_zero, List.set_cons_succ, i64_w, i32_w]
           rfl
          refine pure_ (i := 4) (N := some 43) (v := ?_) (a' := ?_) #[false, true, true, true, true, false, false, false] rfl rfl (any_of HT_.out (by kernel_rfl)) (fun _ _ _ h => h) (Or.inl ⟨by rfl, ?_⟩) ?_ ?_
          rotate_left
          ·
           intro w'
           go_simp
           with_reducible rfl
          rotate_left
          ·
           simp only [Act.put, List.setIfInBounds_toArray, List.set_cons_zero, List.set_cons_succ, i64_w, i32_w]
           rfl
          refine take_ (i := 0) (N := some 39) (v := ?_) (a' := ?_) #[true, true, true, true, true, false, false, false] rfl rfl (take_ofW HT_.out HW_.out (by kernel_rfl)) (fun _ _ _ h => h) (Or.inl ⟨by rfl, ?_⟩) hHeld ?_ ?_
          rotate_left
          ·
           rintro w' ⟨s0, s1, s2, s3, s4, s5⟩
           go_simp
           with_reducible rfl
          rotate_left
          ·
           simp only [Act.put, List.setIfInBounds_toArray, List.set_cons_zero, List.set_cons_succ, i64_w, i32_w]
           rfl
          refine take_ (i := 5) (N := some 44) (v := ?_) (a' := ?_) #[true, true, true, true, true, true, false, false] rfl rfl (take_ofW HT_.out HW_.out (by kernel_rfl)) (fun _ _ _ h => h) (Or.inl ⟨by rfl, ?_⟩) hHeld ?_ ?_
          rotate_left
          ·
           rintro w' ⟨s0, s1, s2, s3, s4, s5⟩
           go_simp
           with_reducible rfl
          rotate_left
          ·
           simp only [Act.put, List.setIfInBounds_toArray, List.set_cons_zero, List.set_cons_succ, i64_w, i32_w]
           rfl
          refine one_ (i := 6) (N := some 45) #[true, true, true, true, true, true, true, false] rfl rfl (one_of HT_.out (by kernel_rfl)) (by decide) (fun K hK => ?_)
          refine goes_ Tryd.func18 (by kernel_rfl) rfl #[.agg #[.int .i64 x348000_2, .slice Ao37 x348001_2.length co37, .slice Ao38 x348002_2.length co38], .int .u32 ((rd_T44 l0 x7_2).f1)] (by rfl) rfl rfl (by (try simp only [List.map_toArray, List.map_cons, List.map_nil]); first | done | rfl | (simp only [List.length_drop, List.length_take]; rfl)) ?_
          with_reducible refine (nuncioref13_Limit.calls k2 x348000_2 (fun k_ => some k_ = (.slice Ao37 x348001_2.length co37 : Value).ownBlock) (.slice Ao37 x348001_2.length co37) x348001_2 (fun k_ => some k_ = (.slice Ao38 x348002_2.length co38 : Value).ownBlock) (.slice Ao38 x348002_2.length co38) x348002_2 ((rd_T44 l0 x7_2).f1) t361 t362 t365 w _ ?side1 ?side2 ?side3 A34.out).mono ?_
          (case side1 => repeat (first | (with_reducible first | exact HB.out | apply below_alloc | apply pw_below_drewN | apply below_drew1 | refine below_set ?_ (IsS70.ge HI339.out) | refine below_set ?_ GE331.out | refine below_set ?_ GE347.out) | exact HB.out))
          (case side2 => exact Kd.R_tight rfl HO_348001.out)
          (case side3 => exact Kd.R_tight rfl HO_348002.out)
          rintro e w39 ⟨v363, v366, rfl, ho0, ho1, hb, hkp⟩
          refine ⟨_, rfl, ?_⟩
          have n0_ := Aside0.mk (blk_kept (by (with_reducible repeat (first | refine blk_drewN ?_ _ | refine blk_drew ?_ | refine blk_alloc ?_ _)); exact BK331.out) hkp (fun hs_ => Or.elim hs_ (fun e_ => (fun e_ => (Kd.R_ne HO_348001.out BK331.out (by decide)) e_) e_) (fun e_ => (fun e_ => (Kd.R_ne HO_348002.out BK331.out (by decide)) e_) e_)))
          have n1_ := Aside0.mk (blk_kept (by (with_reducible repeat (first | refine blk_drewN ?_ _ | refine blk_drew ?_ | refine blk_alloc ?_ _)); exact BK347.out) hkp (fun hs_ => Or.elim hs_ (fun e_ => (fun e_ => (Kd.R_ne HO_348001.out BK347.out (by decide)) e_) e_) (fun e_ => (fun e_ => (Kd.R_ne HO_348002.out BK347.out (by decide)) e_) e_)))
          have n2_ := Aside0.mk (IsS70.keptT (by repeat (first | (with_reducible first | exact HI339.out | apply IsS70.alloc | apply IsS70.drewN | apply IsS70.drew | refine IsS70.farT ?_ (by repeat (first | exact TyOf.mk BK331.out | apply TyOf.alloc | apply TyOf.drewN | apply TyOf.drew | apply TyOf.set)) (by decide) _ | refine IsS70.farT ?_ (by repeat (first | exact TyOf.mk BK347.out | apply TyOf.alloc | apply TyOf.drewN | apply TyOf.drew | apply TyOf.set)) (by decide) _) | exact HI339.out)) hkp (fun k_ hs_ => Or.elim hs_ (fun e_ => (fun e_ => ⟨88, by repeat (first | exact Kd.R_typed HO_348001.out _ e_.symm | apply TyOf.alloc | apply TyOf.drewN | apply TyOf.drew), by decide⟩) e_) (fun e_ => (fun e_ => ⟨3, by repeat (first | exact Kd.R_typed HO_348002.out _ e_.symm | apply TyOf.alloc | apply TyOf.drewN | apply TyOf.drew), by decide⟩) e_)))
          have n3_ := Aside0.mk (Kd.R_mono (ok' := fun k_ => True) ho0 (fun k_ hk_ => trivial))
          have n4_ := Aside0.mk (Kd.R_mono (ok' := fun k_ => True) ho1 (fun k_ hk_ => trivial))
          have n5_ := Aside0.mk (hb)
          clear BK331
          clear BK347
          clear HI339
          clear HB
          clear HO_348001
          clear HO_348002
          have BK331 := n0_
          have BK347 := n1_
          have HI339 := n2_
          have HO364 := n3_
          have HO367 := n4_
          have HB := n5_
          clear n0_ n1_ n2_ n3_ n4_ n5_
          (try clear hb)
          (try clear hkp)
          (try clear ho0)
          (try clear ho1)
          obtain ⟨Ao41, co41, eo41⟩ := Kd.R_slice HO364.out
          (first | subst eo41 | (injection eo41 with f1_ f2_ f3_; have f4_ := f1_.symm; have f5_ := f3_.symm; clear f1_ f2_ f3_; subst f4_; subst f5_))
          obtain ⟨Ao43, co43, eo43⟩ := Kd.R_slice HO367.out
          (first | subst eo43 | (injection eo43 with f1_ f2_ f3_; have f4_ := f1_.symm; have f5_ := f3_.symm; clear f1_ f2_ f3_; subst f4_; subst f5_))
          refine hK.out _ _ ⟨(blk_cell BK347.out 0).trans rfl, (blk_cell BK347.out 1).trans rfl, (blk_cell BK347.out 2).trans rfl, ((HB.out.cell (World.block_lt_of_cell? w _ hw360_0)).trans hw360_0), ((HB.out.cell (World.block_lt_of_cell? w _ hw360_1)).trans hw360_1), ((HB.out.cell (World.block_lt_of_cell? w _ hw360_2)).trans hw360_2)⟩ (fun hHeld => ?_)
          clear hK K
          refine norm_ (a' := ?_) ?_ ?_
          rotate_left
          ·
           show Act.put _ (some 45) _ = _
           simp only [Act.put, List.setIfInBounds_toArray, List.set_cons_zero, List.set_cons_succ, i64_w, i32_w]
           rfl
          refine last_ (i := 7) (N := none) #[true, true, true, true, true, true, true, true] rfl rfl (one_of HT_.out (by kernel_rfl)) (by decide) (fun K hK => ?_)
          have hs40 : w39.cell? ⟨gb347, 0, none⟩ = some (.int .i64 x348000_2) := (blk_cell BK347.out 0).trans rfl
          have hfs40 := blk_frozen BK347.out 0
          have hns40_0 := NB331_347.out
          have hms40_0 := NB347_331.out
          have hs42 : w39.cell? ⟨gb347, 1, none⟩ = some (.slice Ao37 x348001_2.length co37) := (blk_cell BK347.out 1).trans rfl
          have hfs42 := blk_frozen BK347.out 1
          have hns42_0 := NB331_347.out
          have hms42_0 := NB347_331.out
          have hs44 : w39.cell? ⟨gb347, 2, none⟩ = some (.slice Ao38 x348002_2.length co38) := (blk_cell BK347.out 2).trans rfl
          have hfs44 := blk_frozen BK347.out 2
          have hns44_0 := NB331_347.out
          have hms44_0 := NB347_331.out
          refine skip_ (w1 := ?_) (by rfl) rfl ?_ ?_
          rotate_left
          ·
           go_simp
           rfl
          refine hK.out _ _ ?_
          clear hK K
          refine done_ (done_of HT_.out (by kernel_rfl)) ?_
          try go_wp2
          go_roundg k2
          case measure => have := HJ4.out; have := HK2.out; omega
          case rel => exact ⟨(wrap64 (x7_2 + 1)), (t359), (t361), (t362), (t365), (.slice Ao41 t362.length co41), (.slice Ao43 t365.length co43), (by first | rfl | (simp; done) | (simp [*]; done)), H', ⟨by have := HJ4.out; have := HK2.out; omega⟩, ⟨by (with_reducible repeat (first | apply Kd.R_alloc | apply Kd.R_drewN | apply Kd.R_drew)); exact Kd.R_mono (Kd.R_far (p := ⟨gb347, 2, none⟩) (Kd.R_far (p := ⟨gb347, 1, none⟩) (Kd.R_far (p := ⟨gb347, 0, none⟩) (Kd.R_types HO364.out BK347.out (by decide)) (fun _ hk => hk.2) (.int .i64 t361)) (fun _ hk => hk.2) (.slice Ao41 t362.length co41)) (fun _ hk => hk.2) (.slice Ao43 t365.length co43)) (fun _ hk => trivial)⟩, ⟨by (with_reducible repeat (first | apply Kd.R_alloc | apply Kd.R_drewN | apply Kd.R_drew)); exact Kd.R_mono (Kd.R_far (p := ⟨gb347, 2, none⟩) (Kd.R_far (p := ⟨gb347, 1, none⟩) (Kd.R_far (p := ⟨gb347, 0, none⟩) (Kd.R_types HO367.out BK347.out (by decide)) (fun _ hk => hk.2) (.int .i64 t361)) (fun _ hk => hk.2) (.slice Ao41 t362.length co41)) (fun _ hk => hk.2) (.slice Ao43 t365.length co43)) (fun _ hk => trivial)⟩, ⟨by (with_reducible repeat (first | refine blk_drewN ?_ _ | refine blk_drew ?_ | refine blk_alloc ?_ _)); refine blk_far ?_ NB331_347.out _; (with_reducible repeat (first | refine blk_drewN ?_ _ | refine blk_drew ?_ | refine blk_alloc ?_ _)); refine blk_far ?_ NB331_347.out _; (with_reducible repeat (first | refine blk_drewN ?_ _ | refine blk_drew ?_ | refine blk_alloc ?_ _)); refine blk_far ?_ NB331_347.out _; (with_reducible repeat (first | refine blk_drewN ?_ _ | refine blk_drew ?_ | refine blk_alloc ?_ _)); exact BK331.out⟩, ⟨by (with_reducible repeat (first | refine blk_drewN ?_ _ | refine blk_drew ?_ | refine blk_alloc ?_ _)); refine blk_put (cs := #[.int .i64 t361, .slice Ao41 t362.length co41, .slice Ao38 x348002_2.length co38]) ?_ 2 _ rfl; (with_reducible repeat (first | refine blk_drewN ?_ _ | refine blk_drew ?_ | refine blk_alloc ?_ _)); refine blk_put (cs := #[.int .i64 t361, .slice Ao37 x348001_2.length co37, .slice Ao38 x348002_2.length co38]) ?_ 1 _ rfl; (with_reducible repeat (first | refine blk_drewN ?_ _ | refine blk_drew ?_ | refine blk_alloc ?_ _)); refine blk_put (cs := #[.int .i64 x348000_2, .slice Ao37 x348001_2.length co37, .slice Ao38 x348002_2.length co38]) ?_ 0 _ rfl; (with_reducible repeat (first | refine blk_drewN ?_ _ | refine blk_drew ?_ | refine blk_alloc ?_ _)); exact BK347.out⟩, ⟨by repeat (first | (with_reducible first | exact HI339.out | apply IsS70.alloc | apply IsS70.drewN | apply IsS70.drew | refine IsS70.farT ?_ (by repeat (first | exact TyOf.mk BK331.out | apply TyOf.alloc | apply TyOf.drewN | apply TyOf.drew | apply TyOf.set)) (by decide) _ | refine IsS70.farT ?_ (by repeat (first | exact TyOf.mk BK347.out | apply TyOf.alloc | apply TyOf.drewN | apply TyOf.drew | apply TyOf.set)) (by decide) _) | exact HI339.out)⟩, ⟨by repeat (first | (with_reducible first | exact HB.out | apply below_alloc | apply pw_below_drewN | apply below_drew1 | refine below_set ?_ (IsS70.ge HI339.out) | refine below_set ?_ GE331.out | refine below_set ?_ GE347.out) | exact HB.out)⟩⟩
         ·
          replace c32 := Bool.eq_false_iff.mpr c32
          subst c32
          have H1 : ((pack_Encoder_Write.f k2 x340000_2 ((rd_T44 l0 x7_2).f2)).bind fun bt369 => ((nuncioref13_Write.f k2 x348000_2 x348001_2 x348002_2 ((rd_T44 l0 x7_2).f2)).bind fun bt372 => (nunciolaw13_PackNever.l0 k2 l0 (wrap64 (x7_2 + 1)) a1_0 a1_1 a1_2 bt369.2 bt372.1 bt372.2.1 bt372.2.2.1))) = some r := by rw [if_neg (show ¬ (false = true) by decide)] at H; exact H
          clear H
          have H := H1
          clear H1
          replace H := Option.bind_eq_some_iff.mp H
          obtain ⟨⟨t369, t370⟩, A450, H⟩ := H
          replace H : ((nuncioref13_Write.f k2 x348000_2 x348001_2 x348002_2 ((rd_T44 l0 x7_2).f2)).bind fun bt372 => (nunciolaw13_PackNever.l0 k2 l0 (wrap64 (x7_2 + 1)) a1_0 a1_1 a1_2 t370 bt372.1 bt372.2.1 bt372.2.2.1)) = some r := H
          have A45 := Aside0.mk A450
          clear A450
          replace H := Option.bind_eq_some_iff.mp H
          obtain ⟨⟨t372, t373, t376, t379⟩, A460, H⟩ := H
          replace H : (nunciolaw13_PackNever.l0 k2 l0 (wrap64 (x7_2 + 1)) a1_0 a1_1 a1_2 t370 t372 t373 t376) = some r := H
          have A46 := Aside0.mk A460
          clear A460
          have H' := Aside0.mk H
          clear H
          have p357 : 0 ≤ (x7_2 : Int) := of_decide_eq_true (by first | (with_reducible assumption) | assumption)
          have q357 : x7_2 < (l0.length : Int) := of_decide_eq_true (by first | (with_reducible assumption) | assumption)
          obtain ⟨ad357, A357_2, c357_2, e357, hx357_0, hx357_1, hx357_2, hl357_2, hi357_2⟩ := at_T44 HR0.out x7_2 p357 q357
          (try rw [← Nbq31.out] at hx357_0)
          cases e357
          replace hx357_0 := (HB.out.cell (World.block_lt_of_cell? w _ hx357_0)).trans hx357_0
          replace hx357_1 := (HB.out.cell (World.block_lt_of_cell? w _ hx357_1)).trans hx357_1
          replace hx357_2 := (HB.out.cell (World.block_lt_of_cell? w _ hx357_2)).trans hx357_2
          have HR357_2 := Aside0.mk hi357_2
          have HC357_2 := Aside0.mk hl357_2
          clear hi357_2 hl357_2
          replace p357 := eq_true p357
          replace q357 := eq_true q357
          have p368 : 0 ≤ (x7_2 : Int) := of_decide_eq_true (by first | (with_reducible assumption) | assumption)
          have q368 : x7_2 < (l0.length : Int) := of_decide_eq_true (by first | (with_reducible assumption) | assumption)
          obtain ⟨ad368, A368_2, c368_2, e368, hx368_0, hx368_1, hx368_2, hl368_2, hi368_2⟩ := at_T44 HR0.out x7_2 p368 q368
          (try rw [← Nbq31.out] at hx368_0)
          obtain rfl : ad357 = ad368 := (by injection e368)
          replace hx368_0 := (HB.out.cell (World.block_lt_of_cell? w _ hx368_0)).trans hx368_0
          replace hx368_1 := (HB.out.cell (World.block_lt_of_cell? w _ hx368_1)).trans hx368_1
          replace hx368_2 := (HB.out.cell (World.block_lt_of_cell? w _ hx368_2)).trans hx368_2
          have HR368_2 := Aside0.mk hi368_2
          have HC368_2 := Aside0.mk hl368_2
          clear hi368_2 hl368_2
          replace p368 := eq_true p368
          replace q368 := eq_true q368
          have ea_ := Option.some.inj (hx357_2.symm.trans hx368_2)
          injection ea_ with ea_ en_ ec_
          subst ea_
          subst ec_
          clear en_
          try go_wp2_with (first | ((with_reducible refine gate_callee (f := 12) rfl ?_); refine goesL_ (some 52) rfl rfl Tryd.func12 (by kernel_rfl) rfl #[.pointer (some ⟨g339, 0, none⟩), .slice A357_2 ((rd_T44 l0 x7_2).f2).length c357_2] rfl (by (try simp only [List.map_toArray, List.map_cons, List.map_nil]); first | done | rfl | (simp only [List.length_drop, List.length_take]; rfl)) ?_; (with_reducible refine (pack_Encoder_Write.calls k2 g339 x340000_2 _ _ ((rd_T44 l0 x7_2).f2) t369 t370 w _ ?side1 ?side2 ?side3 ?side4 A45.out).mono ?_); (case side1 => repeat (first | (with_reducible first | exact HI339.out | apply IsS70.alloc | apply IsS70.drewN | apply IsS70.drew | refine IsS70.farT ?_ (by repeat (first | exact TyOf.mk BK331.out | apply TyOf.alloc | apply TyOf.drewN | apply TyOf.drew | apply TyOf.set)) (by decide) _ | refine IsS70.farT ?_ (by repeat (first | exact TyOf.mk BK347.out | apply TyOf.alloc | apply TyOf.drewN | apply TyOf.drew | apply TyOf.set)) (by decide) _) | exact HI339.out)); (case side2 => repeat (first | (with_reducible first | exact HB.out | apply below_alloc | apply pw_below_drewN | apply below_drew1 | refine below_set ?_ (IsS70.ge HI339.out) | refine below_set ?_ GE331.out | refine below_set ?_ GE347.out) | exact HB.out)); (case side3 => repeat (first | exact (Kd.C_below HR368_2.out HB.out) | (with_reducible refine Kd.C_alloc ?_ _) | (with_reducible refine Kd.C_drewN ?_ _) | (with_reducible refine Kd.C_drew ?_))); (case side4 => exact HC368_2.out); rintro e w47 ⟨rfl, hi, hb, hk⟩; refine ⟨_, rfl, ?_⟩; have n0_ := Aside0.mk (Kd.R_mono (Kd.R_keep2 (IsS70.apart (show IsS70 w _ g339 x340000_2 from by repeat (first | (with_reducible first | exact HI339.out | apply IsS70.alloc | apply IsS70.drewN | apply IsS70.drew | refine IsS70.farT ?_ (by repeat (first | exact TyOf.mk BK331.out | apply TyOf.alloc | apply TyOf.drewN | apply TyOf.drew | apply TyOf.set)) (by decide) _ | refine IsS70.farT ?_ (by repeat (first | exact TyOf.mk BK347.out | apply TyOf.alloc | apply TyOf.drewN | apply TyOf.drew | apply TyOf.set)) (by decide) _) | exact HI339.out)) (by (with_reducible repeat (first | apply Kd.R_alloc | apply Kd.R_drewN | apply Kd.R_drew)); exact HO_348001.out) (by decide)) hk (fun _ h => h.2)) (fun _ h => h.1)); have n1_ := Aside0.mk (Kd.R_mono (Kd.R_keep2 (IsS70.apart (show IsS70 w _ g339 x340000_2 from by repeat (first | (with_reducible first | exact HI339.out | apply IsS70.alloc | apply IsS70.drewN | apply IsS70.drew | refine IsS70.farT ?_ (by repeat (first | exact TyOf.mk BK331.out | apply TyOf.alloc | apply TyOf.drewN | apply TyOf.drew | apply TyOf.set)) (by decide) _ | refine IsS70.farT ?_ (by repeat (first | exact TyOf.mk BK347.out | apply TyOf.alloc | apply TyOf.drewN | apply TyOf.drew | apply TyOf.set)) (by decide) _) | exact HI339.out)) (by (with_reducible repeat (first | apply Kd.R_alloc | apply Kd.R_drewN | apply Kd.R_drew)); exact HO_348002.out) (by decide)) hk (fun _ h => h.2)) (fun _ h => h.1)); have n2_ := Aside0.mk (IsS70.blkK hk (show IsS70 w _ g339 x340000_2 from by repeat (first | (with_reducible first | exact HI339.out | apply IsS70.alloc | apply IsS70.drewN | apply IsS70.drew | refine IsS70.farT ?_ (by repeat (first | exact TyOf.mk BK331.out | apply TyOf.alloc | apply TyOf.drewN | apply TyOf.drew | apply TyOf.set)) (by decide) _ | refine IsS70.farT ?_ (by repeat (first | exact TyOf.mk BK347.out | apply TyOf.alloc | apply TyOf.drewN | apply TyOf.drew | apply TyOf.set)) (by decide) _) | exact HI339.out)) (g' := gb331) (o := .cells #[.string a1_0, .string a1_1, .bool a1_2] 26 (0, 0)) (by (with_reducible repeat (first | refine blk_drewN ?_ _ | refine blk_drew ?_ | refine blk_alloc ?_ _)); exact BK331.out) NB331_339.out rfl (by decide)); have n3_ := Aside0.mk (IsS70.blkK hk (show IsS70 w _ g339 x340000_2 from by repeat (first | (with_reducible first | exact HI339.out | apply IsS70.alloc | apply IsS70.drewN | apply IsS70.drew | refine IsS70.farT ?_ (by repeat (first | exact TyOf.mk BK331.out | apply TyOf.alloc | apply TyOf.drewN | apply TyOf.drew | apply TyOf.set)) (by decide) _ | refine IsS70.farT ?_ (by repeat (first | exact TyOf.mk BK347.out | apply TyOf.alloc | apply TyOf.drewN | apply TyOf.drew | apply TyOf.set)) (by decide) _) | exact HI339.out)) (g' := gb347) (o := .cells #[.int .i64 x348000_2, u348001, u348002] 40 (0, 0)) (by (with_reducible repeat (first | refine blk_drewN ?_ _ | refine blk_drew ?_ | refine blk_alloc ?_ _)); exact BK347.out) NB347_339.out rfl (by decide)); have n4_ := Aside0.mk (hb); have n5_ := Aside0.mk (hi); clear HO_348001; clear HO_348002; clear BK331; clear BK347; clear HB; clear HI339; have HO_348001 := n0_; have HO_348002 := n1_; have BK331 := n2_; have BK347 := n3_; have HB := n4_; have HI339 := n5_; clear n0_ n1_ n2_ n3_ n4_ n5_; (try clear hb); (try clear hb2); (try clear hk); (try clear hi)))
          have n0_ := Aside0.mk (Kd.R_drew HO_348001.out)
          have n1_ := Aside0.mk (Kd.R_drew HO_348002.out)
          have n2_ := Aside0.mk (blk_drew BK331.out)
          have n3_ := Aside0.mk (blk_drew BK347.out)
          have n4_ := Aside0.mk (IsS70.drew HI339.out)
          have n5_ := Aside0.mk (below_drew1 HB.out)
          clear HO_348001
          clear HO_348002
          clear BK331
          clear BK347
          clear HI339
          clear HB
          have HO_348001 := n0_
          have HO_348002 := n1_
          have BK331 := n2_
          have BK347 := n3_
          have HI339 := n4_
          have HB := n5_
          clear n0_ n1_ n2_ n3_ n4_ n5_
          have p371 : 0 ≤ (x7_2 : Int) := of_decide_eq_true (by first | (with_reducible assumption) | assumption)
          have q371 : x7_2 < (l0.length : Int) := of_decide_eq_true (by first | (with_reducible assumption) | assumption)
          obtain ⟨ad371, A371_2, c371_2, e371, hx371_0, hx371_1, hx371_2, hl371_2, hi371_2⟩ := at_T44 HR0.out x7_2 p371 q371
          have hw371_2 := hx371_2
          have hw371_1 := hx371_1
          have hw371_0 := hx371_0
          (try rw [← Nbq31.out] at hx371_0)
          (try rw [← Nbq31.out] at hw371_0)
          obtain rfl : ad357 = ad371 := (by injection e371)
          replace hx371_0 := (HB.out.cell (World.block_lt_of_cell? w _ hx371_0)).trans hx371_0
          replace hx371_1 := (HB.out.cell (World.block_lt_of_cell? w _ hx371_1)).trans hx371_1
          replace hx371_2 := (HB.out.cell (World.block_lt_of_cell? w _ hx371_2)).trans hx371_2
          have HR371_2 := Aside0.mk hi371_2
          have HC371_2 := Aside0.mk hl371_2
          clear hi371_2 hl371_2
          replace p371 := eq_true p371
          replace q371 := eq_true q371
          obtain ⟨Ao49, co49, eo49⟩ := Kd.R_slice HO_348001.out
          (first | subst eo49 | (injection eo49 with f1_ f2_ f3_; have f4_ := f1_.symm; have f5_ := f3_.symm; clear f1_ f2_ f3_; subst f4_; subst f5_))
          obtain ⟨Ao50, co50, eo50⟩ := Kd.R_slice HO_348002.out
          (first | subst eo50 | (injection eo50 with f1_ f2_ f3_; have f4_ := f1_.symm; have f5_ := f3_.symm; clear f1_ f2_ f3_; subst f4_; subst f5_))
          refine start_ (n := 11) (S := fun w' => w'.cell? ⟨gb347, 0, none⟩ = some (.int .i64 x348000_2) ∧ w'.cell? ⟨gb347, 1, none⟩ = some (.slice Ao49 x348001_2.length co49) ∧ w'.cell? ⟨gb347, 2, none⟩ = some (.slice Ao50 x348002_2.length co50) ∧ w'.cell? (ad357.add ((x7_2).toNat * 3)) = some (.bool (false)) ∧ w'.cell? ⟨(ad357.add ((x7_2).toNat * 3)).block, (ad357.add ((x7_2).toNat * 3)).off + 1, none⟩ = some (.int .u32 ((rd_T44 l0 x7_2).f1)) ∧ w'.cell? ⟨(ad357.add ((x7_2).toNat * 3)).block, (ad357.add ((x7_2).toNat * 3)).off + 2, none⟩ = some (.slice A371_2 ((rd_T44 l0 x7_2).f2).length c371_2)) (ds := [10]) #[false, false, false, false, false, false, false, false, false, false, false] (by kernel_rfl) rfl rfl ⟨(blk_cell BK347.out 0).trans rfl, (blk_cell BK347.out 1).trans rfl, (blk_cell BK347.out 2).trans rfl, ((HB.out.cell (World.block_lt_of_cell? w _ hw371_0)).trans hw371_0), ((HB.out.cell (World.block_lt_of_cell? w _ hw371_1)).trans hw371_1), ((HB.out.cell (World.block_lt_of_cell? w _ hw371_2)).trans hw371_2)⟩ (fun hHeld => ?_); refine with_tabW nunciolaw13_PackNever.tab14 nunciolaw13_PackNever.bits14 (fun HT_ HW_ => ?_)
          generalize w47.drew = w48 at HO_348001 HO_348002 BK331 BK347 HI339 HB HR371_2 hx371_0 hx371_1 hx371_2 hHeld ⊢
          refine pure_ (i := 1) (N := some 55) (v := ?_) (a' := ?_) #[false, true, false, false, false, false, false, false, false, false, false] rfl rfl (any_of HT_.out (by kernel_rfl)) (fun _ _ _ h => h) (Or.inl ⟨by rfl, ?_⟩) ?_ ?_
          rotate_left
          ·
           intro w'
           go_simp
           with_reducible rfl
          rotate_left
          ·
           simp only [Act.put, List.setIfInBounds_toArray, List.set_cons_zero, List.set_cons_succ, i64_w, i32_w]
           rfl
          refine pure_ (i := 2) (N := some 56) (v := ?_) (a' := ?_) #[false, true, true, false, false, false, false, false, false, false, false] rfl rfl (any_of HT_.out (by kernel_rfl)) (fun _ _ _ h => h) (Or.inl ⟨by rfl, ?_⟩) ?_ ?_
          rotate_left
          ·
           intro w'
           go_simp
           with_reducible rfl
          rotate_left
          ·
           simp only [Act.put, List.setIfInBounds_toArray, List.set_cons_zero, List.set_cons_succ, i64_w, i32_w]
           rfl
          refine pure_ (i := 3) (N := some 57) (v := ?_) (a' := ?_) #[false, true, true, true, false, false, false, false, false, false, false] rfl rfl (any_of HT_.out (by kernel_rfl)) (fun _ _ _ h => h) (Or.inl ⟨by rfl, ?_⟩) ?_ ?_
          rotate_left
          ·
           intro w'
           go_simp
           with_reducible rfl
          rotate_left
          ·
           simp only [Act.put, List.setIfInBounds_toArray, List.set_cons_zero, List.set_cons_succ, i64_w, i32_w]
           rfl
          refine pure_ (i := 4) (N := some 58) (v := ?_) (a' := ?_) #[false, true, true, true, true, false, false, false, false, false, false] rfl rfl (any_of HT_.out (by kernel_rfl)) (fun _ _ _ h => h) (Or.inl ⟨by rfl, ?_⟩) ?_ ?_
          rotate_left
          ·
           intro w'
           go_simp
           with_reducible rfl
          rotate_left
          ·
           simp only [Act.put, List.setIfInBounds_toArray, List.set_cons_zero, List.set_cons_succ, i64_w, i32_w]
           rfl
          refine take_ (i := 0) (N := some 54) (v := ?_) (a' := ?_) #[true, true, true, true, true, false, false, false, false, false, false] rfl rfl (take_ofW HT_.out HW_.out (by kernel_rfl)) (fun _ _ _ h => h) (Or.inl ⟨by rfl, ?_⟩) hHeld ?_ ?_
          rotate_left
          ·
           rintro w' ⟨s0, s1, s2, s3, s4, s5⟩
           go_simp
           with_reducible rfl
          rotate_left
          ·
           simp only [Act.put, List.setIfInBounds_toArray, List.set_cons_zero, List.set_cons_succ, i64_w, i32_w]
           rfl
          refine take_ (i := 5) (N := some 59) (v := ?_) (a' := ?_) #[true, true, true, true, true, true, false, false, false, false, false] rfl rfl (take_ofW HT_.out HW_.out (by kernel_rfl)) (fun _ _ _ h => h) (Or.inl ⟨by rfl, ?_⟩) hHeld ?_ ?_
          rotate_left
          ·
           rintro w' ⟨s0, s1, s2, s3, s4, s5⟩
           go_simp
           with_reducible rfl
          rotate_left
          ·
           simp only [Act.put, List.setIfInBounds_toArray, List.set_cons_zero, List.set_cons_succ, i64_w, i32_w]
           rfl
          refine one_ (i := 6) (N := some 60) #[true, true, true, true, true, true, true, false, false, false, false] rfl rfl (one_of HT_.out (by kernel_rfl)) (by decide) (fun K hK => ?_)
          refine goes_ Tryd.func19 (by kernel_rfl) rfl #[.agg #[.int .i64 x348000_2, .slice Ao49 x348001_2.length co49, .slice Ao50 x348002_2.length co50], .slice A371_2 ((rd_T44 l0 x7_2).f2).length c371_2] (by rfl) rfl rfl (by (try simp only [List.map_toArray, List.map_cons, List.map_nil]); first | done | rfl | (simp only [List.length_drop, List.length_take]; rfl)) ?_
          with_reducible refine (nuncioref13_Write.calls k2 x348000_2 (fun k_ => some k_ = (.slice Ao49 x348001_2.length co49 : Value).ownBlock) (.slice Ao49 x348001_2.length co49) x348001_2 (fun k_ => some k_ = (.slice Ao50 x348002_2.length co50 : Value).ownBlock) (.slice Ao50 x348002_2.length co50) x348002_2 _ _ ((rd_T44 l0 x7_2).f2) t372 t373 t376 t379 w _ ?side1 ?side2 ?side3 ?side4 ?side5 A46.out).mono ?_
          (case side1 => repeat (first | (with_reducible first | exact HB.out | apply below_alloc | apply pw_below_drewN | apply below_drew1 | refine below_set ?_ (IsS70.ge HI339.out) | refine below_set ?_ GE331.out | refine below_set ?_ GE347.out) | exact HB.out))
          (case side2 => exact Kd.R_tight rfl HO_348001.out)
          (case side3 => exact Kd.R_tight rfl HO_348002.out)
          (case side4 => exact Kd.C_kept_came k26_heap HR371_2.out (by repeat (first | (with_reducible first | exact HB.out | apply below_alloc | apply pw_below_drewN | apply below_drew1 | refine below_set ?_ (IsS70.ge HI339.out) | refine below_set ?_ GE331.out | refine below_set ?_ GE347.out) | exact HB.out)) (fun k_ hs_ => Or.elim hs_ (fun e_ => (fun e_ => Kd.R_base HO_348001.out k_ e_.symm) e_) (fun e_ => (fun e_ => Kd.R_base HO_348002.out k_ e_.symm) e_)))
          (case side5 => exact HC371_2.out)
          rintro e w51 ⟨v374, v377, rfl, ho0, ho1, hb, hkp⟩
          refine ⟨_, rfl, ?_⟩
          have n0_ := Aside0.mk (blk_kept (by (with_reducible repeat (first | refine blk_drewN ?_ _ | refine blk_drew ?_ | refine blk_alloc ?_ _)); exact BK331.out) hkp (fun hs_ => Or.elim hs_ (fun e_ => (fun e_ => (Kd.R_ne HO_348001.out BK331.out (by decide)) e_) e_) (fun e_ => (fun e_ => (Kd.R_ne HO_348002.out BK331.out (by decide)) e_) e_)))
          have n1_ := Aside0.mk (blk_kept (by (with_reducible repeat (first | refine blk_drewN ?_ _ | refine blk_drew ?_ | refine blk_alloc ?_ _)); exact BK347.out) hkp (fun hs_ => Or.elim hs_ (fun e_ => (fun e_ => (Kd.R_ne HO_348001.out BK347.out (by decide)) e_) e_) (fun e_ => (fun e_ => (Kd.R_ne HO_348002.out BK347.out (by decide)) e_) e_)))
          have n2_ := Aside0.mk (IsS70.keptT (by repeat (first | (with_reducible first | exact HI339.out | apply IsS70.alloc | apply IsS70.drewN | apply IsS70.drew | refine IsS70.farT ?_ (by repeat (first | exact TyOf.mk BK331.out | apply TyOf.alloc | apply TyOf.drewN | apply TyOf.drew | apply TyOf.set)) (by decide) _ | refine IsS70.farT ?_ (by repeat (first | exact TyOf.mk BK347.out | apply TyOf.alloc | apply TyOf.drewN | apply TyOf.drew | apply TyOf.set)) (by decide) _) | exact HI339.out)) hkp (fun k_ hs_ => Or.elim hs_ (fun e_ => (fun e_ => ⟨88, by repeat (first | exact Kd.R_typed HO_348001.out _ e_.symm | apply TyOf.alloc | apply TyOf.drewN | apply TyOf.drew), by decide⟩) e_) (fun e_ => (fun e_ => ⟨3, by repeat (first | exact Kd.R_typed HO_348002.out _ e_.symm | apply TyOf.alloc | apply TyOf.drewN | apply TyOf.drew), by decide⟩) e_)))
          have n3_ := Aside0.mk (Kd.R_mono (ok' := fun k_ => True) ho0 (fun k_ hk_ => trivial))
          have n4_ := Aside0.mk (Kd.R_mono (ok' := fun k_ => True) ho1 (fun k_ hk_ => trivial))
          have n5_ := Aside0.mk (hb)
          clear BK331
          clear BK347
          clear HI339
          clear HB
          clear HO_348001
          clear HO_348002
          have BK331 := n0_
          have BK347 := n1_
          have HI339 := n2_
          have HO375 := n3_
          have HO378 := n4_
          have HB := n5_
          clear n0_ n1_ n2_ n3_ n4_ n5_
          (try clear hb)
          (try clear hkp)
          (try clear ho0)
          (try clear ho1)
          obtain ⟨Ao53, co53, eo53⟩ := Kd.R_slice HO375.out
          (first | subst eo53 | (injection eo53 with f1_ f2_ f3_; have f4_ := f1_.symm; have f5_ := f3_.symm; clear f1_ f2_ f3_; subst f4_; subst f5_))
          obtain ⟨Ao55, co55, eo55⟩ := Kd.R_slice HO378.out
          (first | subst eo55 | (injection eo55 with f1_ f2_ f3_; have f4_ := f1_.symm; have f5_ := f3_.symm; clear f1_ f2_ f3_; subst f4_; subst f5_))
          refine hK.out _ _ ⟨(blk_cell BK347.out 0).trans rfl, (blk_cell BK347.out 1).trans rfl, (blk_cell BK347.out 2).trans rfl, ((HB.out.cell (World.block_lt_of_cell? w _ hw371_0)).trans hw371_0), ((HB.out.cell (World.block_lt_of_cell? w _ hw371_1)).trans hw371_1), ((HB.out.cell (World.block_lt_of_cell? w _ hw371_2)).trans hw371_2)⟩ (fun hHeld => ?_)
          clear hK K
          refine norm_ (a' := ?_) ?_ ?_
          rotate_left
          ·
           show Act.put _ (some 60) _ = _
           simp only [Act.put, List.setIfInBounds_toArray, List.set_cons_zero, List.set_cons_succ, i64_w, i32_w]
           rfl
          refine pure_ (i := 7) (N := some 53) (v := ?_) (a' := ?_) #[true, true, true, true, true, true, true, true, false, false, false] rfl rfl (any_of HT_.out (by kernel_rfl)) (fun _ _ _ h => h) (Or.inl ⟨by rfl, ?_⟩) ?_ ?_
          rotate_left
          ·
           intro w'
           go_simp
           with_reducible rfl
          rotate_left
          ·
           simp only [Act.put, List.setIfInBounds_toArray, List.set_cons_zero, List.set_cons_succ, i64_w, i32_w]
           rfl
          refine pure_ (i := 8) (N := some 61) (v := ?_) (a' := ?_) #[true, true, true, true, true, true, true, true, true, false, false] rfl rfl (any_of HT_.out (by kernel_rfl)) (fun _ _ _ h => h) (Or.inl ⟨by rfl, ?_⟩) ?_ ?_
          rotate_left
          ·
           intro w'
           go_simp
           with_reducible rfl
          rotate_left
          ·
           simp only [Act.put, List.setIfInBounds_toArray, List.set_cons_zero, List.set_cons_succ, i64_w, i32_w]
           rfl
          refine pure_ (i := 9) (N := some 62) (v := ?_) (a' := ?_) #[true, true, true, true, true, true, true, true, true, true, false] rfl rfl (any_of HT_.out (by kernel_rfl)) (fun _ _ _ h => h) (Or.inl ⟨by rfl, ?_⟩) ?_ ?_
          rotate_left
          ·
           intro w'
           go_simp
           with_reducible rfl
          rotate_left
          ·
           simp only [Act.put, List.setIfInBounds_toArray, List.set_cons_zero, List.set_cons_succ, i64_w, i32_w]
           rfl
          refine last_ (i := 10) (N := none) #[true, true, true, true, true, true, true, true, true, true, true] rfl rfl (one_of HT_.out (by kernel_rfl)) (by decide) (fun K hK => ?_)
          have hs52 : w51.cell? ⟨gb347, 0, none⟩ = some (.int .i64 x348000_2) := (blk_cell BK347.out 0).trans rfl
          have hfs52 := blk_frozen BK347.out 0
          have hns52_0 := NB331_347.out
          have hms52_0 := NB347_331.out
          have hs54 : w51.cell? ⟨gb347, 1, none⟩ = some (.slice Ao49 x348001_2.length co49) := (blk_cell BK347.out 1).trans rfl
          have hfs54 := blk_frozen BK347.out 1
          have hns54_0 := NB331_347.out
          have hms54_0 := NB347_331.out
          have hs56 : w51.cell? ⟨gb347, 2, none⟩ = some (.slice Ao50 x348002_2.length co50) := (blk_cell BK347.out 2).trans rfl
          have hfs56 := blk_frozen BK347.out 2
          have hns56_0 := NB331_347.out
          have hms56_0 := NB347_331.out
          refine skip_ (w1 := ?_) (by rfl) rfl ?_ ?_
          rotate_left
          ·
           go_simp
           rfl
          refine hK.out _ _ ?_
          clear hK K
          refine done_ (done_of HT_.out (by kernel_rfl)) ?_
          try go_wp2
          go_roundg k2
          case measure => have := HJ4.out; have := HK2.out; omega
          case rel => exact ⟨(wrap64 (x7_2 + 1)), (t370), (t372), (t373), (t376), (.slice Ao53 t373.length co53), (.slice Ao55 t376.length co55), (by first | rfl | (simp; done) | (simp [*]; done)), H', ⟨by have := HJ4.out; have := HK2.out; omega⟩, ⟨by (with_reducible repeat (first | apply Kd.R_alloc | apply Kd.R_drewN | apply Kd.R_drew)); exact Kd.R_mono (Kd.R_far (p := ⟨gb347, 2, none⟩) (Kd.R_far (p := ⟨gb347, 1, none⟩) (Kd.R_far (p := ⟨gb347, 0, none⟩) (Kd.R_types HO375.out BK347.out (by decide)) (fun _ hk => hk.2) (.int .i64 t372)) (fun _ hk => hk.2) (.slice Ao53 t373.length co53)) (fun _ hk => hk.2) (.slice Ao55 t376.length co55)) (fun _ hk => trivial)⟩, ⟨by (with_reducible repeat (first | apply Kd.R_alloc | apply Kd.R_drewN | apply Kd.R_drew)); exact Kd.R_mono (Kd.R_far (p := ⟨gb347, 2, none⟩) (Kd.R_far (p := ⟨gb347, 1, none⟩) (Kd.R_far (p := ⟨gb347, 0, none⟩) (Kd.R_types HO378.out BK347.out (by decide)) (fun _ hk => hk.2) (.int .i64 t372)) (fun _ hk => hk.2) (.slice Ao53 t373.length co53)) (fun _ hk => hk.2) (.slice Ao55 t376.length co55)) (fun _ hk => trivial)⟩, ⟨by (with_reducible repeat (first | refine blk_drewN ?_ _ | refine blk_drew ?_ | refine blk_alloc ?_ _)); refine blk_far ?_ NB331_347.out _; (with_reducible repeat (first | refine blk_drewN ?_ _ | refine blk_drew ?_ | refine blk_alloc ?_ _)); refine blk_far ?_ NB331_347.out _; (with_reducible repeat (first | refine blk_drewN ?_ _ | refine blk_drew ?_ | refine blk_alloc ?_ _)); refine blk_far ?_ NB331_347.out _; (with_reducible repeat (first | refine blk_drewN ?_ _ | refine blk_drew ?_ | refine blk_alloc ?_ _)); exact BK331.out⟩, ⟨by (with_reducible repeat (first | refine blk_drewN ?_ _ | refine blk_drew ?_ | refine blk_alloc ?_ _)); refine blk_put (cs := #[.int .i64 t372, .slice Ao53 t373.length co53, .slice Ao50 x348002_2.length co50]) ?_ 2 _ rfl; (with_reducible repeat (first | refine blk_drewN ?_ _ | refine blk_drew ?_ | refine blk_alloc ?_ _)); refine blk_put (cs := #[.int .i64 t372, .slice Ao49 x348001_2.length co49, .slice Ao50 x348002_2.length co50]) ?_ 1 _ rfl; (with_reducible repeat (first | refine blk_drewN ?_ _ | refine blk_drew ?_ | refine blk_alloc ?_ _)); refine blk_put (cs := #[.int .i64 x348000_2, .slice Ao49 x348001_2.length co49, .slice Ao50 x348002_2.length co50]) ?_ 0 _ rfl; (with_reducible repeat (first | refine blk_drewN ?_ _ | refine blk_drew ?_ | refine blk_alloc ?_ _)); exact BK347.out⟩, ⟨by repeat (first | (with_reducible first | exact HI339.out | apply IsS70.alloc | apply IsS70.drewN | apply IsS70.drew | refine IsS70.farT ?_ (by repeat (first | exact TyOf.mk BK331.out | apply TyOf.alloc | apply TyOf.drewN | apply TyOf.drew | apply TyOf.set)) (by decide) _ | refine IsS70.farT ?_ (by repeat (first | exact TyOf.mk BK347.out | apply TyOf.alloc | apply TyOf.drewN | apply TyOf.drew | apply TyOf.set)) (by decide) _) | exact HI339.out)⟩, ⟨by repeat (first | (with_reducible first | exact HB.out | apply below_alloc | apply pw_below_drewN | apply below_drew1 | refine below_set ?_ (IsS70.ge HI339.out) | refine below_set ?_ GE331.out | refine below_set ?_ GE347.out) | exact HB.out)⟩⟩
        ·
         rw [if_neg c30] at H
         exact absurd H (by simp)
       ·
        rw [if_neg c29] at H
        have c29b0 : decide (x7_2 < (l0.length : Int)) = false := decide_eq_false c29
        clear c29
        obtain ⟨y348, hy348⟩ : ∃ y_ : List (S26), y_ = (([(⟨a1_0, a1_1, true⟩ : S26)] : List (S26))) := ⟨_, rfl⟩
        replace H : ((pack_Encoder_Write.f k2 x340000_2 y348).bind fun bt351 => ((pack_Encoder_Table.f bt351.2).bind fun t353 => ((nunciolaw12_Tells.f k2 t353 x348000_2 x348001_2).bind fun bt355 => (some bt355.1)))) = some r := by first | (rw [hy348]; with_reducible exact H) | (have H2_ := (Option.bind_some _ _).symm.trans H; rw [hy348]; with_reducible exact H2_) | (have H2_ := (Option.bind_some _ _).symm.trans H; with_reducible exact H2_) | with_reducible exact H | (rw [hy348]; exact H) | exact H
        have Ny348 := Aside0.mk hy348
        clear hy348
        replace H := Option.bind_eq_some_iff.mp H
        obtain ⟨⟨t351, t352⟩, A570, H⟩ := H
        replace H : ((pack_Encoder_Table.f t352).bind fun t353 => ((nunciolaw12_Tells.f k2 t353 x348000_2 x348001_2).bind fun bt355 => (some bt355.1))) = some r := H
        have A57 := Aside0.mk A570
        clear A570
        replace H := Option.bind_eq_some_iff.mp H
        obtain ⟨t353, A580, H⟩ := H
        replace H : ((nunciolaw12_Tells.f k2 t353 x348000_2 x348001_2).bind fun bt355 => (some bt355.1)) = some r := H
        have A58 := Aside0.mk A580
        clear A580
        replace H := Option.bind_eq_some_iff.mp H
        obtain ⟨⟨t355, t356⟩, A590, H⟩ := H
        replace H : (some t355) = some r := H
        have A59 := Aside0.mk A590
        clear A590
        obtain rfl := Option.some.inj H
        have hnb60 := NB331_347.out
        have hnc60 := NB347_331.out
        have hnb61 := NB331_339.out
        have hnc61 := NB339_331.out
        have hcz62_0 : wr.cell? ⟨gb331, 0, none⟩ = some (.string a1_0) := (blk_cell BK331.out 0).trans rfl
        have hcz62_1 : wr.cell? ⟨gb331, 1, none⟩ = some (.string a1_1) := (blk_cell BK331.out 1).trans rfl
        have hcz62_2 : wr.cell? ⟨gb331, 2, none⟩ = some (.bool a1_2) := (blk_cell BK331.out 2).trans rfl
        have hfz62_0 := blk_frozen BK331.out 0
        have hfz62_1 := blk_frozen BK331.out 1
        have hfz62_2 := blk_frozen BK331.out 2
        try go_wp2_with (first | ((with_reducible refine gate_dst (N := 66) rfl ?_); (try (refine gate_guard (by rfl) ?_; dsimp only)); refine Kd.R_lit k26 _ 26 ?hg (N := 66) ?hd (xs := ([(⟨a1_0, a1_1, true⟩ : S26)] : List (S26))) (inner := [.string a1_0, .string a1_1, .bool true]) (ok := fun _ => True) (okp := fun _ => True) ?hr ?hp (fun _ hk => hk) trivial (Below.refl _ _) (Nat.le_refl _) (by simp) ?_; (case hd => rfl); (case hg => rfl); (case hr => first | (go_simp; done) | (go_simp; rfl)); (case hp => exact (Reps.c3 (show Kd.M k26 _ _ _ (⟨a1_0, a1_1, true⟩ : S26) [.string a1_0, .string a1_1, .bool true] from (k26_mkM _ _ _ (⟨a1_0, a1_1, true⟩ : S26) )) (Reps.none _ _))); intro v349 w63 ho64 hb hg_ hnew_; clear hg_ hnew_; (first | rw [← Ny348.out] at ho64 | (simp only [Int.reduceToNat] at ho64; rw [← Ny348.out] at ho64)); have n0_ := Aside0.mk (Kd.R_below (by (with_reducible repeat (first | apply Kd.R_alloc | apply Kd.R_drewN | apply Kd.R_drew)); exact (Kd.R_mono (Kd.R_far (p := ⟨gb331, 2, none⟩) (Kd.R_types HO_348001.out BK331.out (by decide)) (fun _ hk => hk.2) (.bool true)) (fun _ h_ => h_.1))) hb); have n1_ := Aside0.mk (Kd.R_below (by (with_reducible repeat (first | apply Kd.R_alloc | apply Kd.R_drewN | apply Kd.R_drew)); exact (Kd.R_mono (Kd.R_far (p := ⟨gb331, 2, none⟩) (Kd.R_types HO_348002.out BK331.out (by decide)) (fun _ hk => hk.2) (.bool true)) (fun _ h_ => h_.1))) hb); have n2_ := Aside0.mk (Kd.R_lower (Kd.R_newB ho64 (g := gb331) (o := .cells #[.string a1_0, .string a1_1, .bool true] 26 (0, 0)) (by (with_reducible repeat (first | refine blk_drewN ?_ _ | refine blk_drew ?_ | refine blk_alloc ?_ _)); refine blk_put (cs := #[.string a1_0, .string a1_1, .bool a1_2]) ?_ 2 _ rfl; (with_reducible repeat (first | refine blk_drewN ?_ _ | refine blk_drew ?_ | refine blk_alloc ?_ _)); exact BK331.out)) (below_size (by repeat (first | (with_reducible first | exact HB.out | apply below_alloc | apply pw_below_drewN | apply below_drew1 | refine below_set ?_ (IsS70.ge HI339.out) | refine below_set ?_ GE331.out | refine below_set ?_ GE347.out) | exact HB.out)))); have n3_ := Aside0.mk (blk_below (g := gb331) (o := .cells #[.string a1_0, .string a1_1, .bool true] 26 (0, 0)) (by (with_reducible repeat (first | refine blk_drewN ?_ _ | refine blk_drew ?_ | refine blk_alloc ?_ _)); refine blk_put (cs := #[.string a1_0, .string a1_1, .bool a1_2]) ?_ 2 _ rfl; (with_reducible repeat (first | refine blk_drewN ?_ _ | refine blk_drew ?_ | refine blk_alloc ?_ _)); exact BK331.out) hb); have n4_ := Aside0.mk (blk_below (g := gb347) (o := .cells #[.int .i64 x348000_2, u348001, u348002] 40 (0, 0)) (by (with_reducible repeat (first | refine blk_drewN ?_ _ | refine blk_drew ?_ | refine blk_alloc ?_ _)); refine blk_far ?_ NB347_331.out _; (with_reducible repeat (first | refine blk_drewN ?_ _ | refine blk_drew ?_ | refine blk_alloc ?_ _)); exact BK347.out) hb); have n5_ := Aside0.mk (IsS70.below (show IsS70 w (wr.setCell ⟨gb331, 2, none⟩ (.bool true)) g339 x340000_2 from by repeat (first | (with_reducible first | exact HI339.out | apply IsS70.alloc | apply IsS70.drewN | apply IsS70.drew | refine IsS70.farT ?_ (by repeat (first | exact TyOf.mk BK331.out | apply TyOf.alloc | apply TyOf.drewN | apply TyOf.drew | apply TyOf.set)) (by decide) _ | refine IsS70.farT ?_ (by repeat (first | exact TyOf.mk BK347.out | apply TyOf.alloc | apply TyOf.drewN | apply TyOf.drew | apply TyOf.set)) (by decide) _) | exact HI339.out)) hb); have n6_ := Aside0.mk (below_step (by repeat (first | (with_reducible first | exact HB.out | apply below_alloc | apply pw_below_drewN | apply below_drew1 | refine below_set ?_ (IsS70.ge HI339.out) | refine below_set ?_ GE331.out | refine below_set ?_ GE347.out) | exact HB.out)) hb); clear HO_348001; clear HO_348002; clear BK331; clear BK347; clear HI339; clear HB; have HO_348001 := n0_; have HO_348002 := n1_; have HO350 := n2_; have BK331 := n3_; have BK347 := n4_; have HI339 := n5_; have HB := n6_; clear n0_ n1_ n2_ n3_ n4_ n5_ n6_; clear hb ho64; obtain ⟨Ao65, co65, eo65⟩ := Kd.R_slice HO350.out; subst eo65) | ((with_reducible refine gate_callee (f := 12) rfl ?_); refine goesL_ (some 67) rfl rfl Tryd.func12 (by kernel_rfl) rfl #[.pointer (some ⟨g339, 0, none⟩), .slice Ao65 y348.length co65] rfl (by (try simp only [List.map_toArray, List.map_cons, List.map_nil]); first | done | rfl | (simp only [List.length_drop, List.length_take]; rfl)) ?_; (with_reducible refine (pack_Encoder_Write.calls k2 g339 x340000_2 _ _ y348 t351 t352 w _ ?side1 ?side2 ?side3 ?side4 A57.out).mono ?_); (case side1 => repeat (first | (with_reducible first | exact HI339.out | apply IsS70.alloc | apply IsS70.drewN | apply IsS70.drew | refine IsS70.farT ?_ (by repeat (first | exact TyOf.mk BK331.out | apply TyOf.alloc | apply TyOf.drewN | apply TyOf.drew | apply TyOf.set)) (by decide) _ | refine IsS70.farT ?_ (by repeat (first | exact TyOf.mk BK347.out | apply TyOf.alloc | apply TyOf.drewN | apply TyOf.drew | apply TyOf.set)) (by decide) _) | exact HI339.out)); (case side2 => repeat (first | (with_reducible first | exact HB.out | apply below_alloc | apply pw_below_drewN | apply below_drew1 | refine below_set ?_ (IsS70.ge HI339.out) | refine below_set ?_ GE331.out | refine below_set ?_ GE347.out) | exact HB.out)); (case side3 => repeat (first | exact (Kd.R_reads' HO350.out).2.2 | (with_reducible refine Kd.C_alloc ?_ _) | (with_reducible refine Kd.C_drewN ?_ _) | (with_reducible refine Kd.C_drew ?_))); (case side4 => exact (Kd.R_reads' HO350.out).2.1); rintro e w66 ⟨rfl, hi, hb, hk⟩; refine ⟨_, rfl, ?_⟩; have n0_ := Aside0.mk (Kd.R_mono (Kd.R_keep2 (IsS70.apart (show IsS70 w _ g339 x340000_2 from by repeat (first | (with_reducible first | exact HI339.out | apply IsS70.alloc | apply IsS70.drewN | apply IsS70.drew | refine IsS70.farT ?_ (by repeat (first | exact TyOf.mk BK331.out | apply TyOf.alloc | apply TyOf.drewN | apply TyOf.drew | apply TyOf.set)) (by decide) _ | refine IsS70.farT ?_ (by repeat (first | exact TyOf.mk BK347.out | apply TyOf.alloc | apply TyOf.drewN | apply TyOf.drew | apply TyOf.set)) (by decide) _) | exact HI339.out)) (by (with_reducible repeat (first | apply Kd.R_alloc | apply Kd.R_drewN | apply Kd.R_drew)); exact HO_348001.out) (by decide)) hk (fun _ h => h.2)) (fun _ h => h.1)); have n1_ := Aside0.mk (Kd.R_mono (Kd.R_keep2 (IsS70.apart (show IsS70 w _ g339 x340000_2 from by repeat (first | (with_reducible first | exact HI339.out | apply IsS70.alloc | apply IsS70.drewN | apply IsS70.drew | refine IsS70.farT ?_ (by repeat (first | exact TyOf.mk BK331.out | apply TyOf.alloc | apply TyOf.drewN | apply TyOf.drew | apply TyOf.set)) (by decide) _ | refine IsS70.farT ?_ (by repeat (first | exact TyOf.mk BK347.out | apply TyOf.alloc | apply TyOf.drewN | apply TyOf.drew | apply TyOf.set)) (by decide) _) | exact HI339.out)) (by (with_reducible repeat (first | apply Kd.R_alloc | apply Kd.R_drewN | apply Kd.R_drew)); exact HO_348002.out) (by decide)) hk (fun _ h => h.2)) (fun _ h => h.1)); have n2_ := Aside0.mk (IsS70.blkK hk (show IsS70 w _ g339 x340000_2 from by repeat (first | (with_reducible first | exact HI339.out | apply IsS70.alloc | apply IsS70.drewN | apply IsS70.drew | refine IsS70.farT ?_ (by repeat (first | exact TyOf.mk BK331.out | apply TyOf.alloc | apply TyOf.drewN | apply TyOf.drew | apply TyOf.set)) (by decide) _ | refine IsS70.farT ?_ (by repeat (first | exact TyOf.mk BK347.out | apply TyOf.alloc | apply TyOf.drewN | apply TyOf.drew | apply TyOf.set)) (by decide) _) | exact HI339.out)) (g' := gb331) (o := .cells #[.string a1_0, .string a1_1, .bool true] 26 (0, 0)) (by (with_reducible repeat (first | refine blk_drewN ?_ _ | refine blk_drew ?_ | refine blk_alloc ?_ _)); exact BK331.out) NB331_339.out rfl (by decide)); have n3_ := Aside0.mk (IsS70.blkK hk (show IsS70 w _ g339 x340000_2 from by repeat (first | (with_reducible first | exact HI339.out | apply IsS70.alloc | apply IsS70.drewN | apply IsS70.drew | refine IsS70.farT ?_ (by repeat (first | exact TyOf.mk BK331.out | apply TyOf.alloc | apply TyOf.drewN | apply TyOf.drew | apply TyOf.set)) (by decide) _ | refine IsS70.farT ?_ (by repeat (first | exact TyOf.mk BK347.out | apply TyOf.alloc | apply TyOf.drewN | apply TyOf.drew | apply TyOf.set)) (by decide) _) | exact HI339.out)) (g' := gb347) (o := .cells #[.int .i64 x348000_2, u348001, u348002] 40 (0, 0)) (by (with_reducible repeat (first | refine blk_drewN ?_ _ | refine blk_drew ?_ | refine blk_alloc ?_ _)); exact BK347.out) NB347_339.out rfl (by decide)); have n4_ := Aside0.mk (Kd.R_mono (Kd.R_keep2 (IsS70.apart (show IsS70 w _ g339 x340000_2 from by repeat (first | (with_reducible first | exact HI339.out | apply IsS70.alloc | apply IsS70.drewN | apply IsS70.drew | refine IsS70.farT ?_ (by repeat (first | exact TyOf.mk BK331.out | apply TyOf.alloc | apply TyOf.drewN | apply TyOf.drew | apply TyOf.set)) (by decide) _ | refine IsS70.farT ?_ (by repeat (first | exact TyOf.mk BK347.out | apply TyOf.alloc | apply TyOf.drewN | apply TyOf.drew | apply TyOf.set)) (by decide) _) | exact HI339.out)) (by (with_reducible repeat (first | apply Kd.R_alloc | apply Kd.R_drewN | apply Kd.R_drew)); exact HO350.out) (by decide)) hk (fun _ h => h.2)) (fun _ h => h.1)); have n5_ := Aside0.mk (hb); have n6_ := Aside0.mk (hi); clear HO_348001; clear HO_348002; clear BK331; clear BK347; clear HO350; clear HB; clear HI339; have HO_348001 := n0_; have HO_348002 := n1_; have BK331 := n2_; have BK347 := n3_; have HO350 := n4_; have HB := n5_; have HI339 := n6_; clear n0_ n1_ n2_ n3_ n4_ n5_ n6_; (try clear hb); (try clear hb2); (try clear hk); (try clear hi)))
        have n0_ := Aside0.mk (Kd.R_drew HO_348001.out)
        have n1_ := Aside0.mk (Kd.R_drew HO_348002.out)
        have n2_ := Aside0.mk (Kd.R_drew HO350.out)
        have n3_ := Aside0.mk (blk_drew BK331.out)
        have n4_ := Aside0.mk (blk_drew BK347.out)
        have n5_ := Aside0.mk (IsS70.drew HI339.out)
        have n6_ := Aside0.mk (below_drew1 HB.out)
        clear HO_348001
        clear HO_348002
        clear HO350
        clear BK331
        clear BK347
        clear HI339
        clear HB
        have HO_348001 := n0_
        have HO_348002 := n1_
        have HO350 := n2_
        have BK331 := n3_
        have BK347 := n4_
        have HI339 := n5_
        have HB := n6_
        clear n0_ n1_ n2_ n3_ n4_ n5_ n6_
        refine start_ (n := 6) (S := fun w' => w'.cell? ⟨gb347, 0, none⟩ = some (.int .i64 x348000_2) ∧ w'.cell? ⟨gb347, 1, none⟩ = some (u348001) ∧ w'.cell? ⟨gb347, 2, none⟩ = some (u348002)) (ds := []) #[false, false, false, false, false, false] (by kernel_rfl) rfl rfl ⟨(blk_cell BK347.out 0).trans rfl, (blk_cell BK347.out 1).trans rfl, (blk_cell BK347.out 2).trans rfl⟩ (fun hHeld => ?_)
        generalize w66.drew = w67 at HO_348001 HO_348002 HO350 BK331 BK347 HI339 HB hHeld ⊢
        refine pure_ (i := 0) (N := some 68) (v := ?_) (a' := ?_) #[true, false, false, false, false, false] rfl rfl (by kernel_rfl) (fun _ _ _ h => h) (Or.inl ⟨by rfl, ?_⟩) ?_ ?_
        rotate_left
        ·
         intro w'
         go_simp
         with_reducible rfl
        rotate_left
        ·
         simp only [Act.put, List.setIfInBounds_toArray, List.set_cons_zero, List.set_cons_succ, i64_w, i32_w]
         rfl
        refine pure_ (i := 2) (N := some 70) (v := ?_) (a' := ?_) #[true, false, true, false, false, false] rfl rfl (by kernel_rfl) (fun _ _ _ h => h) (Or.inl ⟨by rfl, ?_⟩) ?_ ?_
        rotate_left
        ·
         intro w'
         go_simp
         with_reducible rfl
        rotate_left
        ·
         simp only [Act.put, List.setIfInBounds_toArray, List.set_cons_zero, List.set_cons_succ, i64_w, i32_w]
         rfl
        refine take_ (i := 3) (N := some 71) (v := ?_) (a' := ?_) #[true, false, true, true, false, false] rfl rfl (by kernel_rfl) (fun _ _ _ h => h) (Or.inl ⟨by rfl, ?_⟩) hHeld ?_ ?_
        rotate_left
        ·
         rintro w' ⟨s0, s1, s2⟩
         go_simp
         with_reducible rfl
        rotate_left
        ·
         simp only [Act.put, List.setIfInBounds_toArray, List.set_cons_zero, List.set_cons_succ, i64_w, i32_w]
         rfl
        refine one_ (i := 1) (N := some 69) #[true, true, true, true, false, false] rfl rfl (by kernel_rfl) (by decide) (fun K hK => ?_)
        refine goes_ Tryd.func13 (by kernel_rfl) rfl #[.pointer (some ⟨g339, 0, none⟩)] (by rfl) rfl rfl (by (try simp only [List.map_toArray, List.map_cons, List.map_nil]); first | done | rfl | (simp only [List.length_drop, List.length_take]; rfl)) ?_
        with_reducible refine (pack_Encoder_Table.calls (w1 := w) g339 t352 t353 _ _ ?side1 (Below.refl _ _) A58.out).mono ?_
        (case side1 => repeat (first | (with_reducible first | exact HI339.out | apply IsS70.alloc | apply IsS70.drewN | apply IsS70.drew | refine IsS70.farT ?_ (by repeat (first | exact TyOf.mk BK331.out | apply TyOf.alloc | apply TyOf.drewN | apply TyOf.drew | apply TyOf.set)) (by decide) _ | refine IsS70.farT ?_ (by repeat (first | exact TyOf.mk BK347.out | apply TyOf.alloc | apply TyOf.drewN | apply TyOf.drew | apply TyOf.set)) (by decide) _) | exact HI339.out))
        rintro e w68 ⟨g354, rfl, hi, hb, hb2⟩
        refine ⟨_, rfl, ?_⟩
        have n0_ := Aside0.mk (Kd.R_below (by (with_reducible repeat (first | apply Kd.R_alloc | apply Kd.R_drewN | apply Kd.R_drew)); exact HO_348001.out) hb2)
        have n1_ := Aside0.mk (Kd.R_below (by (with_reducible repeat (first | apply Kd.R_alloc | apply Kd.R_drewN | apply Kd.R_drew)); exact HO_348002.out) hb2)
        have n2_ := Aside0.mk (Kd.R_below (by (with_reducible repeat (first | apply Kd.R_alloc | apply Kd.R_drewN | apply Kd.R_drew)); exact HO350.out) hb2)
        have n3_ := Aside0.mk (blk_below (g := gb331) (o := .cells #[.string a1_0, .string a1_1, .bool true] 26 (0, 0)) (by (with_reducible repeat (first | refine blk_drewN ?_ _ | refine blk_drew ?_ | refine blk_alloc ?_ _)); exact BK331.out) hb2)
        have n4_ := Aside0.mk (blk_below (g := gb347) (o := .cells #[.int .i64 x348000_2, u348001, u348002] 40 (0, 0)) (by (with_reducible repeat (first | refine blk_drewN ?_ _ | refine blk_drew ?_ | refine blk_alloc ?_ _)); exact BK347.out) hb2)
        have n5_ := Aside0.mk (IsS70.below (by repeat (first | (with_reducible first | exact HI339.out | apply IsS70.alloc | apply IsS70.drewN | apply IsS70.drew | refine IsS70.farT ?_ (by repeat (first | exact TyOf.mk BK331.out | apply TyOf.alloc | apply TyOf.drewN | apply TyOf.drew | apply TyOf.set)) (by decide) _ | refine IsS70.farT ?_ (by repeat (first | exact TyOf.mk BK347.out | apply TyOf.alloc | apply TyOf.drewN | apply TyOf.drew | apply TyOf.set)) (by decide) _) | exact HI339.out)) hb2)
        have n6_ := Aside0.mk (below_step (by repeat (first | (with_reducible first | exact HB.out | apply below_alloc | apply pw_below_drewN | apply below_drew1 | refine below_set ?_ (IsS70.ge HI339.out) | refine below_set ?_ GE331.out | refine below_set ?_ GE347.out) | exact HB.out)) hb2)
        have n7_ := Aside0.mk ((show IsS77 w w68 g354 t353 from IsS77.rebase hi (below_size (by repeat (first | (with_reducible first | exact HB.out | apply below_alloc | apply pw_below_drewN | apply below_drew1 | refine below_set ?_ (IsS70.ge HI339.out) | refine below_set ?_ GE331.out | refine below_set ?_ GE347.out) | exact HB.out)))))
        have n8_ := Aside0.mk ((Nat.ne_of_gt (Nat.lt_of_le_of_lt (Nat.sub_le _ _) (Nat.lt_of_lt_of_le (IsS70.lt (show IsS70 w _ g339 t352 from by repeat (first | (with_reducible first | exact HI339.out | apply IsS70.alloc | apply IsS70.drewN | apply IsS70.drew | refine IsS70.farT ?_ (by repeat (first | exact TyOf.mk BK331.out | apply TyOf.alloc | apply TyOf.drewN | apply TyOf.drew | apply TyOf.set)) (by decide) _ | refine IsS70.farT ?_ (by repeat (first | exact TyOf.mk BK347.out | apply TyOf.alloc | apply TyOf.drewN | apply TyOf.drew | apply TyOf.set)) (by decide) _) | exact HI339.out))) (IsS77.ge hi))) : g354 ≠ g339 - 1))
        have n9_ := Aside0.mk ((Nat.ne_of_lt (Nat.lt_of_lt_of_le (IsS70.lt (show IsS70 w _ g339 t352 from by repeat (first | (with_reducible first | exact HI339.out | apply IsS70.alloc | apply IsS70.drewN | apply IsS70.drew | refine IsS70.farT ?_ (by repeat (first | exact TyOf.mk BK331.out | apply TyOf.alloc | apply TyOf.drewN | apply TyOf.drew | apply TyOf.set)) (by decide) _ | refine IsS70.farT ?_ (by repeat (first | exact TyOf.mk BK347.out | apply TyOf.alloc | apply TyOf.drewN | apply TyOf.drew | apply TyOf.set)) (by decide) _) | exact HI339.out))) (IsS77.ge hi)) : g339 ≠ g354))
        have n10_ := Aside0.mk ((Nat.ne_of_gt (Nat.lt_of_lt_of_le (IsS70.lt (show IsS70 w _ g339 t352 from by repeat (first | (with_reducible first | exact HI339.out | apply IsS70.alloc | apply IsS70.drewN | apply IsS70.drew | refine IsS70.farT ?_ (by repeat (first | exact TyOf.mk BK331.out | apply TyOf.alloc | apply TyOf.drewN | apply TyOf.drew | apply TyOf.set)) (by decide) _ | refine IsS70.farT ?_ (by repeat (first | exact TyOf.mk BK347.out | apply TyOf.alloc | apply TyOf.drewN | apply TyOf.drew | apply TyOf.set)) (by decide) _) | exact HI339.out))) (IsS77.ge hi)) : g354 ≠ g339))
        have n11_ := Aside0.mk (IsS77.ne_blk hi (blk_below (g := gb331) (o := .cells #[.string a1_0, .string a1_1, .bool true] 26 (0, 0)) (by (with_reducible repeat (first | refine blk_drewN ?_ _ | refine blk_drew ?_ | refine blk_alloc ?_ _)); exact BK331.out) hb2) (by decide))
        have n12_ := Aside0.mk (Ne.symm (IsS77.ne_blk hi (blk_below (g := gb331) (o := .cells #[.string a1_0, .string a1_1, .bool true] 26 (0, 0)) (by (with_reducible repeat (first | refine blk_drewN ?_ _ | refine blk_drew ?_ | refine blk_alloc ?_ _)); exact BK331.out) hb2) (by decide)))
        have n13_ := Aside0.mk (IsS77.ne_blk hi (blk_below (g := gb347) (o := .cells #[.int .i64 x348000_2, u348001, u348002] 40 (0, 0)) (by (with_reducible repeat (first | refine blk_drewN ?_ _ | refine blk_drew ?_ | refine blk_alloc ?_ _)); exact BK347.out) hb2) (by decide))
        have n14_ := Aside0.mk (Ne.symm (IsS77.ne_blk hi (blk_below (g := gb347) (o := .cells #[.int .i64 x348000_2, u348001, u348002] 40 (0, 0)) (by (with_reducible repeat (first | refine blk_drewN ?_ _ | refine blk_drew ?_ | refine blk_alloc ?_ _)); exact BK347.out) hb2) (by decide)))
        clear HO_348001
        clear HO_348002
        clear HO350
        clear BK331
        clear BK347
        clear HI339
        clear HB
        have HO_348001 := n0_
        have HO_348002 := n1_
        have HO350 := n2_
        have BK331 := n3_
        have BK347 := n4_
        have HI339 := n5_
        have HB := n6_
        have HI354 := n7_
        have NC354_339 := n8_
        have NB339_354 := n9_
        have NB354_339 := n10_
        have NB354_331 := n11_
        have NB331_354 := n12_
        have NB354_347 := n13_
        have NB347_354 := n14_
        clear n0_ n1_ n2_ n3_ n4_ n5_ n6_ n7_ n8_ n9_ n10_ n11_ n12_ n13_ n14_
        (try clear hb)
        (try clear hb2)
        (try clear hk)
        (try clear hi)
        obtain ⟨Ao69, co69, eo69⟩ := Kd.R_slice HO_348001.out
        (first | subst eo69 | (injection eo69 with f1_ f2_ f3_; have f4_ := f1_.symm; have f5_ := f3_.symm; clear f1_ f2_ f3_; subst f4_; subst f5_))
        refine hK.out _ _ ⟨(blk_cell BK347.out 0).trans rfl, (blk_cell BK347.out 1).trans rfl, (blk_cell BK347.out 2).trans rfl⟩ (fun hHeld => ?_)
        clear hK K
        refine norm_ (a' := ?_) ?_ ?_
        rotate_left
        ·
         show Act.put _ (some 69) _ = _
         simp only [Act.put, List.setIfInBounds_toArray, List.set_cons_zero, List.set_cons_succ, i64_w, i32_w]
         rfl
        refine one_ (i := 4) (N := some 72) #[true, true, true, true, true, false] rfl rfl (by kernel_rfl) (by decide) (fun K hK => ?_)
        refine goes_ Tryd.func20 (by kernel_rfl) rfl #[.pointer (some ⟨g354, 0, none⟩), .agg #[.int .i64 x348000_2, .slice Ao69 x348001_2.length co69]] (by rfl) rfl rfl (by (try simp only [List.map_toArray, List.map_cons, List.map_nil]); first | done | rfl | (simp only [List.length_drop, List.length_take]; rfl)) ?_
        with_reducible refine (nunciolaw12_Tells.calls k2 g354 t353 x348000_2 _ _ x348001_2 t355 t356 w _ ?side1 ?side2 ?side3 ?side4 A59.out).mono ?_
        (case side1 => repeat (first | (with_reducible first | exact HI354.out | apply IsS77.alloc | apply IsS77.drewN | apply IsS77.drew | refine IsS77.farT ?_ (by repeat (first | exact TyOf.mk BK331.out | apply TyOf.alloc | apply TyOf.drewN | apply TyOf.drew | apply TyOf.set)) (by decide) _ | refine IsS77.farT ?_ (by repeat (first | exact TyOf.mk BK347.out | apply TyOf.alloc | apply TyOf.drewN | apply TyOf.drew | apply TyOf.set)) (by decide) _) | exact HI354.out))
        (case side2 => repeat (first | (with_reducible first | exact HB.out | apply below_alloc | apply pw_below_drewN | apply below_drew1 | refine below_set ?_ (IsS70.ge HI339.out) | refine below_set ?_ (IsS77.ge HI354.out) | refine below_set ?_ GE331.out | refine below_set ?_ GE347.out) | exact HB.out))
        (case side3 => exact Kd.C_foot_own (IsS77.apart (show IsS77 w _ g354 t353 from by repeat (first | (with_reducible first | exact HI354.out | apply IsS77.alloc | apply IsS77.drewN | apply IsS77.drew | refine IsS77.farT ?_ (by repeat (first | exact TyOf.mk BK331.out | apply TyOf.alloc | apply TyOf.drewN | apply TyOf.drew | apply TyOf.set)) (by decide) _ | refine IsS77.farT ?_ (by repeat (first | exact TyOf.mk BK347.out | apply TyOf.alloc | apply TyOf.drewN | apply TyOf.drew | apply TyOf.set)) (by decide) _) | exact HI354.out)) (by (with_reducible repeat (first | apply Kd.R_alloc | apply Kd.R_drewN | apply Kd.R_drew)); exact HO_348001.out) (by decide)) (fun _ h_ => h_.2))
        (case side4 => exact (Kd.R_reads' HO_348001.out).2.1)
        rintro e w70 ⟨rfl, hi, hb, hk⟩
        refine ⟨_, rfl, ?_⟩
        have n0_ := Aside0.mk (Kd.R_mono (Kd.R_keep (IsS77.apart (show IsS77 w _ g354 t353 from by repeat (first | (with_reducible first | exact HI354.out | apply IsS77.alloc | apply IsS77.drewN | apply IsS77.drew | refine IsS77.farT ?_ (by repeat (first | exact TyOf.mk BK331.out | apply TyOf.alloc | apply TyOf.drewN | apply TyOf.drew | apply TyOf.set)) (by decide) _ | refine IsS77.farT ?_ (by repeat (first | exact TyOf.mk BK347.out | apply TyOf.alloc | apply TyOf.drewN | apply TyOf.drew | apply TyOf.set)) (by decide) _) | exact HI354.out)) (by (with_reducible repeat (first | apply Kd.R_alloc | apply Kd.R_drewN | apply Kd.R_drew)); exact HO_348001.out) (by decide)) hk (fun _ h => h.2)) (fun _ h => h.1))
        have n1_ := Aside0.mk (Kd.R_mono (Kd.R_keep (IsS77.apart (show IsS77 w _ g354 t353 from by repeat (first | (with_reducible first | exact HI354.out | apply IsS77.alloc | apply IsS77.drewN | apply IsS77.drew | refine IsS77.farT ?_ (by repeat (first | exact TyOf.mk BK331.out | apply TyOf.alloc | apply TyOf.drewN | apply TyOf.drew | apply TyOf.set)) (by decide) _ | refine IsS77.farT ?_ (by repeat (first | exact TyOf.mk BK347.out | apply TyOf.alloc | apply TyOf.drewN | apply TyOf.drew | apply TyOf.set)) (by decide) _) | exact HI354.out)) (by (with_reducible repeat (first | apply Kd.R_alloc | apply Kd.R_drewN | apply Kd.R_drew)); exact HO_348002.out) (by decide)) hk (fun _ h => h.2)) (fun _ h => h.1))
        have n2_ := Aside0.mk (KeepBut.blk hk (g' := gb331) (o := .cells #[.string a1_0, .string a1_1, .bool true] 26 (0, 0)) (by (with_reducible repeat (first | refine blk_drewN ?_ _ | refine blk_drew ?_ | refine blk_alloc ?_ _)); exact BK331.out) NB331_354.out (by simp))
        have n3_ := Aside0.mk (KeepBut.blk hk (g' := gb347) (o := .cells #[.int .i64 x348000_2, .slice Ao69 x348001_2.length co69, u348002] 40 (0, 0)) (by (with_reducible repeat (first | refine blk_drewN ?_ _ | refine blk_drew ?_ | refine blk_alloc ?_ _)); exact BK347.out) NB347_354.out (by simp))
        have n4_ := Aside0.mk (IsS70.otherT (show IsS70 w _ g339 t352 from by repeat (first | (with_reducible first | exact HI339.out | apply IsS70.alloc | apply IsS70.drewN | apply IsS70.drew | refine IsS70.farT ?_ (by repeat (first | exact TyOf.mk BK331.out | apply TyOf.alloc | apply TyOf.drewN | apply TyOf.drew | apply TyOf.set)) (by decide) _ | refine IsS70.farT ?_ (by repeat (first | exact TyOf.mk BK347.out | apply TyOf.alloc | apply TyOf.drewN | apply TyOf.drew | apply TyOf.set)) (by decide) _) | exact HI339.out)) (show IsS77 w _ g354 t353 from by repeat (first | (with_reducible first | exact HI354.out | apply IsS77.alloc | apply IsS77.drewN | apply IsS77.drew | refine IsS77.farT ?_ (by repeat (first | exact TyOf.mk BK331.out | apply TyOf.alloc | apply TyOf.drewN | apply TyOf.drew | apply TyOf.set)) (by decide) _ | refine IsS77.farT ?_ (by repeat (first | exact TyOf.mk BK347.out | apply TyOf.alloc | apply TyOf.drewN | apply TyOf.drew | apply TyOf.set)) (by decide) _) | exact HI354.out)) hk NC354_339.out)
        have n5_ := Aside0.mk (Kd.R_mono (Kd.R_keep (IsS77.apart (show IsS77 w _ g354 t353 from by repeat (first | (with_reducible first | exact HI354.out | apply IsS77.alloc | apply IsS77.drewN | apply IsS77.drew | refine IsS77.farT ?_ (by repeat (first | exact TyOf.mk BK331.out | apply TyOf.alloc | apply TyOf.drewN | apply TyOf.drew | apply TyOf.set)) (by decide) _ | refine IsS77.farT ?_ (by repeat (first | exact TyOf.mk BK347.out | apply TyOf.alloc | apply TyOf.drewN | apply TyOf.drew | apply TyOf.set)) (by decide) _) | exact HI354.out)) (by (with_reducible repeat (first | apply Kd.R_alloc | apply Kd.R_drewN | apply Kd.R_drew)); exact HO350.out) (by decide)) hk (fun _ h => h.2)) (fun _ h => h.1))
        have n6_ := Aside0.mk (hb)
        have n7_ := Aside0.mk (hi)
        clear HO_348001
        clear HO_348002
        clear BK331
        clear BK347
        clear HI339
        clear HO350
        clear HB
        clear HI354
        have HO_348001 := n0_
        have HO_348002 := n1_
        have BK331 := n2_
        have BK347 := n3_
        have HI339 := n4_
        have HO350 := n5_
        have HB := n6_
        have HI354 := n7_
        clear n0_ n1_ n2_ n3_ n4_ n5_ n6_ n7_
        (try clear hb)
        (try clear hb2)
        (try clear hk)
        (try clear hi)
        refine hK.out _ _ ⟨(blk_cell BK347.out 0).trans rfl, (blk_cell BK347.out 1).trans rfl, (blk_cell BK347.out 2).trans rfl⟩ (fun hHeld => ?_)
        clear hK K
        refine norm_ (a' := ?_) ?_ ?_
        rotate_left
        ·
         show Act.put _ (some 72) _ = _
         simp only [Act.put, List.setIfInBounds_toArray, List.set_cons_zero, List.set_cons_succ, i64_w, i32_w]
         rfl
        refine pure_ (i := 5) (N := some 4) (v := ?_) (a' := ?_) #[true, true, true, true, true, true] rfl rfl (by kernel_rfl) (fun _ _ _ h => h) (Or.inl ⟨by rfl, ?_⟩) ?_ ?_
        rotate_left
        ·
         intro w'
         go_simp
         with_reducible rfl
        rotate_left
        ·
         simp only [Act.put, List.setIfInBounds_toArray, List.set_cons_zero, List.set_cons_succ, i64_w, i32_w]
         rfl
        refine done_ (by kernel_rfl) ?_
        try go_wp2
        go_ret
        exact ⟨by first | rfl | (simp [errW_none, errW_some] <;> rfl) | (simp [*, errW_none, errW_some] <;> rfl), by repeat (first | (with_reducible first | exact HB.out | apply below_alloc | apply pw_below_drewN | apply below_drew1 | refine below_set ?_ (IsS70.ge HI339.out) | refine below_set ?_ (IsS77.ge HI354.out) | refine below_set ?_ GE331.out | refine below_set ?_ GE347.out) | exact HB.out)⟩
 ·
  replace c4 := Bool.eq_false_iff.mpr c4
  subst c4
  have H1 : (some false) = some r := by rw [if_neg (show ¬ (false = true) by decide)] at H; exact H
  clear H
  have H := H1
  clear H1
  exact absurd ((Option.some.inj H).trans HT.out) (by decide)
def nunciolaw13_PackNever.Pure : Prop := ∀ (l0 : List (S44)) (a1_0 : ByteArray) (a1_1 : ByteArray) (a1_2 : Bool), (l0.length ≤ 9223372036854775807 ∧ l0.length * 32 ≤ 140737488351232 ∧ ∀ x_ ∈ l0, k44_wf x_) → (a1_0.size ≤ 140737488351232) → (a1_1.size ≤ 140737488351232) → ∃ k, nunciolaw13_PackNever.f k l0 a1_0 a1_1 a1_2 = some true
theorem nunciolaw13_PackNever.walk (P : nunciolaw13_PackNever.Pure) (A0 : Option Addr) (c0 : Nat) (l0 : List (S44)) (a1_0 : ByteArray) (a1_1 : ByteArray) (a1_2 : Bool) (w : World) (hE : EnvW w) (hr0 : Kd.C k44 w A0 l0.length l0) (hc0 : l0.length ≤ c0) (w0 : l0.length ≤ 9223372036854775807 ∧ l0.length * 32 ≤ 140737488351232 ∧ ∀ x_ ∈ l0, k44_wf x_) (w1_0 : a1_0.size ≤ 140737488351232) (w1_1 : a1_1.size ≤ 140737488351232) :
  Calls Tryd.prog 4 #[.slice A0 l0.length c0, .agg #[.string a1_0, .string a1_1, .bool a1_2]] w fun e w' => e = .returned (.bool true) ∧ Below w.heap.size w w' := by
 obtain ⟨k, h⟩ := P l0 a1_0 a1_1 a1_2 w0 w1_0 w1_1
 refine (nunciolaw13_PackNever.calls k _ _ l0 a1_0 a1_1 a1_2 true w hE hr0 hc0 h rfl).mono ?_
 rintro e w' ⟨rfl, hd⟩
 exact ⟨rfl, hd⟩
end Go.Proofs.YtfkdocmhbmameaaDoor.Mine
