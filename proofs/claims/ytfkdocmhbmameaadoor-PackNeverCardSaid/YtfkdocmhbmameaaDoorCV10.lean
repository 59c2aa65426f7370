/- The walks and the plain laws that the rows come to: merged out of this repo's texts. -/
import Derived.Test.YtfkdocmhbmameaaDoorProg
import Derived.Below
import Derived.Deep.Draws
import Derived.Deep.AppendLies
import Derived.Maps.AppendAt
import Derived.OwnWalk
import Derived.Laws.BytesArg
import Derived.Laws.MakeOwn
import Derived.Laws.OwnMore
import Derived.Deep.OwnRows
import Derived.Tactics
import Derived.Lib.ConvBytes
import Derived.Laws.Slices
import Derived.WalkKit
import Derived.KernelRfl
import Derived.RowKit3
import Derived.Deep.LoopGhost
import Derived.Deep.QuietTactic
import Derived.BigQuiet
import Derived.WideLaws
import Derived.Deep.DeepCutAuto
import Derived.Deep.CutBlock
import Derived.Deep.RegionHeld3
import Derived.Laws.Rows
import Derived.Lib.AppendStr
import Derived.ArgAppend
import Derived.Laws.IdiomCopy
import Derived.RowKit
import Derived.OrdersHeld
import Derived.Laws.BitsLemmas
import Derived.Laws.StructEq
import Derived.Laws.CopyOwn
import Derived.SizedLaws
import Derived.ChangeSlices
import Derived.Deep.Slices
import Derived.Lib.SmallJoins
import Derived.Lib.OthersKept
import Derived.Lib.AppendZerosOnto
import Derived.WalkSpells
import Derived.Shelf.Utf8.RuneCount
import Derived.Shelf.Strings.Search1
import Derived.Shelf.Strings.Search2
import Derived.Shelf.Strings.Search3
import Derived.Shelf.Strings.Cut
import Derived.Shelf.Strings.Count
import Derived.Shelf.LaysM
import Derived.Shelf.Strings.Shaped
import Derived.Shelf.Strings.Split
import Derived.Shelf.Strings.SplitShaped
import Derived.Shelf.Unicode.Decode
import Derived.Shelf.Strings.RuneCount
import Derived.Shelf.Strings.Explode
import Derived.Shelf.Unicode.DecodeSlow
import Derived.Shelf.Unicode.DecodeAny
import Derived.Test.YtfkdocmhbmameaaDoorCV1
import Derived.Test.YtfkdocmhbmameaaDoorCV2
import Derived.Test.YtfkdocmhbmameaaDoorCV3
import Derived.Test.YtfkdocmhbmameaaDoorCV4
import Derived.Test.YtfkdocmhbmameaaDoorCV5
import Derived.Test.YtfkdocmhbmameaaDoorCV6
import Derived.Test.YtfkdocmhbmameaaDoorCV7
import Derived.Test.YtfkdocmhbmameaaDoorCV8
import Derived.Test.YtfkdocmhbmameaaDoorCV9
namespace Go.Proofs.YtfkdocmhbmameaaDoor.Mine
open Go.RowKit Go.Proofs.YtfkdocmhbmameaaDoorW.PrintWords Go.Proofs.YtfkdocmhbmameaaDoorW.PrintLast Go.Proofs.YtfkdocmhbmameaaDoorW.PrintMore
attribute [local go_sem] max2_int min2_int max_two min_two max_three min_three max_four min_four
set_option linter.unusedVariables false
set_option linter.unusedSimpArgs false
def nuncioref13_text.f (k : Nat) (a0 : ByteArray) (a1 : ByteArray) : Option (ByteArray) := (nuncioref10_Encode.f k a1).bind fun t299 => (if (t299.size : Int) < (a1.size : Int) then ((nuncioref09_Put.f k a0 128 7 (IntKind.u64.wrap ((t299.size : Int)))).bind fun t300 => (if t300.size + t299.size ≤ 9223372036854775807 then (some (t300 ++ t299)) else (none))) else ((nuncioref09_Put.f k a0 0 7 (IntKind.u64.wrap ((a1.size : Int)))).bind fun t301 => (if t301.size + a1.size ≤ 9223372036854775807 then (some (t301 ++ a1)) else (none))))
set_option maxHeartbeats 8000000 in
set_option maxRecDepth 100000 in
theorem nuncioref13_text.calls (k : Nat) (a0 : ByteArray) (a1 : ByteArray) (r : ByteArray) (w : World) (h : nuncioref13_text.f k a0 a1 = some r) :
  Calls Tryd.prog 61 #[.string a0, .string a1] w fun e w' => e = .returned (.string r) ∧ Below w.heap.size w w' := by
 have HB := Aside0.mk (Below.refl w.heap.size w)
 have H : ((nuncioref10_Encode.f k a1).bind fun t299 => (if (t299.size : Int) < (a1.size : Int) then ((nuncioref09_Put.f k a0 128 7 (IntKind.u64.wrap ((t299.size : Int)))).bind fun t300 => (if t300.size + t299.size ≤ 9223372036854775807 then (some (t300 ++ t299)) else (none))) else ((nuncioref09_Put.f k a0 0 7 (IntKind.u64.wrap ((a1.size : Int)))).bind fun t301 => (if t301.size + a1.size ≤ 9223372036854775807 then (some (t301 ++ a1)) else (none))))) = some r := h
 clear h
 replace H := Option.bind_eq_some_iff.mp H
 obtain ⟨t299, A30, H⟩ := H
 replace H : (if (t299.size : Int) < (a1.size : Int) then ((nuncioref09_Put.f k a0 128 7 (IntKind.u64.wrap ((t299.size : Int)))).bind fun t300 => (if t300.size + t299.size ≤ 9223372036854775807 then (some (t300 ++ t299)) else (none))) else ((nuncioref09_Put.f k a0 0 7 (IntKind.u64.wrap ((a1.size : Int)))).bind fun t301 => (if t301.size + a1.size ≤ 9223372036854775807 then (some (t301 ++ a1)) else (none)))) = some r := H
 have A3 := Aside0.mk A30
 clear A30
 by_cases c4 : (t299.size : Int) < (a1.size : Int)
 ·
  rw [if_pos c4] at H
  have c4b0 : decide ((t299.size : Int) < (a1.size : Int)) = true := decide_eq_true c4
  have c4b1 : decide (t299.size < a1.size) = true := decide_eq_true (Int.ofNat_lt.mp c4)
  clear c4
  replace H := Option.bind_eq_some_iff.mp H
  obtain ⟨t300, A50, H⟩ := H
  replace H : (if t300.size + t299.size ≤ 9223372036854775807 then (some (t300 ++ t299)) else (none)) = some r := H
  have A5 := Aside0.mk A50
  clear A50
  by_cases c6 : t300.size + t299.size ≤ 9223372036854775807
  ·
   rw [if_pos c6] at H
   have c6b0 := eq_true c6
   have c6b1 : decide (t300.size + t299.size ≤ 9223372036854775807) = true := decide_eq_true c6
   try have c6b2 : (9223372036854775807 < t300.size + t299.size) = False := eq_false (Nat.not_lt.2 c6)
   obtain rfl := Option.some.inj H
   have W64_ : IntKind.u64.wrap ((t299.size : Int)) = ((t299.size : Int)) := by simp [IntKind.wrap, IntKind.bits, IntKind.signed]; omega
   replace A5 := A5.out
   rw [W64_] at A5
   replace A5 := Aside0.mk A5
   go_enter Tryd.func61, Tryd.ntmps61
   go_wp2_with (first | ((with_reducible refine gate_callee (f := 74) rfl ?_); refine goesL_ (some 7) rfl rfl Tryd.func74 (by kernel_rfl) rfl #[.string a1] rfl (by (try simp only [List.map_toArray, List.map_cons, List.map_nil]); first | done | rfl | (simp only [List.length_drop, List.length_take]; rfl)) ?_; (with_reducible refine (nuncioref10_Encode.calls k a1 t299 _ A3.out).mono ?_); rintro e w7 ⟨rfl, hb⟩; refine ⟨_, rfl, ?_⟩; have n0_ := Aside0.mk (below_step (by repeat (first | (with_reducible first | exact HB.out | apply below_alloc | apply pw_below_drewN | apply below_drew1) | exact HB.out)) hb); clear HB; have HB := n0_; clear n0_; (try clear hb); (try clear hb2); (try clear hk); (try clear hi)) | ((with_reducible refine gate_callee (f := 41) rfl ?_); refine goesL_ (some 17) rfl rfl Tryd.func41 (by kernel_rfl) rfl #[.string a0, .int .u8 128, .int .i64 7, .int .u64 ((t299.size : Int))] rfl (by (try simp only [List.map_toArray, List.map_cons, List.map_nil]); first | done | rfl | (simp only [List.length_drop, List.length_take]; rfl)) ?_; (with_reducible refine (nuncioref09_Put.calls k a0 128 7 ((t299.size : Int)) t300 _ A5.out).mono ?_); rintro e w8 ⟨rfl, hb⟩; refine ⟨_, rfl, ?_⟩; have n0_ := Aside0.mk (below_step (by repeat (first | (with_reducible first | exact HB.out | apply below_alloc | apply pw_below_drewN | apply below_drew1) | exact HB.out)) hb); clear HB; have HB := n0_; clear n0_; (try clear hb); (try clear hb2); (try clear hk); (try clear hi)))
   go_ret
   exact ⟨by first | rfl | (simp [errW_none, errW_some] <;> rfl) | (simp [*, errW_none, errW_some] <;> rfl), by repeat (first | (with_reducible first | exact HB.out | apply below_alloc | apply pw_below_drewN | apply below_drew1) | exact HB.out)⟩
  ·
   rw [if_neg c6] at H
   exact absurd H (by simp)
 ·
  rw [if_neg c4] at H
  have c4b0 : decide ((t299.size : Int) < (a1.size : Int)) = false := decide_eq_false c4
  have c4b1 : decide (t299.size < a1.size) = false := decide_eq_false (fun h => c4 (Int.ofNat_lt.mpr h))
  clear c4
  replace H := Option.bind_eq_some_iff.mp H
  obtain ⟨t301, A90, H⟩ := H
  replace H : (if t301.size + a1.size ≤ 9223372036854775807 then (some (t301 ++ a1)) else (none)) = some r := H
  have A9 := Aside0.mk A90
  clear A90
  by_cases c10 : t301.size + a1.size ≤ 9223372036854775807
  ·
   rw [if_pos c10] at H
   have c10b0 := eq_true c10
   have c10b1 : decide (t301.size + a1.size ≤ 9223372036854775807) = true := decide_eq_true c10
   try have c10b2 : (9223372036854775807 < t301.size + a1.size) = False := eq_false (Nat.not_lt.2 c10)
   obtain rfl := Option.some.inj H
   have W64_ : IntKind.u64.wrap ((a1.size : Int)) = ((a1.size : Int)) := by simp [IntKind.wrap, IntKind.bits, IntKind.signed]; omega
   replace A9 := A9.out
   rw [W64_] at A9
   replace A9 := Aside0.mk A9
   go_enter Tryd.func61, Tryd.ntmps61
   go_wp2_with (first | ((with_reducible refine gate_callee (f := 74) rfl ?_); refine goesL_ (some 7) rfl rfl Tryd.func74 (by kernel_rfl) rfl #[.string a1] rfl (by (try simp only [List.map_toArray, List.map_cons, List.map_nil]); first | done | rfl | (simp only [List.length_drop, List.length_take]; rfl)) ?_; (with_reducible refine (nuncioref10_Encode.calls k a1 t299 _ A3.out).mono ?_); rintro e w11 ⟨rfl, hb⟩; refine ⟨_, rfl, ?_⟩; have n0_ := Aside0.mk (below_step (by repeat (first | (with_reducible first | exact HB.out | apply below_alloc | apply pw_below_drewN | apply below_drew1) | exact HB.out)) hb); clear HB; have HB := n0_; clear n0_; (try clear hb); (try clear hb2); (try clear hk); (try clear hi)) | ((with_reducible refine gate_callee (f := 41) rfl ?_); refine goesL_ (some 24) rfl rfl Tryd.func41 (by kernel_rfl) rfl #[.string a0, .int .u8 0, .int .i64 7, .int .u64 ((a1.size : Int))] rfl (by (try simp only [List.map_toArray, List.map_cons, List.map_nil]); first | done | rfl | (simp only [List.length_drop, List.length_take]; rfl)) ?_; (with_reducible refine (nuncioref09_Put.calls k a0 0 7 ((a1.size : Int)) t301 _ A9.out).mono ?_); rintro e w12 ⟨rfl, hb⟩; refine ⟨_, rfl, ?_⟩; have n0_ := Aside0.mk (below_step (by repeat (first | (with_reducible first | exact HB.out | apply below_alloc | apply pw_below_drewN | apply below_drew1) | exact HB.out)) hb); clear HB; have HB := n0_; clear n0_; (try clear hb); (try clear hb2); (try clear hk); (try clear hi)))
   go_ret
   exact ⟨by first | rfl | (simp [errW_none, errW_some] <;> rfl) | (simp [*, errW_none, errW_some] <;> rfl), by repeat (first | (with_reducible first | exact HB.out | apply below_alloc | apply pw_below_drewN | apply below_drew1) | exact HB.out)⟩
  ·
   rw [if_neg c10] at H
   exact absurd H (by simp)
def nuncioref13_literal.f (k : Nat) (a0 : ByteArray) (a1 : Int) (a2 : Int) (a3 : Int) (a4_0 : ByteArray) (a4_1 : ByteArray) (a4_2 : Bool) : Option (ByteArray) := (nuncioref09_Put.f k a0 a1 a2 (IntKind.u64.wrap (a3))).bind fun t303 => (if a3 = 0 then ((nuncioref13_text.f k t303 a4_0).bind fun t304 => ((nuncioref13_text.f k t304 a4_1).bind fun t305 => (some t305))) else ((nuncioref13_text.f k t303 a4_1).bind fun t306 => (some t306)))
set_option maxHeartbeats 8000000 in
set_option maxRecDepth 100000 in
theorem nuncioref13_literal.calls (k : Nat) (a0 : ByteArray) (a1 : Int) (a2 : Int) (a3 : Int) (a4_0 : ByteArray) (a4_1 : ByteArray) (a4_2 : Bool) (r : ByteArray) (w : World) (h : nuncioref13_literal.f k a0 a1 a2 a3 a4_0 a4_1 a4_2 = some r) :
  Calls Tryd.prog 43 #[.string a0, .int .u8 a1, .int .i64 a2, .int .i64 a3, .agg #[.string a4_0, .string a4_1, .bool a4_2]] w fun e w' => e = .returned (.string r) ∧ Below w.heap.size w w' := by
 have hu26 := Tryd.underlying26
 have HB := Aside0.mk (Below.refl w.heap.size w)
 have H : ((nuncioref09_Put.f k a0 a1 a2 (IntKind.u64.wrap (a3))).bind fun t303 => (if a3 = 0 then ((nuncioref13_text.f k t303 a4_0).bind fun t304 => ((nuncioref13_text.f k t304 a4_1).bind fun t305 => (some t305))) else ((nuncioref13_text.f k t303 a4_1).bind fun t306 => (some t306)))) = some r := h
 clear h
 replace H := Option.bind_eq_some_iff.mp H
 obtain ⟨t303, A60, H⟩ := H
 replace H : (if a3 = 0 then ((nuncioref13_text.f k t303 a4_0).bind fun t304 => ((nuncioref13_text.f k t304 a4_1).bind fun t305 => (some t305))) else ((nuncioref13_text.f k t303 a4_1).bind fun t306 => (some t306))) = some r := H
 have A6 := Aside0.mk A60
 clear A60
 by_cases c7 : a3 = 0
 ·
  rw [if_pos c7] at H
  have c7b0 : (a3 == 0) = true := beq_iff_eq.mpr c7
  have c7b1 : (a3 != 0) = false := bne_eq_false_iff_eq.mpr c7
  clear c7
  replace H := Option.bind_eq_some_iff.mp H
  obtain ⟨t304, A80, H⟩ := H
  replace H : ((nuncioref13_text.f k t304 a4_1).bind fun t305 => (some t305)) = some r := H
  have A8 := Aside0.mk A80
  clear A80
  replace H := Option.bind_eq_some_iff.mp H
  obtain ⟨t305, A90, H⟩ := H
  replace H : (some t305) = some r := H
  have A9 := Aside0.mk A90
  clear A90
  obtain rfl := Option.some.inj H
  go_enter Tryd.func43, Tryd.ntmps43
  have tk16 : True := trivial
  have tk17 : True := trivial
  go_wp2_with (first | ((with_reducible refine gate_dst (N := 9) rfl ?_); refine box_event ?hg (N := 9) ?hd (cs := #[.string a4_0, .string a4_1, .bool a4_2]) (t := 26) ?hr ?_; (case hd => rfl); (case hg => rfl); (case hr => first | (go_simp; done) | (go_simp; rfl)); intro gb302 hg w10 hbox hb; have n0_ := Aside0.mk (below_step (by repeat (first | (with_reducible first | exact HB.out | apply below_alloc | apply pw_below_drewN | apply below_drew1) | exact HB.out)) hb); have n1_ := Aside0.mk (hbox); have n2_ := Aside0.mk ((by rw [hg]; exact (below_size (by repeat (first | (with_reducible first | exact HB.out | apply below_alloc | apply pw_below_drewN | apply below_drew1) | exact HB.out))) : w.heap.size ≤ gb302)); have n3_ := Aside0.mk ((by rw [hg]; exact (below_size (by repeat (first | (with_reducible first | exact HB.out | apply below_alloc | apply pw_below_drewN | apply below_drew1) | exact HB.out))) : w.heap.size ≤ gb302)); clear HB; have HB := n0_; have BK302 := n1_; have GW302 := n2_; have GE302 := n3_; clear n0_ n1_ n2_ n3_; clear hb hbox hg) | ((with_reducible refine gate_callee (f := 41) rfl ?_); refine goesL_ (some 16) rfl rfl Tryd.func41 (by kernel_rfl) rfl #[.string a0, .int .u8 a1, .int .i64 a2, .int .u64 (IntKind.u64.wrap (a3))] rfl (by (try simp only [List.map_toArray, List.map_cons, List.map_nil]); first | done | rfl | (simp only [List.length_drop, List.length_take]; rfl)) ?_; (with_reducible refine (nuncioref09_Put.calls k a0 a1 a2 (IntKind.u64.wrap (a3)) t303 _ A6.out).mono ?_); rintro e w11 ⟨rfl, hb⟩; refine ⟨_, rfl, ?_⟩; have n0_ := Aside0.mk (blk_below (g := gb302) (o := .cells #[.string a4_0, .string a4_1, .bool a4_2] 26 (0, 0)) (by (with_reducible repeat (first | refine blk_drewN ?_ _ | refine blk_drew ?_ | refine blk_alloc ?_ _)); exact BK302.out) hb); have n1_ := Aside0.mk (below_step (by repeat (first | (with_reducible first | exact HB.out | apply below_alloc | apply pw_below_drewN | apply below_drew1 | refine below_set ?_ GE302.out) | exact HB.out)) hb); clear BK302; clear HB; have BK302 := n0_; have HB := n1_; clear n0_ n1_; (try clear hb); (try clear hb2); (try clear hk); (try clear hi); have hcz12_0 : w11.cell? ⟨gb302, 0, none⟩ = some (.string a4_0) := (blk_cell BK302.out 0).trans rfl; have hcz12_1 : w11.cell? ⟨gb302, 1, none⟩ = some (.string a4_1) := (blk_cell BK302.out 1).trans rfl; have hcz12_2 : w11.cell? ⟨gb302, 2, none⟩ = some (.bool a4_2) := (blk_cell BK302.out 2).trans rfl; have hfz12_0 := blk_frozen BK302.out 0; have hfz12_1 := blk_frozen BK302.out 1; have hfz12_2 := blk_frozen BK302.out 2) | (have _t : True := tk16; clear tk16 _t; (with_reducible refine gate_callee (f := 61) rfl ?_); refine goesL_ (some 22) rfl rfl Tryd.func61 (by kernel_rfl) rfl #[.string t303, .string a4_0] rfl (by (try simp only [List.map_toArray, List.map_cons, List.map_nil]); first | done | rfl | (simp only [List.length_drop, List.length_take]; rfl)) ?_; (with_reducible refine (nuncioref13_text.calls k t303 a4_0 t304 _ A8.out).mono ?_); rintro e w13 ⟨rfl, hb⟩; refine ⟨_, rfl, ?_⟩; have n0_ := Aside0.mk (blk_below (g := gb302) (o := .cells #[.string a4_0, .string a4_1, .bool a4_2] 26 (0, 0)) (by (with_reducible repeat (first | refine blk_drewN ?_ _ | refine blk_drew ?_ | refine blk_alloc ?_ _)); exact BK302.out) hb); have n1_ := Aside0.mk (below_step (by repeat (first | (with_reducible first | exact HB.out | apply below_alloc | apply pw_below_drewN | apply below_drew1 | refine below_set ?_ GE302.out) | exact HB.out)) hb); clear BK302; clear HB; have BK302 := n0_; have HB := n1_; clear n0_ n1_; (try clear hb); (try clear hb2); (try clear hk); (try clear hi); have hcz14_0 : w13.cell? ⟨gb302, 0, none⟩ = some (.string a4_0) := (blk_cell BK302.out 0).trans rfl; have hcz14_1 : w13.cell? ⟨gb302, 1, none⟩ = some (.string a4_1) := (blk_cell BK302.out 1).trans rfl; have hcz14_2 : w13.cell? ⟨gb302, 2, none⟩ = some (.bool a4_2) := (blk_cell BK302.out 2).trans rfl; have hfz14_0 := blk_frozen BK302.out 0; have hfz14_1 := blk_frozen BK302.out 1; have hfz14_2 := blk_frozen BK302.out 2) | (have _t : True := tk17; clear tk17 _t; (with_reducible refine gate_callee (f := 61) rfl ?_); refine goesL_ (some 26) rfl rfl Tryd.func61 (by kernel_rfl) rfl #[.string t304, .string a4_1] rfl (by (try simp only [List.map_toArray, List.map_cons, List.map_nil]); first | done | rfl | (simp only [List.length_drop, List.length_take]; rfl)) ?_; (with_reducible refine (nuncioref13_text.calls k t304 a4_1 t305 _ A9.out).mono ?_); rintro e w15 ⟨rfl, hb⟩; refine ⟨_, rfl, ?_⟩; have n0_ := Aside0.mk (blk_below (g := gb302) (o := .cells #[.string a4_0, .string a4_1, .bool a4_2] 26 (0, 0)) (by (with_reducible repeat (first | refine blk_drewN ?_ _ | refine blk_drew ?_ | refine blk_alloc ?_ _)); exact BK302.out) hb); have n1_ := Aside0.mk (below_step (by repeat (first | (with_reducible first | exact HB.out | apply below_alloc | apply pw_below_drewN | apply below_drew1 | refine below_set ?_ GE302.out) | exact HB.out)) hb); clear BK302; clear HB; have BK302 := n0_; have HB := n1_; clear n0_ n1_; (try clear hb); (try clear hb2); (try clear hk); (try clear hi)))
  go_ret
  exact ⟨by first | rfl | (simp [errW_none, errW_some] <;> rfl) | (simp [*, errW_none, errW_some] <;> rfl), by repeat (first | (with_reducible first | exact HB.out | apply below_alloc | apply pw_below_drewN | apply below_drew1 | refine below_set ?_ GE302.out) | exact HB.out)⟩
 ·
  rw [if_neg c7] at H
  have c7b0 : (a3 == 0) = false := beq_eq_false_iff_ne.mpr c7
  have c7b1 : (a3 != 0) = true := bne_iff_ne.mpr c7
  replace H := Option.bind_eq_some_iff.mp H
  obtain ⟨t306, A180, H⟩ := H
  replace H : (some t306) = some r := H
  have A18 := Aside0.mk A180
  clear A180
  obtain rfl := Option.some.inj H
  go_enter Tryd.func43, Tryd.ntmps43
  go_wp2_with (first | ((with_reducible refine gate_dst (N := 9) rfl ?_); refine box_event ?hg (N := 9) ?hd (cs := #[.string a4_0, .string a4_1, .bool a4_2]) (t := 26) ?hr ?_; (case hd => rfl); (case hg => rfl); (case hr => first | (go_simp; done) | (go_simp; rfl)); intro gb302 hg w19 hbox hb; have n0_ := Aside0.mk (below_step (by repeat (first | (with_reducible first | exact HB.out | apply below_alloc | apply pw_below_drewN | apply below_drew1) | exact HB.out)) hb); have n1_ := Aside0.mk (hbox); have n2_ := Aside0.mk ((by rw [hg]; exact (below_size (by repeat (first | (with_reducible first | exact HB.out | apply below_alloc | apply pw_below_drewN | apply below_drew1) | exact HB.out))) : w.heap.size ≤ gb302)); have n3_ := Aside0.mk ((by rw [hg]; exact (below_size (by repeat (first | (with_reducible first | exact HB.out | apply below_alloc | apply pw_below_drewN | apply below_drew1) | exact HB.out))) : w.heap.size ≤ gb302)); clear HB; have HB := n0_; have BK302 := n1_; have GW302 := n2_; have GE302 := n3_; clear n0_ n1_ n2_ n3_; clear hb hbox hg) | ((with_reducible refine gate_callee (f := 41) rfl ?_); refine goesL_ (some 16) rfl rfl Tryd.func41 (by kernel_rfl) rfl #[.string a0, .int .u8 a1, .int .i64 a2, .int .u64 (IntKind.u64.wrap (a3))] rfl (by (try simp only [List.map_toArray, List.map_cons, List.map_nil]); first | done | rfl | (simp only [List.length_drop, List.length_take]; rfl)) ?_; (with_reducible refine (nuncioref09_Put.calls k a0 a1 a2 (IntKind.u64.wrap (a3)) t303 _ A6.out).mono ?_); rintro e w20 ⟨rfl, hb⟩; refine ⟨_, rfl, ?_⟩; have n0_ := Aside0.mk (blk_below (g := gb302) (o := .cells #[.string a4_0, .string a4_1, .bool a4_2] 26 (0, 0)) (by (with_reducible repeat (first | refine blk_drewN ?_ _ | refine blk_drew ?_ | refine blk_alloc ?_ _)); exact BK302.out) hb); have n1_ := Aside0.mk (below_step (by repeat (first | (with_reducible first | exact HB.out | apply below_alloc | apply pw_below_drewN | apply below_drew1 | refine below_set ?_ GE302.out) | exact HB.out)) hb); clear BK302; clear HB; have BK302 := n0_; have HB := n1_; clear n0_ n1_; (try clear hb); (try clear hb2); (try clear hk); (try clear hi); have hcz21_0 : w20.cell? ⟨gb302, 0, none⟩ = some (.string a4_0) := (blk_cell BK302.out 0).trans rfl; have hcz21_1 : w20.cell? ⟨gb302, 1, none⟩ = some (.string a4_1) := (blk_cell BK302.out 1).trans rfl; have hcz21_2 : w20.cell? ⟨gb302, 2, none⟩ = some (.bool a4_2) := (blk_cell BK302.out 2).trans rfl; have hfz21_0 := blk_frozen BK302.out 0; have hfz21_1 := blk_frozen BK302.out 1; have hfz21_2 := blk_frozen BK302.out 2) | ((with_reducible refine gate_callee (f := 61) rfl ?_); refine goesL_ (some 26) rfl rfl Tryd.func61 (by kernel_rfl) rfl #[.string t303, .string a4_1] rfl (by (try simp only [List.map_toArray, List.map_cons, List.map_nil]); first | done | rfl | (simp only [List.length_drop, List.length_take]; rfl)) ?_; (with_reducible refine (nuncioref13_text.calls k t303 a4_1 t306 _ A18.out).mono ?_); rintro e w22 ⟨rfl, hb⟩; refine ⟨_, rfl, ?_⟩; have n0_ := Aside0.mk (blk_below (g := gb302) (o := .cells #[.string a4_0, .string a4_1, .bool a4_2] 26 (0, 0)) (by (with_reducible repeat (first | refine blk_drewN ?_ _ | refine blk_drew ?_ | refine blk_alloc ?_ _)); exact BK302.out) hb); have n1_ := Aside0.mk (below_step (by repeat (first | (with_reducible first | exact HB.out | apply below_alloc | apply pw_below_drewN | apply below_drew1 | refine below_set ?_ GE302.out) | exact HB.out)) hb); clear BK302; clear HB; have BK302 := n0_; have HB := n1_; clear n0_ n1_; (try clear hb); (try clear hb2); (try clear hk); (try clear hi)))
  go_ret
  exact ⟨by first | rfl | (simp [errW_none, errW_some] <;> rfl) | (simp [*, errW_none, errW_some] <;> rfl), by repeat (first | (with_reducible first | exact HB.out | apply below_alloc | apply pw_below_drewN | apply below_drew1 | refine below_set ?_ GE302.out) | exact HB.out)⟩
end Go.Proofs.YtfkdocmhbmameaaDoor.Mine
namespace Go.Proofs
open Go.Shelf
def Tryd.lays145_ren : Go.Shelf.Ren := ⟨fun | 145 => 70 | 220 => 80 | 219 => 91 | 217 => 97 | 225 => 98 | 224 => 99 | 267 => 100 | 266 => 102 | 314 => 103 | n => n, fun | 9 => 9 | 4 => 4 | 59 => 66 | 3 => 3 | 5 => 5 | 46 => 106 | 146 => 153 | 51 => 42 | n => n, fun | 1 => 0 | n => n⟩
theorem Tryd.lays145 : Go.Proofs.Lays.n145 Tryd.prog Tryd.lays145_ren := {
  mixed := by kernel_rfl
  f145 := Tryd.func70.trans (congrArg some (by kernel_rfl))
  f217 := Tryd.func97.trans (congrArg some (by kernel_rfl))
  f219 := Tryd.func91.trans (congrArg some (by kernel_rfl))
  f220 := Tryd.func80.trans (congrArg some (by kernel_rfl))
  f224 := Tryd.func99.trans (congrArg some (by kernel_rfl))
  f225 := Tryd.func98.trans (congrArg some (by kernel_rfl))
  f266 := Tryd.func102.trans (congrArg some (by kernel_rfl))
  f267 := Tryd.func100.trans (congrArg some (by kernel_rfl))
  f314 := Tryd.func103.trans (congrArg some (by kernel_rfl))
  t3 := Tryd.underlying3
  a3 := Tryd.isAgg3
  z3 := Tryd.sizeOf3
  v3 := Tryd.zeroValue3
  t4 := Tryd.underlying4
  a4 := Tryd.isAgg4
  z4 := Tryd.sizeOf4
  v4 := Tryd.zeroValue4
  t5 := Tryd.underlying5
  a5 := Tryd.isAgg5
  z5 := Tryd.sizeOf5
  v5 := Tryd.zeroValue5
  t9 := Tryd.underlying9
  a9 := Tryd.isAgg9
  z9 := Tryd.sizeOf9
  v9 := Tryd.zeroValue9
  t46 := Tryd.underlying106
  a46 := Tryd.isAgg106
  z46 := Tryd.sizeOf106
  v46 := Tryd.zeroValue106
  t51 := Tryd.underlying42
  a51 := Tryd.isAgg42
  z51 := Tryd.sizeOf42
  v51 := Tryd.zeroValue42
  t59 := Tryd.underlying66
  a59 := Tryd.isAgg66
  z59 := Tryd.sizeOf66
  v59 := Tryd.zeroValue66
  t146 := Tryd.underlying153
  a146 := Tryd.isAgg153
  z146 := Tryd.sizeOf153
  v146 := Tryd.zeroValue153
  g1 := by kernel_rfl }
open Go.RowKit Go.Lib in
theorem Tryd.strings_Cut (s sep : ByteArray) (m : Int) (w : World) (hs : s.size < 4294967281) (hm : w.cell? ⟨0, 0, none⟩ = some (.int .i64 m)) :
    Calls Tryd.prog 70 #[.string s, .string sep] w fun e w' => e = .returned (.tuple #[.string ⟨(Lib.cut s.data.toList sep.data.toList).1.toArray⟩, .string ⟨(Lib.cut s.data.toList sep.data.toList).2.1.toArray⟩, .bool (Lib.cut s.data.toList sep.data.toList).2.2]) ∧ ∃ n, w' = w.drewN n := Any.strings_Cut Tryd.lays145 s sep m w hs hm
def Tryd.lays146_ren : Go.Shelf.Ren := ⟨fun | 146 => 69 | 221 => 79 | 268 => 88 | 138 => 89 | 143 => 90 | 195 => 94 | 197 => 95 | 218 => 96 | 219 => 91 | 260 => 101 | 217 => 97 | 225 => 98 | 224 => 99 | 267 => 100 | 266 => 102 | 314 => 103 | n => n, fun | 9 => 9 | 31 => 51 | 3 => 3 | 4 => 4 | 0 => 0 | 105 => 150 | 21 => 21 | 5 => 5 | 46 => 106 | 119 => 155 | 139 => 158 | 138 => 157 | 146 => 153 | 51 => 42 | n => n, fun | 1 => 0 | 3 => 1 | 4 => 2 | n => n⟩
theorem Tryd.lays146 : Go.Proofs.Lays.n146 Tryd.prog Tryd.lays146_ren := {
  mixed := by kernel_rfl
  f138 := Tryd.func89.trans (congrArg some (by kernel_rfl))
  f143 := Tryd.func90.trans (congrArg some (by kernel_rfl))
  f146 := Tryd.func69.trans (congrArg some (by kernel_rfl))
  f195 := Tryd.func94.trans (congrArg some (by kernel_rfl))
  f197 := Tryd.func95.trans (congrArg some (by kernel_rfl))
  f217 := Tryd.func97.trans (congrArg some (by kernel_rfl))
  f218 := Tryd.func96.trans (congrArg some (by kernel_rfl))
  f219 := Tryd.func91.trans (congrArg some (by kernel_rfl))
  f221 := Tryd.func79.trans (congrArg some (by kernel_rfl))
  f224 := Tryd.func99.trans (congrArg some (by kernel_rfl))
  f225 := Tryd.func98.trans (congrArg some (by kernel_rfl))
  f260 := Tryd.func101.trans (congrArg some (by kernel_rfl))
  f266 := Tryd.func102.trans (congrArg some (by kernel_rfl))
  f267 := Tryd.func100.trans (congrArg some (by kernel_rfl))
  f268 := Tryd.func88.trans (congrArg some (by kernel_rfl))
  f314 := Tryd.func103.trans (congrArg some (by kernel_rfl))
  t0 := Tryd.underlying0
  a0 := Tryd.isAgg0
  z0 := Tryd.sizeOf0
  v0 := Tryd.zeroValue0
  t3 := Tryd.underlying3
  a3 := Tryd.isAgg3
  z3 := Tryd.sizeOf3
  v3 := Tryd.zeroValue3
  t4 := Tryd.underlying4
  a4 := Tryd.isAgg4
  z4 := Tryd.sizeOf4
  v4 := Tryd.zeroValue4
  t5 := Tryd.underlying5
  a5 := Tryd.isAgg5
  z5 := Tryd.sizeOf5
  v5 := Tryd.zeroValue5
  t9 := Tryd.underlying9
  a9 := Tryd.isAgg9
  z9 := Tryd.sizeOf9
  v9 := Tryd.zeroValue9
  t21 := Tryd.underlying21
  a21 := Tryd.isAgg21
  z21 := Tryd.sizeOf21
  v21 := Tryd.zeroValue21
  t31 := Tryd.underlying51
  a31 := Tryd.isAgg51
  z31 := Tryd.sizeOf51
  v31 := Tryd.zeroValue51
  t46 := Tryd.underlying106
  a46 := Tryd.isAgg106
  z46 := Tryd.sizeOf106
  v46 := Tryd.zeroValue106
  t51 := Tryd.underlying42
  a51 := Tryd.isAgg42
  z51 := Tryd.sizeOf42
  v51 := Tryd.zeroValue42
  t105 := Tryd.underlying150
  a105 := Tryd.isAgg150
  z105 := Tryd.sizeOf150
  v105 := Tryd.zeroValue150
  t119 := Tryd.underlying155
  a119 := Tryd.isAgg155
  z119 := Tryd.sizeOf155
  t138 := Tryd.underlying157
  a138 := Tryd.isAgg157
  z138 := Tryd.sizeOf157
  v138 := Tryd.zeroValue157
  t139 := Tryd.underlying158
  a139 := Tryd.isAgg158
  z139 := Tryd.sizeOf158
  v139 := Tryd.zeroValue158
  t146 := Tryd.underlying153
  a146 := Tryd.isAgg153
  z146 := Tryd.sizeOf153
  v146 := Tryd.zeroValue153
  g1 := by kernel_rfl
  g3 := by kernel_rfl
  g4 := by kernel_rfl }
open Go.RowKit Go.Lib in
theorem Tryd.strings_Split (s sep : ByteArray) (m : Int) (w : World) (hs : s.size < 4294967281) (hm : w.cell? ⟨0, 0, none⟩ = some (.int .i64 m)) (h1 : 1 ≤ sep.size) :
    Calls Tryd.prog 69 #[.string s, .string sep] w fun e w' =>
      e = .returned (.slice (some ⟨w.heap.size, 0, none⟩) (Lib.countB s sep + 1) (Lib.countB s sep + 1)) ∧ w' = w.alloc (.cells ((Lib.splitB sep 0 (Lib.countB s sep) s).map Value.string).toArray 9) := Any.strings_Split Tryd.lays146 (by kernel_rfl) s sep m w hs hm h1
end Go.Proofs
namespace Go.Proofs.YtfkdocmhbmameaaDoor.Mine
open Go.RowKit Go.Proofs Go.Proofs.YtfkdocmhbmameaaDoorW.PrintWords Go.Proofs.YtfkdocmhbmameaaDoorW.PrintLast Go.Proofs.YtfkdocmhbmameaaDoorW.PrintMore
attribute [local go_sem] max2_int min2_int max_two min_two max_three min_three max_four min_four
set_option linter.unusedVariables false
set_option linter.unusedSimpArgs false
def TyOf (W : World) (b : Nat) (t : TypeId) : Prop := ∃ cs, W.heap[b]? = some (.cells cs t (0, 0))
theorem TyOf.mk {W : World} {b : Nat} {cs : Array Value} {t : TypeId} (h : W.heap[b]? = some (.cells cs t (0, 0))) : TyOf W b t := ⟨cs, h⟩
theorem TyOf.lt {W : World} {b : Nat} {t : TypeId} (h : TyOf W b t) : b < W.heap.size := by
  obtain ⟨cs, h⟩ := h
  exact blk_lt h
theorem TyOf.ne {W : World} {a b : Nat} {t u : TypeId} (h : TyOf W a t) (k : TyOf W b u) (hne : t ≠ u) : a ≠ b := by
  rintro rfl
  obtain ⟨cs, h⟩ := h
  obtain ⟨ds, k⟩ := k
  rw [h] at k
  injection k with k
  injection k with _ k
  exact hne k
theorem TyOf.below {W W1 : World} {b : Nat} {t : TypeId} (h : TyOf W b t) (hb : Below W.heap.size W W1) : TyOf W1 b t := by
  obtain ⟨cs, h⟩ := h
  exact ⟨cs, blk_below h hb⟩
theorem TyOf.alloc {W : World} {b : Nat} {t : TypeId} (h : TyOf W b t) (o : Obj) : TyOf (W.alloc o) b t := h.below (below_alloc (Below.refl _ _) o)
theorem TyOf.drewN {W : World} {b : Nat} {t : TypeId} (h : TyOf W b t) (m : Nat) : TyOf (W.drewN m) b t := h
theorem TyOf.drew {W : World} {b : Nat} {t : TypeId} (h : TyOf W b t) : TyOf W.drew b t := h
theorem TyOf.keep {W W1 : World} {b g : Nat} {t : TypeId} (h : TyOf W b t) (hk : KeepBut W W1 g none) (hne : b ≠ g) : TyOf W1 b t := by
  obtain ⟨cs, h⟩ := h
  exact ⟨cs, (hk.2 b (blk_lt h) hne (by simp)).trans h⟩
theorem TyOf.set {W : World} {b : Nat} {t : TypeId} (h : TyOf W b t) (p : Addr) (u : Value) : TyOf (W.setCell p u) b t := by
  obtain ⟨cs, h⟩ := h
  by_cases hp : b = p.block
  · subst hp
    refine ⟨if p.spot.isSome = true then cs else cs.setIfInBounds p.off u, ?_⟩
    unfold World.setCell
    simp [Array.getElem?_modify, h]
  · exact ⟨cs, (Below.heap_setCell W p u b hp).trans h⟩
def TyV (W : World) (v : Value) : Prop := ∀ ad n c, v = .slice (some ad) n c → 0 < n → TyOf W ad.block 103
theorem TyV.ofR {W : World} {base : Nat} {ok : Nat → Prop} {v : Value} {xs : List S103} (h : Kd.R k103 103 W base ok v xs) : TyV W v := by
  intro ad n c e hn
  subst e
  obtain ⟨inner, ho⟩ := Kd.R_own h
  have hl := (Kd.R_reads' h).1
  exact Kd.R_typed h ad.block (by simp [Value.ownBlock])
theorem TyV.set {W : World} {v : Value} (h : TyV W v) (p : Addr) (u : Value) : TyV (W.setCell p u) v := fun ad n c e hn => (h ad n c e hn).set p u
theorem TyV.below {W W1 : World} {v : Value} (h : TyV W v) (hb : Below W.heap.size W W1) : TyV W1 v := fun ad n c e hn => (h ad n c e hn).below hb
def EnvW (W : World) : Prop := ∃ m : Int, W.cell? ⟨0, 0, none⟩ = some (.int .i64 m)
theorem EnvW.below {W W1 : World} {n : Nat} (h : EnvW W) (hn : n = W.heap.size) (hb : Below n W W1) : EnvW W1 := by
  subst hn
  obtain ⟨m, h⟩ := h
  exact ⟨m, (hb.cell (World.block_lt_of_cell? _ _ h)).trans h⟩
end Go.Proofs.YtfkdocmhbmameaaDoor.Mine
namespace Go.Proofs.YtfkdocmhbmameaaDoor.Mine
open Go.RowKit Go.Proofs Go.Proofs.YtfkdocmhbmameaaDoorW.PrintWords Go.Proofs.YtfkdocmhbmameaaDoorW.PrintLast Go.Proofs.YtfkdocmhbmameaaDoorW.PrintMore
attribute [local go_sem] max2_int min2_int max_two min_two max_three min_three max_four min_four
set_option linter.unusedVariables false
set_option linter.unusedSimpArgs false
def tbParts (c : UInt8) : List UInt8 → List (List UInt8)
  | [] => [[]]
  | x :: r => if x = c then [] :: tbParts c r else match tbParts c r with
    | h :: t => (x :: h) :: t
    | [] => [[x]]
theorem tb_hit (c : UInt8) (k : Nat) (s : List UInt8) (i : Nat) (h : Lib.index s [c] = i) : Lib.splitK [c] 0 (k + 1) s = s.take i :: Lib.splitK [c] 0 k (s.drop (i + 1)) := by
  rw [Lib.splitK, if_neg (by rw [h]; simp), h]
  simp
theorem tb_miss (c : UInt8) (k : Nat) (s : List UInt8) (h : Lib.index s [c] = -1) : Lib.splitK [c] 0 k s = [s] := by
  cases k with
  | zero => rfl
  | succ k => rw [Lib.splitK, if_pos (by rw [h]; rfl)]
theorem tb_parts (c : UInt8) : ∀ l : List UInt8, Lib.splitK [c] 0 (Lib.count l [c]) l = tbParts c l
  | [] => by rw [Lib.count_miss (by simp [Lib.index])]; rfl
  | x :: r => by
    have ih := tb_parts c r
    by_cases h : x = c
    · subst h
      rw [Lib.count_cons_eq, Nat.add_comm, tb_hit x _ _ 0 (by rw [Lib.index]; simp [List.isPrefixOf])]
      simp only [tbParts, if_true, List.take_zero, List.drop_succ_cons, List.drop_zero, Nat.zero_add]
      rw [ih]
    · rw [Lib.count_cons_ne x c r h]
      have hix : Lib.index (x :: r) [c] = if Lib.index r [c] == -1 then -1 else Lib.index r [c] + 1 := by
        have hp : ([c] : List UInt8).isPrefixOf (x :: r) = false := by simp [List.isPrefixOf, Ne.symm h]
        rw [Lib.index, hp]; simp
      by_cases hm : Lib.index r [c] = -1
      · rw [tb_miss c _ r hm] at ih
        rw [tb_miss c _ _ (by rw [hix, if_pos (beq_iff_eq.2 hm)]), tbParts, if_neg h, ← ih]
      · have hge := Lib.index_ge r [c]
        obtain ⟨j, hj⟩ : ∃ j : Nat, Lib.index r [c] = j := ⟨(Lib.index r [c]).toNat, by omega⟩
        have hix' : Lib.index (x :: r) [c] = ((j + 1 : Nat) : Int) := by rw [hix, if_neg (fun e => hm (beq_iff_eq.1 e)), hj]; omega
        rw [Lib.count_hit (by simp) hj] at ih ⊢
        rw [Nat.add_comm] at ih ⊢
        rw [tb_hit c _ r j hj] at ih
        rw [tb_hit c _ _ (j + 1) hix', tbParts, if_neg h, ← ih]
        simp
def tbText : ByteArray := ⟨#[58, 97, 117, 116, 104, 111, 114, 105, 116, 121, 10, 58, 109, 101, 116, 104, 111, 100, 61, 71, 69, 84, 10, 58, 109, 101, 116, 104, 111, 100, 61, 80, 79, 83, 84, 10, 58, 112, 97, 116, 104, 61, 47, 10, 58, 112, 97, 116, 104, 61, 47, 105, 110, 100, 101, 120, 46, 104, 116, 109, 108, 10, 58, 115, 99, 104, 101, 109, 101, 61, 104, 116, 116, 112, 10, 58, 115, 99, 104, 101, 109, 101, 61, 104, 116, 116, 112, 115, 10, 58, 115, 116, 97, 116, 117, 115, 61, 50, 48, 48, 10, 58, 115, 116, 97, 116, 117, 115, 61, 50, 48, 52, 10, 58, 115, 116, 97, 116, 117, 115, 61, 50, 48, 54, 10, 58, 115, 116, 97, 116, 117, 115, 61, 51, 48, 52, 10, 58, 115, 116, 97, 116, 117, 115, 61, 52, 48, 48, 10, 58, 115, 116, 97, 116, 117, 115, 61, 52, 48, 52, 10, 58, 115, 116, 97, 116, 117, 115, 61, 53, 48, 48, 10, 97, 99, 99, 101, 112, 116, 45, 99, 104, 97, 114, 115, 101, 116, 10, 97, 99, 99, 101, 112, 116, 45, 101, 110, 99, 111, 100, 105, 110, 103, 61, 103, 122, 105, 112, 44, 32, 100, 101, 102, 108, 97, 116, 101, 10, 97, 99, 99, 101, 112, 116, 45, 108, 97, 110, 103, 117, 97, 103, 101, 10, 97, 99, 99, 101, 112, 116, 45, 114, 97, 110, 103, 101, 115, 10, 97, 99, 99, 101, 112, 116, 10, 97, 99, 99, 101, 115, 115, 45, 99, 111, 110, 116, 114, 111, 108, 45, 97, 108, 108, 111, 119, 45, 111, 114, 105, 103, 105, 110, 10, 97, 103, 101, 10, 97, 108, 108, 111, 119, 10, 97, 117, 116, 104, 111, 114, 105, 122, 97, 116, 105, 111, 110, 10, 99, 97, 99, 104, 101, 45, 99, 111, 110, 116, 114, 111, 108, 10, 99, 111, 110, 116, 101, 110, 116, 45, 100, 105, 115, 112, 111, 115, 105, 116, 105, 111, 110, 10, 99, 111, 110, 116, 101, 110, 116, 45, 101, 110, 99, 111, 100, 105, 110, 103, 10, 99, 111, 110, 116, 101, 110, 116, 45, 108, 97, 110, 103, 117, 97, 103, 101, 10, 99, 111, 110, 116, 101, 110, 116, 45, 108, 101, 110, 103, 116, 104, 10, 99, 111, 110, 116, 101, 110, 116, 45, 108, 111, 99, 97, 116, 105, 111, 110, 10, 99, 111, 110, 116, 101, 110, 116, 45, 114, 97, 110, 103, 101, 10, 99, 111, 110, 116, 101, 110, 116, 45, 116, 121, 112, 101, 10, 99, 111, 111, 107, 105, 101, 10, 100, 97, 116, 101, 10, 101, 116, 97, 103, 10, 101, 120, 112, 101, 99, 116, 10, 101, 120, 112, 105, 114, 101, 115, 10, 102, 114, 111, 109, 10, 104, 111, 115, 116, 10, 105, 102, 45, 109, 97, 116, 99, 104, 10, 105, 102, 45, 109, 111, 100, 105, 102, 105, 101, 100, 45, 115, 105, 110, 99, 101, 10, 105, 102, 45, 110, 111, 110, 101, 45, 109, 97, 116, 99, 104, 10, 105, 102, 45, 114, 97, 110, 103, 101, 10, 105, 102, 45, 117, 110, 109, 111, 100, 105, 102, 105, 101, 100, 45, 115, 105, 110, 99, 101, 10, 108, 97, 115, 116, 45, 109, 111, 100, 105, 102, 105, 101, 100, 10, 108, 105, 110, 107, 10, 108, 111, 99, 97, 116, 105, 111, 110, 10, 109, 97, 120, 45, 102, 111, 114, 119, 97, 114, 100, 115, 10, 112, 114, 111, 120, 121, 45, 97, 117, 116, 104, 101, 110, 116, 105, 99, 97, 116, 101, 10, 112, 114, 111, 120, 121, 45, 97, 117, 116, 104, 111, 114, 105, 122, 97, 116, 105, 111, 110, 10, 114, 97, 110, 103, 101, 10, 114, 101, 102, 101, 114, 101, 114, 10, 114, 101, 102, 114, 101, 115, 104, 10, 114, 101, 116, 114, 121, 45, 97, 102, 116, 101, 114, 10, 115, 101, 114, 118, 101, 114, 10, 115, 101, 116, 45, 99, 111, 111, 107, 105, 101, 10, 115, 116, 114, 105, 99, 116, 45, 116, 114, 97, 110, 115, 112, 111, 114, 116, 45, 115, 101, 99, 117, 114, 105, 116, 121, 10, 116, 114, 97, 110, 115, 102, 101, 114, 45, 101, 110, 99, 111, 100, 105, 110, 103, 10, 117, 115, 101, 114, 45, 97, 103, 101, 110, 116, 10, 118, 97, 114, 121, 10, 118, 105, 97, 10, 119, 119, 119, 45, 97, 117, 116, 104, 101, 110, 116, 105, 99, 97, 116, 101]⟩
def tbPieces : List ByteArray := Lib.splitB ⟨#[10]⟩ 0 (Lib.countB tbText ⟨#[10]⟩) tbText
theorem tbPieces_eq : tbPieces.map (·.data.toList) = tbParts 10 tbText.data.toList := by
  unfold tbPieces
  rw [Lib.splitB_data]
  exact tb_parts 10 tbText.data.toList
set_option maxRecDepth 100000 in
theorem tbParts_len : (tbParts 10 tbText.data.toList).length = 61 := by decide +kernel
theorem tbPieces_len : tbPieces.length = 61 := by
  have := congrArg List.length tbPieces_eq
  rw [List.length_map, tbParts_len] at this
  exact this
theorem tbCount : Lib.countB tbText ⟨#[10]⟩ + 1 = 61 := by
  rw [← tbPieces_len]
  exact (Lib.splitB_all ⟨#[10]⟩ (by decide) 0 _ tbText rfl).symm
set_option maxRecDepth 100000 in
theorem tbSmall : ∀ s ∈ tbPieces, s.size < 4294967281 := by
  intro s hs
  have h : s.data.toList ∈ tbParts 10 tbText.data.toList := by rw [← tbPieces_eq]; exact List.mem_map_of_mem hs
  have h2 : ∀ l ∈ tbParts 10 tbText.data.toList, l.length < 100 := by decide +kernel
  have h3 := h2 _ h
  have := Lib.size_eq s
  omega
end Go.Proofs.YtfkdocmhbmameaaDoor.Mine
namespace Go.Proofs.YtfkdocmhbmameaaDoor.Mine
open Go.RowKit Go.Proofs Go.Proofs.YtfkdocmhbmameaaDoorW.PrintWords Go.Proofs.YtfkdocmhbmameaaDoorW.PrintLast Go.Proofs.YtfkdocmhbmameaaDoorW.PrintMore
attribute [local go_sem] max2_int min2_int max_two min_two max_three min_three max_four min_four
set_option linter.unusedVariables false
set_option linter.unusedSimpArgs false
set_option maxRecDepth 100000 in
theorem tbText_small : tbText.size < 4294967281 := by decide +kernel
def tbCut (s : ByteArray) : S103 := ⟨⟨(Lib.cut s.data.toList [61]).1.toArray⟩, ⟨(Lib.cut s.data.toList [61]).2.1.toArray⟩⟩
def tbFixed : List S103 := tbPieces.map tbCut
theorem tb_at {PP : List ByteArray} {j : Nat} (hl : j < PP.length) : (PP.map Value.string).toArray[j]? = some (.string PP[j]) := by rw [List.getElem?_toArray, List.getElem?_map, List.getElem?_eq_getElem hl]; rfl
theorem tb_split (m : Int) (w : World) (hm : w.cell? ⟨0, 0, none⟩ = some (.int .i64 m)) :
    Calls Tryd.prog 69 #[.string tbText, .string ⟨#[10]⟩] w fun e w' => e = .returned (.slice (some ⟨w.heap.size, 0, none⟩) 61 61) ∧ w' = w.alloc (.cells (tbPieces.map Value.string).toArray 9) := by
  have h := Tryd.strings_Split tbText ⟨#[10]⟩ m w tbText_small hm (by decide)
  rw [tbCount] at h
  unfold tbPieces
  exact h
theorem tb_infoE : (Tryd.prog.info? 103).map (fun i => (i.zero, i.size, i.bytes)) = some (some (.agg #[.string ⟨#[]⟩, .string ⟨#[]⟩]), k103.sz, 32) := by kernel_rfl
set_option maxHeartbeats 2000000 in
set_option maxRecDepth 100000 in
theorem tb_list (m : Int) (w : World) (hm : w.cell? ⟨0, 0, none⟩ = some (.int .i64 m)) :
    Calls Tryd.prog 51 #[] w fun e w' => ∃ v, e = .returned v ∧ Kd.R k103 103 w' w.heap.size (fun _ => True) v tbFixed ∧ Below w.heap.size w w' := by
  have HM := Aside0.mk hm
  have HB := Aside0.mk (Below.refl w.heap.size w)
  have hs := tb_split m w hm
  have hlen := tbPieces_len
  have hsm := tbSmall
  unfold tbFixed
  unfold tbText at hs
  generalize tbPieces = PP at *
  have HS := Aside0.mk hs
  have HL := Aside0.mk hlen
  have HZ := Aside0.mk hsm
  clear hs hm hlen hsm
  go_enter Tryd.func51, Tryd.ntmps51
  go_wp2_with (first | (go_at_call 69; (refine (HS.out).mono ?_); rintro e w1 ⟨rfl, hw⟩; have BP := Aside0.mk (show w1.heap[w.heap.size]? = some (.cells (PP.map Value.string).toArray 9 (0, 0)) by rw [hw]; exact blk_new _ _); have n1_ := Aside0.mk (show Below w.heap.size w w1 by rw [hw]; exact below_alloc (Below.refl _ _) _); clear HB HS hw; have HB := n1_; clear n1_))
  go_loopw [1, 9] (fun v1 v9 wr => ∃ (j : Nat) (vv : Value), j ≤ 61 ∧ v1 = vv ∧ v9 = .int .i64 j ∧ Aside0 (Kd.R k103 103 wr w.heap.size (fun _ => True) vv ((PP.take j).map tbCut)) ∧ Aside0 (wr.heap[w.heap.size]? = some (.cells (PP.map Value.string).toArray 9 (0, 0))) ∧ Aside0 (Below w.heap.size w wr)) (fun _ v9 _ => 61 - (intOf v9).toNat)
  case atStart => exact ⟨0, _, by omega, rfl, rfl, ⟨by rw [List.take_zero]; exact Kd.R_nil _ _ _ _ _⟩, BP, HB⟩
  case round =>
    clear BP HB
    obtain ⟨j, vv, hj, e1_, rfl, HO, BP, HB⟩ := hrel
    subst e1_
    by_cases hlt : j < 61
    · have hl : j < PP.length := by rw [HL.out]; exact hlt
      have hx : wr.cell? ⟨w.heap.size, j, none⟩ = some (.string PP[j]) := (blk_cell BP.out j).trans (tb_at hl)
      have hsz := Aside0.mk (HZ.out PP[j] (List.getElem_mem hl))
      have ht := Aside0.mk (show (PP.take (j + 1)).map tbCut = (PP.take j).map tbCut ++ [tbCut PP[j]] by rw [List.take_succ_eq_append_getElem hl, List.map_append]; rfl)
      have HT : Aside0 (((PP.take j).map tbCut).length ≤ 61) := ⟨by rw [List.length_map, List.length_take]; omega⟩
      generalize PP[j] = pj at *
      have hm2 := Aside0.mk ((HB.out.cell (World.block_lt_of_cell? w _ HM.out)).trans HM.out)
      have q1 : decide ((j : Int) < 61) = true := decide_eq_true (by omega)
      go_wp2_with (first | (go_at_call 70; (refine (Tryd.strings_Cut pj ⟨#[61]⟩ m wr hsz.out hm2.out).mono ?_); rintro e w2 ⟨rfl, n, hw⟩; have n1_ := Aside0.mk (show Kd.R k103 103 w2 w.heap.size (fun _ => True) _ ((PP.take j).map tbCut) by rw [hw]; exact Kd.R_drewN HO.out n); have n2_ := Aside0.mk (show w2.heap[w.heap.size]? = some (.cells (PP.map Value.string).toArray 9 (0, 0)) by rw [hw]; exact blk_drewN BP.out n); have n3_ := Aside0.mk (show Below w.heap.size w w2 by rw [hw]; exact pw_below_drewN HB.out n); clear HO BP HB hw hx; have HO := n1_; have BP := n2_; have HB := n3_; clear n1_ n2_ n3_) | ((with_reducible refine gate_builtin (b := .append) (xs := #[.tmp 19, .tmp 23]) rfl ?_); at_builtin; refine Kd.R_append k103 (w0 := w) w.heap.size rfl (.tmp 19) (.tmp 23) 75 103 (.agg #[.string ⟨#[]⟩, .string ⟨#[]⟩]) 32 rfl Tryd.underlying75 tb_infoE rfl (by decide) (by omega) _ ((PP.take j).map tbCut) (tbCut pj) [.string (tbCut pj).f0, .string (tbCut pj).f1] (fun _ => True) (fun _ => False) rfl (by first | (go_simp; done) | (go_simp; rfl)) (k103_mkM _ _ _ _) (fun _ hk => hk.elim) (fun _ _ => trivial) HO.out HB.out HB.out.size (by have := HT.out; omega) ?_; intro v2 w3 ho hb hg hat; rw [← ht.out] at ho; have n1_ := Aside0.mk ho; have n2_ := Aside0.mk (blk_grown BP.out hg (Kd.R_ne HO.out BP.out (by decide))); have n3_ := Aside0.mk hb; clear HO BP HB ho hb hg hat; have HO := n1_; have BP := n2_; have HB := n3_; clear n1_ n2_ n3_))
      go_roundw
      case rel => exact ⟨j + 1, _, by omega, rfl, by go_num, HO, BP, HB⟩
      case measure => simp [intOf]; omega
    · have q1 : decide ((j : Int) < 61) = false := decide_eq_false (by omega)
      go_wp2
      go_ret
      exact ⟨_, rfl, by have h_ := HO.out; rw [List.take_of_length_le (by rw [HL.out]; omega)] at h_; exact h_, HB.out⟩
end Go.Proofs.YtfkdocmhbmameaaDoor.Mine
namespace Go.Proofs.YtfkdocmhbmameaaDoor.Mine
open Go.RowKit Go.Proofs Go.Proofs.YtfkdocmhbmameaaDoorW.PrintWords Go.Proofs.YtfkdocmhbmameaaDoorW.PrintLast Go.Proofs.YtfkdocmhbmameaaDoorW.PrintMore
attribute [local go_sem] max2_int min2_int max_two min_two max_three min_three max_four min_four
set_option linter.unusedVariables false
set_option linter.unusedSimpArgs false
def IsT (w0 W : World) (g : Nat) (most size : Int) (l fx : List S103) : Prop :=
  ∃ (A : Option Addr) (c : Nat) (B : Option Addr) (d : Nat), W.heap[g]? = some (.cells #[.int .i64 most, .int .i64 size, .slice A l.length c, .slice B fx.length d] 77 (0, 0)) ∧ w0.heap.size ≤ g ∧ l.length ≤ c ∧ fx.length ≤ d ∧ Kd.C k103 W A l.length l ∧ Kd.C k103 W B fx.length fx
theorem IsT.below {w0 W W1 : World} {g : Nat} {most size : Int} {l fx : List S103} (h : IsT w0 W g most size l fx) (hb : Below W.heap.size W W1) : IsT w0 W1 g most size l fx := by
  obtain ⟨A, c, B, d, h1, h2, h3, h4, h5, h6⟩ := h
  exact ⟨A, c, B, d, blk_below h1 hb, h2, h3, h4, Kd.C_below h5 hb, Kd.C_below h6 hb⟩
theorem tb_cells {P1 P2 : Option Addr} {m s : Int} {n1 n2 c1 c2 : Nat} {W : World} {g : Nat} (hg : W.heap[g]? = some (.cells #[.int .i64 m, .int .i64 s, .slice P1 n1 c1, .slice P2 n2 c2] 77 (0, 0))) {ad : Addr} (hb : ad.block = g) {x : ByteArray} (h : W.cell? ad = some (.string x)) : False := by
  subst hb
  rw [World.cell?, hg] at h
  simp only at h
  split at h
  · exact absurd h (by simp)
  · rcases Nat.lt_or_ge ad.off 4 with h4 | h4
    · have : ad.off = 0 ∨ ad.off = 1 ∨ ad.off = 2 ∨ ad.off = 3 := by omega
      rcases this with e | e | e | e <;> rw [e] at h <;> exact absurd h (by simp)
    · rw [Array.getElem?_eq_none (by simpa using h4)] at h
      exact absurd h (by simp)
theorem tb_keepC {W W' : World} {A : Option Addr} {n : Nat} {xs : List S103} {g : Nat} {P1 P2 : Option Addr} {m s : Int} {n1 n2 c1 c2 : Nat} (h : Kd.C k103 W A n xs) (hg : W.heap[g]? = some (.cells #[.int .i64 m, .int .i64 s, .slice P1 n1 c1, .slice P2 n2 c2] 77 (0, 0))) (hk : ∀ i, i < W.heap.size → i ≠ g → W'.heap[i]? = W.heap[i]?) : Kd.C k103 W' A n xs := by
  obtain ⟨h1, h2, h3⟩ := h
  refine ⟨h1, h2, fun h0 => ?_⟩
  obtain ⟨ad, e, hc⟩ := h3 h0
  refine ⟨ad, e, fun j p hj => ?_⟩
  obtain ⟨c, l1, l2, l3⟩ := hc j p hj
  have lo := k103_open l2
  subst lo
  refine ⟨_, l1, k103_mk _ _, fun i u hu => ?_⟩
  have hx := l3 i u hu
  have hlt := World.block_lt_of_cell? _ _ hx
  have hne : (ad.add (j * k103.sz + i)).block ≠ g := fun hb => by
    have hi : i = 0 ∨ i = 1 := by
      rcases Nat.lt_or_ge i 2 with h | h
      · omega
      · rw [List.getElem?_eq_none (by simpa using h)] at hu
        exact absurd hu (by simp)
    rcases hi with rfl | rfl
    · obtain rfl := Option.some.inj hu
      exact tb_cells hg hb hx
    · obtain rfl := Option.some.inj hu
      exact tb_cells hg hb hx
  exact (World.cell?_of_block (hk _ hlt hne)).trans hx
theorem IsT.drewN {w0 W : World} {g : Nat} {most size : Int} {l fx : List S103} (h : IsT w0 W g most size l fx) (n : Nat) : IsT w0 (W.drewN n) g most size l fx := h
theorem IsT.lt {w0 W : World} {g : Nat} {most size : Int} {l fx : List S103} (h : IsT w0 W g most size l fx) : g < W.heap.size := by
  obtain ⟨A, c, B, d, h1, _⟩ := h
  exact blk_lt h1
theorem IsT.ge {w0 W : World} {g : Nat} {most size : Int} {l fx : List S103} (h : IsT w0 W g most size l fx) : w0.heap.size ≤ g := by
  obtain ⟨A, c, B, d, _, h2, _⟩ := h
  exact h2
theorem tb_setk (W : World) (g j : Nat) (v : Value) : ∀ i, i < W.heap.size → i ≠ g → (W.setCell ⟨g, j, none⟩ v).heap[i]? = W.heap[i]? := fun i _ h => Below.heap_setCell W ⟨g, j, none⟩ v i h
theorem IsT.set1 {w0 W : World} {g : Nat} {most size : Int} {l fx : List S103} (h : IsT w0 W g most size l fx) (z : Int) : IsT w0 (W.setCell ⟨g, 1, none⟩ (.int .i64 z)) g most z l fx := by
  obtain ⟨A, c, B, d, h1, h2, h3, h4, h5, h6⟩ := h
  exact ⟨A, c, B, d, blk_put h1 1 _ rfl, h2, h3, h4, tb_keepC h5 h1 (tb_setk _ _ _ _), tb_keepC h6 h1 (tb_setk _ _ _ _)⟩
theorem IsT.set0 {w0 W : World} {g : Nat} {most size : Int} {l fx : List S103} (h : IsT w0 W g most size l fx) (z : Int) : IsT w0 (W.setCell ⟨g, 0, none⟩ (.int .i64 z)) g z size l fx := by
  obtain ⟨A, c, B, d, h1, h2, h3, h4, h5, h6⟩ := h
  exact ⟨A, c, B, d, blk_put h1 0 _ rfl, h2, h3, h4, tb_keepC h5 h1 (tb_setk _ _ _ _), tb_keepC h6 h1 (tb_setk _ _ _ _)⟩
theorem IsT.set2 {w0 W : World} {g : Nat} {most size : Int} {l fx l' : List S103} {A' : Option Addr} {c' : Nat} (h : IsT w0 W g most size l fx) (hl : l'.length ≤ c') (hC : Kd.C k103 W A' l'.length l') : IsT w0 (W.setCell ⟨g, 2, none⟩ (.slice A' l'.length c')) g most size l' fx := by
  obtain ⟨A, c, B, d, h1, h2, h3, h4, h5, h6⟩ := h
  exact ⟨A', c', B, d, blk_put h1 2 _ rfl, h2, hl, h4, tb_keepC hC h1 (tb_setk _ _ _ _), tb_keepC h6 h1 (tb_setk _ _ _ _)⟩
theorem IsT.apart {w0 W W' : World} {g : Nat} {most size : Int} {l fx : List S103} {A : Option Addr} {n : Nat} {xs : List S103} (h : IsT w0 W g most size l fx) (hC : Kd.C k103 W A n xs) (hk : KeepBut W W' g none) : Kd.C k103 W' A n xs := by
  obtain ⟨A2, c2, B2, d2, k1, _⟩ := h
  exact tb_keepC hC k1 (fun i hi hn => hk.2 i hi hn (by simp))
theorem box_size {P : Program} {ops : Array Oper} {rest : List Oper} {o : Oper} {a : Act} {Q : Exit → Act → World → Prop} {W : World} (hgd : o.guard = none) {N : Tmp} (_hd : o.dst = some N) {cs : Array Value} {t : TypeId}
    (hrun : (execOp a.eval o).run P W = .ok (.value (.pointer (some ⟨W.heap.size, 0, none⟩))) (W.alloc (.cells cs t (0, 0))))
    (h : ∀ g, g = W.heap.size → ∀ w1, w1.heap[g]? = some (.cells cs t (0, 0)) → Below W.heap.size W w1 → w1.heap.size = g + 1 → wpList P ops Q rest (a.put o.dst (.pointer (some ⟨g, 0, none⟩))) w1) : wpList P ops Q (o :: rest) a W :=
  Kd.event_run hgd hrun (h _ rfl _ (blk_new W _) (below_alloc (Below.refl _ _) _) (Array.size_push _))
set_option maxHeartbeats 2000000 in
set_option maxRecDepth 100000 in
theorem tb_new (n m : Int) (w0 w : World) (hm : w.cell? ⟨0, 0, none⟩ = some (.int .i64 m)) (hB : Below w0.heap.size w0 w) :
    Calls Tryd.prog 34 #[.int .i64 n] w fun e w' => ∃ g, e = .returned (.pointer (some ⟨g, 0, none⟩)) ∧ IsT w0 w' g (mx n 0) 0 [] tbFixed ∧ Below w0.heap.size w0 w' ∧ Below w.heap.size w w' ∧ (∀ v, w'.cell? ⟨g, 2, none⟩ = some v → TyV w' v) ∧ (∀ v, w'.cell? ⟨g, 3, none⟩ = some v → TyV w' v) ∧ w'.heap.size = g + 1 := by
  have HM := Aside0.mk hm
  have HB := Aside0.mk hB
  have HC := Aside0.mk (Below.refl w.heap.size w)
  have hu_57_ := Tryd.underlying77
  obtain ⟨M, hM⟩ : ∃ x, mx n 0 = x := ⟨_, rfl⟩
  have hM_ : (if n < 0 then 0 else n) = M := hM
  rw [hM]
  clear hm hB hM
  go_enter Tryd.func34, Tryd.ntmps34
  go_wp2_with (first | (go_at_call 51; (with_reducible refine (tb_list m w HM.out).mono ?_); rintro e w1 ⟨v, rfl, ho, hb⟩; obtain ⟨A, c, rfl⟩ := Kd.R_slice ho; have HL := Aside0.mk (Kd.R_reads' ho).2.1; have HR := Aside0.mk (Kd.R_reads' ho).2.2; have HT := Aside0.mk (Kd.R_lt ho); have HV := Aside0.mk (TyV.ofR ho); have n1_ := Aside0.mk (below_step HB.out hb); have n2_ := Aside0.mk hb; clear HB HC ho hb; have HB := n1_; have HC := n2_; clear n1_ n2_) | ((with_reducible refine gate_dst (N := 7) rfl ?_); refine box_size ?hg (N := 7) ?hd (cs := #[.int .i64 M, .int .i64 0, .slice none 0 0, .slice A tbFixed.length c]) (t := 77) ?hr ?_; (case hd => rfl); (case hg => rfl); (case hr => first | (go_simp; done) | (go_simp; rfl)); intro g hg w2 hbox hb hsz; have HZ := Aside0.mk hsz; clear hsz; have BG := Aside0.mk hbox; have GE := Aside0.mk (show w0.heap.size ≤ g by rw [hg]; exact HB.out.size); have n1_ := Aside0.mk (below_step HB.out hb); have n2_ := Aside0.mk (below_step HC.out hb); have n3_ := Aside0.mk (Kd.C_below HR.out hb); have n4_ := Aside0.mk (TyV.below HV.out hb); clear HB HC HR HV hb hbox hg; have HB := n1_; have HC := n2_; have HR := n3_; have HV := n4_; clear n1_ n2_ n3_ n4_))
  go_ret
  have z2 := (blk_cell BG.out 2).trans (rfl : _ = some (Value.slice none 0 0))
  have z3 := (blk_cell BG.out 3).trans (rfl : _ = some (Value.slice A tbFixed.length c))
  exact ⟨_, rfl, ⟨none, 0, A, c, BG.out, GE.out, Nat.le_refl _, HL.out, Kd.C_nil _ _, HR.out⟩, HB.out, HC.out, fun v hv => by obtain rfl := Option.some.inj (z2.symm.trans hv); exact fun ad n c e _ => by simp at e, fun v hv => by obtain rfl := Option.some.inj (z3.symm.trans hv); exact HV.out, HZ.out⟩
end Go.Proofs.YtfkdocmhbmameaaDoor.Mine
namespace Go.Proofs.YtfkdocmhbmameaaDoor.Mine
open Go.RowKit Go.Proofs Go.Proofs.YtfkdocmhbmameaaDoorW.PrintWords Go.Proofs.YtfkdocmhbmameaaDoorW.PrintLast Go.Proofs.YtfkdocmhbmameaaDoorW.PrintMore
attribute [local go_sem] max2_int min2_int max_two min_two max_three min_three max_four min_four
set_option linter.unusedVariables false
set_option linter.unusedSimpArgs false
def tb_Clone.f (l0 : List S103) : Option (List S103) := if l0.length < 4398046511104 then some l0 else none
set_option maxHeartbeats 4000000 in
set_option maxRecDepth 100000 in
theorem tb_Clone.calls (A0 : Option Addr) (c0 : Nat) (l0 : List S103) (r : List S103) (w : World) (hr0 : Kd.C k103 w A0 l0.length l0) (hc0 : l0.length ≤ c0) (h : tb_Clone.f l0 = some r) :
    Calls Tryd.prog 56 #[.slice A0 l0.length c0] w fun e w' => ∃ v0_ : Value, e = .returned (v0_) ∧ Kd.R k103 103 w' w.heap.size (fun _ => True) v0_ r ∧ Below w.heap.size w w' := by
  unfold tb_Clone.f at h
  by_cases hlim : l0.length < 4398046511104
  · rw [if_pos hlim] at h
    obtain rfl := Option.some.inj h
    clear h
    have LMc := Aside0.mk hlim
    clear hlim
    have HR0 := Aside0.mk hr0
    clear hr0
    cases A0 with
    | none =>
      have hz : l0 = [] := by
        cases l0 with
        | nil => rfl
        | cons x l =>
          obtain ⟨_, e, _⟩ := HR0.out.2.2 (by simp)
          cases e
      subst hz
      have hnil := Lib.run_eql_slice_nil (P := Tryd.prog) w 75 103 none 0 c0 0 0 Tryd.underlying75
      change Calls Tryd.prog 56 #[.slice none 0 c0] w _
      go_enter Tryd.func56, Tryd.ntmps56
      go_wp2
      go_ret
      exact ⟨_, rfl, Kd.R_nil _ _ _ _ _, Below.refl _ _⟩
    | some ad =>
      have hnil := Lib.run_eql_slice_nil (P := Tryd.prog) w 75 103 (some ad) l0.length c0 0 0 Tryd.underlying75
      have HB : Aside0 (Below w.heap.size w w) := ⟨Below.refl _ _⟩
      go_enter Tryd.func56, Tryd.ntmps56
      go_wp2_with (first | ((with_reducible refine gate_dst (N := 5) rfl ?_); refine Kd.R_lit k103 _ 103 ?hg (N := 5) ?hd (xs := ([] : List S103)) (inner := []) (ok := fun _ => True) (okp := fun _ => True) ?hr ?hp (fun _ hk => hk) trivial (Below.refl _ _) (Nat.le_refl _) (by simp) ?_; (case hd => rfl); (case hg => rfl); (case hr => first | (go_simp; done) | (go_simp; rfl)); (case hp => exact (Reps.none _ _)); intro v1 w1 ho hb hg_ hnew_; clear hg_ hnew_; have n0_ := Aside0.mk ho; have n1_ := Aside0.mk (below_step HB.out hb); clear HB; have HO1 := n0_; have HB := n1_; clear n0_ n1_; clear hb ho) | ((with_reducible refine gate_builtin (b := .append) (xs := #[.tmp 5, .tmp 6]) rfl ?_); at_builtin; refine Kd.R_append_rows k103 (w0 := w) w.heap.size rfl (.tmp 5) (.tmp 6) 75 103 (.agg #[.string ⟨#[]⟩, .string ⟨#[]⟩]) 32 rfl Tryd.underlying75 tb_infoE rfl (by decide) (by omega) v1 ([] : List S103) l0 _ _ _ (fun _ => True) (fun _ => False) rfl rfl ?aO ?aR (fun x cs (h : k103.K w1 x cs) => by rw [k103_open h]; exact k103_mkM _ _ _ x) (fun _ h => h.elim) ?aF ?aB ?aS ?aL ?_; (case aR => exact (Kd.C_below HR0.out HB.out)); (case aB => exact HB.out); (case aF => exact (fun _ _ => trivial)); (case aO => exact HO1.out); (case aS => exact (below_size HB.out)); (case aL => have := LMc.out; simp only [List.length_nil]; omega); intro v2 w2 ho hb hg hat; have n0_ := Aside0.mk ho; have n1_ := Aside0.mk hb; clear HB HO1; have HO2 := n0_; have HB := n1_; clear n0_ n1_; clear ho hb hg hat))
      go_ret
      exact ⟨_, rfl, HO2.out, HB.out⟩
  · rw [if_neg hlim] at h
    exact absurd h (by simp)
end Go.Proofs.YtfkdocmhbmameaaDoor.Mine
namespace Go.Proofs.YtfkdocmhbmameaaDoor.Mine
open Go.RowKit Go.Proofs Go.Proofs.YtfkdocmhbmameaaDoorW.PrintWords Go.Proofs.YtfkdocmhbmameaaDoorW.PrintLast Go.Proofs.YtfkdocmhbmameaaDoorW.PrintMore
attribute [local go_sem] max2_int min2_int max_two min_two max_three min_three max_four min_four
set_option linter.unusedVariables false
set_option linter.unusedSimpArgs false
def tb_entry_size.f (a0_0 : ByteArray) (a0_1 : ByteArray) : Option (Int) := some (wrap64 ((wrap64 ((a0_0.size : Int) + (a0_1.size : Int))) + 32))
set_option maxHeartbeats 8000000 in
set_option maxRecDepth 100000 in
theorem tb_entry_size.calls (a0_0 : ByteArray) (a0_1 : ByteArray) (r : Int) (w : World) (h : tb_entry_size.f a0_0 a0_1 = some r) :
  Calls Tryd.prog 72 #[.agg #[.string a0_0, .string a0_1]] w fun e w' => e = .returned (.int .i64 r) ∧ Below w.heap.size w w' := by
 have hu_62_ := Tryd.underlying103
 have HB := Aside0.mk (Below.refl w.heap.size w)
 have H : (some (wrap64 ((wrap64 ((a0_0.size : Int) + (a0_1.size : Int))) + 32))) = some r := h
 clear h
 obtain rfl := Option.some.inj H
 go_enter Tryd.func72, Tryd.ntmps72
 go_wp2_with (first | ((with_reducible refine gate_dst (N := 1) rfl ?_); refine box_event ?hg (N := 1) ?hd (cs := #[.string a0_0, .string a0_1]) (t := 103) ?hr ?_; (case hd => rfl); (case hg => rfl); (case hr => first | (go_simp; done) | (go_simp; rfl)); intro gb106 hg w2 hbox hb; have n0_ := Aside0.mk (below_step (by repeat (first | (with_reducible first | exact HB.out | apply below_alloc | apply pw_below_drewN | apply below_drew1) | exact HB.out)) hb); have n1_ := Aside0.mk (hbox); have n2_ := Aside0.mk ((by rw [hg]; exact (below_size (by repeat (first | (with_reducible first | exact HB.out | apply below_alloc | apply pw_below_drewN | apply below_drew1) | exact HB.out))) : w.heap.size ≤ gb106)); have n3_ := Aside0.mk ((by rw [hg]; exact (below_size (by repeat (first | (with_reducible first | exact HB.out | apply below_alloc | apply pw_below_drewN | apply below_drew1) | exact HB.out))) : w.heap.size ≤ gb106)); clear HB; have HB := n0_; have BK106 := n1_; have GW106 := n2_; have GE106 := n3_; clear n0_ n1_ n2_ n3_; clear hb hbox hg; have hcz3_0 : w2.cell? ⟨gb106, 0, none⟩ = some (.string a0_0) := (blk_cell BK106.out 0).trans rfl; have hcz3_1 : w2.cell? ⟨gb106, 1, none⟩ = some (.string a0_1) := (blk_cell BK106.out 1).trans rfl; have hfz3_0 := blk_frozen BK106.out 0; have hfz3_1 := blk_frozen BK106.out 1))
 go_ret
 exact ⟨by first | rfl | (simp [errW_none, errW_some] <;> rfl) | (simp [*, errW_none, errW_some] <;> rfl), by repeat (first | (with_reducible first | exact HB.out | apply below_alloc | apply pw_below_drewN | apply below_drew1 | refine below_set ?_ GE106.out) | exact HB.out)⟩
end Go.Proofs.YtfkdocmhbmameaaDoor.Mine
