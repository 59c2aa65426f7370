/- The walks and the plain laws that the row comes to: merged out of this repo's texts. -/
import Derived.Test.YtfkdocmhbmameaaDoorProg
import Derived.Below
import Derived.Deep.Draws
import Derived.Deep.AppendLies
import Derived.Maps.AppendAt
import Derived.OwnWalk
import Derived.Laws.BytesArg
import Derived.Laws.MakeOwn
import Derived.Laws.OwnMore
import Derived.Deep.OwnRows
import Derived.Tactics
import Derived.Lib.ConvBytes
import Derived.Laws.Slices
import Derived.WalkKit
import Derived.KernelRfl
import Derived.RowKit3
import Derived.Deep.LoopGhost
import Derived.Deep.QuietTactic
import Derived.BigQuiet
import Derived.WideLaws
import Derived.Deep.DeepCutAuto
import Derived.Deep.CutBlock
import Derived.Deep.RegionHeld3
import Derived.Laws.Rows
import Derived.Lib.AppendStr
import Derived.ArgAppend
import Derived.Laws.IdiomCopy
import Derived.RowKit
import Derived.OrdersHeld
import Derived.Laws.BitsLemmas
import Derived.Laws.StructEq
import Derived.Laws.CopyOwn
import Derived.SizedLaws
import Derived.ChangeSlices
import Derived.Deep.Slices
import Derived.Lib.SmallJoins
import Derived.Lib.OthersKept
import Derived.Lib.AppendZerosOnto
import Derived.WalkSpells
import Derived.Test.YtfkdocmhbmameaaDoorCUnpackReads1
import Derived.Test.YtfkdocmhbmameaaDoorCUnpackReads2
import Derived.Test.YtfkdocmhbmameaaDoorCUnpackReads3
import Derived.Test.YtfkdocmhbmameaaDoorCUnpackReads11
import Derived.Test.YtfkdocmhbmameaaDoorCUnpackReads12
import Derived.Test.YtfkdocmhbmameaaDoorCUnpackReads13
namespace Go.Proofs.YtfkdocmhbmameaaDoor.Mine
open Go.RowKit Go.Proofs.YtfkdocmhbmameaaDoorW.PrintWords Go.Proofs.YtfkdocmhbmameaaDoorW.PrintLast Go.Proofs.YtfkdocmhbmameaaDoorW.PrintMore
attribute [local go_sem] max2_int min2_int max_two min_two max_three min_three max_four min_four
set_option linter.unusedVariables false
set_option linter.unusedSimpArgs false
def IsS98 (w0 W : World) (g : Nat) (f0 : Int) (f1 : List (S88)) (f2 : ByteArray) (f3 : Int) (f4 : Int) : Prop := ∃ A1 c1, W.heap[g]? = some (.cells #[.int .i64 f0, .slice A1 f1.length c1, .string f2, .int .i64 f3, .int .i64 f4] 98 (0, 0)) ∧ w0.heap.size ≤ g ∧ Kd.C k88 w0 A1 f1.length f1
theorem IsS98.grown {w0 W : World} {g : Nat} {f0 : Int} {f1 : List (S88)} {f2 : ByteArray} {f3 : Int} {f4 : Int} {W1 : World} {row : Option Nat} (h : IsS98 w0 W g f0 f1 f2 f3 f4) (hw : W.grownBy W1 row) (hne : some g ≠ row) : IsS98 w0 W1 g f0 f1 f2 f3 f4 := by
 obtain ⟨A1, c1, hb, hg, hr1⟩ := h
 exact ⟨A1, c1, blk_grown hb hw hne, hg, hr1⟩
theorem IsS98.kept {w0 W : World} {g : Nat} {f0 : Int} {f1 : List (S88)} {f2 : ByteArray} {f3 : Int} {f4 : Int} {W1 : World} {S : Nat → Prop} (h : IsS98 w0 W g f0 f1 f2 f3 f4) (hk : Kept W W1 S) (hne : ¬ S g) : IsS98 w0 W1 g f0 f1 f2 f3 f4 := by
 obtain ⟨A1, c1, hb, hg, hr1⟩ := h
 exact ⟨A1, c1, blk_kept hb hk hne, hg, hr1⟩
theorem IsS98.below {w0 W : World} {g : Nat} {f0 : Int} {f1 : List (S88)} {f2 : ByteArray} {f3 : Int} {f4 : Int} {W1 : World} (h : IsS98 w0 W g f0 f1 f2 f3 f4) (hw : Below W.heap.size W W1) : IsS98 w0 W1 g f0 f1 f2 f3 f4 := h.grown (grown_of_below hw none) (by simp)
theorem IsS98.alloc {w0 W : World} {g : Nat} {f0 : Int} {f1 : List (S88)} {f2 : ByteArray} {f3 : Int} {f4 : Int} (h : IsS98 w0 W g f0 f1 f2 f3 f4) (o : Obj) : IsS98 w0 (W.alloc o) g f0 f1 f2 f3 f4 := h.below (below_alloc (Below.refl _ _) o)
theorem IsS98.drewN {w0 W : World} {g : Nat} {f0 : Int} {f1 : List (S88)} {f2 : ByteArray} {f3 : Int} {f4 : Int} (h : IsS98 w0 W g f0 f1 f2 f3 f4) (m : Nat) : IsS98 w0 (W.drewN m) g f0 f1 f2 f3 f4 := h
theorem IsS98.drew {w0 W : World} {g : Nat} {f0 : Int} {f1 : List (S88)} {f2 : ByteArray} {f3 : Int} {f4 : Int} (h : IsS98 w0 W g f0 f1 f2 f3 f4) : IsS98 w0 W.drew g f0 f1 f2 f3 f4 := h
theorem IsS98.at_ {w0 W : World} {g : Nat} {f0 : Int} {f1 : List (S88)} {f2 : ByteArray} {f3 : Int} {f4 : Int} {w' : World} {m : Nat} (hq : W.drewN m = w') (h : IsS98 w0 W g f0 f1 f2 f3 f4) : IsS98 w0 w' g f0 f1 f2 f3 f4 := by subst hq; exact IsS98.drewN h m
theorem IsS98.apart {w0 W : World} {g : Nat} {f0 : Int} {f1 : List (S88)} {f2 : ByteArray} {f3 : Int} {f4 : Int} {α : Type} {d : Kd α} {e : Nat} {base : Nat} {ok : Nat → Prop} {v : Value} {xs : List α} (h : IsS98 w0 W g f0 f1 f2 f3 f4) (ho : d.R e W base ok v xs) (ht : ∀ q, q ∈ e :: d.E → q ≠ 98) : d.R e W base (fun k => ok k ∧ k ≠ g) v xs := by
 obtain ⟨A1, c1, hb, hg, hr1⟩ := h
 exact Kd.R_types ho hb ht
theorem IsS98.own_ne {w0 W : World} {g : Nat} {f0 : Int} {f1 : List (S88)} {f2 : ByteArray} {f3 : Int} {f4 : Int} {α : Type} {d : Kd α} {e : Nat} {base : Nat} {ok : Nat → Prop} {v : Value} {xs : List α} (h : IsS98 w0 W g f0 f1 f2 f3 f4) (ho : d.R e W base ok v xs) (ht : e ≠ 98) : some g ≠ v.ownBlock := by
 obtain ⟨A1, c1, hb, hg, hr1⟩ := h
 exact Kd.R_ne ho hb ht
theorem IsS98.lt {w0 W : World} {g : Nat} {f0 : Int} {f1 : List (S88)} {f2 : ByteArray} {f3 : Int} {f4 : Int} (h : IsS98 w0 W g f0 f1 f2 f3 f4) : g < W.heap.size := by
 obtain ⟨A1, c1, hb, hg, hr1⟩ := h
 exact blk_lt hb
theorem IsS98.ge {w0 W : World} {g : Nat} {f0 : Int} {f1 : List (S88)} {f2 : ByteArray} {f3 : Int} {f4 : Int} (h : IsS98 w0 W g f0 f1 f2 f3 f4) : w0.heap.size ≤ g := by
 obtain ⟨A1, c1, hb, hg, hr1⟩ := h
 exact hg
theorem IsS98.ne_blk {w0 W : World} {g : Nat} {f0 : Int} {f1 : List (S88)} {f2 : ByteArray} {f3 : Int} {f4 : Int} {a : Nat} {cs : Array Value} {t : TypeId} {fr : Nat × Nat} (h : IsS98 w0 W g f0 f1 f2 f3 f4) (hb2 : W.heap[a]? = some (.cells cs t fr)) (ht : t ≠ 98) : g ≠ a := by
 obtain ⟨A1, c1, hb, hg, hr1⟩ := h
 rintro rfl
 rw [hb] at hb2
 injection hb2 with hb2
 injection hb2 with _ ht2
 exact ht ht2.symm
def nuncioref11_At.f (k : Nat) (a0_0 : Int) (l0_1 : List (S88)) (a1 : Int) : Option (ByteArray × ByteArray × Bool) := (nuncioref11_All.f k a0_0 l0_1).bind fun t415 => (if a1 < 1 then (some ((⟨#[]⟩ : ByteArray), (⟨#[]⟩ : ByteArray), false)) else (if a1 > (t415.length : Int) then (some ((⟨#[]⟩ : ByteArray), (⟨#[]⟩ : ByteArray), false)) else (if 0 ≤ (wrap64 (a1 - 1)) then (if (wrap64 (a1 - 1)) < (t415.length : Int) then (some ((rd_T88 t415 (wrap64 (a1 - 1))).f0, (rd_T88 t415 (wrap64 (a1 - 1))).f1, true)) else (none)) else (none))))
set_option maxHeartbeats 8000000 in
set_option maxRecDepth 100000 in
theorem nuncioref11_At.calls (k : Nat) (a0_0 : Int) (A0_1 : Option Addr) (c0_1 : Nat) (l0_1 : List (S88)) (a1 : Int) (r1 : ByteArray) (r2 : ByteArray) (r3 : Bool) (w : World) (hr0_1 : Kd.C k88 w A0_1 l0_1.length l0_1) (hc0_1 : l0_1.length ≤ c0_1) (h : nuncioref11_At.f k a0_0 l0_1 a1 = some (r1, r2, r3)) :
  Calls Tryd.prog 67 #[.agg #[.int .i64 a0_0, .slice A0_1 l0_1.length c0_1], .int .i64 a1] w fun e w' => e = .returned (.tuple #[.agg #[.string r1, .string r2], .bool r3]) ∧ Below w.heap.size w w' := by
 have hu37 := Tryd.underlying37
 have hu88 := Tryd.underlying88
 have HR0_1 := Aside0.mk hr0_1
 have HC0_1 := Aside0.mk hc0_1
 clear hr0_1 hc0_1
 have HB := Aside0.mk (Below.refl w.heap.size w)
 have H : ((nuncioref11_All.f k a0_0 l0_1).bind fun t415 => (if a1 < 1 then (some ((⟨#[]⟩ : ByteArray), (⟨#[]⟩ : ByteArray), false)) else (if a1 > (t415.length : Int) then (some ((⟨#[]⟩ : ByteArray), (⟨#[]⟩ : ByteArray), false)) else (if 0 ≤ (wrap64 (a1 - 1)) then (if (wrap64 (a1 - 1)) < (t415.length : Int) then (some ((rd_T88 t415 (wrap64 (a1 - 1))).f0, (rd_T88 t415 (wrap64 (a1 - 1))).f1, true)) else (none)) else (none))))) = some (r1, r2, r3) := h
 clear h
 replace H := Option.bind_eq_some_iff.mp H
 obtain ⟨t415, A30, H⟩ := H
 replace H : (if a1 < 1 then (some ((⟨#[]⟩ : ByteArray), (⟨#[]⟩ : ByteArray), false)) else (if a1 > (t415.length : Int) then (some ((⟨#[]⟩ : ByteArray), (⟨#[]⟩ : ByteArray), false)) else (if 0 ≤ (wrap64 (a1 - 1)) then (if (wrap64 (a1 - 1)) < (t415.length : Int) then (some ((rd_T88 t415 (wrap64 (a1 - 1))).f0, (rd_T88 t415 (wrap64 (a1 - 1))).f1, true)) else (none)) else (none)))) = some (r1, r2, r3) := H
 have A3 := Aside0.mk A30
 clear A30
 by_cases c4 : a1 < 1
 ·
  rw [if_pos c4] at H
  have c4b0 : decide (a1 < 1) = true := decide_eq_true c4
  clear c4
  simp only [Option.some.injEq, Prod.mk.injEq] at H
  obtain ⟨rfl, rfl, rfl⟩ := H
  go_enter Tryd.func67, Tryd.ntmps67
  go_wp2_with (first | ((with_reducible refine gate_dst (N := 2) rfl ?_); (try (refine gate_guard (by rfl) ?_; dsimp only)); refine box_event ?hg (N := 2) ?hd (cs := #[.int .i64 a0_0, .slice A0_1 l0_1.length c0_1]) (t := 37) ?hr ?_; (case hd => rfl); (case hg => rfl); (case hr => first | (go_simp; done) | (go_simp; rfl)); intro gb413 hg w5 hbox hb; have n0_ := Aside0.mk (below_step (by repeat (first | (with_reducible first | exact HB.out | apply below_alloc | apply pw_below_drewN | apply below_drew1) | exact HB.out)) hb); have n1_ := Aside0.mk (hbox); have n2_ := Aside0.mk ((by rw [hg]; exact (below_size (by repeat (first | (with_reducible first | exact HB.out | apply below_alloc | apply pw_below_drewN | apply below_drew1) | exact HB.out))) : w.heap.size ≤ gb413)); have n3_ := Aside0.mk ((by rw [hg]; exact (below_size (by repeat (first | (with_reducible first | exact HB.out | apply below_alloc | apply pw_below_drewN | apply below_drew1) | exact HB.out))) : w.heap.size ≤ gb413)); clear HB; have HB := n0_; have BK413 := n1_; have GW413 := n2_; have GE413 := n3_; clear n0_ n1_ n2_ n3_; clear hb hbox hg) | ((with_reducible refine gate_dst (N := 4) rfl ?_); (try (refine gate_guard (by rfl) ?_; dsimp only)); refine box_event ?hg (N := 4) ?hd (cs := #[.string (⟨#[]⟩ : ByteArray), .string (⟨#[]⟩ : ByteArray)]) (t := 88) ?hr ?_; (case hd => rfl); (case hg => rfl); (case hr => first | (go_simp; done) | (go_simp; rfl)); intro gb414 hg w6 hbox hb; have n0_ := Aside0.mk (blk_below (g := gb413) (o := .cells #[.int .i64 a0_0, .slice A0_1 l0_1.length c0_1] 37 (0, 0)) (by (with_reducible repeat (first | refine blk_drewN ?_ _ | refine blk_drew ?_ | refine blk_alloc ?_ _)); exact BK413.out) hb); have n1_ := Aside0.mk (below_step (by repeat (first | (with_reducible first | exact HB.out | apply below_alloc | apply pw_below_drewN | apply below_drew1 | refine below_set ?_ GE413.out) | exact HB.out)) hb); have n2_ := Aside0.mk (hbox); have n3_ := Aside0.mk ((by rw [hg]; exact (below_size (by repeat (first | (with_reducible first | exact HB.out | apply below_alloc | apply pw_below_drewN | apply below_drew1 | refine below_set ?_ GE413.out) | exact HB.out))) : w.heap.size ≤ gb414)); have n4_ := Aside0.mk ((by rw [hg]; exact (below_size (by repeat (first | (with_reducible first | exact HB.out | apply below_alloc | apply pw_below_drewN | apply below_drew1 | refine below_set ?_ GE413.out) | exact HB.out))) : w.heap.size ≤ gb414)); have n5_ := Aside0.mk ((by rw [hg]; exact Nat.ne_of_lt (blk_lt (g := gb413) (o := .cells #[.int .i64 a0_0, .slice A0_1 l0_1.length c0_1] 37 (0, 0)) (by (with_reducible repeat (first | refine blk_drewN ?_ _ | refine blk_drew ?_ | refine blk_alloc ?_ _)); exact BK413.out)) : gb413 ≠ gb414)); have n6_ := Aside0.mk ((by rw [hg]; exact Nat.ne_of_gt (blk_lt (g := gb413) (o := .cells #[.int .i64 a0_0, .slice A0_1 l0_1.length c0_1] 37 (0, 0)) (by (with_reducible repeat (first | refine blk_drewN ?_ _ | refine blk_drew ?_ | refine blk_alloc ?_ _)); exact BK413.out)) : gb414 ≠ gb413)); clear BK413; clear HB; have BK413 := n0_; have HB := n1_; have BK414 := n2_; have GW414 := n3_; have GE414 := n4_; have NB413_414 := n5_; have NB414_413 := n6_; clear n0_ n1_ n2_ n3_ n4_ n5_ n6_; clear hb hbox hg; have hnb7 := NB413_414.out; have hnc7 := NB414_413.out; have hcz8_0 : w6.cell? ⟨gb413, 0, none⟩ = some (.int .i64 a0_0) := (blk_cell BK413.out 0).trans rfl; have hcz8_1 : w6.cell? ⟨gb413, 1, none⟩ = some (.slice A0_1 l0_1.length c0_1) := (blk_cell BK413.out 1).trans rfl; have hfz8_0 := blk_frozen BK413.out 0; have hfz8_1 := blk_frozen BK413.out 1) | ((with_reducible refine gate_callee (f := 60) rfl ?_); refine goesL_ (some 8) rfl rfl Tryd.func60 (by kernel_rfl) rfl #[.agg #[.int .i64 a0_0, .slice A0_1 l0_1.length c0_1]] rfl (by (try simp only [List.map_toArray, List.map_cons, List.map_nil]); first | done | rfl | (simp only [List.length_drop, List.length_take]; rfl)) ?_; (with_reducible refine (nuncioref11_All.calls k a0_0 _ _ l0_1 t415 _ ?side1 ?side2 A3.out).mono ?_); (case side1 => repeat (first | exact (Kd.C_below HR0_1.out HB.out) | (with_reducible refine Kd.C_alloc ?_ _) | (with_reducible refine Kd.C_drewN ?_ _) | (with_reducible refine Kd.C_drew ?_))); (case side2 => exact HC0_1.out); rintro e w9 ⟨v416, rfl, ho0, hb⟩; refine ⟨_, rfl, ?_⟩; have n0_ := Aside0.mk (Kd.R_lower (Kd.R_newB ho0 (g := gb414) (o := .cells #[.string (⟨#[]⟩ : ByteArray), .string (⟨#[]⟩ : ByteArray)] 88 (0, 0)) (by (with_reducible repeat (first | refine blk_drewN ?_ _ | refine blk_drew ?_ | refine blk_alloc ?_ _)); exact BK414.out)) (below_size (by repeat (first | (with_reducible first | exact HB.out | apply below_alloc | apply pw_below_drewN | apply below_drew1 | refine below_set ?_ GE413.out | refine below_set ?_ GE414.out) | exact HB.out)))); have n1_ := Aside0.mk (blk_below (g := gb413) (o := .cells #[.int .i64 a0_0, .slice A0_1 l0_1.length c0_1] 37 (0, 0)) (by (with_reducible repeat (first | refine blk_drewN ?_ _ | refine blk_drew ?_ | refine blk_alloc ?_ _)); exact BK413.out) hb); have n2_ := Aside0.mk (blk_below (g := gb414) (o := .cells #[.string (⟨#[]⟩ : ByteArray), .string (⟨#[]⟩ : ByteArray)] 88 (0, 0)) (by (with_reducible repeat (first | refine blk_drewN ?_ _ | refine blk_drew ?_ | refine blk_alloc ?_ _)); exact BK414.out) hb); have n3_ := Aside0.mk (below_step (by repeat (first | (with_reducible first | exact HB.out | apply below_alloc | apply pw_below_drewN | apply below_drew1 | refine below_set ?_ GE413.out | refine below_set ?_ GE414.out) | exact HB.out)) hb); clear BK413; clear BK414; clear HB; have HO417 := n0_; have BK413 := n1_; have BK414 := n2_; have HB := n3_; clear n0_ n1_ n2_ n3_; (try clear hb); (try clear hb2); (try clear hk); (try clear hi); (try clear ho0); have hcz10_0 : w9.cell? ⟨gb414, 0, none⟩ = some (.string (⟨#[]⟩ : ByteArray)) := (blk_cell BK414.out 0).trans rfl; have hcz10_1 : w9.cell? ⟨gb414, 1, none⟩ = some (.string (⟨#[]⟩ : ByteArray)) := (blk_cell BK414.out 1).trans rfl; have hfz10_0 := blk_frozen BK414.out 0; have hfz10_1 := blk_frozen BK414.out 1))
  refine bodyPost_ret (results_ct rfl _ _ gb414 88 #[.string (⟨#[]⟩ : ByteArray), .string (⟨#[]⟩ : ByteArray)] (0, 0) _ rfl (by (with_reducible repeat (first | refine blk_drewN ?_ _ | refine blk_drew ?_ | refine blk_alloc ?_ _)); refine blk_put (cs := #[.string (⟨#[]⟩ : ByteArray), .string (⟨#[]⟩ : ByteArray)]) ?_ 1 _ rfl; (with_reducible repeat (first | refine blk_drewN ?_ _ | refine blk_drew ?_ | refine blk_alloc ?_ _)); refine blk_put (cs := #[.string (⟨#[]⟩ : ByteArray), .string (⟨#[]⟩ : ByteArray)]) ?_ 0 _ rfl; (with_reducible repeat (first | refine blk_drewN ?_ _ | refine blk_drew ?_ | refine blk_alloc ?_ _)); exact BK414.out) Tryd.underlying88 rfl (by kernel_rfl)) rfl ?_
  exact ⟨by first | rfl | (simp [errW_none, errW_some] <;> rfl) | (simp [*, errW_none, errW_some] <;> rfl), by repeat (first | (with_reducible first | exact HB.out | apply below_alloc | apply pw_below_drewN | apply below_drew1 | refine below_set ?_ GE413.out | refine below_set ?_ GE414.out) | exact HB.out)⟩
 ·
  rw [if_neg c4] at H
  have c4b0 : decide (a1 < 1) = false := decide_eq_false c4
  clear c4
  by_cases c11 : a1 > (t415.length : Int)
  ·
   rw [if_pos c11] at H
   have c11b0 : decide ((t415.length : Int) < a1) = true := decide_eq_true c11
   clear c11
   simp only [Option.some.injEq, Prod.mk.injEq] at H
   obtain ⟨rfl, rfl, rfl⟩ := H
   go_enter Tryd.func67, Tryd.ntmps67
   go_wp2_with (first | ((with_reducible refine gate_dst (N := 2) rfl ?_); (try (refine gate_guard (by rfl) ?_; dsimp only)); refine box_event ?hg (N := 2) ?hd (cs := #[.int .i64 a0_0, .slice A0_1 l0_1.length c0_1]) (t := 37) ?hr ?_; (case hd => rfl); (case hg => rfl); (case hr => first | (go_simp; done) | (go_simp; rfl)); intro gb413 hg w12 hbox hb; have n0_ := Aside0.mk (below_step (by repeat (first | (with_reducible first | exact HB.out | apply below_alloc | apply pw_below_drewN | apply below_drew1) | exact HB.out)) hb); have n1_ := Aside0.mk (hbox); have n2_ := Aside0.mk ((by rw [hg]; exact (below_size (by repeat (first | (with_reducible first | exact HB.out | apply below_alloc | apply pw_below_drewN | apply below_drew1) | exact HB.out))) : w.heap.size ≤ gb413)); have n3_ := Aside0.mk ((by rw [hg]; exact (below_size (by repeat (first | (with_reducible first | exact HB.out | apply below_alloc | apply pw_below_drewN | apply below_drew1) | exact HB.out))) : w.heap.size ≤ gb413)); clear HB; have HB := n0_; have BK413 := n1_; have GW413 := n2_; have GE413 := n3_; clear n0_ n1_ n2_ n3_; clear hb hbox hg) | ((with_reducible refine gate_dst (N := 4) rfl ?_); (try (refine gate_guard (by rfl) ?_; dsimp only)); refine box_event ?hg (N := 4) ?hd (cs := #[.string (⟨#[]⟩ : ByteArray), .string (⟨#[]⟩ : ByteArray)]) (t := 88) ?hr ?_; (case hd => rfl); (case hg => rfl); (case hr => first | (go_simp; done) | (go_simp; rfl)); intro gb414 hg w13 hbox hb; have n0_ := Aside0.mk (blk_below (g := gb413) (o := .cells #[.int .i64 a0_0, .slice A0_1 l0_1.length c0_1] 37 (0, 0)) (by (with_reducible repeat (first | refine blk_drewN ?_ _ | refine blk_drew ?_ | refine blk_alloc ?_ _)); exact BK413.out) hb); have n1_ := Aside0.mk (below_step (by repeat (first | (with_reducible first | exact HB.out | apply below_alloc | apply pw_below_drewN | apply below_drew1 | refine below_set ?_ GE413.out) | exact HB.out)) hb); have n2_ := Aside0.mk (hbox); have n3_ := Aside0.mk ((by rw [hg]; exact (below_size (by repeat (first | (with_reducible first | exact HB.out | apply below_alloc | apply pw_below_drewN | apply below_drew1 | refine below_set ?_ GE413.out) | exact HB.out))) : w.heap.size ≤ gb414)); have n4_ := Aside0.mk ((by rw [hg]; exact (below_size (by repeat (first | (with_reducible first | exact HB.out | apply below_alloc | apply pw_below_drewN | apply below_drew1 | refine below_set ?_ GE413.out) | exact HB.out))) : w.heap.size ≤ gb414)); have n5_ := Aside0.mk ((by rw [hg]; exact Nat.ne_of_lt (blk_lt (g := gb413) (o := .cells #[.int .i64 a0_0, .slice A0_1 l0_1.length c0_1] 37 (0, 0)) (by (with_reducible repeat (first | refine blk_drewN ?_ _ | refine blk_drew ?_ | refine blk_alloc ?_ _)); exact BK413.out)) : gb413 ≠ gb414)); have n6_ := Aside0.mk ((by rw [hg]; exact Nat.ne_of_gt (blk_lt (g := gb413) (o := .cells #[.int .i64 a0_0, .slice A0_1 l0_1.length c0_1] 37 (0, 0)) (by (with_reducible repeat (first | refine blk_drewN ?_ _ | refine blk_drew ?_ | refine blk_alloc ?_ _)); exact BK413.out)) : gb414 ≠ gb413)); clear BK413; clear HB; have BK413 := n0_; have HB := n1_; have BK414 := n2_; have GW414 := n3_; have GE414 := n4_; have NB413_414 := n5_; have NB414_413 := n6_; clear n0_ n1_ n2_ n3_ n4_ n5_ n6_; clear hb hbox hg; have hnb14 := NB413_414.out; have hnc14 := NB414_413.out; have hcz15_0 : w13.cell? ⟨gb413, 0, none⟩ = some (.int .i64 a0_0) := (blk_cell BK413.out 0).trans rfl; have hcz15_1 : w13.cell? ⟨gb413, 1, none⟩ = some (.slice A0_1 l0_1.length c0_1) := (blk_cell BK413.out 1).trans rfl; have hfz15_0 := blk_frozen BK413.out 0; have hfz15_1 := blk_frozen BK413.out 1) | ((with_reducible refine gate_callee (f := 60) rfl ?_); refine goesL_ (some 8) rfl rfl Tryd.func60 (by kernel_rfl) rfl #[.agg #[.int .i64 a0_0, .slice A0_1 l0_1.length c0_1]] rfl (by (try simp only [List.map_toArray, List.map_cons, List.map_nil]); first | done | rfl | (simp only [List.length_drop, List.length_take]; rfl)) ?_; (with_reducible refine (nuncioref11_All.calls k a0_0 _ _ l0_1 t415 _ ?side1 ?side2 A3.out).mono ?_); (case side1 => repeat (first | exact (Kd.C_below HR0_1.out HB.out) | (with_reducible refine Kd.C_alloc ?_ _) | (with_reducible refine Kd.C_drewN ?_ _) | (with_reducible refine Kd.C_drew ?_))); (case side2 => exact HC0_1.out); rintro e w16 ⟨v416, rfl, ho0, hb⟩; refine ⟨_, rfl, ?_⟩; have n0_ := Aside0.mk (Kd.R_lower (Kd.R_newB ho0 (g := gb414) (o := .cells #[.string (⟨#[]⟩ : ByteArray), .string (⟨#[]⟩ : ByteArray)] 88 (0, 0)) (by (with_reducible repeat (first | refine blk_drewN ?_ _ | refine blk_drew ?_ | refine blk_alloc ?_ _)); exact BK414.out)) (below_size (by repeat (first | (with_reducible first | exact HB.out | apply below_alloc | apply pw_below_drewN | apply below_drew1 | refine below_set ?_ GE413.out | refine below_set ?_ GE414.out) | exact HB.out)))); have n1_ := Aside0.mk (blk_below (g := gb413) (o := .cells #[.int .i64 a0_0, .slice A0_1 l0_1.length c0_1] 37 (0, 0)) (by (with_reducible repeat (first | refine blk_drewN ?_ _ | refine blk_drew ?_ | refine blk_alloc ?_ _)); exact BK413.out) hb); have n2_ := Aside0.mk (blk_below (g := gb414) (o := .cells #[.string (⟨#[]⟩ : ByteArray), .string (⟨#[]⟩ : ByteArray)] 88 (0, 0)) (by (with_reducible repeat (first | refine blk_drewN ?_ _ | refine blk_drew ?_ | refine blk_alloc ?_ _)); exact BK414.out) hb); have n3_ := Aside0.mk (below_step (by repeat (first | (with_reducible first | exact HB.out | apply below_alloc | apply pw_below_drewN | apply below_drew1 | refine below_set ?_ GE413.out | refine below_set ?_ GE414.out) | exact HB.out)) hb); clear BK413; clear BK414; clear HB; have HO417 := n0_; have BK413 := n1_; have BK414 := n2_; have HB := n3_; clear n0_ n1_ n2_ n3_; (try clear hb); (try clear hb2); (try clear hk); (try clear hi); (try clear ho0); obtain ⟨Ao17, co17, eo17⟩ := Kd.R_slice HO417.out; subst eo17; have hcz18_0 : w16.cell? ⟨gb414, 0, none⟩ = some (.string (⟨#[]⟩ : ByteArray)) := (blk_cell BK414.out 0).trans rfl; have hcz18_1 : w16.cell? ⟨gb414, 1, none⟩ = some (.string (⟨#[]⟩ : ByteArray)) := (blk_cell BK414.out 1).trans rfl; have hfz18_0 := blk_frozen BK414.out 0; have hfz18_1 := blk_frozen BK414.out 1))
   refine bodyPost_ret (results_ct rfl _ _ gb414 88 #[.string (⟨#[]⟩ : ByteArray), .string (⟨#[]⟩ : ByteArray)] (0, 0) _ rfl (by (with_reducible repeat (first | refine blk_drewN ?_ _ | refine blk_drew ?_ | refine blk_alloc ?_ _)); refine blk_put (cs := #[.string (⟨#[]⟩ : ByteArray), .string (⟨#[]⟩ : ByteArray)]) ?_ 1 _ rfl; (with_reducible repeat (first | refine blk_drewN ?_ _ | refine blk_drew ?_ | refine blk_alloc ?_ _)); refine blk_put (cs := #[.string (⟨#[]⟩ : ByteArray), .string (⟨#[]⟩ : ByteArray)]) ?_ 0 _ rfl; (with_reducible repeat (first | refine blk_drewN ?_ _ | refine blk_drew ?_ | refine blk_alloc ?_ _)); exact BK414.out) Tryd.underlying88 rfl (by kernel_rfl)) rfl ?_
   exact ⟨by first | rfl | (simp [errW_none, errW_some] <;> rfl) | (simp [*, errW_none, errW_some] <;> rfl), by repeat (first | (with_reducible first | exact HB.out | apply below_alloc | apply pw_below_drewN | apply below_drew1 | refine below_set ?_ GE413.out | refine below_set ?_ GE414.out) | exact HB.out)⟩
  ·
   rw [if_neg c11] at H
   have c11b0 : decide ((t415.length : Int) < a1) = false := decide_eq_false c11
   clear c11
   obtain ⟨ji19, hji19⟩ : ∃ j_ : Int, (wrap64 (a1 - 1)) = j_ := ⟨_, rfl⟩
   replace H : (if 0 ≤ (ji19) then (if (ji19) < (t415.length : Int) then (some ((rd_T88 t415 (ji19)).f0, (rd_T88 t415 (ji19)).f1, true)) else (none)) else (none)) = some (r1, r2, r3) := by first | (rw [hji19] at H; exact H) | (simp only [hji19] at H ⊢; exact H)
   (try rw [hji19] at A3)
   have hji19w : (IntKind.i64.wrap (a1 - 1)) = ji19 := (i64_w _).trans hji19
   by_cases c20 : 0 ≤ (ji19)
   ·
    rw [if_pos c20] at H
    have c20b0 : decide (0 ≤ (ji19)) = true := decide_eq_true c20
    clear c20
    by_cases c21 : (ji19) < (t415.length : Int)
    ·
     rw [if_pos c21] at H
     have c21b0 : decide ((ji19) < (t415.length : Int)) = true := decide_eq_true c21
     clear c21
     simp only [Option.some.injEq, Prod.mk.injEq] at H
     obtain ⟨rfl, rfl, rfl⟩ := H
     go_enter Tryd.func67, Tryd.ntmps67
     go_wp2_with (first | ((with_reducible refine gate_dst (N := 2) rfl ?_); (try (refine gate_guard (by rfl) ?_; dsimp only)); refine box_event ?hg (N := 2) ?hd (cs := #[.int .i64 a0_0, .slice A0_1 l0_1.length c0_1]) (t := 37) ?hr ?_; (case hd => rfl); (case hg => rfl); (case hr => first | (go_simp; done) | (go_simp; rfl)); intro gb413 hg w22 hbox hb; have n0_ := Aside0.mk (below_step (by repeat (first | (with_reducible first | exact HB.out | apply below_alloc | apply pw_below_drewN | apply below_drew1) | exact HB.out)) hb); have n1_ := Aside0.mk (hbox); have n2_ := Aside0.mk ((by rw [hg]; exact (below_size (by repeat (first | (with_reducible first | exact HB.out | apply below_alloc | apply pw_below_drewN | apply below_drew1) | exact HB.out))) : w.heap.size ≤ gb413)); have n3_ := Aside0.mk ((by rw [hg]; exact (below_size (by repeat (first | (with_reducible first | exact HB.out | apply below_alloc | apply pw_below_drewN | apply below_drew1) | exact HB.out))) : w.heap.size ≤ gb413)); clear HB; have HB := n0_; have BK413 := n1_; have GW413 := n2_; have GE413 := n3_; clear n0_ n1_ n2_ n3_; clear hb hbox hg) | ((with_reducible refine gate_dst (N := 4) rfl ?_); (try (refine gate_guard (by rfl) ?_; dsimp only)); refine box_event ?hg (N := 4) ?hd (cs := #[.string (⟨#[]⟩ : ByteArray), .string (⟨#[]⟩ : ByteArray)]) (t := 88) ?hr ?_; (case hd => rfl); (case hg => rfl); (case hr => first | (go_simp; done) | (go_simp; rfl)); intro gb414 hg w23 hbox hb; have n0_ := Aside0.mk (blk_below (g := gb413) (o := .cells #[.int .i64 a0_0, .slice A0_1 l0_1.length c0_1] 37 (0, 0)) (by (with_reducible repeat (first | refine blk_drewN ?_ _ | refine blk_drew ?_ | refine blk_alloc ?_ _)); exact BK413.out) hb); have n1_ := Aside0.mk (below_step (by repeat (first | (with_reducible first | exact HB.out | apply below_alloc | apply pw_below_drewN | apply below_drew1 | refine below_set ?_ GE413.out) | exact HB.out)) hb); have n2_ := Aside0.mk (hbox); have n3_ := Aside0.mk ((by rw [hg]; exact (below_size (by repeat (first | (with_reducible first | exact HB.out | apply below_alloc | apply pw_below_drewN | apply below_drew1 | refine below_set ?_ GE413.out) | exact HB.out))) : w.heap.size ≤ gb414)); have n4_ := Aside0.mk ((by rw [hg]; exact (below_size (by repeat (first | (with_reducible first | exact HB.out | apply below_alloc | apply pw_below_drewN | apply below_drew1 | refine below_set ?_ GE413.out) | exact HB.out))) : w.heap.size ≤ gb414)); have n5_ := Aside0.mk ((by rw [hg]; exact Nat.ne_of_lt (blk_lt (g := gb413) (o := .cells #[.int .i64 a0_0, .slice A0_1 l0_1.length c0_1] 37 (0, 0)) (by (with_reducible repeat (first | refine blk_drewN ?_ _ | refine blk_drew ?_ | refine blk_alloc ?_ _)); exact BK413.out)) : gb413 ≠ gb414)); have n6_ := Aside0.mk ((by rw [hg]; exact Nat.ne_of_gt (blk_lt (g := gb413) (o := .cells #[.int .i64 a0_0, .slice A0_1 l0_1.length c0_1] 37 (0, 0)) (by (with_reducible repeat (first | refine blk_drewN ?_ _ | refine blk_drew ?_ | refine blk_alloc ?_ _)); exact BK413.out)) : gb414 ≠ gb413)); clear BK413; clear HB; have BK413 := n0_; have HB := n1_; have BK414 := n2_; have GW414 := n3_; have GE414 := n4_; have NB413_414 := n5_; have NB414_413 := n6_; clear n0_ n1_ n2_ n3_ n4_ n5_ n6_; clear hb hbox hg; have hnb24 := NB413_414.out; have hnc24 := NB414_413.out; have hcz25_0 : w23.cell? ⟨gb413, 0, none⟩ = some (.int .i64 a0_0) := (blk_cell BK413.out 0).trans rfl; have hcz25_1 : w23.cell? ⟨gb413, 1, none⟩ = some (.slice A0_1 l0_1.length c0_1) := (blk_cell BK413.out 1).trans rfl; have hfz25_0 := blk_frozen BK413.out 0; have hfz25_1 := blk_frozen BK413.out 1) | ((with_reducible refine gate_callee (f := 60) rfl ?_); refine goesL_ (some 8) rfl rfl Tryd.func60 (by kernel_rfl) rfl #[.agg #[.int .i64 a0_0, .slice A0_1 l0_1.length c0_1]] rfl (by (try simp only [List.map_toArray, List.map_cons, List.map_nil]); first | done | rfl | (simp only [List.length_drop, List.length_take]; rfl)) ?_; (with_reducible refine (nuncioref11_All.calls k a0_0 _ _ l0_1 t415 _ ?side1 ?side2 A3.out).mono ?_); (case side1 => repeat (first | exact (Kd.C_below HR0_1.out HB.out) | (with_reducible refine Kd.C_alloc ?_ _) | (with_reducible refine Kd.C_drewN ?_ _) | (with_reducible refine Kd.C_drew ?_))); (case side2 => exact HC0_1.out); rintro e w26 ⟨v416, rfl, ho0, hb⟩; refine ⟨_, rfl, ?_⟩; have n0_ := Aside0.mk (Kd.R_lower (Kd.R_newB ho0 (g := gb414) (o := .cells #[.string (⟨#[]⟩ : ByteArray), .string (⟨#[]⟩ : ByteArray)] 88 (0, 0)) (by (with_reducible repeat (first | refine blk_drewN ?_ _ | refine blk_drew ?_ | refine blk_alloc ?_ _)); exact BK414.out)) (below_size (by repeat (first | (with_reducible first | exact HB.out | apply below_alloc | apply pw_below_drewN | apply below_drew1 | refine below_set ?_ GE413.out | refine below_set ?_ GE414.out) | exact HB.out)))); have n1_ := Aside0.mk (blk_below (g := gb413) (o := .cells #[.int .i64 a0_0, .slice A0_1 l0_1.length c0_1] 37 (0, 0)) (by (with_reducible repeat (first | refine blk_drewN ?_ _ | refine blk_drew ?_ | refine blk_alloc ?_ _)); exact BK413.out) hb); have n2_ := Aside0.mk (blk_below (g := gb414) (o := .cells #[.string (⟨#[]⟩ : ByteArray), .string (⟨#[]⟩ : ByteArray)] 88 (0, 0)) (by (with_reducible repeat (first | refine blk_drewN ?_ _ | refine blk_drew ?_ | refine blk_alloc ?_ _)); exact BK414.out) hb); have n3_ := Aside0.mk (below_step (by repeat (first | (with_reducible first | exact HB.out | apply below_alloc | apply pw_below_drewN | apply below_drew1 | refine below_set ?_ GE413.out | refine below_set ?_ GE414.out) | exact HB.out)) hb); clear BK413; clear BK414; clear HB; have HO417 := n0_; have BK413 := n1_; have BK414 := n2_; have HB := n3_; clear n0_ n1_ n2_ n3_; (try clear hb); (try clear hb2); (try clear hk); (try clear hi); (try clear ho0); obtain ⟨Ao27, co27, eo27⟩ := Kd.R_slice HO417.out; subst eo27; have p418 : 0 ≤ ((ji19) : Int) := of_decide_eq_true (by first | (with_reducible assumption) | assumption); have q418 : (ji19) < (t415.length : Int) := of_decide_eq_true (by first | (with_reducible assumption) | assumption); obtain ⟨ad418, e418, hx418_0, hx418_1⟩ := at_T88 (Kd.R_reads' HO417.out).2.2 (ji19) p418 q418; cases e418; replace p418 := eq_true p418; replace q418 := eq_true q418; have hcz28_0 : w26.cell? ⟨gb414, 0, none⟩ = some (.string (⟨#[]⟩ : ByteArray)) := (blk_cell BK414.out 0).trans rfl; have hcz28_1 : w26.cell? ⟨gb414, 1, none⟩ = some (.string (⟨#[]⟩ : ByteArray)) := (blk_cell BK414.out 1).trans rfl; have hfz28_0 := blk_frozen BK414.out 0; have hfz28_1 := blk_frozen BK414.out 1))
     refine bodyPost_ret (results_ct rfl _ _ gb414 88 #[.string ((rd_T88 t415 (ji19)).f0), .string ((rd_T88 t415 (ji19)).f1)] (0, 0) _ rfl (by (with_reducible repeat (first | refine blk_drewN ?_ _ | refine blk_drew ?_ | refine blk_alloc ?_ _)); refine blk_put (cs := #[.string ((rd_T88 t415 (ji19)).f0), .string (⟨#[]⟩ : ByteArray)]) ?_ 1 _ rfl; (with_reducible repeat (first | refine blk_drewN ?_ _ | refine blk_drew ?_ | refine blk_alloc ?_ _)); refine blk_put (cs := #[.string (⟨#[]⟩ : ByteArray), .string (⟨#[]⟩ : ByteArray)]) ?_ 0 _ rfl; (with_reducible repeat (first | refine blk_drewN ?_ _ | refine blk_drew ?_ | refine blk_alloc ?_ _)); exact BK414.out) Tryd.underlying88 rfl (by kernel_rfl)) rfl ?_
     exact ⟨by first | rfl | (simp [errW_none, errW_some] <;> rfl) | (simp only [← hji19]; first | rfl | (simp [errW_none, errW_some] <;> rfl)) | (simp [*, errW_none, errW_some] <;> rfl), by repeat (first | (with_reducible first | exact HB.out | apply below_alloc | apply pw_below_drewN | apply below_drew1 | refine below_set ?_ GE413.out | refine below_set ?_ GE414.out) | exact HB.out)⟩
    ·
     rw [if_neg c21] at H
     exact absurd H (by simp)
   ·
    rw [if_neg c20] at H
    exact absurd H (by simp)
def nuncioref01_Part.f (a0 : ByteArray) (a1 : Int) (a2 : Int) : Option (ByteArray × Bool) := if a1 < 0 then (some ((⟨#[]⟩ : ByteArray), false)) else (if a2 < 0 then (some ((⟨#[]⟩ : ByteArray), false)) else (if a1 > (a0.size : Int) then (some ((⟨#[]⟩ : ByteArray), false)) else (if a2 > (wrap64 ((a0.size : Int) - a1)) then (some ((⟨#[]⟩ : ByteArray), false)) else (if 0 ≤ a1 then (if a1 ≤ (wrap64 (a1 + a2)) then (if (wrap64 (a1 + a2)) ≤ (a0.size : Int) then (some (a0.extract (a1 : Int).toNat ((wrap64 (a1 + a2)) : Int).toNat, true)) else (none)) else (none)) else (none)))))
set_option maxHeartbeats 8000000 in
set_option maxRecDepth 100000 in
theorem nuncioref01_Part.calls (a0 : ByteArray) (a1 : Int) (a2 : Int) (r1 : ByteArray) (r2 : Bool) (w : World) (h : nuncioref01_Part.f a0 a1 a2 = some (r1, r2)) :
  Calls Tryd.prog 77 #[.string a0, .int .i64 a1, .int .i64 a2] w fun e w' => e = .returned (.tuple #[.string r1, .bool r2]) ∧ Drawn0 w w' := by
 have H : (if a1 < 0 then (some ((⟨#[]⟩ : ByteArray), false)) else (if a2 < 0 then (some ((⟨#[]⟩ : ByteArray), false)) else (if a1 > (a0.size : Int) then (some ((⟨#[]⟩ : ByteArray), false)) else (if a2 > (wrap64 ((a0.size : Int) - a1)) then (some ((⟨#[]⟩ : ByteArray), false)) else (if 0 ≤ a1 then (if a1 ≤ (wrap64 (a1 + a2)) then (if (wrap64 (a1 + a2)) ≤ (a0.size : Int) then (some (a0.extract (a1 : Int).toNat ((wrap64 (a1 + a2)) : Int).toNat, true)) else (none)) else (none)) else (none)))))) = some (r1, r2) := h
 clear h
 by_cases c4 : a1 < 0
 ·
  rw [if_pos c4] at H
  have c4b0 : decide (a1 < 0) = true := decide_eq_true c4
  clear c4
  simp only [Option.some.injEq, Prod.mk.injEq] at H
  obtain ⟨rfl, rfl⟩ := H
  go_enter Tryd.func77, Tryd.ntmps77
  go_wp2
  go_ret2
  exact ⟨by first | rfl | (simp; done) | (simp [*]; done), by repeat (first | exact Drawn0.refl _ | apply Drawn0.step)⟩
 ·
  rw [if_neg c4] at H
  have c4b0 : decide (a1 < 0) = false := decide_eq_false c4
  clear c4
  by_cases c5 : a2 < 0
  ·
   rw [if_pos c5] at H
   have c5b0 : decide (a2 < 0) = true := decide_eq_true c5
   clear c5
   simp only [Option.some.injEq, Prod.mk.injEq] at H
   obtain ⟨rfl, rfl⟩ := H
   go_enter Tryd.func77, Tryd.ntmps77
   go_wp2
   go_ret2
   exact ⟨by first | rfl | (simp; done) | (simp [*]; done), by repeat (first | exact Drawn0.refl _ | apply Drawn0.step)⟩
  ·
   rw [if_neg c5] at H
   have c5b0 : decide (a2 < 0) = false := decide_eq_false c5
   clear c5
   by_cases c6 : a1 > (a0.size : Int)
   ·
    rw [if_pos c6] at H
    have c6b0 : decide ((a0.size : Int) < a1) = true := decide_eq_true c6
    clear c6
    simp only [Option.some.injEq, Prod.mk.injEq] at H
    obtain ⟨rfl, rfl⟩ := H
    go_enter Tryd.func77, Tryd.ntmps77
    go_wp2
    go_ret2
    exact ⟨by first | rfl | (simp; done) | (simp [*]; done), by repeat (first | exact Drawn0.refl _ | apply Drawn0.step)⟩
   ·
    rw [if_neg c6] at H
    have c6b0 : decide ((a0.size : Int) < a1) = false := decide_eq_false c6
    clear c6
    by_cases c7 : a2 > (wrap64 ((a0.size : Int) - a1))
    ·
     rw [if_pos c7] at H
     have c7b0 : decide ((wrap64 ((a0.size : Int) - a1)) < a2) = true := decide_eq_true c7
     clear c7
     simp only [Option.some.injEq, Prod.mk.injEq] at H
     obtain ⟨rfl, rfl⟩ := H
     go_enter Tryd.func77, Tryd.ntmps77
     go_wp2
     go_ret2
     exact ⟨by first | rfl | (simp; done) | (simp [*]; done), by repeat (first | exact Drawn0.refl _ | apply Drawn0.step)⟩
    ·
     rw [if_neg c7] at H
     have c7b0 : decide ((wrap64 ((a0.size : Int) - a1)) < a2) = false := decide_eq_false c7
     clear c7
     by_cases c8 : 0 ≤ a1
     ·
      rw [if_pos c8] at H
      have c8b0 := eq_true c8
      have c8b1 : decide (0 ≤ a1) = true := decide_eq_true c8
      clear c8
      by_cases c9 : a1 ≤ (wrap64 (a1 + a2))
      ·
       rw [if_pos c9] at H
       have c9b0 := eq_true c9
       have c9b1 : decide (a1 ≤ (wrap64 (a1 + a2))) = true := decide_eq_true c9
       by_cases c10 : (wrap64 (a1 + a2)) ≤ (a0.size : Int)
       ·
        rw [if_pos c10] at H
        have c10b0 := eq_true c10
        have c10b1 : decide ((wrap64 (a1 + a2)) ≤ (a0.size : Int)) = true := decide_eq_true c10
        simp only [Option.some.injEq, Prod.mk.injEq] at H
        obtain ⟨rfl, rfl⟩ := H
        go_enter Tryd.func77, Tryd.ntmps77
        go_wp2
        go_ret2
        exact ⟨by first | rfl | (simp; done) | (simp [*]; done), by repeat (first | exact Drawn0.refl _ | apply Drawn0.step)⟩
       ·
        rw [if_neg c10] at H
        exact absurd H (by simp)
      ·
       rw [if_neg c9] at H
       exact absurd H (by simp)
     ·
      rw [if_neg c8] at H
      exact absurd H (by simp)
end Go.Proofs.YtfkdocmhbmameaaDoor.Mine
namespace Go.Proofs.YtfkdocmhbmameaaDoor.Mine
open Go.RowKit Go.Proofs.YtfkdocmhbmameaaDoorW.PrintWords Go.Proofs.YtfkdocmhbmameaaDoorW.PrintLast Go.Proofs.YtfkdocmhbmameaaDoorW.PrintMore
attribute [local go_sem] max2_int min2_int max_two min_two max_three min_three max_four min_four
set_option linter.unusedVariables false
set_option linter.unusedSimpArgs false
def nuncioref10_Length.f (a0 : Int) : Option (Int) := if 0 ≤ a0 then (if a0 < 257 then (some (wrap64 ((wrap64 (bt (⟨#[105, 115, 120, 120, 120, 120, 120, 120, 120, 116, 122, 120, 120, 122, 120, 120, 120, 120, 120, 120, 120, 120, 122, 120, 120, 120, 120, 120, 120, 120, 120, 120, 98, 102, 102, 104, 105, 98, 100, 103, 102, 102, 100, 103, 100, 98, 98, 98, 97, 97, 97, 98, 98, 98, 98, 98, 98, 98, 99, 100, 107, 98, 104, 102, 105, 98, 99, 99, 99, 99, 99, 99, 99, 99, 99, 99, 99, 99, 99, 99, 99, 99, 99, 99, 99, 99, 99, 99, 100, 99, 100, 105, 111, 105, 106, 98, 107, 97, 98, 97, 98, 97, 98, 98, 98, 97, 99, 99, 98, 98, 98, 97, 98, 99, 98, 97, 97, 98, 99, 99, 99, 99, 99, 107, 103, 106, 105, 120, 112, 114, 112, 112, 114, 114, 114, 115, 114, 115, 115, 115, 115, 115, 116, 115, 116, 116, 114, 115, 116, 115, 115, 115, 115, 113, 114, 115, 114, 115, 115, 116, 114, 113, 112, 114, 114, 115, 115, 113, 115, 114, 114, 116, 113, 114, 115, 115, 113, 113, 114, 113, 115, 114, 115, 115, 112, 114, 114, 114, 115, 114, 114, 115, 118, 118, 112, 111, 114, 115, 114, 117, 118, 118, 118, 119, 119, 118, 116, 117, 111, 113, 118, 119, 119, 118, 119, 116, 113, 113, 118, 118, 120, 119, 119, 119, 112, 116, 112, 113, 114, 113, 113, 115, 114, 114, 117, 117, 116, 116, 118, 115, 118, 119, 118, 118, 119, 119, 119, 119, 119, 120, 119, 119, 119, 119, 119, 118, 122]⟩ : ByteArray) a0)) - 92))) else (none)) else (none)
set_option maxHeartbeats 8000000 in
set_option maxRecDepth 100000 in
theorem nuncioref10_Length.calls (a0 : Int) (r : Int) (w : World) (h : nuncioref10_Length.f a0 = some r) :
  Calls Tryd.prog 85 #[.int .i64 a0] w fun e w' => e = .returned (.int .i64 r) ∧ Drawn0 w w' := by
 have H : (if 0 ≤ a0 then (if a0 < 257 then (some (wrap64 ((wrap64 (bt (⟨#[105, 115, 120, 120, 120, 120, 120, 120, 120, 116, 122, 120, 120, 122, 120, 120, 120, 120, 120, 120, 120, 120, 122, 120, 120, 120, 120, 120, 120, 120, 120, 120, 98, 102, 102, 104, 105, 98, 100, 103, 102, 102, 100, 103, 100, 98, 98, 98, 97, 97, 97, 98, 98, 98, 98, 98, 98, 98, 99, 100, 107, 98, 104, 102, 105, 98, 99, 99, 99, 99, 99, 99, 99, 99, 99, 99, 99, 99, 99, 99, 99, 99, 99, 99, 99, 99, 99, 99, 100, 99, 100, 105, 111, 105, 106, 98, 107, 97, 98, 97, 98, 97, 98, 98, 98, 97, 99, 99, 98, 98, 98, 97, 98, 99, 98, 97, 97, 98, 99, 99, 99, 99, 99, 107, 103, 106, 105, 120, 112, 114, 112, 112, 114, 114, 114, 115, 114, 115, 115, 115, 115, 115, 116, 115, 116, 116, 114, 115, 116, 115, 115, 115, 115, 113, 114, 115, 114, 115, 115, 116, 114, 113, 112, 114, 114, 115, 115, 113, 115, 114, 114, 116, 113, 114, 115, 115, 113, 113, 114, 113, 115, 114, 115, 115, 112, 114, 114, 114, 115, 114, 114, 115, 118, 118, 112, 111, 114, 115, 114, 117, 118, 118, 118, 119, 119, 118, 116, 117, 111, 113, 118, 119, 119, 118, 119, 116, 113, 113, 118, 118, 120, 119, 119, 119, 112, 116, 112, 113, 114, 113, 113, 115, 114, 114, 117, 117, 116, 116, 118, 115, 118, 119, 118, 118, 119, 119, 119, 119, 119, 120, 119, 119, 119, 119, 119, 118, 122]⟩ : ByteArray) a0)) - 92))) else (none)) else (none)) = some r := h
 clear h
 by_cases c2 : 0 ≤ a0
 ·
  rw [if_pos c2] at H
  have c2b0 : decide (0 ≤ a0) = true := decide_eq_true c2
  clear c2
  by_cases c3 : a0 < 257
  ·
   rw [if_pos c3] at H
   have c3b0 : decide (a0 < 257) = true := decide_eq_true c3
   clear c3
   obtain rfl := Option.some.inj H
   have p4 : 0 ≤ (a0 : Int) := of_decide_eq_true (by first | (with_reducible assumption) | assumption)
   have q4 : a0 < (257 : Int) := of_decide_eq_true (by first | (with_reducible assumption) | assumption)
   have hx4 := bt_at (⟨#[105, 115, 120, 120, 120, 120, 120, 120, 120, 116, 122, 120, 120, 122, 120, 120, 120, 120, 120, 120, 120, 120, 122, 120, 120, 120, 120, 120, 120, 120, 120, 120, 98, 102, 102, 104, 105, 98, 100, 103, 102, 102, 100, 103, 100, 98, 98, 98, 97, 97, 97, 98, 98, 98, 98, 98, 98, 98, 99, 100, 107, 98, 104, 102, 105, 98, 99, 99, 99, 99, 99, 99, 99, 99, 99, 99, 99, 99, 99, 99, 99, 99, 99, 99, 99, 99, 99, 99, 100, 99, 100, 105, 111, 105, 106, 98, 107, 97, 98, 97, 98, 97, 98, 98, 98, 97, 99, 99, 98, 98, 98, 97, 98, 99, 98, 97, 97, 98, 99, 99, 99, 99, 99, 107, 103, 106, 105, 120, 112, 114, 112, 112, 114, 114, 114, 115, 114, 115, 115, 115, 115, 115, 116, 115, 116, 116, 114, 115, 116, 115, 115, 115, 115, 113, 114, 115, 114, 115, 115, 116, 114, 113, 112, 114, 114, 115, 115, 113, 115, 114, 114, 116, 113, 114, 115, 115, 113, 113, 114, 113, 115, 114, 115, 115, 112, 114, 114, 114, 115, 114, 114, 115, 118, 118, 112, 111, 114, 115, 114, 117, 118, 118, 118, 119, 119, 118, 116, 117, 111, 113, 118, 119, 119, 118, 119, 116, 113, 113, 118, 118, 120, 119, 119, 119, 112, 116, 112, 113, 114, 113, 113, 115, 114, 114, 117, 117, 116, 116, 118, 115, 118, 119, 118, 118, 119, 119, 119, 119, 119, 120, 119, 119, 119, 119, 119, 118, 122]⟩ : ByteArray) a0
   replace p4 := eq_true p4
   replace q4 := eq_true q4
   go_enter Tryd.func85, Tryd.ntmps85
   go_wp2
   go_ret
   exact ⟨by first | rfl | (simp; done) | (simp [*]; done), by repeat (first | exact Drawn0.refl _ | apply Drawn0.step)⟩
  ·
   rw [if_neg c3] at H
   exact absurd H (by simp)
 ·
  rw [if_neg c2] at H
  exact absurd H (by simp)
end Go.Proofs.YtfkdocmhbmameaaDoor.Mine
