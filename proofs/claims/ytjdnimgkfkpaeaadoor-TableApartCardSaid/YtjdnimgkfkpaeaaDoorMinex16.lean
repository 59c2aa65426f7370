-- Written by this repo's own printer (wip/print), which builds on the kit's.
import Derived.Test.YtjdnimgkfkpaeaaDoorTbM
import Derived.Test.YtjdnimgkfkpaeaaDoorWf
import Derived.Test.YtjdnimgkfkpaeaaDoorMinex0
import Derived.Test.YtjdnimgkfkpaeaaDoorMinex3
import Derived.Test.YtjdnimgkfkpaeaaDoorMinex4
import Derived.Test.YtjdnimgkfkpaeaaDoorMinex7
import Derived.Test.YtjdnimgkfkpaeaaDoorMinex10
import Derived.Test.YtjdnimgkfkpaeaaDoorMinex11
namespace Go.Proofs.YtjdnimgkfkpaeaaDoor.Mine
open Go.RowKit Go.Proofs.YtjdnimgkfkpaeaaDoorW.PrintWords Go.Proofs.YtjdnimgkfkpaeaaDoorW.PrintLast Go.Proofs.YtjdnimgkfkpaeaaDoorW.PrintMore
attribute [local go_sem] max2_int min2_int max_two min_two max_three min_three max_four min_four   -- for this text's walks alone
set_option linter.unusedVariables false
set_option linter.unusedSimpArgs false

/-! ### nunciolaw11_TableApart: function 6 -/
mutual
def nunciolaw11_TableApart.j0 : Nat → Int → List (S34) → List (S34) → Bool → Option (Bool)
 | 0, _, _, _, _ => none
 | k + 1, x0, x1, x2, x33 => if x33 = true then (some true) else ((table_New.f x0).bind fun t319 => ((nuncioref11_New.f x0).bind fun bt321 => (nunciolaw11_TableApart.l0 k x1 x2 0 t319 bt321.1 bt321.2)))
def nunciolaw11_TableApart.l0 : Nat → List (S34) → List (S34) → Int → TB → Int → List (S38) → Option (Bool)
 | 0, _, _, _, _, _, _ => none
 | k + 1, x1, x2, x9, x321000, x326000, x326001 => if x9 < (x1.length : Int) then (if 0 ≤ x9 then ((nunciolaw11_play.f k x321000 x326000 x326001 ((rd_T34 x1 x9).f0) ((rd_T34 x1 x9).f1) ((rd_T34 x1 x9).f2)).bind fun bt327 => (nunciolaw11_TableApart.l0 k x1 x2 (wrap64 (x9 + 1)) bt327.2.2 bt327.1 bt327.2.1)) else (none)) else ((table_Table_Copy.f x321000).bind fun t332 => ((nunciolaw11_same.f k t332 x326000 x326001).bind fun bt334 => (if bt334.1 = true then (nunciolaw11_TableApart.l1 k x2 0 x321000 x326000 x326001 bt334.2) else (some false))))
def nunciolaw11_TableApart.l1 : Nat → List (S34) → Int → TB → Int → List (S38) → TB → Option (Bool)
 | 0, _, _, _, _, _, _ => none
 | k + 1, x2, x11, x321000, x326000, x326001, x334000 => if x11 < (x2.length : Int) then (if 0 ≤ x11 then ((nunciolaw11_play.f k x334000 x326000 x326001 ((rd_T34 x2 x11).f0) ((rd_T34 x2 x11).f1) ((rd_T34 x2 x11).f2)).bind fun bt337 => (nunciolaw11_TableApart.l1 k x2 (wrap64 (x11 + 1)) x321000 x326000 x326001 bt337.2.2)) else (none)) else ((nunciolaw11_same.f k x321000 x326000 x326001).bind fun bt342 => (if bt342.1 = true then ((table_Table_Copy.f bt342.2).bind fun t344 => (nunciolaw11_TableApart.l2 k x2 0 bt342.2 x326000 x326001 t344 x326000 x326001)) else (some false)))
def nunciolaw11_TableApart.l2 : Nat → List (S34) → Int → TB → Int → List (S38) → TB → Int → List (S38) → Option (Bool)
 | 0, _, _, _, _, _, _, _, _ => none
 | k + 1, x2, x13, x321000, x326000, x326001, x346000, x347000, x347001 => if x13 < (x2.length : Int) then (if 0 ≤ x13 then ((nunciolaw11_play.f k x321000 x347000 x347001 ((rd_T34 x2 x13).f0) ((rd_T34 x2 x13).f1) ((rd_T34 x2 x13).f2)).bind fun bt348 => (nunciolaw11_TableApart.l2 k x2 (wrap64 (x13 + 1)) bt348.2.2 x326000 x326001 x346000 bt348.1 bt348.2.1)) else (none)) else ((nunciolaw11_same.f k x346000 x326000 x326001).bind fun bt353 => (if bt353.1 = true then ((nunciolaw11_same.f k x321000 x347000 x347001).bind fun bt355 => (some bt355.1)) else (some false)))
end
def nunciolaw11_TableApart.f (k : Nat) (a0 : Int) (l1 : List (S34)) (l2 : List (S34)) : Option (Bool) := (nunciolaw11_awake.f).bind fun t316 => (if t316 = true then ((nunciolaw11_Few.f k l1).bind fun t317 => (if t317 = true then ((nunciolaw11_Few.f k l2).bind fun t318 => (if t318 = true then (if (l1.length : Int) > 50 then (nunciolaw11_TableApart.j0 k a0 l1 l2 true) else (nunciolaw11_TableApart.j0 k a0 l1 l2 (decide ((l2.length : Int) > 50)))) else (nunciolaw11_TableApart.j0 k a0 l1 l2 true))) else (nunciolaw11_TableApart.j0 k a0 l1 l2 true))) else (some false))
theorem nunciolaw11_TableApart.mono_l : ∀ k, (∀ y0 y1 y2 y3, LeO (nunciolaw11_TableApart.j0 k y0 y1 y2 y3) (nunciolaw11_TableApart.j0 (k + 1) y0 y1 y2 y3)) ∧ (∀ y0 y1 y2 y3 y4 y5, LeO (nunciolaw11_TableApart.l0 k y0 y1 y2 y3 y4 y5) (nunciolaw11_TableApart.l0 (k + 1) y0 y1 y2 y3 y4 y5)) ∧ (∀ y0 y1 y2 y3 y4 y5, LeO (nunciolaw11_TableApart.l1 k y0 y1 y2 y3 y4 y5) (nunciolaw11_TableApart.l1 (k + 1) y0 y1 y2 y3 y4 y5)) ∧ (∀ y0 y1 y2 y3 y4 y5 y6 y7, LeO (nunciolaw11_TableApart.l2 k y0 y1 y2 y3 y4 y5 y6 y7) (nunciolaw11_TableApart.l2 (k + 1) y0 y1 y2 y3 y4 y5 y6 y7))
 | 0 => ⟨fun _ _ _ _ r h => by simp [nunciolaw11_TableApart.j0] at h, fun _ _ _ _ _ _ r h => by simp [nunciolaw11_TableApart.l0] at h, fun _ _ _ _ _ _ r h => by simp [nunciolaw11_TableApart.l1] at h, fun _ _ _ _ _ _ _ _ r h => by simp [nunciolaw11_TableApart.l2] at h⟩
 | k + 1 => by
  obtain ⟨ih0, ih1, ih2, ih3⟩ := nunciolaw11_TableApart.mono_l k
  refine ⟨?_, ?_, ?_, ?_⟩
  ·
   intro y0 y1 y2 y3
   unfold nunciolaw11_TableApart.j0
   repeat' first
   | (with_reducible exact ih0 _ _ _ _)
   | (with_reducible exact ih1 _ _ _ _ _ _)
   | (with_reducible exact ih2 _ _ _ _ _ _)
   | (with_reducible exact ih3 _ _ _ _ _ _ _ _)
   | (with_reducible exact nunciolaw11_Few.mono _ _)
   | (with_reducible exact nunciolaw11_play.mono _ _ _ _ _ _ _)
   | (with_reducible exact nunciolaw11_same.mono _ _ _ _)
   | (with_reducible exact LeO.refl _)
   | (with_reducible exact LeO.none _)
   | (with_reducible refine LeO.ite ?_ ?_)
   | (with_reducible refine LeO.bind ?_ (fun _ => ?_))
   | exact ih0 _ _ _ _
   | exact ih1 _ _ _ _ _ _
   | exact ih2 _ _ _ _ _ _
   | exact ih3 _ _ _ _ _ _ _ _
   | exact nunciolaw11_Few.mono _ _
   | exact nunciolaw11_play.mono _ _ _ _ _ _ _
   | exact nunciolaw11_same.mono _ _ _ _
   | exact LeO.none _
   | refine LeO.ite ?_ ?_
   | refine LeO.bind ?_ (fun _ => ?_)
  ·
   intro y0 y1 y2 y3 y4 y5
   unfold nunciolaw11_TableApart.l0
   repeat' first
   | (with_reducible exact ih0 _ _ _ _)
   | (with_reducible exact ih1 _ _ _ _ _ _)
   | (with_reducible exact ih2 _ _ _ _ _ _)
   | (with_reducible exact ih3 _ _ _ _ _ _ _ _)
   | (with_reducible exact nunciolaw11_Few.mono _ _)
   | (with_reducible exact nunciolaw11_play.mono _ _ _ _ _ _ _)
   | (with_reducible exact nunciolaw11_same.mono _ _ _ _)
   | (with_reducible exact LeO.refl _)
   | (with_reducible exact LeO.none _)
   | (with_reducible refine LeO.ite ?_ ?_)
   | (with_reducible refine LeO.bind ?_ (fun _ => ?_))
   | exact ih0 _ _ _ _
   | exact ih1 _ _ _ _ _ _
   | exact ih2 _ _ _ _ _ _
   | exact ih3 _ _ _ _ _ _ _ _
   | exact nunciolaw11_Few.mono _ _
   | exact nunciolaw11_play.mono _ _ _ _ _ _ _
   | exact nunciolaw11_same.mono _ _ _ _
   | exact LeO.none _
   | refine LeO.ite ?_ ?_
   | refine LeO.bind ?_ (fun _ => ?_)
  ·
   intro y0 y1 y2 y3 y4 y5
   unfold nunciolaw11_TableApart.l1
   repeat' first
   | (with_reducible exact ih0 _ _ _ _)
   | (with_reducible exact ih1 _ _ _ _ _ _)
   | (with_reducible exact ih2 _ _ _ _ _ _)
   | (with_reducible exact ih3 _ _ _ _ _ _ _ _)
   | (with_reducible exact nunciolaw11_Few.mono _ _)
   | (with_reducible exact nunciolaw11_play.mono _ _ _ _ _ _ _)
   | (with_reducible exact nunciolaw11_same.mono _ _ _ _)
   | (with_reducible exact LeO.refl _)
   | (with_reducible exact LeO.none _)
   | (with_reducible refine LeO.ite ?_ ?_)
   | (with_reducible refine LeO.bind ?_ (fun _ => ?_))
   | exact ih0 _ _ _ _
   | exact ih1 _ _ _ _ _ _
   | exact ih2 _ _ _ _ _ _
   | exact ih3 _ _ _ _ _ _ _ _
   | exact nunciolaw11_Few.mono _ _
   | exact nunciolaw11_play.mono _ _ _ _ _ _ _
   | exact nunciolaw11_same.mono _ _ _ _
   | exact LeO.none _
   | refine LeO.ite ?_ ?_
   | refine LeO.bind ?_ (fun _ => ?_)
  ·
   intro y0 y1 y2 y3 y4 y5 y6 y7
   unfold nunciolaw11_TableApart.l2
   repeat' first
   | (with_reducible exact ih0 _ _ _ _)
   | (with_reducible exact ih1 _ _ _ _ _ _)
   | (with_reducible exact ih2 _ _ _ _ _ _)
   | (with_reducible exact ih3 _ _ _ _ _ _ _ _)
   | (with_reducible exact nunciolaw11_Few.mono _ _)
   | (with_reducible exact nunciolaw11_play.mono _ _ _ _ _ _ _)
   | (with_reducible exact nunciolaw11_same.mono _ _ _ _)
   | (with_reducible exact LeO.refl _)
   | (with_reducible exact LeO.none _)
   | (with_reducible refine LeO.ite ?_ ?_)
   | (with_reducible refine LeO.bind ?_ (fun _ => ?_))
   | exact ih0 _ _ _ _
   | exact ih1 _ _ _ _ _ _
   | exact ih2 _ _ _ _ _ _
   | exact ih3 _ _ _ _ _ _ _ _
   | exact nunciolaw11_Few.mono _ _
   | exact nunciolaw11_play.mono _ _ _ _ _ _ _
   | exact nunciolaw11_same.mono _ _ _ _
   | exact LeO.none _
   | refine LeO.ite ?_ ?_
   | refine LeO.bind ?_ (fun _ => ?_)
theorem nunciolaw11_TableApart.mono : ∀ a0 a1 a2 k, LeO (nunciolaw11_TableApart.f k a0 a1 a2) (nunciolaw11_TableApart.f (k + 1) a0 a1 a2) := by
 intro a0 a1 a2 k
 obtain ⟨ih0, ih1, ih2, ih3⟩ := nunciolaw11_TableApart.mono_l k
 unfold nunciolaw11_TableApart.f
 repeat' first
   | (with_reducible exact ih0 _ _ _ _)
   | (with_reducible exact ih1 _ _ _ _ _ _)
   | (with_reducible exact ih2 _ _ _ _ _ _)
   | (with_reducible exact ih3 _ _ _ _ _ _ _ _)
   | (with_reducible exact nunciolaw11_Few.mono _ _)
   | (with_reducible exact nunciolaw11_play.mono _ _ _ _ _ _ _)
   | (with_reducible exact nunciolaw11_same.mono _ _ _ _)
   | (with_reducible exact LeO.refl _)
   | (with_reducible exact LeO.none _)
   | (with_reducible refine LeO.ite ?_ ?_)
   | (with_reducible refine LeO.bind ?_ (fun _ => ?_))
   | exact ih0 _ _ _ _
   | exact ih1 _ _ _ _ _ _
   | exact ih2 _ _ _ _ _ _
   | exact ih3 _ _ _ _ _ _ _ _
   | exact nunciolaw11_Few.mono _ _
   | exact nunciolaw11_play.mono _ _ _ _ _ _ _
   | exact nunciolaw11_same.mono _ _ _ _
   | exact LeO.none _
   | refine LeO.ite ?_ ?_
   | refine LeO.bind ?_ (fun _ => ?_)
def nunciolaw11_TableApart.T10 : Bool × List (List Nat × List Nat) := (true, [([], []), ([], []), ([], []), ([], []), ([2, 3], [2, 3]), ([4], [4]), ([0, 1, 5], [0, 1, 5]), ([6, 6, 0, 1, 2, 3, 4, 5, 6], [6])])
def nunciolaw11_TableApart.B10 : List Nat := [0, 0, 0, 0, 12, 28, 63, 127]
theorem nunciolaw11_TableApart.tab10 : rtab .any (opsOf Tryd.f6 10) = nunciolaw11_TableApart.T10 := by kernel_rfl
theorem nunciolaw11_TableApart.bits10 : waitsOk nunciolaw11_TableApart.T10.2 nunciolaw11_TableApart.B10 = true := by kernel_rfl
def nunciolaw11_TableApart.T25 : Bool × List (List Nat × List Nat) := (true, [([], []), ([], []), ([], []), ([], []), ([2, 3], [2, 3]), ([4], [4]), ([0, 1, 5], [0, 1, 5]), ([6, 6, 0, 1, 2, 3, 4, 5, 6], [6])])
def nunciolaw11_TableApart.B25 : List Nat := [0, 0, 0, 0, 12, 28, 63, 127]
theorem nunciolaw11_TableApart.tab25 : rtab .any (opsOf Tryd.f6 25) = nunciolaw11_TableApart.T25 := by kernel_rfl
theorem nunciolaw11_TableApart.bits25 : waitsOk nunciolaw11_TableApart.T25.2 nunciolaw11_TableApart.B25 = true := by kernel_rfl
set_option maxHeartbeats 8000000 in
set_option maxRecDepth 100000 in
theorem nunciolaw11_TableApart.calls (k : Nat) (a0 : Int) (A1 : Option Addr) (c1 : Nat) (l1 : List (S34)) (A2 : Option Addr) (c2 : Nat) (l2 : List (S34)) (r : Bool) (w : World) (hE : EnvW w) (hr1 : Kd.C k34 w A1 l1.length l1) (hc1 : l1.length ≤ c1) (hr2 : Kd.C k34 w A2 l2.length l2) (hc2 : l2.length ≤ c2) (h : nunciolaw11_TableApart.f k a0 l1 l2 = some r) (hT : r = true) :
  Calls Tryd.prog 6 #[.int .i64 a0, .slice A1 l1.length c1, .slice A2 l2.length c2] w fun e w' => e = .returned (.bool r) ∧ Below w.heap.size w w' := by
 have hu29 := Tryd.underlying29
 have hu34 := Tryd.underlying34
 have HR1 := Aside0.mk hr1
 have HC1 := Aside0.mk hc1
 clear hr1 hc1
 have HR2 := Aside0.mk hr2
 have HC2 := Aside0.mk hc2
 clear hr2 hc2
 have HB := Aside0.mk (Below.refl w.heap.size w)
 have HEnv := Aside0.mk hE
 clear hE
 have HT := Aside0.mk hT
 clear hT
 have H : ((nunciolaw11_awake.f).bind fun t316 => (if t316 = true then ((nunciolaw11_Few.f k l1).bind fun t317 => (if t317 = true then ((nunciolaw11_Few.f k l2).bind fun t318 => (if t318 = true then (if (l1.length : Int) > 50 then (nunciolaw11_TableApart.j0 k a0 l1 l2 true) else (nunciolaw11_TableApart.j0 k a0 l1 l2 (decide ((l2.length : Int) > 50)))) else (nunciolaw11_TableApart.j0 k a0 l1 l2 true))) else (nunciolaw11_TableApart.j0 k a0 l1 l2 true))) else (some false))) = some r := h
 clear h
 replace H := Option.bind_eq_some_iff.mp H
 obtain ⟨t316, A40, H⟩ := H
 replace H : (if t316 = true then ((nunciolaw11_Few.f k l1).bind fun t317 => (if t317 = true then ((nunciolaw11_Few.f k l2).bind fun t318 => (if t318 = true then (if (l1.length : Int) > 50 then (nunciolaw11_TableApart.j0 k a0 l1 l2 true) else (nunciolaw11_TableApart.j0 k a0 l1 l2 (decide ((l2.length : Int) > 50)))) else (nunciolaw11_TableApart.j0 k a0 l1 l2 true))) else (nunciolaw11_TableApart.j0 k a0 l1 l2 true))) else (some false)) = some r := H
 have A4 := Aside0.mk A40
 clear A40
 by_cases c5 : t316 = true
 ·
  subst c5
  have H1 : ((nunciolaw11_Few.f k l1).bind fun t317 => (if t317 = true then ((nunciolaw11_Few.f k l2).bind fun t318 => (if t318 = true then (if (l1.length : Int) > 50 then (nunciolaw11_TableApart.j0 k a0 l1 l2 true) else (nunciolaw11_TableApart.j0 k a0 l1 l2 (decide ((l2.length : Int) > 50)))) else (nunciolaw11_TableApart.j0 k a0 l1 l2 true))) else (nunciolaw11_TableApart.j0 k a0 l1 l2 true))) = some r := by rw [if_pos rfl] at H; exact H
  clear H
  have H := H1
  clear H1
  have HC6 := Aside0.mk H
  clear H
  go_enter Tryd.func6, Tryd.ntmps6
  go_upto_region 3 with (first | ((with_reducible refine gate_callee (f := 8) rfl ?_); refine goesL_ (some 14) rfl rfl Tryd.func8 (by kernel_rfl) rfl #[] rfl (by (try simp only [List.map_toArray, List.map_cons, List.map_nil]); first | done | rfl | (simp only [List.length_drop, List.length_take]; rfl)) ?_; (with_reducible refine (nunciolaw11_awake.calls  true _ ?side1 A4.out).mono ?_); (case side1 => exact EnvW.below HEnv.out rfl (by repeat (first | (with_reducible first | exact HB.out | apply below_alloc | apply pw_below_drewN | apply below_drew1) | exact HB.out))); rintro e w7 ⟨rfl, hb⟩; refine ⟨_, rfl, ?_⟩; have n0_ := Aside0.mk (below_step (by repeat (first | (with_reducible first | exact HB.out | apply below_alloc | apply pw_below_drewN | apply below_drew1) | exact HB.out)) hb); clear HB; have HB := n0_; clear n0_; (try clear hb); (try clear hb2); (try clear hk); (try clear hi)))
  (try simp only [Act.put, List.setIfInBounds_toArray, List.set_cons_zero, List.set_cons_succ])
  go_cut [33] (fun v33 wc => ∃ (kq : Nat) (x33_5 : Bool), v33 = .bool x33_5 ∧ Aside0 (nunciolaw11_TableApart.j0 kq a0 l1 l2 x33_5 = some r) ∧ Aside0 (kq ≤ k) ∧ Aside0 (Below w.heap.size w wc))
  case first =>
   have H := HC6.out
   clear HC6
   replace H := Option.bind_eq_some_iff.mp H
   obtain ⟨t317, A80, H⟩ := H
   replace H : (if t317 = true then ((nunciolaw11_Few.f k l2).bind fun t318 => (if t318 = true then (if (l1.length : Int) > 50 then (nunciolaw11_TableApart.j0 k a0 l1 l2 true) else (nunciolaw11_TableApart.j0 k a0 l1 l2 (decide ((l2.length : Int) > 50)))) else (nunciolaw11_TableApart.j0 k a0 l1 l2 true))) else (nunciolaw11_TableApart.j0 k a0 l1 l2 true)) = some r := H
   have A8 := Aside0.mk A80
   clear A80
   by_cases c9 : t317 = true
   ·
    subst c9
    have H1 : ((nunciolaw11_Few.f k l2).bind fun t318 => (if t318 = true then (if (l1.length : Int) > 50 then (nunciolaw11_TableApart.j0 k a0 l1 l2 true) else (nunciolaw11_TableApart.j0 k a0 l1 l2 (decide ((l2.length : Int) > 50)))) else (nunciolaw11_TableApart.j0 k a0 l1 l2 true))) = some r := by rw [if_pos rfl] at H; exact H
    clear H
    have H := H1
    clear H1
    replace H := Option.bind_eq_some_iff.mp H
    obtain ⟨t318, A100, H⟩ := H
    replace H : (if t318 = true then (if (l1.length : Int) > 50 then (nunciolaw11_TableApart.j0 k a0 l1 l2 true) else (nunciolaw11_TableApart.j0 k a0 l1 l2 (decide ((l2.length : Int) > 50)))) else (nunciolaw11_TableApart.j0 k a0 l1 l2 true)) = some r := H
    have A10 := Aside0.mk A100
    clear A100
    by_cases c11 : t318 = true
    ·
     subst c11
     have H1 : (if (l1.length : Int) > 50 then (nunciolaw11_TableApart.j0 k a0 l1 l2 true) else (nunciolaw11_TableApart.j0 k a0 l1 l2 (decide ((l2.length : Int) > 50)))) = some r := by rw [if_pos rfl] at H; exact H
     clear H
     have H := H1
     clear H1
     by_cases c12 : (l1.length : Int) > 50
     ·
      rw [if_pos c12] at H
      have c12b0 : decide (50 < (l1.length : Int)) = true := decide_eq_true c12
      have c12b1 : decide (50 < l1.length) = true := decide_eq_true (by omega)
      clear c12
      (first | rw [c12b0] | rw [c12b1] | (simp only [i64_w, i32_w]; rw [c12b0]) | skip)
      have H' := Aside0.mk H
      clear H
      go_wp2_with (first | ((with_reducible refine gate_callee (f := 9) rfl ?_); refine goesL_ (some 17) rfl rfl Tryd.func9 (by kernel_rfl) rfl #[.slice A1 l1.length c1] rfl (by (try simp only [List.map_toArray, List.map_cons, List.map_nil]); first | done | rfl | (simp only [List.length_drop, List.length_take]; rfl)) ?_; (with_reducible refine (nunciolaw11_Few.calls k _ _ l1 true _ ?side1 ?side2 A8.out).mono ?_); (case side1 => repeat (first | exact (Kd.C_below HR1.out HB.out) | (with_reducible refine Kd.C_alloc ?_ _) | (with_reducible refine Kd.C_drewN ?_ _) | (with_reducible refine Kd.C_drew ?_))); (case side2 => exact HC1.out); rintro e w13 ⟨rfl, hb⟩; refine ⟨_, rfl, ?_⟩; have n0_ := Aside0.mk (below_step (by repeat (first | (with_reducible first | exact HB.out | apply below_alloc | apply pw_below_drewN | apply below_drew1) | exact HB.out)) hb); clear HB; have HB := n0_; clear n0_; (try clear hb); (try clear hb2); (try clear hk); (try clear hi)) | (go_at_call 9; (with_reducible refine (nunciolaw11_Few.calls k _ _ l2 true _ ?side1 ?side2 A10.out).mono ?_); (case side1 => repeat (first | exact (Kd.C_below HR2.out HB.out) | (with_reducible refine Kd.C_alloc ?_ _) | (with_reducible refine Kd.C_drewN ?_ _) | (with_reducible refine Kd.C_drew ?_))); (case side2 => exact HC2.out); rintro e w14 ⟨rfl, hb⟩; have n0_ := Aside0.mk (below_step (by repeat (first | (with_reducible first | exact HB.out | apply below_alloc | apply pw_below_drewN | apply below_drew1) | exact HB.out)) hb); clear HB; have HB := n0_; clear n0_; (try clear hb); (try clear hb2); (try clear hk); (try clear hi)))
      go_meet
      case rel => exact ⟨_, (true), (by first | rfl | (simp; done) | (simp [*]; done)), H', ⟨by first | omega | exact Nat.le_refl _⟩, ⟨by repeat (first | (with_reducible first | exact HB.out | apply below_alloc | apply pw_below_drewN | apply below_drew1) | exact HB.out)⟩⟩
     ·
      rw [if_neg c12] at H
      have c12b0 : decide (50 < (l1.length : Int)) = false := decide_eq_false c12
      have c12b1 : decide (50 < l1.length) = false := decide_eq_false (by omega)
      clear c12
      (first | rw [c12b0] | rw [c12b1] | (simp only [i64_w, i32_w]; rw [c12b0]) | skip)
      have H' := Aside0.mk H
      clear H
      go_wp2_with (first | ((with_reducible refine gate_callee (f := 9) rfl ?_); refine goesL_ (some 17) rfl rfl Tryd.func9 (by kernel_rfl) rfl #[.slice A1 l1.length c1] rfl (by (try simp only [List.map_toArray, List.map_cons, List.map_nil]); first | done | rfl | (simp only [List.length_drop, List.length_take]; rfl)) ?_; (with_reducible refine (nunciolaw11_Few.calls k _ _ l1 true _ ?side1 ?side2 A8.out).mono ?_); (case side1 => repeat (first | exact (Kd.C_below HR1.out HB.out) | (with_reducible refine Kd.C_alloc ?_ _) | (with_reducible refine Kd.C_drewN ?_ _) | (with_reducible refine Kd.C_drew ?_))); (case side2 => exact HC1.out); rintro e w15 ⟨rfl, hb⟩; refine ⟨_, rfl, ?_⟩; have n0_ := Aside0.mk (below_step (by repeat (first | (with_reducible first | exact HB.out | apply below_alloc | apply pw_below_drewN | apply below_drew1) | exact HB.out)) hb); clear HB; have HB := n0_; clear n0_; (try clear hb); (try clear hb2); (try clear hk); (try clear hi)) | (go_at_call 9; (with_reducible refine (nunciolaw11_Few.calls k _ _ l2 true _ ?side1 ?side2 A10.out).mono ?_); (case side1 => repeat (first | exact (Kd.C_below HR2.out HB.out) | (with_reducible refine Kd.C_alloc ?_ _) | (with_reducible refine Kd.C_drewN ?_ _) | (with_reducible refine Kd.C_drew ?_))); (case side2 => exact HC2.out); rintro e w16 ⟨rfl, hb⟩; have n0_ := Aside0.mk (below_step (by repeat (first | (with_reducible first | exact HB.out | apply below_alloc | apply pw_below_drewN | apply below_drew1) | exact HB.out)) hb); clear HB; have HB := n0_; clear n0_; (try clear hb); (try clear hb2); (try clear hk); (try clear hi)))
      go_meet
      case rel => exact ⟨_, (decide ((l2.length : Int) > 50)), (by first | rfl | (simp; done) | (simp [*]; done)), H', ⟨by first | omega | exact Nat.le_refl _⟩, ⟨by repeat (first | (with_reducible first | exact HB.out | apply below_alloc | apply pw_below_drewN | apply below_drew1) | exact HB.out)⟩⟩
    ·
     replace c11 := Bool.eq_false_iff.mpr c11
     subst c11
     have H1 : (nunciolaw11_TableApart.j0 k a0 l1 l2 true) = some r := by rw [if_neg (show ¬ (false = true) by decide)] at H; exact H
     clear H
     have H := H1
     clear H1
     have H' := Aside0.mk H
     clear H
     go_wp2_with (first | ((with_reducible refine gate_callee (f := 9) rfl ?_); refine goesL_ (some 17) rfl rfl Tryd.func9 (by kernel_rfl) rfl #[.slice A1 l1.length c1] rfl (by (try simp only [List.map_toArray, List.map_cons, List.map_nil]); first | done | rfl | (simp only [List.length_drop, List.length_take]; rfl)) ?_; (with_reducible refine (nunciolaw11_Few.calls k _ _ l1 true _ ?side1 ?side2 A8.out).mono ?_); (case side1 => repeat (first | exact (Kd.C_below HR1.out HB.out) | (with_reducible refine Kd.C_alloc ?_ _) | (with_reducible refine Kd.C_drewN ?_ _) | (with_reducible refine Kd.C_drew ?_))); (case side2 => exact HC1.out); rintro e w17 ⟨rfl, hb⟩; refine ⟨_, rfl, ?_⟩; have n0_ := Aside0.mk (below_step (by repeat (first | (with_reducible first | exact HB.out | apply below_alloc | apply pw_below_drewN | apply below_drew1) | exact HB.out)) hb); clear HB; have HB := n0_; clear n0_; (try clear hb); (try clear hb2); (try clear hk); (try clear hi)) | (go_at_call 9; (with_reducible refine (nunciolaw11_Few.calls k _ _ l2 false _ ?side1 ?side2 A10.out).mono ?_); (case side1 => repeat (first | exact (Kd.C_below HR2.out HB.out) | (with_reducible refine Kd.C_alloc ?_ _) | (with_reducible refine Kd.C_drewN ?_ _) | (with_reducible refine Kd.C_drew ?_))); (case side2 => exact HC2.out); rintro e w18 ⟨rfl, hb⟩; have n0_ := Aside0.mk (below_step (by repeat (first | (with_reducible first | exact HB.out | apply below_alloc | apply pw_below_drewN | apply below_drew1) | exact HB.out)) hb); clear HB; have HB := n0_; clear n0_; (try clear hb); (try clear hb2); (try clear hk); (try clear hi)))
     go_meet
     case rel => exact ⟨_, (true), (by first | rfl | (simp; done) | (simp [*]; done)), H', ⟨by first | omega | exact Nat.le_refl _⟩, ⟨by repeat (first | (with_reducible first | exact HB.out | apply below_alloc | apply pw_below_drewN | apply below_drew1) | exact HB.out)⟩⟩
   ·
    replace c9 := Bool.eq_false_iff.mpr c9
    subst c9
    have H1 : (nunciolaw11_TableApart.j0 k a0 l1 l2 true) = some r := by rw [if_neg (show ¬ (false = true) by decide)] at H; exact H
    clear H
    have H := H1
    clear H1
    have H' := Aside0.mk H
    clear H
    go_wp2_with (first | ((with_reducible refine gate_callee (f := 9) rfl ?_); refine goesL_ (some 17) rfl rfl Tryd.func9 (by kernel_rfl) rfl #[.slice A1 l1.length c1] rfl (by (try simp only [List.map_toArray, List.map_cons, List.map_nil]); first | done | rfl | (simp only [List.length_drop, List.length_take]; rfl)) ?_; (with_reducible refine (nunciolaw11_Few.calls k _ _ l1 false _ ?side1 ?side2 A8.out).mono ?_); (case side1 => repeat (first | exact (Kd.C_below HR1.out HB.out) | (with_reducible refine Kd.C_alloc ?_ _) | (with_reducible refine Kd.C_drewN ?_ _) | (with_reducible refine Kd.C_drew ?_))); (case side2 => exact HC1.out); rintro e w19 ⟨rfl, hb⟩; refine ⟨_, rfl, ?_⟩; have n0_ := Aside0.mk (below_step (by repeat (first | (with_reducible first | exact HB.out | apply below_alloc | apply pw_below_drewN | apply below_drew1) | exact HB.out)) hb); clear HB; have HB := n0_; clear n0_; (try clear hb); (try clear hb2); (try clear hk); (try clear hi)))
    go_meet
    case rel => exact ⟨_, (true), (by first | rfl | (simp; done) | (simp [*]; done)), H', ⟨by first | omega | exact Nat.le_refl _⟩, ⟨by repeat (first | (with_reducible first | exact HB.out | apply below_alloc | apply pw_below_drewN | apply below_drew1) | exact HB.out)⟩⟩
  case rest =>
   clear HC6
   try clear c1
   try clear c2
   try clear p2
   try clear c5
   try clear c6
   try clear c8
   try clear c9
   try clear c11
   try clear c12
   try clear c12b0
   try clear c12b1
   obtain ⟨kq, x33_5, rfl, HA, HJ5, HB⟩ := hcut
   cases kq with
   | zero => exact absurd HA.out (by simp [nunciolaw11_TableApart.j0])
   | succ kj5 =>
    have H := HA.out
    clear HA
    simp only [nunciolaw11_TableApart.j0] at H
    by_cases c20 : x33_5 = true
    ·
     subst c20
     have H1 : (some true) = some r := by rw [if_pos rfl] at H; exact H
     clear H
     have H := H1
     clear H1
     obtain rfl := Option.some.inj H
     go_wp2
     go_ret
     exact ⟨by first | rfl | (simp [errW_none, errW_some] <;> rfl) | (simp [*, errW_none, errW_some] <;> rfl), by repeat (first | (with_reducible first | exact HB.out | apply below_alloc | apply pw_below_drewN | apply below_drew1) | exact HB.out)⟩
    ·
     replace c20 := Bool.eq_false_iff.mpr c20
     subst c20
     have H1 : ((table_New.f a0).bind fun t319 => ((nuncioref11_New.f a0).bind fun bt321 => (nunciolaw11_TableApart.l0 kj5 l1 l2 0 t319 bt321.1 bt321.2))) = some r := by rw [if_neg (show ¬ (false = true) by decide)] at H; exact H
     clear H
     have H := H1
     clear H1
     replace H := Option.bind_eq_some_iff.mp H
     obtain ⟨t319, A210, H⟩ := H
     replace H : ((nuncioref11_New.f a0).bind fun bt321 => (nunciolaw11_TableApart.l0 kj5 l1 l2 0 t319 bt321.1 bt321.2)) = some r := H
     have A21 := Aside0.mk A210
     clear A210
     replace H := Option.bind_eq_some_iff.mp H
     obtain ⟨⟨t321, t322⟩, A220, H⟩ := H
     replace H : (nunciolaw11_TableApart.l0 kj5 l1 l2 0 t319 t321 t322) = some r := H
     have A22 := Aside0.mk A220
     clear A220
     have H' := Aside0.mk H
     clear H
     go_wp2_with (first | ((with_reducible refine gate_callee (f := 10) rfl ?_); refine goesL_ (some 35) rfl rfl Tryd.func10 (by kernel_rfl) rfl #[.int .i64 a0] rfl (by (try simp only [List.map_toArray, List.map_cons, List.map_nil]); first | done | rfl | (simp only [List.length_drop, List.length_take]; rfl)) ?_; (with_reducible refine (table_New.calls a0 t319 _ _ (Below.refl _ _) ?side1 A21.out).mono ?_); (case side1 => exact EnvW.below HEnv.out rfl (by repeat (first | (with_reducible first | exact HB.out | apply below_alloc | apply pw_below_drewN | apply below_drew1) | exact HB.out))); rintro e w23 ⟨g320, rfl, hi, hb, hb2⟩; refine ⟨_, rfl, ?_⟩; have n0_ := Aside0.mk (below_step (by repeat (first | (with_reducible first | exact HB.out | apply below_alloc | apply pw_below_drewN | apply below_drew1) | exact HB.out)) hb2); have n1_ := Aside0.mk ((show IsS57 w w23 g320 t319 from IsS57.rebase hi (below_size (by repeat (first | (with_reducible first | exact HB.out | apply below_alloc | apply pw_below_drewN | apply below_drew1) | exact HB.out))))); clear HB; have HB := n0_; have HI320 := n1_; clear n0_ n1_; (try clear hb); (try clear hb2); (try clear hk); (try clear hi)) | ((with_reducible refine gate_callee (f := 11) rfl ?_); refine goesL_ (some 37) rfl rfl Tryd.func11 (by kernel_rfl) rfl #[.int .i64 a0] rfl (by (try simp only [List.map_toArray, List.map_cons, List.map_nil]); first | done | rfl | (simp only [List.length_drop, List.length_take]; rfl)) ?_; (with_reducible refine (nuncioref11_New.calls a0 t321 t322 _ A22.out).mono ?_); rintro e w24 ⟨v323, rfl, ho0, hb⟩; refine ⟨_, rfl, ?_⟩; have n0_ := Aside0.mk (Kd.R_lower ho0 (below_size (by repeat (first | (with_reducible first | exact HB.out | apply below_alloc | apply pw_below_drewN | apply below_drew1 | refine below_set ?_ (IsS57.ge HI320.out)) | exact HB.out)))); have n1_ := Aside0.mk (IsS57.below (by repeat (first | (with_reducible first | exact HI320.out | apply IsS57.alloc | apply IsS57.drewN | apply IsS57.drew) | exact HI320.out)) hb); have n2_ := Aside0.mk (below_step (by repeat (first | (with_reducible first | exact HB.out | apply below_alloc | apply pw_below_drewN | apply below_drew1 | refine below_set ?_ (IsS57.ge HI320.out)) | exact HB.out)) hb); clear HI320; clear HB; have HO324 := n0_; have HI320 := n1_; have HB := n2_; clear n0_ n1_ n2_; (try clear hb); (try clear hb2); (try clear hk); (try clear hi); (try clear ho0)) | ((with_reducible refine gate_dst (N := 8) rfl ?_); (try (refine gate_guard (by rfl) ?_; dsimp only)); refine box_event ?hg (N := 8) ?hd (cs := #[.int .i64 0, .slice none 0 0]) (t := 29) ?hr ?_; (case hd => rfl); (case hg => rfl); (case hr => first | (go_simp; done) | (go_simp; rfl)); intro gb325 hg w25 hbox hb; have n0_ := Aside0.mk (Kd.R_below (by (with_reducible repeat (first | apply Kd.R_alloc | apply Kd.R_drewN | apply Kd.R_drew)); exact HO324.out) hb); have n1_ := Aside0.mk (IsS57.below (by repeat (first | (with_reducible first | exact HI320.out | apply IsS57.alloc | apply IsS57.drewN | apply IsS57.drew) | exact HI320.out)) hb); have n2_ := Aside0.mk (below_step (by repeat (first | (with_reducible first | exact HB.out | apply below_alloc | apply pw_below_drewN | apply below_drew1 | refine below_set ?_ (IsS57.ge HI320.out)) | exact HB.out)) hb); have n3_ := Aside0.mk (hbox); have n4_ := Aside0.mk ((by rw [hg]; exact (below_size (by repeat (first | (with_reducible first | exact HB.out | apply below_alloc | apply pw_below_drewN | apply below_drew1 | refine below_set ?_ (IsS57.ge HI320.out)) | exact HB.out))) : w.heap.size ≤ gb325)); have n5_ := Aside0.mk ((by rw [hg]; exact (below_size (by repeat (first | (with_reducible first | exact HB.out | apply below_alloc | apply pw_below_drewN | apply below_drew1 | refine below_set ?_ (IsS57.ge HI320.out)) | exact HB.out))) : w.heap.size ≤ gb325)); have n6_ := Aside0.mk ((by rw [hg]; exact Nat.ne_of_lt (IsS57.lt (show IsS57 w _ g320 t319 from by repeat (first | (with_reducible first | exact HI320.out | apply IsS57.alloc | apply IsS57.drewN | apply IsS57.drew) | exact HI320.out))) : g320 ≠ gb325)); have n7_ := Aside0.mk ((by rw [hg]; exact Nat.ne_of_gt (IsS57.lt (show IsS57 w _ g320 t319 from by repeat (first | (with_reducible first | exact HI320.out | apply IsS57.alloc | apply IsS57.drewN | apply IsS57.drew) | exact HI320.out))) : gb325 ≠ g320)); clear HO324; clear HI320; clear HB; have HO324 := n0_; have HI320 := n1_; have HB := n2_; have BK325 := n3_; have GW325 := n4_; have GE325 := n5_; have NB320_325 := n6_; have NB325_320 := n7_; clear n0_ n1_ n2_ n3_ n4_ n5_ n6_ n7_; clear hb hbox hg; have hnb26 := NB325_320.out; have hnc26 := NB320_325.out; have hcz27_0 : w25.cell? ⟨gb325, 0, none⟩ = some (.int .i64 0) := (blk_cell BK325.out 0).trans rfl; have hcz27_1 : w25.cell? ⟨gb325, 1, none⟩ = some (.slice none 0 0) := (blk_cell BK325.out 1).trans rfl; have hfz27_0 := blk_frozen BK325.out 0; have hfz27_1 := blk_frozen BK325.out 1; obtain ⟨Ao28, co28, eo28⟩ := Kd.R_slice HO324.out; subst eo28))
     go_loopg [9] kj5 (fun kq v9 w' => ∃ (x9_2 : Int) (x321000_2 : TB) (x326000_2 : Int) (x326001_2 : List (S38)) (u326001 : Value), v9 = .int .i64 x9_2 ∧ Aside0 (nunciolaw11_TableApart.l0 kq l1 l2 x9_2 x321000_2 x326000_2 x326001_2 = some r) ∧ Aside0 (kq ≤ kj5) ∧ Aside0 (Kd.R k38 38 w' w.heap.size (fun _ => True) u326001 x326001_2) ∧ Aside0 (w'.heap[gb325]? = some (.cells #[.int .i64 x326000_2, u326001] 29 (0, 0))) ∧ Aside0 (IsS57 w w' g320 x321000_2) ∧ Aside0 (Below w.heap.size w w'))
     case atStart => exact ⟨(0), (t319), (t321), (t322), (.slice Ao28 t322.length co28), (by first | rfl | (simp; done) | (simp [*]; done)), H', ⟨Nat.le_refl _⟩, ⟨by (with_reducible repeat (first | apply Kd.R_alloc | apply Kd.R_drewN | apply Kd.R_drew)); exact Kd.R_mono (Kd.R_far (p := ⟨gb325, 1, none⟩) (Kd.R_far (p := ⟨gb325, 0, none⟩) (Kd.R_types HO324.out BK325.out (by decide)) (fun _ hk => hk.2) (.int .i64 t321)) (fun _ hk => hk.2) (.slice Ao28 t322.length co28)) (fun _ hk => trivial)⟩, ⟨by (with_reducible repeat (first | refine blk_drewN ?_ _ | refine blk_drew ?_ | refine blk_alloc ?_ _)); refine blk_put (cs := #[.int .i64 t321, .slice none 0 0]) ?_ 1 _ rfl; (with_reducible repeat (first | refine blk_drewN ?_ _ | refine blk_drew ?_ | refine blk_alloc ?_ _)); refine blk_put (cs := #[.int .i64 0, .slice none 0 0]) ?_ 0 _ rfl; (with_reducible repeat (first | refine blk_drewN ?_ _ | refine blk_drew ?_ | refine blk_alloc ?_ _)); exact BK325.out⟩, ⟨by repeat (first | (with_reducible first | exact HI320.out | apply IsS57.alloc | apply IsS57.drewN | apply IsS57.drew | refine IsS57.farT ?_ (by repeat (first | exact TyOf.mk BK325.out | apply TyOf.alloc | apply TyOf.drewN | apply TyOf.drew | apply TyOf.set)) (by decide) _) | exact HI320.out)⟩, ⟨by repeat (first | (with_reducible first | exact HB.out | apply below_alloc | apply pw_below_drewN | apply below_drew1 | refine below_set ?_ (IsS57.ge HI320.out) | refine below_set ?_ GE325.out) | exact HB.out)⟩⟩
     case round =>
      clear H'
      try clear c1
      try clear c2
      try clear p2
      try clear c5
      try clear c6
      try clear c8
      try clear c9
      try clear c10
      try clear c11
      try clear c12
      try clear c12b0
      try clear c12b1
      try clear c20
      try clear c26
      try clear hcz27_0
      try clear hcz27_1
      try clear hfz27_0
      try clear hfz27_1
      try clear p2
      obtain ⟨x9_2, x321000_2, x326000_2, x326001_2, u326001, rfl, HA, HK2, HO_326001, BK325, HI320, HB⟩ := hrel
      cases gk with
      | zero => exact absurd HA.out (by simp [nunciolaw11_TableApart.l0])
      | succ k2 =>
       have H := HA.out
       clear HA
       simp only [nunciolaw11_TableApart.l0] at H
       by_cases c29 : x9_2 < (l1.length : Int)
       ·
        rw [if_pos c29] at H
        have c29b0 : decide (x9_2 < (l1.length : Int)) = true := decide_eq_true c29
        clear c29
        by_cases c30 : 0 ≤ x9_2
        ·
         rw [if_pos c30] at H
         have c30b0 : decide (0 ≤ x9_2) = true := decide_eq_true c30
         clear c30
         replace H := Option.bind_eq_some_iff.mp H
         obtain ⟨⟨t327, t328, t331⟩, A310, H⟩ := H
         replace H : (nunciolaw11_TableApart.l0 k2 l1 l2 (wrap64 (x9_2 + 1)) t331 t327 t328) = some r := H
         have A31 := Aside0.mk A310
         clear A310
         have H' := Aside0.mk H
         clear H
         try go_wp2
         have n0_ := Aside0.mk (Kd.R_drew HO_326001.out)
         have n1_ := Aside0.mk (blk_drew BK325.out)
         have n2_ := Aside0.mk (IsS57.drew HI320.out)
         have n3_ := Aside0.mk (below_drew1 HB.out)
         clear HO_326001
         clear BK325
         clear HI320
         clear HB
         have HO_326001 := n0_
         have BK325 := n1_
         have HI320 := n2_
         have HB := n3_
         clear n0_ n1_ n2_ n3_
         have p326 : 0 ≤ (x9_2 : Int) := of_decide_eq_true (by first | (with_reducible assumption) | assumption)
         have q326 : x9_2 < (l1.length : Int) := of_decide_eq_true (by first | (with_reducible assumption) | assumption)
         obtain ⟨ad326, e326, hx326_0, hx326_1, hx326_2⟩ := at_T34 HR1.out x9_2 p326 q326
         have hw326_2 := hx326_2
         have hw326_1 := hx326_1
         have hw326_0 := hx326_0
         cases e326
         replace hx326_0 := (HB.out.cell (World.block_lt_of_cell? w _ hx326_0)).trans hx326_0
         replace hx326_1 := (HB.out.cell (World.block_lt_of_cell? w _ hx326_1)).trans hx326_1
         replace hx326_2 := (HB.out.cell (World.block_lt_of_cell? w _ hx326_2)).trans hx326_2
         replace p326 := eq_true p326
         replace q326 := eq_true q326
         obtain ⟨Ao33, co33, eo33⟩ := Kd.R_slice HO_326001.out
         (first | subst eo33 | (injection eo33 with f1_ f2_ f3_; have f4_ := f1_.symm; have f5_ := f3_.symm; clear f1_ f2_ f3_; subst f4_; subst f5_))
         refine start_ (n := 8) (S := fun w' => w'.cell? ⟨gb325, 0, none⟩ = some (.int .i64 x326000_2) ∧ w'.cell? ⟨gb325, 1, none⟩ = some (.slice Ao33 x326001_2.length co33) ∧ w'.cell? (ad326.add ((x9_2).toNat * 3)) = some (.string ((rd_T34 l1 x9_2).f0)) ∧ w'.cell? ⟨(ad326.add ((x9_2).toNat * 3)).block, (ad326.add ((x9_2).toNat * 3)).off + 1, none⟩ = some (.string ((rd_T34 l1 x9_2).f1)) ∧ w'.cell? ⟨(ad326.add ((x9_2).toNat * 3)).block, (ad326.add ((x9_2).toNat * 3)).off + 2, none⟩ = some (.int .i64 ((rd_T34 l1 x9_2).f2))) (ds := [7]) #[false, false, false, false, false, false, false, false] (by kernel_rfl) rfl rfl ⟨(blk_cell BK325.out 0).trans rfl, (blk_cell BK325.out 1).trans rfl, ((HB.out.cell (World.block_lt_of_cell? w _ hw326_0)).trans hw326_0), ((HB.out.cell (World.block_lt_of_cell? w _ hw326_1)).trans hw326_1), ((HB.out.cell (World.block_lt_of_cell? w _ hw326_2)).trans hw326_2)⟩ (fun hHeld => ?_); refine with_tabW nunciolaw11_TableApart.tab10 nunciolaw11_TableApart.bits10 (fun HT_ HW_ => ?_)
         generalize wr.drew = w32 at HO_326001 BK325 HI320 HB hx326_0 hx326_1 hx326_2 hHeld ⊢
         refine pure_ (i := 0) (N := some 44) (v := ?_) (a' := ?_) #[true, false, false, false, false, false, false, false] rfl rfl (any_of HT_.out (by kernel_rfl)) (fun _ _ _ h => h) (Or.inl ⟨by rfl, ?_⟩) ?_ ?_
         rotate_left
         ·
          intro w'
          go_simp
          with_reducible rfl
         rotate_left
         ·
          simp only [Act.put, List.setIfInBounds_toArray, List.set_cons_zero, List.set_cons_succ, i64_w, i32_w]
          rfl
         refine pure_ (i := 2) (N := some 46) (v := ?_) (a' := ?_) #[true, false, true, false, false, false, false, false] rfl rfl (any_of HT_.out (by kernel_rfl)) (fun _ _ _ h => h) (Or.inl ⟨by rfl, ?_⟩) ?_ ?_
         rotate_left
         ·
          intro w'
          go_simp
          with_reducible rfl
         rotate_left
         ·
          simp only [Act.put, List.setIfInBounds_toArray, List.set_cons_zero, List.set_cons_succ, i64_w, i32_w]
          rfl
         refine pure_ (i := 3) (N := some 47) (v := ?_) (a' := ?_) #[true, false, true, true, false, false, false, false] rfl rfl (any_of HT_.out (by kernel_rfl)) (fun _ _ _ h => h) (Or.inl ⟨by rfl, ?_⟩) ?_ ?_
         rotate_left
         ·
          intro w'
          go_simp
          with_reducible rfl
         rotate_left
         ·
          simp only [Act.put, List.setIfInBounds_toArray, List.set_cons_zero, List.set_cons_succ, i64_w, i32_w]
          rfl
         refine pure_ (i := 4) (N := some 48) (v := ?_) (a' := ?_) #[true, false, true, true, true, false, false, false] rfl rfl (any_of HT_.out (by kernel_rfl)) (fun _ _ _ h => h) (Or.inl ⟨by rfl, ?_⟩) ?_ ?_
         rotate_left
         ·
          intro w'
          go_simp
          with_reducible rfl
         rotate_left
         ·
          simp only [Act.put, List.setIfInBounds_toArray, List.set_cons_zero, List.set_cons_succ, i64_w, i32_w]
          rfl
         refine take_ (i := 1) (N := some 45) (v := ?_) (a' := ?_) #[true, true, true, true, true, false, false, false] rfl rfl (take_ofW HT_.out HW_.out (by kernel_rfl)) (fun _ _ _ h => h) (Or.inl ⟨by rfl, ?_⟩) hHeld ?_ ?_
         rotate_left
         ·
          rintro w' ⟨s0, s1, s2, s3, s4⟩
          go_simp
          with_reducible rfl
         rotate_left
         ·
          simp only [Act.put, List.setIfInBounds_toArray, List.set_cons_zero, List.set_cons_succ, i64_w, i32_w]
          rfl
         refine take_ (i := 5) (N := some 49) (v := ?_) (a' := ?_) #[true, true, true, true, true, true, false, false] rfl rfl (take_ofW HT_.out HW_.out (by kernel_rfl)) (fun _ _ _ h => h) (Or.inl ⟨by rfl, ?_⟩) hHeld ?_ ?_
         rotate_left
         ·
          rintro w' ⟨s0, s1, s2, s3, s4⟩
          go_simp
          with_reducible rfl
         rotate_left
         ·
          simp only [Act.put, List.setIfInBounds_toArray, List.set_cons_zero, List.set_cons_succ, i64_w, i32_w]
          rfl
         refine one_ (i := 6) (N := some 50) #[true, true, true, true, true, true, true, false] rfl rfl (one_of HT_.out (by kernel_rfl)) (by decide) (fun K hK => ?_)
         refine goes_ Tryd.func13 (by kernel_rfl) rfl #[.pointer (some ⟨g320, 0, none⟩), .agg #[.int .i64 x326000_2, .slice Ao33 x326001_2.length co33], .agg #[.string ((rd_T34 l1 x9_2).f0), .string ((rd_T34 l1 x9_2).f1), .int .i64 ((rd_T34 l1 x9_2).f2)]] (by rfl) rfl rfl (by (try simp only [List.map_toArray, List.map_cons, List.map_nil]); first | done | rfl | (simp only [List.length_drop, List.length_take]; rfl)) ?_
         with_reducible refine (nunciolaw11_play.calls k2 g320 x321000_2 x326000_2 _ _ x326001_2 ((rd_T34 l1 x9_2).f0) ((rd_T34 l1 x9_2).f1) ((rd_T34 l1 x9_2).f2) t327 t328 t331 w _ ?side1 ?side2 ?side3 ?side4 A31.out).mono ?_
         (case side1 => repeat (first | (with_reducible first | exact HI320.out | apply IsS57.alloc | apply IsS57.drewN | apply IsS57.drew | refine IsS57.farT ?_ (by repeat (first | exact TyOf.mk BK325.out | apply TyOf.alloc | apply TyOf.drewN | apply TyOf.drew | apply TyOf.set)) (by decide) _) | exact HI320.out))
         (case side2 => repeat (first | (with_reducible first | exact HB.out | apply below_alloc | apply pw_below_drewN | apply below_drew1 | refine below_set ?_ (IsS57.ge HI320.out) | refine below_set ?_ GE325.out) | exact HB.out))
         (case side3 => exact Kd.C_foot_own (IsS57.apart (show IsS57 w _ g320 x321000_2 from by repeat (first | (with_reducible first | exact HI320.out | apply IsS57.alloc | apply IsS57.drewN | apply IsS57.drew | refine IsS57.farT ?_ (by repeat (first | exact TyOf.mk BK325.out | apply TyOf.alloc | apply TyOf.drewN | apply TyOf.drew | apply TyOf.set)) (by decide) _) | exact HI320.out)) (by (with_reducible repeat (first | apply Kd.R_alloc | apply Kd.R_drewN | apply Kd.R_drew)); exact HO_326001.out) (by decide)) (fun _ h_ => h_.2))
         (case side4 => exact (Kd.R_reads' HO_326001.out).2.1)
         rintro e w34 ⟨v329, rfl, ho0, hi, hb, hk⟩
         refine ⟨_, rfl, ?_⟩
         have n0_ := Aside0.mk (Kd.R_mono (Kd.R_told (Kd.R_oldK (IsS57.apart (show IsS57 w _ g320 x321000_2 from by repeat (first | (with_reducible first | exact HI320.out | apply IsS57.alloc | apply IsS57.drewN | apply IsS57.drew | refine IsS57.farT ?_ (by repeat (first | exact TyOf.mk BK325.out | apply TyOf.alloc | apply TyOf.drewN | apply TyOf.drew | apply TyOf.set)) (by decide) _) | exact HI320.out)) (by (with_reducible repeat (first | apply Kd.R_alloc | apply Kd.R_drewN | apply Kd.R_drew)); exact HO_326001.out) (by decide)) hk) (Kd.R_base ho0)) (fun _ h_ => h_.1))
         have n1_ := Aside0.mk (KeepBut.blk hk (g' := gb325) (o := .cells #[.int .i64 x326000_2, .slice Ao33 x326001_2.length co33] 29 (0, 0)) (by (with_reducible repeat (first | refine blk_drewN ?_ _ | refine blk_drew ?_ | refine blk_alloc ?_ _)); exact BK325.out) NB325_320.out (by simp))
         have n2_ := Aside0.mk (Kd.R_lower (Kd.R_new' ho0 (Kd.R_lt (by (with_reducible repeat (first | apply Kd.R_alloc | apply Kd.R_drewN | apply Kd.R_drew)); exact HO_326001.out))) (below_size (by repeat (first | (with_reducible first | exact HB.out | apply below_alloc | apply pw_below_drewN | apply below_drew1 | refine below_set ?_ (IsS57.ge HI320.out) | refine below_set ?_ GE325.out) | exact HB.out))))
         have n3_ := Aside0.mk (hb)
         have n4_ := Aside0.mk (hi)
         clear HO_326001
         clear BK325
         clear HB
         clear HI320
         have HO_326001 := n0_
         have BK325 := n1_
         have HO330 := n2_
         have HB := n3_
         have HI320 := n4_
         clear n0_ n1_ n2_ n3_ n4_
         (try clear hb)
         (try clear hb2)
         (try clear hk)
         (try clear hi)
         (try clear ho0)
         obtain ⟨Ao36, co36, eo36⟩ := Kd.R_slice HO330.out
         (first | subst eo36 | (injection eo36 with f1_ f2_ f3_; have f4_ := f1_.symm; have f5_ := f3_.symm; clear f1_ f2_ f3_; subst f4_; subst f5_))
         refine hK.out _ _ ⟨(blk_cell BK325.out 0).trans rfl, (blk_cell BK325.out 1).trans rfl, ((HB.out.cell (World.block_lt_of_cell? w _ hw326_0)).trans hw326_0), ((HB.out.cell (World.block_lt_of_cell? w _ hw326_1)).trans hw326_1), ((HB.out.cell (World.block_lt_of_cell? w _ hw326_2)).trans hw326_2)⟩ (fun hHeld => ?_)
         clear hK K
         refine norm_ (a' := ?_) ?_ ?_
         rotate_left
         ·
          show Act.put _ (some 50) _ = _
          simp only [Act.put, List.setIfInBounds_toArray, List.set_cons_zero, List.set_cons_succ, i64_w, i32_w]
          rfl
         refine last_ (i := 7) (N := none) #[true, true, true, true, true, true, true, true] rfl rfl (one_of HT_.out (by kernel_rfl)) (by decide) (fun K hK => ?_)
         have hs35 : w34.cell? ⟨gb325, 0, none⟩ = some (.int .i64 x326000_2) := (blk_cell BK325.out 0).trans rfl
         have hfs35 := blk_frozen BK325.out 0
         have hs37 : w34.cell? ⟨gb325, 1, none⟩ = some (.slice Ao33 x326001_2.length co33) := (blk_cell BK325.out 1).trans rfl
         have hfs37 := blk_frozen BK325.out 1
         refine skip_ (w1 := ?_) (by rfl) rfl ?_ ?_
         rotate_left
         ·
          go_simp
          rfl
         refine hK.out _ _ ?_
         clear hK K
         refine done_ (done_of HT_.out (by kernel_rfl)) ?_
         try go_wp2
         go_roundg k2
         case measure => have := HJ5.out; have := HK2.out; omega
         case rel => exact ⟨(wrap64 (x9_2 + 1)), (t331), (t327), (t328), (.slice Ao36 t328.length co36), (by first | rfl | (simp; done) | (simp [*]; done)), H', ⟨by have := HJ5.out; have := HK2.out; omega⟩, ⟨by (with_reducible repeat (first | apply Kd.R_alloc | apply Kd.R_drewN | apply Kd.R_drew)); exact Kd.R_mono (Kd.R_far (p := ⟨gb325, 1, none⟩) (Kd.R_far (p := ⟨gb325, 0, none⟩) (Kd.R_types HO330.out BK325.out (by decide)) (fun _ hk => hk.2) (.int .i64 t327)) (fun _ hk => hk.2) (.slice Ao36 t328.length co36)) (fun _ hk => trivial)⟩, ⟨by (with_reducible repeat (first | refine blk_drewN ?_ _ | refine blk_drew ?_ | refine blk_alloc ?_ _)); refine blk_put (cs := #[.int .i64 t327, .slice Ao33 x326001_2.length co33]) ?_ 1 _ rfl; (with_reducible repeat (first | refine blk_drewN ?_ _ | refine blk_drew ?_ | refine blk_alloc ?_ _)); refine blk_put (cs := #[.int .i64 x326000_2, .slice Ao33 x326001_2.length co33]) ?_ 0 _ rfl; (with_reducible repeat (first | refine blk_drewN ?_ _ | refine blk_drew ?_ | refine blk_alloc ?_ _)); exact BK325.out⟩, ⟨by repeat (first | (with_reducible first | exact HI320.out | apply IsS57.alloc | apply IsS57.drewN | apply IsS57.drew | refine IsS57.farT ?_ (by repeat (first | exact TyOf.mk BK325.out | apply TyOf.alloc | apply TyOf.drewN | apply TyOf.drew | apply TyOf.set)) (by decide) _) | exact HI320.out)⟩, ⟨by repeat (first | (with_reducible first | exact HB.out | apply below_alloc | apply pw_below_drewN | apply below_drew1 | refine below_set ?_ (IsS57.ge HI320.out) | refine below_set ?_ GE325.out) | exact HB.out)⟩⟩
        ·
         rw [if_neg c30] at H
         exact absurd H (by simp)
       ·
        rw [if_neg c29] at H
        have c29b0 : decide (x9_2 < (l1.length : Int)) = false := decide_eq_false c29
        clear c29
        replace H := Option.bind_eq_some_iff.mp H
        obtain ⟨t332, A380, H⟩ := H
        replace H : ((nunciolaw11_same.f k2 t332 x326000_2 x326001_2).bind fun bt334 => (if bt334.1 = true then (nunciolaw11_TableApart.l1 k2 l2 0 x321000_2 x326000_2 x326001_2 bt334.2) else (some false))) = some r := H
        have A38 := Aside0.mk A380
        clear A380
        replace H := Option.bind_eq_some_iff.mp H
        obtain ⟨⟨t334, t335⟩, A390, H⟩ := H
        replace H : (if t334 = true then (nunciolaw11_TableApart.l1 k2 l2 0 x321000_2 x326000_2 x326001_2 t335) else (some false)) = some r := H
        have A39 := Aside0.mk A390
        clear A390
        by_cases c40 : t334 = true
        ·
         subst c40
         have H1 : (nunciolaw11_TableApart.l1 k2 l2 0 x321000_2 x326000_2 x326001_2 t335) = some r := by rw [if_pos rfl] at H; exact H
         clear H
         have H := H1
         clear H1
         have H' := Aside0.mk H
         clear H
         go_wp2_with (first | ((with_reducible refine gate_callee (f := 24) rfl ?_); refine goesL_ (some 52) rfl rfl Tryd.func24 (by kernel_rfl) rfl #[.pointer (some ⟨g320, 0, none⟩)] rfl (by (try simp only [List.map_toArray, List.map_cons, List.map_nil]); first | done | rfl | (simp only [List.length_drop, List.length_take]; rfl)) ?_; (with_reducible refine (table_Table_Copy.calls (w1 := w) g320 x321000_2 t332 _ _ ?side1 (Below.refl _ _) A38.out).mono ?_); (case side1 => repeat (first | (with_reducible first | exact HI320.out | apply IsS57.alloc | apply IsS57.drewN | apply IsS57.drew | refine IsS57.farT ?_ (by repeat (first | exact TyOf.mk BK325.out | apply TyOf.alloc | apply TyOf.drewN | apply TyOf.drew | apply TyOf.set)) (by decide) _) | exact HI320.out)); rintro e w41 ⟨g333, rfl, hi, hb, hb2⟩; refine ⟨_, rfl, ?_⟩; have n0_ := Aside0.mk (Kd.R_below (by (with_reducible repeat (first | apply Kd.R_alloc | apply Kd.R_drewN | apply Kd.R_drew)); exact HO_326001.out) hb2); have n1_ := Aside0.mk (blk_below (g := gb325) (o := .cells #[.int .i64 x326000_2, u326001] 29 (0, 0)) (by (with_reducible repeat (first | refine blk_drewN ?_ _ | refine blk_drew ?_ | refine blk_alloc ?_ _)); exact BK325.out) hb2); have n2_ := Aside0.mk (IsS57.below (by repeat (first | (with_reducible first | exact HI320.out | apply IsS57.alloc | apply IsS57.drewN | apply IsS57.drew | refine IsS57.farT ?_ (by repeat (first | exact TyOf.mk BK325.out | apply TyOf.alloc | apply TyOf.drewN | apply TyOf.drew | apply TyOf.set)) (by decide) _) | exact HI320.out)) hb2); have n3_ := Aside0.mk (below_step (by repeat (first | (with_reducible first | exact HB.out | apply below_alloc | apply pw_below_drewN | apply below_drew1 | refine below_set ?_ (IsS57.ge HI320.out) | refine below_set ?_ GE325.out) | exact HB.out)) hb2); have n4_ := Aside0.mk ((show IsS57 w w41 g333 t332 from IsS57.rebase hi (below_size (by repeat (first | (with_reducible first | exact HB.out | apply below_alloc | apply pw_below_drewN | apply below_drew1 | refine below_set ?_ (IsS57.ge HI320.out) | refine below_set ?_ GE325.out) | exact HB.out))))); have n5_ := Aside0.mk ((Nat.ne_of_lt (Nat.lt_of_lt_of_le (IsS57.lt (show IsS57 w _ g320 x321000_2 from by repeat (first | (with_reducible first | exact HI320.out | apply IsS57.alloc | apply IsS57.drewN | apply IsS57.drew | refine IsS57.farT ?_ (by repeat (first | exact TyOf.mk BK325.out | apply TyOf.alloc | apply TyOf.drewN | apply TyOf.drew | apply TyOf.set)) (by decide) _) | exact HI320.out))) (IsS57.ge hi)) : g320 ≠ g333)); have n6_ := Aside0.mk ((Nat.ne_of_gt (Nat.lt_of_lt_of_le (IsS57.lt (show IsS57 w _ g320 x321000_2 from by repeat (first | (with_reducible first | exact HI320.out | apply IsS57.alloc | apply IsS57.drewN | apply IsS57.drew | refine IsS57.farT ?_ (by repeat (first | exact TyOf.mk BK325.out | apply TyOf.alloc | apply TyOf.drewN | apply TyOf.drew | apply TyOf.set)) (by decide) _) | exact HI320.out))) (IsS57.ge hi)) : g333 ≠ g320)); have n7_ := Aside0.mk (IsS57.ne_blk hi (blk_below (g := gb325) (o := .cells #[.int .i64 x326000_2, u326001] 29 (0, 0)) (by (with_reducible repeat (first | refine blk_drewN ?_ _ | refine blk_drew ?_ | refine blk_alloc ?_ _)); exact BK325.out) hb2) (by decide)); have n8_ := Aside0.mk (Ne.symm (IsS57.ne_blk hi (blk_below (g := gb325) (o := .cells #[.int .i64 x326000_2, u326001] 29 (0, 0)) (by (with_reducible repeat (first | refine blk_drewN ?_ _ | refine blk_drew ?_ | refine blk_alloc ?_ _)); exact BK325.out) hb2) (by decide))); clear HO_326001; clear BK325; clear HI320; clear HB; have HO_326001 := n0_; have BK325 := n1_; have HI320 := n2_; have HB := n3_; have HI333 := n4_; have NB320_333 := n5_; have NB333_320 := n6_; have NB333_325 := n7_; have NB325_333 := n8_; clear n0_ n1_ n2_ n3_ n4_ n5_ n6_ n7_ n8_; (try clear hb); (try clear hb2); (try clear hk); (try clear hi); have hnb42 := NB325_320.out; have hnc42 := NB320_325.out; have hnb43 := NB325_333.out; have hnc43 := NB333_325.out; have hcz44_0 : w41.cell? ⟨gb325, 0, none⟩ = some (.int .i64 x326000_2) := (blk_cell BK325.out 0).trans rfl; have hcz44_1 : w41.cell? ⟨gb325, 1, none⟩ = some (u326001) := (blk_cell BK325.out 1).trans rfl; have hfz44_0 := blk_frozen BK325.out 0; have hfz44_1 := blk_frozen BK325.out 1; obtain ⟨Ao45, co45, eo45⟩ := Kd.R_slice HO_326001.out; subst eo45) | (go_at_call 12; (with_reducible refine (nunciolaw11_same.calls k2 g333 t332 x326000_2 _ _ x326001_2 true t335 w _ ?side1 ?side2 ?side3 ?side4 A39.out).mono ?_); (case side1 => repeat (first | (with_reducible first | exact HI333.out | apply IsS57.alloc | apply IsS57.drewN | apply IsS57.drew | refine IsS57.farT ?_ (by repeat (first | exact TyOf.mk BK325.out | apply TyOf.alloc | apply TyOf.drewN | apply TyOf.drew | apply TyOf.set)) (by decide) _) | exact HI333.out)); (case side2 => repeat (first | (with_reducible first | exact HB.out | apply below_alloc | apply pw_below_drewN | apply below_drew1 | refine below_set ?_ (IsS57.ge HI320.out) | refine below_set ?_ (IsS57.ge HI333.out) | refine below_set ?_ GE325.out) | exact HB.out)); (case side3 => exact Kd.C_foot_own (IsS57.apart (show IsS57 w _ g333 t332 from by repeat (first | (with_reducible first | exact HI333.out | apply IsS57.alloc | apply IsS57.drewN | apply IsS57.drew | refine IsS57.farT ?_ (by repeat (first | exact TyOf.mk BK325.out | apply TyOf.alloc | apply TyOf.drewN | apply TyOf.drew | apply TyOf.set)) (by decide) _) | exact HI333.out)) (by (with_reducible repeat (first | apply Kd.R_alloc | apply Kd.R_drewN | apply Kd.R_drew)); exact HO_326001.out) (by decide)) (fun _ h_ => h_.2)); (case side4 => exact (Kd.R_reads' HO_326001.out).2.1); rintro e w46 ⟨rfl, hi, hb, hk⟩; have n0_ := Aside0.mk (Kd.R_mono (Kd.R_keep (IsS57.apart (show IsS57 w _ g333 t332 from by repeat (first | (with_reducible first | exact HI333.out | apply IsS57.alloc | apply IsS57.drewN | apply IsS57.drew | refine IsS57.farT ?_ (by repeat (first | exact TyOf.mk BK325.out | apply TyOf.alloc | apply TyOf.drewN | apply TyOf.drew | apply TyOf.set)) (by decide) _) | exact HI333.out)) (by (with_reducible repeat (first | apply Kd.R_alloc | apply Kd.R_drewN | apply Kd.R_drew)); exact HO_326001.out) (by decide)) hk (fun _ h => h.2)) (fun _ h => h.1)); have n1_ := Aside0.mk (KeepBut.blk hk (g' := gb325) (o := .cells #[.int .i64 x326000_2, .slice Ao45 x326001_2.length co45] 29 (0, 0)) (by (with_reducible repeat (first | refine blk_drewN ?_ _ | refine blk_drew ?_ | refine blk_alloc ?_ _)); exact BK325.out) NB325_333.out (by simp)); have n2_ := Aside0.mk (IsS57.other (show IsS57 w _ g320 x321000_2 from by repeat (first | (with_reducible first | exact HI320.out | apply IsS57.alloc | apply IsS57.drewN | apply IsS57.drew | refine IsS57.farT ?_ (by repeat (first | exact TyOf.mk BK325.out | apply TyOf.alloc | apply TyOf.drewN | apply TyOf.drew | apply TyOf.set)) (by decide) _) | exact HI320.out)) (show IsS57 w _ g333 t332 from by repeat (first | (with_reducible first | exact HI333.out | apply IsS57.alloc | apply IsS57.drewN | apply IsS57.drew | refine IsS57.farT ?_ (by repeat (first | exact TyOf.mk BK325.out | apply TyOf.alloc | apply TyOf.drewN | apply TyOf.drew | apply TyOf.set)) (by decide) _) | exact HI333.out)) hk NB320_333.out); have n3_ := Aside0.mk (hb); have n4_ := Aside0.mk (hi); clear HO_326001; clear BK325; clear HI320; clear HB; clear HI333; have HO_326001 := n0_; have BK325 := n1_; have HI320 := n2_; have HB := n3_; have HI333 := n4_; clear n0_ n1_ n2_ n3_ n4_; (try clear hb); (try clear hb2); (try clear hk); (try clear hi)))
         go_loopg [11] k2 (fun kq v11 w' => ∃ (x11_3 : Int) (x334000_3 : TB), v11 = .int .i64 x11_3 ∧ Aside0 (nunciolaw11_TableApart.l1 kq l2 x11_3 x321000_2 x326000_2 x326001_2 x334000_3 = some r) ∧ Aside0 (kq ≤ k2) ∧ Aside0 (Kd.R k38 38 w' w.heap.size (fun _ => True) (.slice Ao45 x326001_2.length co45) x326001_2) ∧ Aside0 (w'.heap[gb325]? = some (.cells #[.int .i64 x326000_2, (.slice Ao45 x326001_2.length co45)] 29 (0, 0))) ∧ Aside0 (IsS57 w w' g320 x321000_2) ∧ Aside0 (IsS57 w w' g333 x334000_3) ∧ Aside0 (Below w.heap.size w w'))
         case atStart => exact ⟨(0), (t335), (by first | rfl | (simp; done) | (simp [*]; done)), H', ⟨Nat.le_refl _⟩, ⟨by (with_reducible repeat (first | apply Kd.R_alloc | apply Kd.R_drewN | apply Kd.R_drew)); exact HO_326001.out⟩, ⟨by (with_reducible repeat (first | refine blk_drewN ?_ _ | refine blk_drew ?_ | refine blk_alloc ?_ _)); exact BK325.out⟩, ⟨by repeat (first | (with_reducible first | exact HI320.out | apply IsS57.alloc | apply IsS57.drewN | apply IsS57.drew | refine IsS57.farT ?_ (by repeat (first | exact TyOf.mk BK325.out | apply TyOf.alloc | apply TyOf.drewN | apply TyOf.drew | apply TyOf.set)) (by decide) _) | exact HI320.out)⟩, ⟨by repeat (first | (with_reducible first | exact HI333.out | apply IsS57.alloc | apply IsS57.drewN | apply IsS57.drew | refine IsS57.farT ?_ (by repeat (first | exact TyOf.mk BK325.out | apply TyOf.alloc | apply TyOf.drewN | apply TyOf.drew | apply TyOf.set)) (by decide) _) | exact HI333.out)⟩, ⟨by repeat (first | (with_reducible first | exact HB.out | apply below_alloc | apply pw_below_drewN | apply below_drew1 | refine below_set ?_ (IsS57.ge HI320.out) | refine below_set ?_ (IsS57.ge HI333.out) | refine below_set ?_ GE325.out) | exact HB.out)⟩⟩
         case round =>
          clear H'
          try clear c1
          try clear c2
          try clear p2
          try clear c3
          try clear p3
          try clear q3
          try clear hx3
          try clear c4
          try clear c5
          try clear c6
          try clear p6
          try clear c8
          try clear c9
          try clear c10
          try clear c11
          try clear c12
          try clear c12b0
          try clear c12b1
          try clear c13
          try clear c20
          try clear c24
          try clear c26
          try clear c29
          try clear c29b0
          try clear c30
          try clear c30b0
          try clear p32
          try clear q32
          try clear hx32
          try clear c40
          try clear c42
          try clear c43
          try clear hcz27_0
          try clear hcz27_1
          try clear hcz44_0
          try clear hcz44_1
          try clear hfz27_0
          try clear hfz27_1
          try clear hfz44_0
          try clear hfz44_1
          try clear hx326_0
          try clear hx326_1
          try clear hx326_2
          try clear p2
          try clear p326
          try clear q326
          obtain ⟨x11_3, x334000_3, rfl, HA, HK3, HO_326001, BK325, HI320, HI333, HB⟩ := hrel
          cases gk with
          | zero => exact absurd HA.out (by simp [nunciolaw11_TableApart.l1])
          | succ k3 =>
           have H := HA.out
           clear HA
           simp only [nunciolaw11_TableApart.l1] at H
           by_cases c47 : x11_3 < (l2.length : Int)
           ·
            rw [if_pos c47] at H
            have c47b0 : decide (x11_3 < (l2.length : Int)) = true := decide_eq_true c47
            clear c47
            by_cases c48 : 0 ≤ x11_3
            ·
             rw [if_pos c48] at H
             have c48b0 : decide (0 ≤ x11_3) = true := decide_eq_true c48
             clear c48
             replace H := Option.bind_eq_some_iff.mp H
             obtain ⟨⟨t337, t338, t341⟩, A490, H⟩ := H
             replace H : (nunciolaw11_TableApart.l1 k3 l2 (wrap64 (x11_3 + 1)) x321000_2 x326000_2 x326001_2 t341) = some r := H
             have A49 := Aside0.mk A490
             clear A490
             have H' := Aside0.mk H
             clear H
             try go_wp2
             have n0_ := Aside0.mk (Kd.R_drew HO_326001.out)
             have n1_ := Aside0.mk (blk_drew BK325.out)
             have n2_ := Aside0.mk (IsS57.drew HI320.out)
             have n3_ := Aside0.mk (IsS57.drew HI333.out)
             have n4_ := Aside0.mk (below_drew1 HB.out)
             clear HO_326001
             clear BK325
             clear HI320
             clear HI333
             clear HB
             have HO_326001 := n0_
             have BK325 := n1_
             have HI320 := n2_
             have HI333 := n3_
             have HB := n4_
             clear n0_ n1_ n2_ n3_ n4_
             have p336 : 0 ≤ (x11_3 : Int) := of_decide_eq_true (by first | (with_reducible assumption) | assumption)
             have q336 : x11_3 < (l2.length : Int) := of_decide_eq_true (by first | (with_reducible assumption) | assumption)
             obtain ⟨ad336, e336, hx336_0, hx336_1, hx336_2⟩ := at_T34 HR2.out x11_3 p336 q336
             have hw336_2 := hx336_2
             have hw336_1 := hx336_1
             have hw336_0 := hx336_0
             cases e336
             replace hx336_0 := (HB.out.cell (World.block_lt_of_cell? w _ hx336_0)).trans hx336_0
             replace hx336_1 := (HB.out.cell (World.block_lt_of_cell? w _ hx336_1)).trans hx336_1
             replace hx336_2 := (HB.out.cell (World.block_lt_of_cell? w _ hx336_2)).trans hx336_2
             replace p336 := eq_true p336
             replace q336 := eq_true q336
             refine start_ (n := 7) (S := fun w' => w'.cell? ⟨gb325, 0, none⟩ = some (.int .i64 x326000_2) ∧ w'.cell? ⟨gb325, 1, none⟩ = some (.slice Ao45 x326001_2.length co45) ∧ w'.cell? (ad336.add ((x11_3).toNat * 3)) = some (.string ((rd_T34 l2 x11_3).f0)) ∧ w'.cell? ⟨(ad336.add ((x11_3).toNat * 3)).block, (ad336.add ((x11_3).toNat * 3)).off + 1, none⟩ = some (.string ((rd_T34 l2 x11_3).f1)) ∧ w'.cell? ⟨(ad336.add ((x11_3).toNat * 3)).block, (ad336.add ((x11_3).toNat * 3)).off + 2, none⟩ = some (.int .i64 ((rd_T34 l2 x11_3).f2))) (ds := []) #[false, false, false, false, false, false, false] (by kernel_rfl) rfl rfl ⟨(blk_cell BK325.out 0).trans rfl, (blk_cell BK325.out 1).trans rfl, ((HB.out.cell (World.block_lt_of_cell? w _ hw336_0)).trans hw336_0), ((HB.out.cell (World.block_lt_of_cell? w _ hw336_1)).trans hw336_1), ((HB.out.cell (World.block_lt_of_cell? w _ hw336_2)).trans hw336_2)⟩ (fun hHeld => ?_)
             generalize wr.drew = w50 at HO_326001 BK325 HI320 HI333 HB hx336_0 hx336_1 hx336_2 hHeld ⊢
             refine pure_ (i := 0) (N := some 67) (v := ?_) (a' := ?_) #[true, false, false, false, false, false, false] rfl rfl (by kernel_rfl) (fun _ _ _ h => h) (Or.inl ⟨by rfl, ?_⟩) ?_ ?_
             rotate_left
             ·
              intro w'
              go_simp
              with_reducible rfl
             rotate_left
             ·
              simp only [Act.put, List.setIfInBounds_toArray, List.set_cons_zero, List.set_cons_succ, i64_w, i32_w]
              rfl
             refine pure_ (i := 2) (N := some 69) (v := ?_) (a' := ?_) #[true, false, true, false, false, false, false] rfl rfl (by kernel_rfl) (fun _ _ _ h => h) (Or.inl ⟨by rfl, ?_⟩) ?_ ?_
             rotate_left
             ·
              intro w'
              go_simp
              with_reducible rfl
             rotate_left
             ·
              simp only [Act.put, List.setIfInBounds_toArray, List.set_cons_zero, List.set_cons_succ, i64_w, i32_w]
              rfl
             refine pure_ (i := 3) (N := some 70) (v := ?_) (a' := ?_) #[true, false, true, true, false, false, false] rfl rfl (by kernel_rfl) (fun _ _ _ h => h) (Or.inl ⟨by rfl, ?_⟩) ?_ ?_
             rotate_left
             ·
              intro w'
              go_simp
              with_reducible rfl
             rotate_left
             ·
              simp only [Act.put, List.setIfInBounds_toArray, List.set_cons_zero, List.set_cons_succ, i64_w, i32_w]
              rfl
             refine pure_ (i := 4) (N := some 71) (v := ?_) (a' := ?_) #[true, false, true, true, true, false, false] rfl rfl (by kernel_rfl) (fun _ _ _ h => h) (Or.inl ⟨by rfl, ?_⟩) ?_ ?_
             rotate_left
             ·
              intro w'
              go_simp
              with_reducible rfl
             rotate_left
             ·
              simp only [Act.put, List.setIfInBounds_toArray, List.set_cons_zero, List.set_cons_succ, i64_w, i32_w]
              rfl
             refine take_ (i := 1) (N := some 68) (v := ?_) (a' := ?_) #[true, true, true, true, true, false, false] rfl rfl (by kernel_rfl) (fun _ _ _ h => h) (Or.inl ⟨by rfl, ?_⟩) hHeld ?_ ?_
             rotate_left
             ·
              rintro w' ⟨s0, s1, s2, s3, s4⟩
              go_simp
              with_reducible rfl
             rotate_left
             ·
              simp only [Act.put, List.setIfInBounds_toArray, List.set_cons_zero, List.set_cons_succ, i64_w, i32_w]
              rfl
             refine take_ (i := 5) (N := some 72) (v := ?_) (a' := ?_) #[true, true, true, true, true, true, false] rfl rfl (by kernel_rfl) (fun _ _ _ h => h) (Or.inl ⟨by rfl, ?_⟩) hHeld ?_ ?_
             rotate_left
             ·
              rintro w' ⟨s0, s1, s2, s3, s4⟩
              go_simp
              with_reducible rfl
             rotate_left
             ·
              simp only [Act.put, List.setIfInBounds_toArray, List.set_cons_zero, List.set_cons_succ, i64_w, i32_w]
              rfl
             refine one_ (i := 6) (N := some 73) #[true, true, true, true, true, true, true] rfl rfl (by kernel_rfl) (by decide) (fun K hK => ?_)
             refine goes_ Tryd.func13 (by kernel_rfl) rfl #[.pointer (some ⟨g333, 0, none⟩), .agg #[.int .i64 x326000_2, .slice Ao45 x326001_2.length co45], .agg #[.string ((rd_T34 l2 x11_3).f0), .string ((rd_T34 l2 x11_3).f1), .int .i64 ((rd_T34 l2 x11_3).f2)]] (by rfl) rfl rfl (by (try simp only [List.map_toArray, List.map_cons, List.map_nil]); first | done | rfl | (simp only [List.length_drop, List.length_take]; rfl)) ?_
             with_reducible refine (nunciolaw11_play.calls k3 g333 x334000_3 x326000_2 _ _ x326001_2 ((rd_T34 l2 x11_3).f0) ((rd_T34 l2 x11_3).f1) ((rd_T34 l2 x11_3).f2) t337 t338 t341 w _ ?side1 ?side2 ?side3 ?side4 A49.out).mono ?_
             (case side1 => repeat (first | (with_reducible first | exact HI333.out | apply IsS57.alloc | apply IsS57.drewN | apply IsS57.drew | refine IsS57.farT ?_ (by repeat (first | exact TyOf.mk BK325.out | apply TyOf.alloc | apply TyOf.drewN | apply TyOf.drew | apply TyOf.set)) (by decide) _) | exact HI333.out))
             (case side2 => repeat (first | (with_reducible first | exact HB.out | apply below_alloc | apply pw_below_drewN | apply below_drew1 | refine below_set ?_ (IsS57.ge HI320.out) | refine below_set ?_ (IsS57.ge HI333.out) | refine below_set ?_ GE325.out) | exact HB.out))
             (case side3 => exact Kd.C_foot_own (IsS57.apart (show IsS57 w _ g333 x334000_3 from by repeat (first | (with_reducible first | exact HI333.out | apply IsS57.alloc | apply IsS57.drewN | apply IsS57.drew | refine IsS57.farT ?_ (by repeat (first | exact TyOf.mk BK325.out | apply TyOf.alloc | apply TyOf.drewN | apply TyOf.drew | apply TyOf.set)) (by decide) _) | exact HI333.out)) (by (with_reducible repeat (first | apply Kd.R_alloc | apply Kd.R_drewN | apply Kd.R_drew)); exact HO_326001.out) (by decide)) (fun _ h_ => h_.2))
             (case side4 => exact (Kd.R_reads' HO_326001.out).2.1)
             rintro e w51 ⟨v339, rfl, ho0, hi, hb, hk⟩
             refine ⟨_, rfl, ?_⟩
             have n0_ := Aside0.mk (Kd.R_mono (Kd.R_told (Kd.R_oldK (IsS57.apart (show IsS57 w _ g333 x334000_3 from by repeat (first | (with_reducible first | exact HI333.out | apply IsS57.alloc | apply IsS57.drewN | apply IsS57.drew | refine IsS57.farT ?_ (by repeat (first | exact TyOf.mk BK325.out | apply TyOf.alloc | apply TyOf.drewN | apply TyOf.drew | apply TyOf.set)) (by decide) _) | exact HI333.out)) (by (with_reducible repeat (first | apply Kd.R_alloc | apply Kd.R_drewN | apply Kd.R_drew)); exact HO_326001.out) (by decide)) hk) (Kd.R_base ho0)) (fun _ h_ => h_.1))
             have n1_ := Aside0.mk (KeepBut.blk hk (g' := gb325) (o := .cells #[.int .i64 x326000_2, .slice Ao45 x326001_2.length co45] 29 (0, 0)) (by (with_reducible repeat (first | refine blk_drewN ?_ _ | refine blk_drew ?_ | refine blk_alloc ?_ _)); exact BK325.out) NB325_333.out (by simp))
             have n2_ := Aside0.mk (IsS57.other (show IsS57 w _ g320 x321000_2 from by repeat (first | (with_reducible first | exact HI320.out | apply IsS57.alloc | apply IsS57.drewN | apply IsS57.drew | refine IsS57.farT ?_ (by repeat (first | exact TyOf.mk BK325.out | apply TyOf.alloc | apply TyOf.drewN | apply TyOf.drew | apply TyOf.set)) (by decide) _) | exact HI320.out)) (show IsS57 w _ g333 x334000_3 from by repeat (first | (with_reducible first | exact HI333.out | apply IsS57.alloc | apply IsS57.drewN | apply IsS57.drew | refine IsS57.farT ?_ (by repeat (first | exact TyOf.mk BK325.out | apply TyOf.alloc | apply TyOf.drewN | apply TyOf.drew | apply TyOf.set)) (by decide) _) | exact HI333.out)) hk NB320_333.out)
             have n3_ := Aside0.mk (Kd.R_lower (Kd.R_new' ho0 (Kd.R_lt (by (with_reducible repeat (first | apply Kd.R_alloc | apply Kd.R_drewN | apply Kd.R_drew)); exact HO_326001.out))) (below_size (by repeat (first | (with_reducible first | exact HB.out | apply below_alloc | apply pw_below_drewN | apply below_drew1 | refine below_set ?_ (IsS57.ge HI320.out) | refine below_set ?_ (IsS57.ge HI333.out) | refine below_set ?_ GE325.out) | exact HB.out))))
             have n4_ := Aside0.mk (hb)
             have n5_ := Aside0.mk (hi)
             clear HO_326001
             clear BK325
             clear HI320
             clear HB
             clear HI333
             have HO_326001 := n0_
             have BK325 := n1_
             have HI320 := n2_
             have HO340 := n3_
             have HB := n4_
             have HI333 := n5_
             clear n0_ n1_ n2_ n3_ n4_ n5_
             (try clear hb)
             (try clear hb2)
             (try clear hk)
             (try clear hi)
             (try clear ho0)
             refine hK.out _ _ ⟨(blk_cell BK325.out 0).trans rfl, (blk_cell BK325.out 1).trans rfl, ((HB.out.cell (World.block_lt_of_cell? w _ hw336_0)).trans hw336_0), ((HB.out.cell (World.block_lt_of_cell? w _ hw336_1)).trans hw336_1), ((HB.out.cell (World.block_lt_of_cell? w _ hw336_2)).trans hw336_2)⟩ (fun hHeld => ?_)
             clear hK K
             refine norm_ (a' := ?_) ?_ ?_
             rotate_left
             ·
              show Act.put _ (some 73) _ = _
              simp only [Act.put, List.setIfInBounds_toArray, List.set_cons_zero, List.set_cons_succ, i64_w, i32_w]
              rfl
             refine done_ (by kernel_rfl) ?_
             try go_wp2
             go_roundg k3
             case measure => have := HJ5.out; have := HK2.out; have := HK3.out; omega
             case rel => exact ⟨(wrap64 (x11_3 + 1)), (t341), (by first | rfl | (simp; done) | (simp [*]; done)), H', ⟨by have := HJ5.out; have := HK2.out; have := HK3.out; omega⟩, ⟨by (with_reducible repeat (first | apply Kd.R_alloc | apply Kd.R_drewN | apply Kd.R_drew)); exact Kd.R_mono HO_326001.out (fun _ hk => trivial)⟩, ⟨by (with_reducible repeat (first | refine blk_drewN ?_ _ | refine blk_drew ?_ | refine blk_alloc ?_ _)); exact BK325.out⟩, ⟨by repeat (first | (with_reducible first | exact HI320.out | apply IsS57.alloc | apply IsS57.drewN | apply IsS57.drew | refine IsS57.farT ?_ (by repeat (first | exact TyOf.mk BK325.out | apply TyOf.alloc | apply TyOf.drewN | apply TyOf.drew | apply TyOf.set)) (by decide) _) | exact HI320.out)⟩, ⟨by repeat (first | (with_reducible first | exact HI333.out | apply IsS57.alloc | apply IsS57.drewN | apply IsS57.drew | refine IsS57.farT ?_ (by repeat (first | exact TyOf.mk BK325.out | apply TyOf.alloc | apply TyOf.drewN | apply TyOf.drew | apply TyOf.set)) (by decide) _) | exact HI333.out)⟩, ⟨by repeat (first | (with_reducible first | exact HB.out | apply below_alloc | apply pw_below_drewN | apply below_drew1 | refine below_set ?_ (IsS57.ge HI320.out) | refine below_set ?_ (IsS57.ge HI333.out) | refine below_set ?_ GE325.out) | exact HB.out)⟩⟩
            ·
             rw [if_neg c48] at H
             exact absurd H (by simp)
           ·
            rw [if_neg c47] at H
            have c47b0 : decide (x11_3 < (l2.length : Int)) = false := decide_eq_false c47
            clear c47
            replace H := Option.bind_eq_some_iff.mp H
            obtain ⟨⟨t342, t343⟩, A520, H⟩ := H
            replace H : (if t342 = true then ((table_Table_Copy.f t343).bind fun t344 => (nunciolaw11_TableApart.l2 k3 l2 0 t343 x326000_2 x326001_2 t344 x326000_2 x326001_2)) else (some false)) = some r := H
            have A52 := Aside0.mk A520
            clear A520
            by_cases c53 : t342 = true
            ·
             subst c53
             have H1 : ((table_Table_Copy.f t343).bind fun t344 => (nunciolaw11_TableApart.l2 k3 l2 0 t343 x326000_2 x326001_2 t344 x326000_2 x326001_2)) = some r := by rw [if_pos rfl] at H; exact H
             clear H
             have H := H1
             clear H1
             replace H := Option.bind_eq_some_iff.mp H
             obtain ⟨t344, A540, H⟩ := H
             replace H : (nunciolaw11_TableApart.l2 k3 l2 0 t343 x326000_2 x326001_2 t344 x326000_2 x326001_2) = some r := H
             have A54 := Aside0.mk A540
             clear A540
             have H' := Aside0.mk H
             clear H
             have hnb55 := NB325_320.out
             have hnc55 := NB320_325.out
             have hnb56 := NB325_333.out
             have hnc56 := NB333_325.out
             have hcz57_0 : wr.cell? ⟨gb325, 0, none⟩ = some (.int .i64 x326000_2) := (blk_cell BK325.out 0).trans rfl
             have hcz57_1 : wr.cell? ⟨gb325, 1, none⟩ = some (.slice Ao45 x326001_2.length co45) := (blk_cell BK325.out 1).trans rfl
             have hfz57_0 := blk_frozen BK325.out 0
             have hfz57_1 := blk_frozen BK325.out 1
             go_wp2_with (first | ((with_reducible refine gate_callee (f := 12) rfl ?_); refine goesL_ (some 76) rfl rfl Tryd.func12 (by kernel_rfl) rfl #[.pointer (some ⟨g320, 0, none⟩), .agg #[.int .i64 x326000_2, .slice Ao45 x326001_2.length co45]] rfl (by (try simp only [List.map_toArray, List.map_cons, List.map_nil]); first | done | rfl | (simp only [List.length_drop, List.length_take]; rfl)) ?_; (with_reducible refine (nunciolaw11_same.calls k3 g320 x321000_2 x326000_2 _ _ x326001_2 true t343 w _ ?side1 ?side2 ?side3 ?side4 A52.out).mono ?_); (case side1 => repeat (first | (with_reducible first | exact HI320.out | apply IsS57.alloc | apply IsS57.drewN | apply IsS57.drew | refine IsS57.farT ?_ (by repeat (first | exact TyOf.mk BK325.out | apply TyOf.alloc | apply TyOf.drewN | apply TyOf.drew | apply TyOf.set)) (by decide) _) | exact HI320.out)); (case side2 => repeat (first | (with_reducible first | exact HB.out | apply below_alloc | apply pw_below_drewN | apply below_drew1 | refine below_set ?_ (IsS57.ge HI320.out) | refine below_set ?_ (IsS57.ge HI333.out) | refine below_set ?_ GE325.out) | exact HB.out)); (case side3 => exact Kd.C_foot_own (IsS57.apart (show IsS57 w _ g320 x321000_2 from by repeat (first | (with_reducible first | exact HI320.out | apply IsS57.alloc | apply IsS57.drewN | apply IsS57.drew | refine IsS57.farT ?_ (by repeat (first | exact TyOf.mk BK325.out | apply TyOf.alloc | apply TyOf.drewN | apply TyOf.drew | apply TyOf.set)) (by decide) _) | exact HI320.out)) (by (with_reducible repeat (first | apply Kd.R_alloc | apply Kd.R_drewN | apply Kd.R_drew)); exact HO_326001.out) (by decide)) (fun _ h_ => h_.2)); (case side4 => exact (Kd.R_reads' HO_326001.out).2.1); rintro e w58 ⟨rfl, hi, hb, hk⟩; refine ⟨_, rfl, ?_⟩; have n0_ := Aside0.mk (Kd.R_mono (Kd.R_keep (IsS57.apart (show IsS57 w _ g320 x321000_2 from by repeat (first | (with_reducible first | exact HI320.out | apply IsS57.alloc | apply IsS57.drewN | apply IsS57.drew | refine IsS57.farT ?_ (by repeat (first | exact TyOf.mk BK325.out | apply TyOf.alloc | apply TyOf.drewN | apply TyOf.drew | apply TyOf.set)) (by decide) _) | exact HI320.out)) (by (with_reducible repeat (first | apply Kd.R_alloc | apply Kd.R_drewN | apply Kd.R_drew)); exact HO_326001.out) (by decide)) hk (fun _ h => h.2)) (fun _ h => h.1)); have n1_ := Aside0.mk (KeepBut.blk hk (g' := gb325) (o := .cells #[.int .i64 x326000_2, .slice Ao45 x326001_2.length co45] 29 (0, 0)) (by (with_reducible repeat (first | refine blk_drewN ?_ _ | refine blk_drew ?_ | refine blk_alloc ?_ _)); exact BK325.out) NB325_320.out (by simp)); have n2_ := Aside0.mk (IsS57.other (show IsS57 w _ g333 x334000_3 from by repeat (first | (with_reducible first | exact HI333.out | apply IsS57.alloc | apply IsS57.drewN | apply IsS57.drew | refine IsS57.farT ?_ (by repeat (first | exact TyOf.mk BK325.out | apply TyOf.alloc | apply TyOf.drewN | apply TyOf.drew | apply TyOf.set)) (by decide) _) | exact HI333.out)) (show IsS57 w _ g320 x321000_2 from by repeat (first | (with_reducible first | exact HI320.out | apply IsS57.alloc | apply IsS57.drewN | apply IsS57.drew | refine IsS57.farT ?_ (by repeat (first | exact TyOf.mk BK325.out | apply TyOf.alloc | apply TyOf.drewN | apply TyOf.drew | apply TyOf.set)) (by decide) _) | exact HI320.out)) hk NB333_320.out); have n3_ := Aside0.mk (hb); have n4_ := Aside0.mk (hi); clear HO_326001; clear BK325; clear HI333; clear HB; clear HI320; have HO_326001 := n0_; have BK325 := n1_; have HI333 := n2_; have HB := n3_; have HI320 := n4_; clear n0_ n1_ n2_ n3_ n4_; (try clear hb); (try clear hb2); (try clear hk); (try clear hi)) | ((with_reducible refine gate_callee (f := 24) rfl ?_); refine goesL_ (some 79) rfl rfl Tryd.func24 (by kernel_rfl) rfl #[.pointer (some ⟨g320, 0, none⟩)] rfl (by (try simp only [List.map_toArray, List.map_cons, List.map_nil]); first | done | rfl | (simp only [List.length_drop, List.length_take]; rfl)) ?_; (with_reducible refine (table_Table_Copy.calls (w1 := w) g320 t343 t344 _ _ ?side1 (Below.refl _ _) A54.out).mono ?_); (case side1 => repeat (first | (with_reducible first | exact HI320.out | apply IsS57.alloc | apply IsS57.drewN | apply IsS57.drew | refine IsS57.farT ?_ (by repeat (first | exact TyOf.mk BK325.out | apply TyOf.alloc | apply TyOf.drewN | apply TyOf.drew | apply TyOf.set)) (by decide) _) | exact HI320.out)); rintro e w59 ⟨g345, rfl, hi, hb, hb2⟩; refine ⟨_, rfl, ?_⟩; have n0_ := Aside0.mk (Kd.R_below (by (with_reducible repeat (first | apply Kd.R_alloc | apply Kd.R_drewN | apply Kd.R_drew)); exact HO_326001.out) hb2); have n1_ := Aside0.mk (blk_below (g := gb325) (o := .cells #[.int .i64 x326000_2, .slice Ao45 x326001_2.length co45] 29 (0, 0)) (by (with_reducible repeat (first | refine blk_drewN ?_ _ | refine blk_drew ?_ | refine blk_alloc ?_ _)); exact BK325.out) hb2); have n2_ := Aside0.mk (IsS57.below (by repeat (first | (with_reducible first | exact HI320.out | apply IsS57.alloc | apply IsS57.drewN | apply IsS57.drew | refine IsS57.farT ?_ (by repeat (first | exact TyOf.mk BK325.out | apply TyOf.alloc | apply TyOf.drewN | apply TyOf.drew | apply TyOf.set)) (by decide) _) | exact HI320.out)) hb2); have n3_ := Aside0.mk (IsS57.below (by repeat (first | (with_reducible first | exact HI333.out | apply IsS57.alloc | apply IsS57.drewN | apply IsS57.drew | refine IsS57.farT ?_ (by repeat (first | exact TyOf.mk BK325.out | apply TyOf.alloc | apply TyOf.drewN | apply TyOf.drew | apply TyOf.set)) (by decide) _) | exact HI333.out)) hb2); have n4_ := Aside0.mk (below_step (by repeat (first | (with_reducible first | exact HB.out | apply below_alloc | apply pw_below_drewN | apply below_drew1 | refine below_set ?_ (IsS57.ge HI320.out) | refine below_set ?_ (IsS57.ge HI333.out) | refine below_set ?_ GE325.out) | exact HB.out)) hb2); have n5_ := Aside0.mk ((show IsS57 w w59 g345 t344 from IsS57.rebase hi (below_size (by repeat (first | (with_reducible first | exact HB.out | apply below_alloc | apply pw_below_drewN | apply below_drew1 | refine below_set ?_ (IsS57.ge HI320.out) | refine below_set ?_ (IsS57.ge HI333.out) | refine below_set ?_ GE325.out) | exact HB.out))))); have n6_ := Aside0.mk ((Nat.ne_of_lt (Nat.lt_of_lt_of_le (IsS57.lt (show IsS57 w _ g320 t343 from by repeat (first | (with_reducible first | exact HI320.out | apply IsS57.alloc | apply IsS57.drewN | apply IsS57.drew | refine IsS57.farT ?_ (by repeat (first | exact TyOf.mk BK325.out | apply TyOf.alloc | apply TyOf.drewN | apply TyOf.drew | apply TyOf.set)) (by decide) _) | exact HI320.out))) (IsS57.ge hi)) : g320 ≠ g345)); have n7_ := Aside0.mk ((Nat.ne_of_gt (Nat.lt_of_lt_of_le (IsS57.lt (show IsS57 w _ g320 t343 from by repeat (first | (with_reducible first | exact HI320.out | apply IsS57.alloc | apply IsS57.drewN | apply IsS57.drew | refine IsS57.farT ?_ (by repeat (first | exact TyOf.mk BK325.out | apply TyOf.alloc | apply TyOf.drewN | apply TyOf.drew | apply TyOf.set)) (by decide) _) | exact HI320.out))) (IsS57.ge hi)) : g345 ≠ g320)); have n8_ := Aside0.mk ((Nat.ne_of_lt (Nat.lt_of_lt_of_le (IsS57.lt (show IsS57 w _ g333 x334000_3 from by repeat (first | (with_reducible first | exact HI333.out | apply IsS57.alloc | apply IsS57.drewN | apply IsS57.drew | refine IsS57.farT ?_ (by repeat (first | exact TyOf.mk BK325.out | apply TyOf.alloc | apply TyOf.drewN | apply TyOf.drew | apply TyOf.set)) (by decide) _) | exact HI333.out))) (IsS57.ge hi)) : g333 ≠ g345)); have n9_ := Aside0.mk ((Nat.ne_of_gt (Nat.lt_of_lt_of_le (IsS57.lt (show IsS57 w _ g333 x334000_3 from by repeat (first | (with_reducible first | exact HI333.out | apply IsS57.alloc | apply IsS57.drewN | apply IsS57.drew | refine IsS57.farT ?_ (by repeat (first | exact TyOf.mk BK325.out | apply TyOf.alloc | apply TyOf.drewN | apply TyOf.drew | apply TyOf.set)) (by decide) _) | exact HI333.out))) (IsS57.ge hi)) : g345 ≠ g333)); have n10_ := Aside0.mk (IsS57.ne_blk hi (blk_below (g := gb325) (o := .cells #[.int .i64 x326000_2, .slice Ao45 x326001_2.length co45] 29 (0, 0)) (by (with_reducible repeat (first | refine blk_drewN ?_ _ | refine blk_drew ?_ | refine blk_alloc ?_ _)); exact BK325.out) hb2) (by decide)); have n11_ := Aside0.mk (Ne.symm (IsS57.ne_blk hi (blk_below (g := gb325) (o := .cells #[.int .i64 x326000_2, .slice Ao45 x326001_2.length co45] 29 (0, 0)) (by (with_reducible repeat (first | refine blk_drewN ?_ _ | refine blk_drew ?_ | refine blk_alloc ?_ _)); exact BK325.out) hb2) (by decide))); clear HO_326001; clear BK325; clear HI320; clear HI333; clear HB; have HO_326001 := n0_; have BK325 := n1_; have HI320 := n2_; have HI333 := n3_; have HB := n4_; have HI345 := n5_; have NB320_345 := n6_; have NB345_320 := n7_; have NB333_345 := n8_; have NB345_333 := n9_; have NB345_325 := n10_; have NB325_345 := n11_; clear n0_ n1_ n2_ n3_ n4_ n5_ n6_ n7_ n8_ n9_ n10_ n11_; (try clear hb); (try clear hb2); (try clear hk); (try clear hi); have hnb60 := NB325_345.out; have hnc60 := NB345_325.out; have hcz61_0 : w59.cell? ⟨gb325, 0, none⟩ = some (.int .i64 x326000_2) := (blk_cell BK325.out 0).trans rfl; have hcz61_1 : w59.cell? ⟨gb325, 1, none⟩ = some (.slice Ao45 x326001_2.length co45) := (blk_cell BK325.out 1).trans rfl; have hfz61_0 := blk_frozen BK325.out 0; have hfz61_1 := blk_frozen BK325.out 1) | ((with_reducible refine gate_dst (N := 12) rfl ?_); (try (refine gate_guard (by rfl) ?_; dsimp only)); refine box_event ?hg (N := 12) ?hd (cs := #[.int .i64 0, .slice none 0 0]) (t := 29) ?hr ?_; (case hd => rfl); (case hg => rfl); (case hr => first | (go_simp; done) | (go_simp; rfl)); intro gb346 hg w62 hbox hb; have n0_ := Aside0.mk (Kd.R_below (by (with_reducible repeat (first | apply Kd.R_alloc | apply Kd.R_drewN | apply Kd.R_drew)); exact HO_326001.out) hb); have n1_ := Aside0.mk (blk_below (g := gb325) (o := .cells #[.int .i64 x326000_2, .slice Ao45 x326001_2.length co45] 29 (0, 0)) (by (with_reducible repeat (first | refine blk_drewN ?_ _ | refine blk_drew ?_ | refine blk_alloc ?_ _)); exact BK325.out) hb); have n2_ := Aside0.mk (IsS57.below (by repeat (first | (with_reducible first | exact HI320.out | apply IsS57.alloc | apply IsS57.drewN | apply IsS57.drew | refine IsS57.farT ?_ (by repeat (first | exact TyOf.mk BK325.out | apply TyOf.alloc | apply TyOf.drewN | apply TyOf.drew | apply TyOf.set)) (by decide) _) | exact HI320.out)) hb); have n3_ := Aside0.mk (IsS57.below (by repeat (first | (with_reducible first | exact HI333.out | apply IsS57.alloc | apply IsS57.drewN | apply IsS57.drew | refine IsS57.farT ?_ (by repeat (first | exact TyOf.mk BK325.out | apply TyOf.alloc | apply TyOf.drewN | apply TyOf.drew | apply TyOf.set)) (by decide) _) | exact HI333.out)) hb); have n4_ := Aside0.mk (IsS57.below (by repeat (first | (with_reducible first | exact HI345.out | apply IsS57.alloc | apply IsS57.drewN | apply IsS57.drew | refine IsS57.farT ?_ (by repeat (first | exact TyOf.mk BK325.out | apply TyOf.alloc | apply TyOf.drewN | apply TyOf.drew | apply TyOf.set)) (by decide) _) | exact HI345.out)) hb); have n5_ := Aside0.mk (below_step (by repeat (first | (with_reducible first | exact HB.out | apply below_alloc | apply pw_below_drewN | apply below_drew1 | refine below_set ?_ (IsS57.ge HI320.out) | refine below_set ?_ (IsS57.ge HI333.out) | refine below_set ?_ (IsS57.ge HI345.out) | refine below_set ?_ GE325.out) | exact HB.out)) hb); have n6_ := Aside0.mk (hbox); have n7_ := Aside0.mk ((by rw [hg]; exact (below_size (by repeat (first | (with_reducible first | exact HB.out | apply below_alloc | apply pw_below_drewN | apply below_drew1 | refine below_set ?_ (IsS57.ge HI320.out) | refine below_set ?_ (IsS57.ge HI333.out) | refine below_set ?_ (IsS57.ge HI345.out) | refine below_set ?_ GE325.out) | exact HB.out))) : w.heap.size ≤ gb346)); have n8_ := Aside0.mk ((by rw [hg]; exact (below_size (by repeat (first | (with_reducible first | exact HB.out | apply below_alloc | apply pw_below_drewN | apply below_drew1 | refine below_set ?_ (IsS57.ge HI320.out) | refine below_set ?_ (IsS57.ge HI333.out) | refine below_set ?_ (IsS57.ge HI345.out) | refine below_set ?_ GE325.out) | exact HB.out))) : w.heap.size ≤ gb346)); have n9_ := Aside0.mk ((by rw [hg]; exact Nat.ne_of_lt (blk_lt (g := gb325) (o := .cells #[.int .i64 x326000_2, .slice Ao45 x326001_2.length co45] 29 (0, 0)) (by (with_reducible repeat (first | refine blk_drewN ?_ _ | refine blk_drew ?_ | refine blk_alloc ?_ _)); exact BK325.out)) : gb325 ≠ gb346)); have n10_ := Aside0.mk ((by rw [hg]; exact Nat.ne_of_gt (blk_lt (g := gb325) (o := .cells #[.int .i64 x326000_2, .slice Ao45 x326001_2.length co45] 29 (0, 0)) (by (with_reducible repeat (first | refine blk_drewN ?_ _ | refine blk_drew ?_ | refine blk_alloc ?_ _)); exact BK325.out)) : gb346 ≠ gb325)); have n11_ := Aside0.mk ((by rw [hg]; exact Nat.ne_of_lt (IsS57.lt (show IsS57 w _ g320 t343 from by repeat (first | (with_reducible first | exact HI320.out | apply IsS57.alloc | apply IsS57.drewN | apply IsS57.drew | refine IsS57.farT ?_ (by repeat (first | exact TyOf.mk BK325.out | apply TyOf.alloc | apply TyOf.drewN | apply TyOf.drew | apply TyOf.set)) (by decide) _) | exact HI320.out))) : g320 ≠ gb346)); have n12_ := Aside0.mk ((by rw [hg]; exact Nat.ne_of_gt (IsS57.lt (show IsS57 w _ g320 t343 from by repeat (first | (with_reducible first | exact HI320.out | apply IsS57.alloc | apply IsS57.drewN | apply IsS57.drew | refine IsS57.farT ?_ (by repeat (first | exact TyOf.mk BK325.out | apply TyOf.alloc | apply TyOf.drewN | apply TyOf.drew | apply TyOf.set)) (by decide) _) | exact HI320.out))) : gb346 ≠ g320)); have n13_ := Aside0.mk ((by rw [hg]; exact Nat.ne_of_lt (IsS57.lt (show IsS57 w _ g333 x334000_3 from by repeat (first | (with_reducible first | exact HI333.out | apply IsS57.alloc | apply IsS57.drewN | apply IsS57.drew | refine IsS57.farT ?_ (by repeat (first | exact TyOf.mk BK325.out | apply TyOf.alloc | apply TyOf.drewN | apply TyOf.drew | apply TyOf.set)) (by decide) _) | exact HI333.out))) : g333 ≠ gb346)); have n14_ := Aside0.mk ((by rw [hg]; exact Nat.ne_of_gt (IsS57.lt (show IsS57 w _ g333 x334000_3 from by repeat (first | (with_reducible first | exact HI333.out | apply IsS57.alloc | apply IsS57.drewN | apply IsS57.drew | refine IsS57.farT ?_ (by repeat (first | exact TyOf.mk BK325.out | apply TyOf.alloc | apply TyOf.drewN | apply TyOf.drew | apply TyOf.set)) (by decide) _) | exact HI333.out))) : gb346 ≠ g333)); have n15_ := Aside0.mk ((by rw [hg]; exact Nat.ne_of_lt (IsS57.lt (show IsS57 w _ g345 t344 from by repeat (first | (with_reducible first | exact HI345.out | apply IsS57.alloc | apply IsS57.drewN | apply IsS57.drew | refine IsS57.farT ?_ (by repeat (first | exact TyOf.mk BK325.out | apply TyOf.alloc | apply TyOf.drewN | apply TyOf.drew | apply TyOf.set)) (by decide) _) | exact HI345.out))) : g345 ≠ gb346)); have n16_ := Aside0.mk ((by rw [hg]; exact Nat.ne_of_gt (IsS57.lt (show IsS57 w _ g345 t344 from by repeat (first | (with_reducible first | exact HI345.out | apply IsS57.alloc | apply IsS57.drewN | apply IsS57.drew | refine IsS57.farT ?_ (by repeat (first | exact TyOf.mk BK325.out | apply TyOf.alloc | apply TyOf.drewN | apply TyOf.drew | apply TyOf.set)) (by decide) _) | exact HI345.out))) : gb346 ≠ g345)); clear HO_326001; clear BK325; clear HI320; clear HI333; clear HI345; clear HB; have HO_326001 := n0_; have BK325 := n1_; have HI320 := n2_; have HI333 := n3_; have HI345 := n4_; have HB := n5_; have BK346 := n6_; have GW346 := n7_; have GE346 := n8_; have NB325_346 := n9_; have NB346_325 := n10_; have NB320_346 := n11_; have NB346_320 := n12_; have NB333_346 := n13_; have NB346_333 := n14_; have NB345_346 := n15_; have NB346_345 := n16_; clear n0_ n1_ n2_ n3_ n4_ n5_ n6_ n7_ n8_ n9_ n10_ n11_ n12_ n13_ n14_ n15_ n16_; clear hb hbox hg; have hnb63 := NB346_325.out; have hnc63 := NB325_346.out; have hnb64 := NB346_320.out; have hnc64 := NB320_346.out; have hnb65 := NB346_333.out; have hnc65 := NB333_346.out; have hnb66 := NB346_345.out; have hnc66 := NB345_346.out; have hcz67_0 : w62.cell? ⟨gb346, 0, none⟩ = some (.int .i64 0) := (blk_cell BK346.out 0).trans rfl; have hcz67_1 : w62.cell? ⟨gb346, 1, none⟩ = some (.slice none 0 0) := (blk_cell BK346.out 1).trans rfl; have hfz67_0 := blk_frozen BK346.out 0; have hfz67_1 := blk_frozen BK346.out 1))
             go_loopg [13] k3 (fun kq v13 w' => ∃ (x13_4 : Int) (x321000_4 : TB) (x347000_4 : Int) (x347001_4 : List (S38)) (u347001 : Value), v13 = .int .i64 x13_4 ∧ Aside0 (nunciolaw11_TableApart.l2 kq l2 x13_4 x321000_4 x326000_2 x326001_2 t344 x347000_4 x347001_4 = some r) ∧ Aside0 (kq ≤ k3) ∧ Aside0 (Kd.R k38 38 w' w.heap.size (fun _ => True) (.slice Ao45 x326001_2.length co45) x326001_2) ∧ Aside0 (Kd.R k38 38 w' w.heap.size (fun _ => True) u347001 x347001_4) ∧ Aside0 (w'.heap[gb325]? = some (.cells #[.int .i64 x326000_2, (.slice Ao45 x326001_2.length co45)] 29 (0, 0))) ∧ Aside0 (w'.heap[gb346]? = some (.cells #[.int .i64 x347000_4, u347001] 29 (0, 0))) ∧ Aside0 (IsS57 w w' g320 x321000_4) ∧ Aside0 (IsS57 w w' g333 x334000_3) ∧ Aside0 (IsS57 w w' g345 t344) ∧ Aside0 (Below w.heap.size w w'))
             case atStart => exact ⟨(0), (t343), (x326000_2), (x326001_2), (.slice Ao45 x326001_2.length co45), (by first | rfl | (simp; done) | (simp [*]; done)), H', ⟨Nat.le_refl _⟩, ⟨by (with_reducible repeat (first | apply Kd.R_alloc | apply Kd.R_drewN | apply Kd.R_drew)); exact Kd.R_mono (Kd.R_far (p := ⟨gb346, 1, none⟩) (Kd.R_far (p := ⟨gb346, 0, none⟩) (Kd.R_types HO_326001.out BK346.out (by decide)) (fun _ hk => hk.2) (.int .i64 x326000_2)) (fun _ hk => hk.2) (.slice Ao45 x326001_2.length co45)) (fun _ hk => trivial)⟩, ⟨by (with_reducible repeat (first | apply Kd.R_alloc | apply Kd.R_drewN | apply Kd.R_drew)); exact Kd.R_mono (Kd.R_far (p := ⟨gb346, 1, none⟩) (Kd.R_far (p := ⟨gb346, 0, none⟩) (Kd.R_types HO_326001.out BK346.out (by decide)) (fun _ hk => hk.2) (.int .i64 x326000_2)) (fun _ hk => hk.2) (.slice Ao45 x326001_2.length co45)) (fun _ hk => trivial)⟩, ⟨by (with_reducible repeat (first | refine blk_drewN ?_ _ | refine blk_drew ?_ | refine blk_alloc ?_ _)); refine blk_far ?_ NB325_346.out _; (with_reducible repeat (first | refine blk_drewN ?_ _ | refine blk_drew ?_ | refine blk_alloc ?_ _)); refine blk_far ?_ NB325_346.out _; (with_reducible repeat (first | refine blk_drewN ?_ _ | refine blk_drew ?_ | refine blk_alloc ?_ _)); exact BK325.out⟩, ⟨by (with_reducible repeat (first | refine blk_drewN ?_ _ | refine blk_drew ?_ | refine blk_alloc ?_ _)); refine blk_put (cs := #[.int .i64 x326000_2, .slice none 0 0]) ?_ 1 _ rfl; (with_reducible repeat (first | refine blk_drewN ?_ _ | refine blk_drew ?_ | refine blk_alloc ?_ _)); refine blk_put (cs := #[.int .i64 0, .slice none 0 0]) ?_ 0 _ rfl; (with_reducible repeat (first | refine blk_drewN ?_ _ | refine blk_drew ?_ | refine blk_alloc ?_ _)); exact BK346.out⟩, ⟨by repeat (first | (with_reducible first | exact HI320.out | apply IsS57.alloc | apply IsS57.drewN | apply IsS57.drew | refine IsS57.farT ?_ (by repeat (first | exact TyOf.mk BK325.out | apply TyOf.alloc | apply TyOf.drewN | apply TyOf.drew | apply TyOf.set)) (by decide) _ | refine IsS57.farT ?_ (by repeat (first | exact TyOf.mk BK346.out | apply TyOf.alloc | apply TyOf.drewN | apply TyOf.drew | apply TyOf.set)) (by decide) _) | exact HI320.out)⟩, ⟨by repeat (first | (with_reducible first | exact HI333.out | apply IsS57.alloc | apply IsS57.drewN | apply IsS57.drew | refine IsS57.farT ?_ (by repeat (first | exact TyOf.mk BK325.out | apply TyOf.alloc | apply TyOf.drewN | apply TyOf.drew | apply TyOf.set)) (by decide) _ | refine IsS57.farT ?_ (by repeat (first | exact TyOf.mk BK346.out | apply TyOf.alloc | apply TyOf.drewN | apply TyOf.drew | apply TyOf.set)) (by decide) _) | exact HI333.out)⟩, ⟨by repeat (first | (with_reducible first | exact HI345.out | apply IsS57.alloc | apply IsS57.drewN | apply IsS57.drew | refine IsS57.farT ?_ (by repeat (first | exact TyOf.mk BK325.out | apply TyOf.alloc | apply TyOf.drewN | apply TyOf.drew | apply TyOf.set)) (by decide) _ | refine IsS57.farT ?_ (by repeat (first | exact TyOf.mk BK346.out | apply TyOf.alloc | apply TyOf.drewN | apply TyOf.drew | apply TyOf.set)) (by decide) _) | exact HI345.out)⟩, ⟨by repeat (first | (with_reducible first | exact HB.out | apply below_alloc | apply pw_below_drewN | apply below_drew1 | refine below_set ?_ (IsS57.ge HI320.out) | refine below_set ?_ (IsS57.ge HI333.out) | refine below_set ?_ (IsS57.ge HI345.out) | refine below_set ?_ GE325.out | refine below_set ?_ GE346.out) | exact HB.out)⟩⟩
             case round =>
              clear H'
              try clear c1
              try clear c2
              try clear p2
              try clear c3
              try clear p3
              try clear q3
              try clear hx3
              try clear c4
              try clear c5
              try clear c6
              try clear p6
              try clear c8
              try clear c9
              try clear c10
              try clear c11
              try clear c12
              try clear c12b0
              try clear c12b1
              try clear c13
              try clear c20
              try clear c24
              try clear c26
              try clear c29
              try clear c29b0
              try clear c30
              try clear c30b0
              try clear p32
              try clear q32
              try clear hx32
              try clear p33
              try clear q33
              try clear hx33
              try clear c40
              try clear c42
              try clear c43
              try clear c47
              try clear c47b0
              try clear c48
              try clear c48b0
              try clear c53
              try clear c55
              try clear c56
              try clear c60
              try clear c63
              try clear c64
              try clear p64
              try clear c65
              try clear c66
              try clear hcz27_0
              try clear hcz27_1
              try clear hcz44_0
              try clear hcz44_1
              try clear hcz57_0
              try clear hcz57_1
              try clear hcz61_0
              try clear hcz61_1
              try clear hcz67_0
              try clear hcz67_1
              try clear hfz27_0
              try clear hfz27_1
              try clear hfz44_0
              try clear hfz44_1
              try clear hfz57_0
              try clear hfz57_1
              try clear hfz61_0
              try clear hfz61_1
              try clear hfz67_0
              try clear hfz67_1
              try clear hx326_0
              try clear hx326_1
              try clear hx326_2
              try clear hx336_0
              try clear hx336_1
              try clear hx336_2
              try clear p2
              try clear p3
              try clear p32
              try clear p326
              try clear p336
              try clear p6
              try clear q3
              try clear q32
              try clear q326
              try clear q336
              obtain ⟨x13_4, x321000_4, x347000_4, x347001_4, u347001, rfl, HA, HK4, HO_326001, HO_347001, BK325, BK346, HI320, HI333, HI345, HB⟩ := hrel
              cases gk with
              | zero => exact absurd HA.out (by simp [nunciolaw11_TableApart.l2])
              | succ k4 =>
               have H := HA.out
               clear HA
               simp only [nunciolaw11_TableApart.l2] at H
               by_cases c68 : x13_4 < (l2.length : Int)
               ·
                rw [if_pos c68] at H
                have c68b0 : decide (x13_4 < (l2.length : Int)) = true := decide_eq_true c68
                clear c68
                by_cases c69 : 0 ≤ x13_4
                ·
                 rw [if_pos c69] at H
                 have c69b0 : decide (0 ≤ x13_4) = true := decide_eq_true c69
                 clear c69
                 replace H := Option.bind_eq_some_iff.mp H
                 obtain ⟨⟨t348, t349, t352⟩, A700, H⟩ := H
                 replace H : (nunciolaw11_TableApart.l2 k4 l2 (wrap64 (x13_4 + 1)) t352 x326000_2 x326001_2 t344 t348 t349) = some r := H
                 have A70 := Aside0.mk A700
                 clear A700
                 have H' := Aside0.mk H
                 clear H
                 try go_wp2
                 have n0_ := Aside0.mk (Kd.R_drew HO_326001.out)
                 have n1_ := Aside0.mk (Kd.R_drew HO_347001.out)
                 have n2_ := Aside0.mk (blk_drew BK325.out)
                 have n3_ := Aside0.mk (blk_drew BK346.out)
                 have n4_ := Aside0.mk (IsS57.drew HI320.out)
                 have n5_ := Aside0.mk (IsS57.drew HI333.out)
                 have n6_ := Aside0.mk (IsS57.drew HI345.out)
                 have n7_ := Aside0.mk (below_drew1 HB.out)
                 clear HO_326001
                 clear HO_347001
                 clear BK325
                 clear BK346
                 clear HI320
                 clear HI333
                 clear HI345
                 clear HB
                 have HO_326001 := n0_
                 have HO_347001 := n1_
                 have BK325 := n2_
                 have BK346 := n3_
                 have HI320 := n4_
                 have HI333 := n5_
                 have HI345 := n6_
                 have HB := n7_
                 clear n0_ n1_ n2_ n3_ n4_ n5_ n6_ n7_
                 have p347 : 0 ≤ (x13_4 : Int) := of_decide_eq_true (by first | (with_reducible assumption) | assumption)
                 have q347 : x13_4 < (l2.length : Int) := of_decide_eq_true (by first | (with_reducible assumption) | assumption)
                 obtain ⟨ad347, e347, hx347_0, hx347_1, hx347_2⟩ := at_T34 HR2.out x13_4 p347 q347
                 have hw347_2 := hx347_2
                 have hw347_1 := hx347_1
                 have hw347_0 := hx347_0
                 cases e347
                 replace hx347_0 := (HB.out.cell (World.block_lt_of_cell? w _ hx347_0)).trans hx347_0
                 replace hx347_1 := (HB.out.cell (World.block_lt_of_cell? w _ hx347_1)).trans hx347_1
                 replace hx347_2 := (HB.out.cell (World.block_lt_of_cell? w _ hx347_2)).trans hx347_2
                 replace p347 := eq_true p347
                 replace q347 := eq_true q347
                 obtain ⟨Ao72, co72, eo72⟩ := Kd.R_slice HO_347001.out
                 (first | subst eo72 | (injection eo72 with f1_ f2_ f3_; have f4_ := f1_.symm; have f5_ := f3_.symm; clear f1_ f2_ f3_; subst f4_; subst f5_))
                 refine start_ (n := 8) (S := fun w' => w'.cell? ⟨gb346, 0, none⟩ = some (.int .i64 x347000_4) ∧ w'.cell? ⟨gb346, 1, none⟩ = some (.slice Ao72 x347001_4.length co72) ∧ w'.cell? (ad347.add ((x13_4).toNat * 3)) = some (.string ((rd_T34 l2 x13_4).f0)) ∧ w'.cell? ⟨(ad347.add ((x13_4).toNat * 3)).block, (ad347.add ((x13_4).toNat * 3)).off + 1, none⟩ = some (.string ((rd_T34 l2 x13_4).f1)) ∧ w'.cell? ⟨(ad347.add ((x13_4).toNat * 3)).block, (ad347.add ((x13_4).toNat * 3)).off + 2, none⟩ = some (.int .i64 ((rd_T34 l2 x13_4).f2))) (ds := [7]) #[false, false, false, false, false, false, false, false] (by kernel_rfl) rfl rfl ⟨(blk_cell BK346.out 0).trans rfl, (blk_cell BK346.out 1).trans rfl, ((HB.out.cell (World.block_lt_of_cell? w _ hw347_0)).trans hw347_0), ((HB.out.cell (World.block_lt_of_cell? w _ hw347_1)).trans hw347_1), ((HB.out.cell (World.block_lt_of_cell? w _ hw347_2)).trans hw347_2)⟩ (fun hHeld => ?_); refine with_tabW nunciolaw11_TableApart.tab25 nunciolaw11_TableApart.bits25 (fun HT_ HW_ => ?_)
                 generalize wr.drew = w71 at HO_326001 HO_347001 BK325 BK346 HI320 HI333 HI345 HB hx347_0 hx347_1 hx347_2 hHeld ⊢
                 refine pure_ (i := 0) (N := some 87) (v := ?_) (a' := ?_) #[true, false, false, false, false, false, false, false] rfl rfl (any_of HT_.out (by kernel_rfl)) (fun _ _ _ h => h) (Or.inl ⟨by rfl, ?_⟩) ?_ ?_
                 rotate_left
                 ·
                  intro w'
                  go_simp
                  with_reducible rfl
                 rotate_left
                 ·
                  simp only [Act.put, List.setIfInBounds_toArray, List.set_cons_zero, List.set_cons_succ, i64_w, i32_w]
                  rfl
                 refine pure_ (i := 2) (N := some 89) (v := ?_) (a' := ?_) #[true, false, true, false, false, false, false, false] rfl rfl (any_of HT_.out (by kernel_rfl)) (fun _ _ _ h => h) (Or.inl ⟨by rfl, ?_⟩) ?_ ?_
                 rotate_left
                 ·
                  intro w'
                  go_simp
                  with_reducible rfl
                 rotate_left
                 ·
                  simp only [Act.put, List.setIfInBounds_toArray, List.set_cons_zero, List.set_cons_succ, i64_w, i32_w]
                  rfl
                 refine pure_ (i := 3) (N := some 90) (v := ?_) (a' := ?_) #[true, false, true, true, false, false, false, false] rfl rfl (any_of HT_.out (by kernel_rfl)) (fun _ _ _ h => h) (Or.inl ⟨by rfl, ?_⟩) ?_ ?_
                 rotate_left
                 ·
                  intro w'
                  go_simp
                  with_reducible rfl
                 rotate_left
                 ·
                  simp only [Act.put, List.setIfInBounds_toArray, List.set_cons_zero, List.set_cons_succ, i64_w, i32_w]
                  rfl
                 refine pure_ (i := 4) (N := some 91) (v := ?_) (a' := ?_) #[true, false, true, true, true, false, false, false] rfl rfl (any_of HT_.out (by kernel_rfl)) (fun _ _ _ h => h) (Or.inl ⟨by rfl, ?_⟩) ?_ ?_
                 rotate_left
                 ·
                  intro w'
                  go_simp
                  with_reducible rfl
                 rotate_left
                 ·
                  simp only [Act.put, List.setIfInBounds_toArray, List.set_cons_zero, List.set_cons_succ, i64_w, i32_w]
                  rfl
                 refine take_ (i := 1) (N := some 88) (v := ?_) (a' := ?_) #[true, true, true, true, true, false, false, false] rfl rfl (take_ofW HT_.out HW_.out (by kernel_rfl)) (fun _ _ _ h => h) (Or.inl ⟨by rfl, ?_⟩) hHeld ?_ ?_
                 rotate_left
                 ·
                  rintro w' ⟨s0, s1, s2, s3, s4⟩
                  go_simp
                  with_reducible rfl
                 rotate_left
                 ·
                  simp only [Act.put, List.setIfInBounds_toArray, List.set_cons_zero, List.set_cons_succ, i64_w, i32_w]
                  rfl
                 refine take_ (i := 5) (N := some 92) (v := ?_) (a' := ?_) #[true, true, true, true, true, true, false, false] rfl rfl (take_ofW HT_.out HW_.out (by kernel_rfl)) (fun _ _ _ h => h) (Or.inl ⟨by rfl, ?_⟩) hHeld ?_ ?_
                 rotate_left
                 ·
                  rintro w' ⟨s0, s1, s2, s3, s4⟩
                  go_simp
                  with_reducible rfl
                 rotate_left
                 ·
                  simp only [Act.put, List.setIfInBounds_toArray, List.set_cons_zero, List.set_cons_succ, i64_w, i32_w]
                  rfl
                 refine one_ (i := 6) (N := some 93) #[true, true, true, true, true, true, true, false] rfl rfl (one_of HT_.out (by kernel_rfl)) (by decide) (fun K hK => ?_)
                 refine goes_ Tryd.func13 (by kernel_rfl) rfl #[.pointer (some ⟨g320, 0, none⟩), .agg #[.int .i64 x347000_4, .slice Ao72 x347001_4.length co72], .agg #[.string ((rd_T34 l2 x13_4).f0), .string ((rd_T34 l2 x13_4).f1), .int .i64 ((rd_T34 l2 x13_4).f2)]] (by rfl) rfl rfl (by (try simp only [List.map_toArray, List.map_cons, List.map_nil]); first | done | rfl | (simp only [List.length_drop, List.length_take]; rfl)) ?_
                 with_reducible refine (nunciolaw11_play.calls k4 g320 x321000_4 x347000_4 _ _ x347001_4 ((rd_T34 l2 x13_4).f0) ((rd_T34 l2 x13_4).f1) ((rd_T34 l2 x13_4).f2) t348 t349 t352 w _ ?side1 ?side2 ?side3 ?side4 A70.out).mono ?_
                 (case side1 => repeat (first | (with_reducible first | exact HI320.out | apply IsS57.alloc | apply IsS57.drewN | apply IsS57.drew | refine IsS57.farT ?_ (by repeat (first | exact TyOf.mk BK325.out | apply TyOf.alloc | apply TyOf.drewN | apply TyOf.drew | apply TyOf.set)) (by decide) _ | refine IsS57.farT ?_ (by repeat (first | exact TyOf.mk BK346.out | apply TyOf.alloc | apply TyOf.drewN | apply TyOf.drew | apply TyOf.set)) (by decide) _) | exact HI320.out))
                 (case side2 => repeat (first | (with_reducible first | exact HB.out | apply below_alloc | apply pw_below_drewN | apply below_drew1 | refine below_set ?_ (IsS57.ge HI320.out) | refine below_set ?_ (IsS57.ge HI333.out) | refine below_set ?_ (IsS57.ge HI345.out) | refine below_set ?_ GE325.out | refine below_set ?_ GE346.out) | exact HB.out))
                 (case side3 => exact Kd.C_foot_own (IsS57.apart (show IsS57 w _ g320 x321000_4 from by repeat (first | (with_reducible first | exact HI320.out | apply IsS57.alloc | apply IsS57.drewN | apply IsS57.drew | refine IsS57.farT ?_ (by repeat (first | exact TyOf.mk BK325.out | apply TyOf.alloc | apply TyOf.drewN | apply TyOf.drew | apply TyOf.set)) (by decide) _ | refine IsS57.farT ?_ (by repeat (first | exact TyOf.mk BK346.out | apply TyOf.alloc | apply TyOf.drewN | apply TyOf.drew | apply TyOf.set)) (by decide) _) | exact HI320.out)) (by (with_reducible repeat (first | apply Kd.R_alloc | apply Kd.R_drewN | apply Kd.R_drew)); exact HO_347001.out) (by decide)) (fun _ h_ => h_.2))
                 (case side4 => exact (Kd.R_reads' HO_347001.out).2.1)
                 rintro e w73 ⟨v350, rfl, ho0, hi, hb, hk⟩
                 refine ⟨_, rfl, ?_⟩
                 have n0_ := Aside0.mk (Kd.R_mono (Kd.R_told (Kd.R_oldK (IsS57.apart (show IsS57 w _ g320 x321000_4 from by repeat (first | (with_reducible first | exact HI320.out | apply IsS57.alloc | apply IsS57.drewN | apply IsS57.drew | refine IsS57.farT ?_ (by repeat (first | exact TyOf.mk BK325.out | apply TyOf.alloc | apply TyOf.drewN | apply TyOf.drew | apply TyOf.set)) (by decide) _ | refine IsS57.farT ?_ (by repeat (first | exact TyOf.mk BK346.out | apply TyOf.alloc | apply TyOf.drewN | apply TyOf.drew | apply TyOf.set)) (by decide) _) | exact HI320.out)) (by (with_reducible repeat (first | apply Kd.R_alloc | apply Kd.R_drewN | apply Kd.R_drew)); exact HO_326001.out) (by decide)) hk) (Kd.R_base ho0)) (fun _ h_ => h_.1))
                 have n1_ := Aside0.mk (Kd.R_mono (Kd.R_told (Kd.R_oldK (IsS57.apart (show IsS57 w _ g320 x321000_4 from by repeat (first | (with_reducible first | exact HI320.out | apply IsS57.alloc | apply IsS57.drewN | apply IsS57.drew | refine IsS57.farT ?_ (by repeat (first | exact TyOf.mk BK325.out | apply TyOf.alloc | apply TyOf.drewN | apply TyOf.drew | apply TyOf.set)) (by decide) _ | refine IsS57.farT ?_ (by repeat (first | exact TyOf.mk BK346.out | apply TyOf.alloc | apply TyOf.drewN | apply TyOf.drew | apply TyOf.set)) (by decide) _) | exact HI320.out)) (by (with_reducible repeat (first | apply Kd.R_alloc | apply Kd.R_drewN | apply Kd.R_drew)); exact HO_347001.out) (by decide)) hk) (Kd.R_base ho0)) (fun _ h_ => h_.1))
                 have n2_ := Aside0.mk (KeepBut.blk hk (g' := gb325) (o := .cells #[.int .i64 x326000_2, .slice Ao45 x326001_2.length co45] 29 (0, 0)) (by (with_reducible repeat (first | refine blk_drewN ?_ _ | refine blk_drew ?_ | refine blk_alloc ?_ _)); exact BK325.out) NB325_320.out (by simp))
                 have n3_ := Aside0.mk (KeepBut.blk hk (g' := gb346) (o := .cells #[.int .i64 x347000_4, .slice Ao72 x347001_4.length co72] 29 (0, 0)) (by (with_reducible repeat (first | refine blk_drewN ?_ _ | refine blk_drew ?_ | refine blk_alloc ?_ _)); exact BK346.out) NB346_320.out (by simp))
                 have n4_ := Aside0.mk (IsS57.other (show IsS57 w _ g333 x334000_3 from by repeat (first | (with_reducible first | exact HI333.out | apply IsS57.alloc | apply IsS57.drewN | apply IsS57.drew | refine IsS57.farT ?_ (by repeat (first | exact TyOf.mk BK325.out | apply TyOf.alloc | apply TyOf.drewN | apply TyOf.drew | apply TyOf.set)) (by decide) _ | refine IsS57.farT ?_ (by repeat (first | exact TyOf.mk BK346.out | apply TyOf.alloc | apply TyOf.drewN | apply TyOf.drew | apply TyOf.set)) (by decide) _) | exact HI333.out)) (show IsS57 w _ g320 x321000_4 from by repeat (first | (with_reducible first | exact HI320.out | apply IsS57.alloc | apply IsS57.drewN | apply IsS57.drew | refine IsS57.farT ?_ (by repeat (first | exact TyOf.mk BK325.out | apply TyOf.alloc | apply TyOf.drewN | apply TyOf.drew | apply TyOf.set)) (by decide) _ | refine IsS57.farT ?_ (by repeat (first | exact TyOf.mk BK346.out | apply TyOf.alloc | apply TyOf.drewN | apply TyOf.drew | apply TyOf.set)) (by decide) _) | exact HI320.out)) hk NB333_320.out)
                 have n5_ := Aside0.mk (IsS57.other (show IsS57 w _ g345 t344 from by repeat (first | (with_reducible first | exact HI345.out | apply IsS57.alloc | apply IsS57.drewN | apply IsS57.drew | refine IsS57.farT ?_ (by repeat (first | exact TyOf.mk BK325.out | apply TyOf.alloc | apply TyOf.drewN | apply TyOf.drew | apply TyOf.set)) (by decide) _ | refine IsS57.farT ?_ (by repeat (first | exact TyOf.mk BK346.out | apply TyOf.alloc | apply TyOf.drewN | apply TyOf.drew | apply TyOf.set)) (by decide) _) | exact HI345.out)) (show IsS57 w _ g320 x321000_4 from by repeat (first | (with_reducible first | exact HI320.out | apply IsS57.alloc | apply IsS57.drewN | apply IsS57.drew | refine IsS57.farT ?_ (by repeat (first | exact TyOf.mk BK325.out | apply TyOf.alloc | apply TyOf.drewN | apply TyOf.drew | apply TyOf.set)) (by decide) _ | refine IsS57.farT ?_ (by repeat (first | exact TyOf.mk BK346.out | apply TyOf.alloc | apply TyOf.drewN | apply TyOf.drew | apply TyOf.set)) (by decide) _) | exact HI320.out)) hk NB345_320.out)
                 have n6_ := Aside0.mk (Kd.R_lower (Kd.R_new' (Kd.R_new' ho0 (Kd.R_lt (by (with_reducible repeat (first | apply Kd.R_alloc | apply Kd.R_drewN | apply Kd.R_drew)); exact HO_326001.out))) (Kd.R_lt (by (with_reducible repeat (first | apply Kd.R_alloc | apply Kd.R_drewN | apply Kd.R_drew)); exact HO_347001.out))) (below_size (by repeat (first | (with_reducible first | exact HB.out | apply below_alloc | apply pw_below_drewN | apply below_drew1 | refine below_set ?_ (IsS57.ge HI320.out) | refine below_set ?_ (IsS57.ge HI333.out) | refine below_set ?_ (IsS57.ge HI345.out) | refine below_set ?_ GE325.out | refine below_set ?_ GE346.out) | exact HB.out))))
                 have n7_ := Aside0.mk (hb)
                 have n8_ := Aside0.mk (hi)
                 clear HO_326001
                 clear HO_347001
                 clear BK325
                 clear BK346
                 clear HI333
                 clear HI345
                 clear HB
                 clear HI320
                 have HO_326001 := n0_
                 have HO_347001 := n1_
                 have BK325 := n2_
                 have BK346 := n3_
                 have HI333 := n4_
                 have HI345 := n5_
                 have HO351 := n6_
                 have HB := n7_
                 have HI320 := n8_
                 clear n0_ n1_ n2_ n3_ n4_ n5_ n6_ n7_ n8_
                 (try clear hb)
                 (try clear hb2)
                 (try clear hk)
                 (try clear hi)
                 (try clear ho0)
                 obtain ⟨Ao75, co75, eo75⟩ := Kd.R_slice HO351.out
                 (first | subst eo75 | (injection eo75 with f1_ f2_ f3_; have f4_ := f1_.symm; have f5_ := f3_.symm; clear f1_ f2_ f3_; subst f4_; subst f5_))
                 refine hK.out _ _ ⟨(blk_cell BK346.out 0).trans rfl, (blk_cell BK346.out 1).trans rfl, ((HB.out.cell (World.block_lt_of_cell? w _ hw347_0)).trans hw347_0), ((HB.out.cell (World.block_lt_of_cell? w _ hw347_1)).trans hw347_1), ((HB.out.cell (World.block_lt_of_cell? w _ hw347_2)).trans hw347_2)⟩ (fun hHeld => ?_)
                 clear hK K
                 refine norm_ (a' := ?_) ?_ ?_
                 rotate_left
                 ·
                  show Act.put _ (some 93) _ = _
                  simp only [Act.put, List.setIfInBounds_toArray, List.set_cons_zero, List.set_cons_succ, i64_w, i32_w]
                  rfl
                 refine last_ (i := 7) (N := none) #[true, true, true, true, true, true, true, true] rfl rfl (one_of HT_.out (by kernel_rfl)) (by decide) (fun K hK => ?_)
                 have hs74 : w73.cell? ⟨gb346, 0, none⟩ = some (.int .i64 x347000_4) := (blk_cell BK346.out 0).trans rfl
                 have hfs74 := blk_frozen BK346.out 0
                 have hns74_0 := NB325_346.out
                 have hms74_0 := NB346_325.out
                 have hs76 : w73.cell? ⟨gb346, 1, none⟩ = some (.slice Ao72 x347001_4.length co72) := (blk_cell BK346.out 1).trans rfl
                 have hfs76 := blk_frozen BK346.out 1
                 have hns76_0 := NB325_346.out
                 have hms76_0 := NB346_325.out
                 refine skip_ (w1 := ?_) (by rfl) rfl ?_ ?_
                 rotate_left
                 ·
                  go_simp
                  rfl
                 refine hK.out _ _ ?_
                 clear hK K
                 refine done_ (done_of HT_.out (by kernel_rfl)) ?_
                 try go_wp2
                 go_roundg k4
                 case measure => have := HJ5.out; have := HK2.out; have := HK3.out; have := HK4.out; omega
                 case rel => exact ⟨(wrap64 (x13_4 + 1)), (t352), (t348), (t349), (.slice Ao75 t349.length co75), (by first | rfl | (simp; done) | (simp [*]; done)), H', ⟨by have := HJ5.out; have := HK2.out; have := HK3.out; have := HK4.out; omega⟩, ⟨by (with_reducible repeat (first | apply Kd.R_alloc | apply Kd.R_drewN | apply Kd.R_drew)); exact Kd.R_mono (Kd.R_far (p := ⟨gb346, 1, none⟩) (Kd.R_far (p := ⟨gb346, 0, none⟩) (Kd.R_types HO_326001.out BK346.out (by decide)) (fun _ hk => hk.2) (.int .i64 t348)) (fun _ hk => hk.2) (.slice Ao75 t349.length co75)) (fun _ hk => trivial)⟩, ⟨by (with_reducible repeat (first | apply Kd.R_alloc | apply Kd.R_drewN | apply Kd.R_drew)); exact Kd.R_mono (Kd.R_far (p := ⟨gb346, 1, none⟩) (Kd.R_far (p := ⟨gb346, 0, none⟩) (Kd.R_types HO351.out BK346.out (by decide)) (fun _ hk => hk.2) (.int .i64 t348)) (fun _ hk => hk.2) (.slice Ao75 t349.length co75)) (fun _ hk => trivial)⟩, ⟨by (with_reducible repeat (first | refine blk_drewN ?_ _ | refine blk_drew ?_ | refine blk_alloc ?_ _)); refine blk_far ?_ NB325_346.out _; (with_reducible repeat (first | refine blk_drewN ?_ _ | refine blk_drew ?_ | refine blk_alloc ?_ _)); refine blk_far ?_ NB325_346.out _; (with_reducible repeat (first | refine blk_drewN ?_ _ | refine blk_drew ?_ | refine blk_alloc ?_ _)); exact BK325.out⟩, ⟨by (with_reducible repeat (first | refine blk_drewN ?_ _ | refine blk_drew ?_ | refine blk_alloc ?_ _)); refine blk_put (cs := #[.int .i64 t348, .slice Ao72 x347001_4.length co72]) ?_ 1 _ rfl; (with_reducible repeat (first | refine blk_drewN ?_ _ | refine blk_drew ?_ | refine blk_alloc ?_ _)); refine blk_put (cs := #[.int .i64 x347000_4, .slice Ao72 x347001_4.length co72]) ?_ 0 _ rfl; (with_reducible repeat (first | refine blk_drewN ?_ _ | refine blk_drew ?_ | refine blk_alloc ?_ _)); exact BK346.out⟩, ⟨by repeat (first | (with_reducible first | exact HI320.out | apply IsS57.alloc | apply IsS57.drewN | apply IsS57.drew | refine IsS57.farT ?_ (by repeat (first | exact TyOf.mk BK325.out | apply TyOf.alloc | apply TyOf.drewN | apply TyOf.drew | apply TyOf.set)) (by decide) _ | refine IsS57.farT ?_ (by repeat (first | exact TyOf.mk BK346.out | apply TyOf.alloc | apply TyOf.drewN | apply TyOf.drew | apply TyOf.set)) (by decide) _) | exact HI320.out)⟩, ⟨by repeat (first | (with_reducible first | exact HI333.out | apply IsS57.alloc | apply IsS57.drewN | apply IsS57.drew | refine IsS57.farT ?_ (by repeat (first | exact TyOf.mk BK325.out | apply TyOf.alloc | apply TyOf.drewN | apply TyOf.drew | apply TyOf.set)) (by decide) _ | refine IsS57.farT ?_ (by repeat (first | exact TyOf.mk BK346.out | apply TyOf.alloc | apply TyOf.drewN | apply TyOf.drew | apply TyOf.set)) (by decide) _) | exact HI333.out)⟩, ⟨by repeat (first | (with_reducible first | exact HI345.out | apply IsS57.alloc | apply IsS57.drewN | apply IsS57.drew | refine IsS57.farT ?_ (by repeat (first | exact TyOf.mk BK325.out | apply TyOf.alloc | apply TyOf.drewN | apply TyOf.drew | apply TyOf.set)) (by decide) _ | refine IsS57.farT ?_ (by repeat (first | exact TyOf.mk BK346.out | apply TyOf.alloc | apply TyOf.drewN | apply TyOf.drew | apply TyOf.set)) (by decide) _) | exact HI345.out)⟩, ⟨by repeat (first | (with_reducible first | exact HB.out | apply below_alloc | apply pw_below_drewN | apply below_drew1 | refine below_set ?_ (IsS57.ge HI320.out) | refine below_set ?_ (IsS57.ge HI333.out) | refine below_set ?_ (IsS57.ge HI345.out) | refine below_set ?_ GE325.out | refine below_set ?_ GE346.out) | exact HB.out)⟩⟩
                ·
                 rw [if_neg c69] at H
                 exact absurd H (by simp)
               ·
                rw [if_neg c68] at H
                have c68b0 : decide (x13_4 < (l2.length : Int)) = false := decide_eq_false c68
                clear c68
                replace H := Option.bind_eq_some_iff.mp H
                obtain ⟨⟨t353, t354⟩, A770, H⟩ := H
                replace H : (if t353 = true then ((nunciolaw11_same.f k4 x321000_4 x347000_4 x347001_4).bind fun bt355 => (some bt355.1)) else (some false)) = some r := H
                have A77 := Aside0.mk A770
                clear A770
                by_cases c78 : t353 = true
                ·
                 subst c78
                 have H1 : ((nunciolaw11_same.f k4 x321000_4 x347000_4 x347001_4).bind fun bt355 => (some bt355.1)) = some r := by rw [if_pos rfl] at H; exact H
                 clear H
                 have H := H1
                 clear H1
                 replace H := Option.bind_eq_some_iff.mp H
                 obtain ⟨⟨t355, t356⟩, A790, H⟩ := H
                 replace H : (some t355) = some r := H
                 have A79 := Aside0.mk A790
                 clear A790
                 obtain rfl := Option.some.inj H
                 have hnb80 := NB325_346.out
                 have hnc80 := NB346_325.out
                 have hnb81 := NB325_320.out
                 have hnc81 := NB320_325.out
                 have hnb82 := NB325_333.out
                 have hnc82 := NB333_325.out
                 have hnb83 := NB325_345.out
                 have hnc83 := NB345_325.out
                 have hcz84_0 : wr.cell? ⟨gb325, 0, none⟩ = some (.int .i64 x326000_2) := (blk_cell BK325.out 0).trans rfl
                 have hcz84_1 : wr.cell? ⟨gb325, 1, none⟩ = some (.slice Ao45 x326001_2.length co45) := (blk_cell BK325.out 1).trans rfl
                 have hfz84_0 := blk_frozen BK325.out 0
                 have hfz84_1 := blk_frozen BK325.out 1
                 go_wp2_with (first | ((with_reducible refine gate_callee (f := 12) rfl ?_); refine goesL_ (some 96) rfl rfl Tryd.func12 (by kernel_rfl) rfl #[.pointer (some ⟨g345, 0, none⟩), .agg #[.int .i64 x326000_2, .slice Ao45 x326001_2.length co45]] rfl (by (try simp only [List.map_toArray, List.map_cons, List.map_nil]); first | done | rfl | (simp only [List.length_drop, List.length_take]; rfl)) ?_; (with_reducible refine (nunciolaw11_same.calls k4 g345 t344 x326000_2 _ _ x326001_2 true t354 w _ ?side1 ?side2 ?side3 ?side4 A77.out).mono ?_); (case side1 => repeat (first | (with_reducible first | exact HI345.out | apply IsS57.alloc | apply IsS57.drewN | apply IsS57.drew | refine IsS57.farT ?_ (by repeat (first | exact TyOf.mk BK325.out | apply TyOf.alloc | apply TyOf.drewN | apply TyOf.drew | apply TyOf.set)) (by decide) _ | refine IsS57.farT ?_ (by repeat (first | exact TyOf.mk BK346.out | apply TyOf.alloc | apply TyOf.drewN | apply TyOf.drew | apply TyOf.set)) (by decide) _) | exact HI345.out)); (case side2 => repeat (first | (with_reducible first | exact HB.out | apply below_alloc | apply pw_below_drewN | apply below_drew1 | refine below_set ?_ (IsS57.ge HI320.out) | refine below_set ?_ (IsS57.ge HI333.out) | refine below_set ?_ (IsS57.ge HI345.out) | refine below_set ?_ GE325.out | refine below_set ?_ GE346.out) | exact HB.out)); (case side3 => exact Kd.C_foot_own (IsS57.apart (show IsS57 w _ g345 t344 from by repeat (first | (with_reducible first | exact HI345.out | apply IsS57.alloc | apply IsS57.drewN | apply IsS57.drew | refine IsS57.farT ?_ (by repeat (first | exact TyOf.mk BK325.out | apply TyOf.alloc | apply TyOf.drewN | apply TyOf.drew | apply TyOf.set)) (by decide) _ | refine IsS57.farT ?_ (by repeat (first | exact TyOf.mk BK346.out | apply TyOf.alloc | apply TyOf.drewN | apply TyOf.drew | apply TyOf.set)) (by decide) _) | exact HI345.out)) (by (with_reducible repeat (first | apply Kd.R_alloc | apply Kd.R_drewN | apply Kd.R_drew)); exact HO_326001.out) (by decide)) (fun _ h_ => h_.2)); (case side4 => exact (Kd.R_reads' HO_326001.out).2.1); rintro e w85 ⟨rfl, hi, hb, hk⟩; refine ⟨_, rfl, ?_⟩; have n0_ := Aside0.mk (Kd.R_mono (Kd.R_keep (IsS57.apart (show IsS57 w _ g345 t344 from by repeat (first | (with_reducible first | exact HI345.out | apply IsS57.alloc | apply IsS57.drewN | apply IsS57.drew | refine IsS57.farT ?_ (by repeat (first | exact TyOf.mk BK325.out | apply TyOf.alloc | apply TyOf.drewN | apply TyOf.drew | apply TyOf.set)) (by decide) _ | refine IsS57.farT ?_ (by repeat (first | exact TyOf.mk BK346.out | apply TyOf.alloc | apply TyOf.drewN | apply TyOf.drew | apply TyOf.set)) (by decide) _) | exact HI345.out)) (by (with_reducible repeat (first | apply Kd.R_alloc | apply Kd.R_drewN | apply Kd.R_drew)); exact HO_326001.out) (by decide)) hk (fun _ h => h.2)) (fun _ h => h.1)); have n1_ := Aside0.mk (Kd.R_mono (Kd.R_keep (IsS57.apart (show IsS57 w _ g345 t344 from by repeat (first | (with_reducible first | exact HI345.out | apply IsS57.alloc | apply IsS57.drewN | apply IsS57.drew | refine IsS57.farT ?_ (by repeat (first | exact TyOf.mk BK325.out | apply TyOf.alloc | apply TyOf.drewN | apply TyOf.drew | apply TyOf.set)) (by decide) _ | refine IsS57.farT ?_ (by repeat (first | exact TyOf.mk BK346.out | apply TyOf.alloc | apply TyOf.drewN | apply TyOf.drew | apply TyOf.set)) (by decide) _) | exact HI345.out)) (by (with_reducible repeat (first | apply Kd.R_alloc | apply Kd.R_drewN | apply Kd.R_drew)); exact HO_347001.out) (by decide)) hk (fun _ h => h.2)) (fun _ h => h.1)); have n2_ := Aside0.mk (KeepBut.blk hk (g' := gb325) (o := .cells #[.int .i64 x326000_2, .slice Ao45 x326001_2.length co45] 29 (0, 0)) (by (with_reducible repeat (first | refine blk_drewN ?_ _ | refine blk_drew ?_ | refine blk_alloc ?_ _)); exact BK325.out) NB325_345.out (by simp)); have n3_ := Aside0.mk (KeepBut.blk hk (g' := gb346) (o := .cells #[.int .i64 x347000_4, u347001] 29 (0, 0)) (by (with_reducible repeat (first | refine blk_drewN ?_ _ | refine blk_drew ?_ | refine blk_alloc ?_ _)); exact BK346.out) NB346_345.out (by simp)); have n4_ := Aside0.mk (IsS57.other (show IsS57 w _ g320 x321000_4 from by repeat (first | (with_reducible first | exact HI320.out | apply IsS57.alloc | apply IsS57.drewN | apply IsS57.drew | refine IsS57.farT ?_ (by repeat (first | exact TyOf.mk BK325.out | apply TyOf.alloc | apply TyOf.drewN | apply TyOf.drew | apply TyOf.set)) (by decide) _ | refine IsS57.farT ?_ (by repeat (first | exact TyOf.mk BK346.out | apply TyOf.alloc | apply TyOf.drewN | apply TyOf.drew | apply TyOf.set)) (by decide) _) | exact HI320.out)) (show IsS57 w _ g345 t344 from by repeat (first | (with_reducible first | exact HI345.out | apply IsS57.alloc | apply IsS57.drewN | apply IsS57.drew | refine IsS57.farT ?_ (by repeat (first | exact TyOf.mk BK325.out | apply TyOf.alloc | apply TyOf.drewN | apply TyOf.drew | apply TyOf.set)) (by decide) _ | refine IsS57.farT ?_ (by repeat (first | exact TyOf.mk BK346.out | apply TyOf.alloc | apply TyOf.drewN | apply TyOf.drew | apply TyOf.set)) (by decide) _) | exact HI345.out)) hk NB320_345.out); have n5_ := Aside0.mk (IsS57.other (show IsS57 w _ g333 x334000_3 from by repeat (first | (with_reducible first | exact HI333.out | apply IsS57.alloc | apply IsS57.drewN | apply IsS57.drew | refine IsS57.farT ?_ (by repeat (first | exact TyOf.mk BK325.out | apply TyOf.alloc | apply TyOf.drewN | apply TyOf.drew | apply TyOf.set)) (by decide) _ | refine IsS57.farT ?_ (by repeat (first | exact TyOf.mk BK346.out | apply TyOf.alloc | apply TyOf.drewN | apply TyOf.drew | apply TyOf.set)) (by decide) _) | exact HI333.out)) (show IsS57 w _ g345 t344 from by repeat (first | (with_reducible first | exact HI345.out | apply IsS57.alloc | apply IsS57.drewN | apply IsS57.drew | refine IsS57.farT ?_ (by repeat (first | exact TyOf.mk BK325.out | apply TyOf.alloc | apply TyOf.drewN | apply TyOf.drew | apply TyOf.set)) (by decide) _ | refine IsS57.farT ?_ (by repeat (first | exact TyOf.mk BK346.out | apply TyOf.alloc | apply TyOf.drewN | apply TyOf.drew | apply TyOf.set)) (by decide) _) | exact HI345.out)) hk NB333_345.out); have n6_ := Aside0.mk (hb); have n7_ := Aside0.mk (hi); clear HO_326001; clear HO_347001; clear BK325; clear BK346; clear HI320; clear HI333; clear HB; clear HI345; have HO_326001 := n0_; have HO_347001 := n1_; have BK325 := n2_; have BK346 := n3_; have HI320 := n4_; have HI333 := n5_; have HB := n6_; have HI345 := n7_; clear n0_ n1_ n2_ n3_ n4_ n5_ n6_ n7_; (try clear hb); (try clear hb2); (try clear hk); (try clear hi); have hnb86 := NB346_320.out; have hnc86 := NB320_346.out; have hnb87 := NB346_333.out; have hnc87 := NB333_346.out; have hnb88 := NB346_345.out; have hnc88 := NB345_346.out; have hcz89_0 : w85.cell? ⟨gb346, 0, none⟩ = some (.int .i64 x347000_4) := (blk_cell BK346.out 0).trans rfl; have hcz89_1 : w85.cell? ⟨gb346, 1, none⟩ = some (u347001) := (blk_cell BK346.out 1).trans rfl; have hfz89_0 := blk_frozen BK346.out 0; have hfz89_1 := blk_frozen BK346.out 1; obtain ⟨Ao90, co90, eo90⟩ := Kd.R_slice HO_347001.out; subst eo90) | (go_at_call 12; (with_reducible refine (nunciolaw11_same.calls k4 g320 x321000_4 x347000_4 _ _ x347001_4 t355 t356 w _ ?side1 ?side2 ?side3 ?side4 A79.out).mono ?_); (case side1 => repeat (first | (with_reducible first | exact HI320.out | apply IsS57.alloc | apply IsS57.drewN | apply IsS57.drew | refine IsS57.farT ?_ (by repeat (first | exact TyOf.mk BK325.out | apply TyOf.alloc | apply TyOf.drewN | apply TyOf.drew | apply TyOf.set)) (by decide) _ | refine IsS57.farT ?_ (by repeat (first | exact TyOf.mk BK346.out | apply TyOf.alloc | apply TyOf.drewN | apply TyOf.drew | apply TyOf.set)) (by decide) _) | exact HI320.out)); (case side2 => repeat (first | (with_reducible first | exact HB.out | apply below_alloc | apply pw_below_drewN | apply below_drew1 | refine below_set ?_ (IsS57.ge HI320.out) | refine below_set ?_ (IsS57.ge HI333.out) | refine below_set ?_ (IsS57.ge HI345.out) | refine below_set ?_ GE325.out | refine below_set ?_ GE346.out) | exact HB.out)); (case side3 => exact Kd.C_foot_own (IsS57.apart (show IsS57 w _ g320 x321000_4 from by repeat (first | (with_reducible first | exact HI320.out | apply IsS57.alloc | apply IsS57.drewN | apply IsS57.drew | refine IsS57.farT ?_ (by repeat (first | exact TyOf.mk BK325.out | apply TyOf.alloc | apply TyOf.drewN | apply TyOf.drew | apply TyOf.set)) (by decide) _ | refine IsS57.farT ?_ (by repeat (first | exact TyOf.mk BK346.out | apply TyOf.alloc | apply TyOf.drewN | apply TyOf.drew | apply TyOf.set)) (by decide) _) | exact HI320.out)) (by (with_reducible repeat (first | apply Kd.R_alloc | apply Kd.R_drewN | apply Kd.R_drew)); exact HO_347001.out) (by decide)) (fun _ h_ => h_.2)); (case side4 => exact (Kd.R_reads' HO_347001.out).2.1); rintro e w91 ⟨rfl, hi, hb, hk⟩; have n0_ := Aside0.mk (Kd.R_mono (Kd.R_keep (IsS57.apart (show IsS57 w _ g320 x321000_4 from by repeat (first | (with_reducible first | exact HI320.out | apply IsS57.alloc | apply IsS57.drewN | apply IsS57.drew | refine IsS57.farT ?_ (by repeat (first | exact TyOf.mk BK325.out | apply TyOf.alloc | apply TyOf.drewN | apply TyOf.drew | apply TyOf.set)) (by decide) _ | refine IsS57.farT ?_ (by repeat (first | exact TyOf.mk BK346.out | apply TyOf.alloc | apply TyOf.drewN | apply TyOf.drew | apply TyOf.set)) (by decide) _) | exact HI320.out)) (by (with_reducible repeat (first | apply Kd.R_alloc | apply Kd.R_drewN | apply Kd.R_drew)); exact HO_326001.out) (by decide)) hk (fun _ h => h.2)) (fun _ h => h.1)); have n1_ := Aside0.mk (Kd.R_mono (Kd.R_keep (IsS57.apart (show IsS57 w _ g320 x321000_4 from by repeat (first | (with_reducible first | exact HI320.out | apply IsS57.alloc | apply IsS57.drewN | apply IsS57.drew | refine IsS57.farT ?_ (by repeat (first | exact TyOf.mk BK325.out | apply TyOf.alloc | apply TyOf.drewN | apply TyOf.drew | apply TyOf.set)) (by decide) _ | refine IsS57.farT ?_ (by repeat (first | exact TyOf.mk BK346.out | apply TyOf.alloc | apply TyOf.drewN | apply TyOf.drew | apply TyOf.set)) (by decide) _) | exact HI320.out)) (by (with_reducible repeat (first | apply Kd.R_alloc | apply Kd.R_drewN | apply Kd.R_drew)); exact HO_347001.out) (by decide)) hk (fun _ h => h.2)) (fun _ h => h.1)); have n2_ := Aside0.mk (KeepBut.blk hk (g' := gb325) (o := .cells #[.int .i64 x326000_2, .slice Ao45 x326001_2.length co45] 29 (0, 0)) (by (with_reducible repeat (first | refine blk_drewN ?_ _ | refine blk_drew ?_ | refine blk_alloc ?_ _)); exact BK325.out) NB325_320.out (by simp)); have n3_ := Aside0.mk (KeepBut.blk hk (g' := gb346) (o := .cells #[.int .i64 x347000_4, .slice Ao90 x347001_4.length co90] 29 (0, 0)) (by (with_reducible repeat (first | refine blk_drewN ?_ _ | refine blk_drew ?_ | refine blk_alloc ?_ _)); exact BK346.out) NB346_320.out (by simp)); have n4_ := Aside0.mk (IsS57.other (show IsS57 w _ g333 x334000_3 from by repeat (first | (with_reducible first | exact HI333.out | apply IsS57.alloc | apply IsS57.drewN | apply IsS57.drew | refine IsS57.farT ?_ (by repeat (first | exact TyOf.mk BK325.out | apply TyOf.alloc | apply TyOf.drewN | apply TyOf.drew | apply TyOf.set)) (by decide) _ | refine IsS57.farT ?_ (by repeat (first | exact TyOf.mk BK346.out | apply TyOf.alloc | apply TyOf.drewN | apply TyOf.drew | apply TyOf.set)) (by decide) _) | exact HI333.out)) (show IsS57 w _ g320 x321000_4 from by repeat (first | (with_reducible first | exact HI320.out | apply IsS57.alloc | apply IsS57.drewN | apply IsS57.drew | refine IsS57.farT ?_ (by repeat (first | exact TyOf.mk BK325.out | apply TyOf.alloc | apply TyOf.drewN | apply TyOf.drew | apply TyOf.set)) (by decide) _ | refine IsS57.farT ?_ (by repeat (first | exact TyOf.mk BK346.out | apply TyOf.alloc | apply TyOf.drewN | apply TyOf.drew | apply TyOf.set)) (by decide) _) | exact HI320.out)) hk NB333_320.out); have n5_ := Aside0.mk (IsS57.other (show IsS57 w _ g345 t354 from by repeat (first | (with_reducible first | exact HI345.out | apply IsS57.alloc | apply IsS57.drewN | apply IsS57.drew | refine IsS57.farT ?_ (by repeat (first | exact TyOf.mk BK325.out | apply TyOf.alloc | apply TyOf.drewN | apply TyOf.drew | apply TyOf.set)) (by decide) _ | refine IsS57.farT ?_ (by repeat (first | exact TyOf.mk BK346.out | apply TyOf.alloc | apply TyOf.drewN | apply TyOf.drew | apply TyOf.set)) (by decide) _) | exact HI345.out)) (show IsS57 w _ g320 x321000_4 from by repeat (first | (with_reducible first | exact HI320.out | apply IsS57.alloc | apply IsS57.drewN | apply IsS57.drew | refine IsS57.farT ?_ (by repeat (first | exact TyOf.mk BK325.out | apply TyOf.alloc | apply TyOf.drewN | apply TyOf.drew | apply TyOf.set)) (by decide) _ | refine IsS57.farT ?_ (by repeat (first | exact TyOf.mk BK346.out | apply TyOf.alloc | apply TyOf.drewN | apply TyOf.drew | apply TyOf.set)) (by decide) _) | exact HI320.out)) hk NB345_320.out); have n6_ := Aside0.mk (hb); have n7_ := Aside0.mk (hi); clear HO_326001; clear HO_347001; clear BK325; clear BK346; clear HI333; clear HI345; clear HB; clear HI320; have HO_326001 := n0_; have HO_347001 := n1_; have BK325 := n2_; have BK346 := n3_; have HI333 := n4_; have HI345 := n5_; have HB := n6_; have HI320 := n7_; clear n0_ n1_ n2_ n3_ n4_ n5_ n6_ n7_; (try clear hb); (try clear hb2); (try clear hk); (try clear hi)))
                 go_ret
                 exact ⟨by first | rfl | (simp [errW_none, errW_some] <;> rfl) | (simp [*, errW_none, errW_some] <;> rfl), by repeat (first | (with_reducible first | exact HB.out | apply below_alloc | apply pw_below_drewN | apply below_drew1 | refine below_set ?_ (IsS57.ge HI320.out) | refine below_set ?_ (IsS57.ge HI333.out) | refine below_set ?_ (IsS57.ge HI345.out) | refine below_set ?_ GE325.out | refine below_set ?_ GE346.out) | exact HB.out)⟩
                ·
                 replace c78 := Bool.eq_false_iff.mpr c78
                 subst c78
                 have H1 : (some false) = some r := by rw [if_neg (show ¬ (false = true) by decide)] at H; exact H
                 clear H
                 have H := H1
                 clear H1
                 exact absurd ((Option.some.inj H).trans HT.out) (by decide)
            ·
             replace c53 := Bool.eq_false_iff.mpr c53
             subst c53
             have H1 : (some false) = some r := by rw [if_neg (show ¬ (false = true) by decide)] at H; exact H
             clear H
             have H := H1
             clear H1
             exact absurd ((Option.some.inj H).trans HT.out) (by decide)
        ·
         replace c40 := Bool.eq_false_iff.mpr c40
         subst c40
         have H1 : (some false) = some r := by rw [if_neg (show ¬ (false = true) by decide)] at H; exact H
         clear H
         have H := H1
         clear H1
         exact absurd ((Option.some.inj H).trans HT.out) (by decide)
 ·
  replace c5 := Bool.eq_false_iff.mpr c5
  subst c5
  have H1 : (some false) = some r := by rw [if_neg (show ¬ (false = true) by decide)] at H; exact H
  clear H
  have H := H1
  clear H1
  exact absurd ((Option.some.inj H).trans HT.out) (by decide)

/-- THE ONE PURE STATEMENT of nunciolaw11_TableApart: yours. -/
def nunciolaw11_TableApart.Pure : Prop := ∀ (a0 : Int) (l1 : List (S34)) (l2 : List (S34)), ((Lit.int .i64 a0).wf = true) → (l1.length ≤ 9223372036854775807 ∧ l1.length * 40 ≤ 140737488351232 ∧ ∀ x_ ∈ l1, k34_wf x_) → (l2.length ≤ 9223372036854775807 ∧ l2.length * 40 ≤ 140737488351232 ∧ ∀ x_ ∈ l2, k34_wf x_) → ∃ k, nunciolaw11_TableApart.f k a0 l1 l2 = some true
theorem nunciolaw11_TableApart.walk (P : nunciolaw11_TableApart.Pure) (a0 : Int) (A1 : Option Addr) (c1 : Nat) (l1 : List (S34)) (A2 : Option Addr) (c2 : Nat) (l2 : List (S34)) (w : World) (hE : EnvW w) (hr1 : Kd.C k34 w A1 l1.length l1) (hc1 : l1.length ≤ c1) (hr2 : Kd.C k34 w A2 l2.length l2) (hc2 : l2.length ≤ c2) (w0 : (Lit.int .i64 a0).wf = true) (w1 : l1.length ≤ 9223372036854775807 ∧ l1.length * 40 ≤ 140737488351232 ∧ ∀ x_ ∈ l1, k34_wf x_) (w2 : l2.length ≤ 9223372036854775807 ∧ l2.length * 40 ≤ 140737488351232 ∧ ∀ x_ ∈ l2, k34_wf x_) :
  Calls Tryd.prog 6 #[.int .i64 a0, .slice A1 l1.length c1, .slice A2 l2.length c2] w fun e w' => e = .returned (.bool true) ∧ Below w.heap.size w w' := by
 obtain ⟨k, h⟩ := P a0 l1 l2 w0 w1 w2
 refine (nunciolaw11_TableApart.calls k a0 _ _ l1 _ _ l2 true w hE hr1 hc1 hr2 hc2 h rfl).mono ?_
 rintro e w' ⟨rfl, hd⟩
 exact ⟨rfl, hd⟩

end Go.Proofs.YtjdnimgkfkpaeaaDoor.Mine
