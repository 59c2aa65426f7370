-- Written by this repo's own printer (wip/print), which builds on the kit's.
import Derived.Test.YtjdnimgkfkpaeaaDoorTbM
import Derived.Test.YtjdnimgkfkpaeaaDoorWf
import Derived.Test.YtjdnimgkfkpaeaaDoorMinex0
import Derived.Test.YtjdnimgkfkpaeaaDoorMinex3
import Derived.Test.YtjdnimgkfkpaeaaDoorMinex4
import Derived.Test.YtjdnimgkfkpaeaaDoorMinex6
import Derived.Test.YtjdnimgkfkpaeaaDoorMinex10
import Derived.Test.YtjdnimgkfkpaeaaDoorMinex11
import Derived.Test.YtjdnimgkfkpaeaaDoorMinex12
namespace Go.Proofs.YtjdnimgkfkpaeaaDoor.Mine
open Go.RowKit Go.Proofs.YtjdnimgkfkpaeaaDoorW.PrintWords Go.Proofs.YtjdnimgkfkpaeaaDoorW.PrintLast Go.Proofs.YtjdnimgkfkpaeaaDoorW.PrintMore
attribute [local go_sem] max2_int min2_int max_two min_two max_three min_three max_four min_four   -- for this text's walks alone
set_option linter.unusedVariables false
set_option linter.unusedSimpArgs false

/-! ### nunciolaw11_TableFinds: function 4 -/
mutual
def nunciolaw11_TableFinds.j0 : Nat → Int → List (S34) → ByteArray → ByteArray → Bool → Option (Bool)
 | 0, _, _, _, _, _ => none
 | k + 1, x0, x1, x2, x3, x37 => if x37 = true then (some true) else ((table_New.f x0).bind fun t237 => ((nuncioref11_New.f x0).bind fun bt239 => (nunciolaw11_TableFinds.l0 k x1 x2 x3 0 t237 bt239.1 bt239.2)))
def nunciolaw11_TableFinds.l0 : Nat → List (S34) → ByteArray → ByteArray → Int → TB → Int → List (S38) → Option (Bool)
 | 0, _, _, _, _, _, _, _ => none
 | k + 1, x1, x2, x3, x11, x239000, x244000, x244001 => if x11 < (x1.length : Int) then (if 0 ≤ x11 then ((nunciolaw11_play.f k x239000 x244000 x244001 ((rd_T34 x1 x11).f0) ((rd_T34 x1 x11).f1) ((rd_T34 x1 x11).f2)).bind fun bt245 => (nunciolaw11_TableFinds.l0 k x1 x2 x3 (wrap64 (x11 + 1)) bt245.2.2 bt245.1 bt245.2.1)) else (none)) else ((nuncioref11_All.f k x244000 x244001).bind fun t250 => (if t250.length < 4398046511104 then (nunciolaw11_TableFinds.l1 k x3 (t250 ++ [(⟨x2, x3⟩ : S38)]) 0 x239000 x244000 x244001) else (none)))
def nunciolaw11_TableFinds.l1 : Nat → ByteArray → List (S38) → Int → TB → Int → List (S38) → Option (Bool)
 | 0, _, _, _, _, _, _ => none
 | k + 1, x3, x12, x13, x239000, x244000, x244001 => if x13 < (x12.length : Int) then (if 0 ≤ x13 then ((table_Table_Find.f x239000 ((rd_T38 x12 x13).f0) ((rd_T38 x12 x13).f1)).bind fun bt258 => ((nuncioref11_Find.f k x244000 x244001 ((rd_T38 x12 x13).f0) ((rd_T38 x12 x13).f1)).bind fun bt263 => (if bt258.1 = bt263.1 then (nunciolaw11_TableFinds.j3 k x3 x12 x13 (bt258.2.1 != bt263.2) bt258.2.2 x244000 x244001) else (nunciolaw11_TableFinds.j3 k x3 x12 x13 true bt258.2.2 x244000 x244001)))) else (none)) else (some true)
def nunciolaw11_TableFinds.j3 : Nat → ByteArray → List (S38) → Int → Bool → TB → Int → List (S38) → Option (Bool)
 | 0, _, _, _, _, _, _, _ => none
 | k + 1, x3, x12, x13, x105, x239000, x244000, x244001 => if x105 = true then (some false) else (if 0 ≤ x13 then (if x13 < (x12.length : Int) then ((table_Table_Find.f x239000 ((rd_T38 x12 x13).f0) x3).bind fun bt266 => ((nuncioref11_Find.f k x244000 x244001 ((rd_T38 x12 x13).f0) x3).bind fun bt270 => (if bt266.1 = bt270.1 then (if (bt266.2.1 != bt270.2) = true then (some false) else (nunciolaw11_TableFinds.l1 k x3 x12 (wrap64 (x13 + 1)) bt266.2.2 x244000 x244001)) else (some false)))) else (none)) else (none))
end
def nunciolaw11_TableFinds.f (k : Nat) (a0 : Int) (l1 : List (S34)) (a2 : ByteArray) (a3 : ByteArray) : Option (Bool) := (nunciolaw11_awake.f).bind fun t235 => (if t235 = true then ((nunciolaw11_Few.f k l1).bind fun t236 => (if t236 = true then (if (l1.length : Int) > 100 then (nunciolaw11_TableFinds.j0 k a0 l1 a2 a3 true) else (if (a2.size : Int) > 3000 then (nunciolaw11_TableFinds.j0 k a0 l1 a2 a3 true) else (nunciolaw11_TableFinds.j0 k a0 l1 a2 a3 (decide ((a3.size : Int) > 3000))))) else (nunciolaw11_TableFinds.j0 k a0 l1 a2 a3 true))) else (some false))
theorem nunciolaw11_TableFinds.mono_l : ∀ k, (∀ y0 y1 y2 y3 y4, LeO (nunciolaw11_TableFinds.j0 k y0 y1 y2 y3 y4) (nunciolaw11_TableFinds.j0 (k + 1) y0 y1 y2 y3 y4)) ∧ (∀ y0 y1 y2 y3 y4 y5 y6, LeO (nunciolaw11_TableFinds.l0 k y0 y1 y2 y3 y4 y5 y6) (nunciolaw11_TableFinds.l0 (k + 1) y0 y1 y2 y3 y4 y5 y6)) ∧ (∀ y0 y1 y2 y3 y4 y5, LeO (nunciolaw11_TableFinds.l1 k y0 y1 y2 y3 y4 y5) (nunciolaw11_TableFinds.l1 (k + 1) y0 y1 y2 y3 y4 y5)) ∧ (∀ y0 y1 y2 y3 y4 y5 y6, LeO (nunciolaw11_TableFinds.j3 k y0 y1 y2 y3 y4 y5 y6) (nunciolaw11_TableFinds.j3 (k + 1) y0 y1 y2 y3 y4 y5 y6))
 | 0 => ⟨fun _ _ _ _ _ r h => by simp [nunciolaw11_TableFinds.j0] at h, fun _ _ _ _ _ _ _ r h => by simp [nunciolaw11_TableFinds.l0] at h, fun _ _ _ _ _ _ r h => by simp [nunciolaw11_TableFinds.l1] at h, fun _ _ _ _ _ _ _ r h => by simp [nunciolaw11_TableFinds.j3] at h⟩
 | k + 1 => by
  obtain ⟨ih0, ih1, ih2, ih3⟩ := nunciolaw11_TableFinds.mono_l k
  refine ⟨?_, ?_, ?_, ?_⟩
  ·
   intro y0 y1 y2 y3 y4
   unfold nunciolaw11_TableFinds.j0
   repeat' first
   | (with_reducible exact ih0 _ _ _ _ _)
   | (with_reducible exact ih1 _ _ _ _ _ _ _)
   | (with_reducible exact ih2 _ _ _ _ _ _)
   | (with_reducible exact ih3 _ _ _ _ _ _ _)
   | (with_reducible exact nunciolaw11_Few.mono _ _)
   | (with_reducible exact nunciolaw11_play.mono _ _ _ _ _ _ _)
   | (with_reducible exact nuncioref11_All.mono _ _ _)
   | (with_reducible exact nuncioref11_Find.mono _ _ _ _ _)
   | (with_reducible exact LeO.refl _)
   | (with_reducible exact LeO.none _)
   | (with_reducible refine LeO.ite ?_ ?_)
   | (with_reducible refine LeO.bind ?_ (fun _ => ?_))
   | exact ih0 _ _ _ _ _
   | exact ih1 _ _ _ _ _ _ _
   | exact ih2 _ _ _ _ _ _
   | exact ih3 _ _ _ _ _ _ _
   | exact nunciolaw11_Few.mono _ _
   | exact nunciolaw11_play.mono _ _ _ _ _ _ _
   | exact nuncioref11_All.mono _ _ _
   | exact nuncioref11_Find.mono _ _ _ _ _
   | exact LeO.none _
   | refine LeO.ite ?_ ?_
   | refine LeO.bind ?_ (fun _ => ?_)
  ·
   intro y0 y1 y2 y3 y4 y5 y6
   unfold nunciolaw11_TableFinds.l0
   repeat' first
   | (with_reducible exact ih0 _ _ _ _ _)
   | (with_reducible exact ih1 _ _ _ _ _ _ _)
   | (with_reducible exact ih2 _ _ _ _ _ _)
   | (with_reducible exact ih3 _ _ _ _ _ _ _)
   | (with_reducible exact nunciolaw11_Few.mono _ _)
   | (with_reducible exact nunciolaw11_play.mono _ _ _ _ _ _ _)
   | (with_reducible exact nuncioref11_All.mono _ _ _)
   | (with_reducible exact nuncioref11_Find.mono _ _ _ _ _)
   | (with_reducible exact LeO.refl _)
   | (with_reducible exact LeO.none _)
   | (with_reducible refine LeO.ite ?_ ?_)
   | (with_reducible refine LeO.bind ?_ (fun _ => ?_))
   | exact ih0 _ _ _ _ _
   | exact ih1 _ _ _ _ _ _ _
   | exact ih2 _ _ _ _ _ _
   | exact ih3 _ _ _ _ _ _ _
   | exact nunciolaw11_Few.mono _ _
   | exact nunciolaw11_play.mono _ _ _ _ _ _ _
   | exact nuncioref11_All.mono _ _ _
   | exact nuncioref11_Find.mono _ _ _ _ _
   | exact LeO.none _
   | refine LeO.ite ?_ ?_
   | refine LeO.bind ?_ (fun _ => ?_)
  ·
   intro y0 y1 y2 y3 y4 y5
   unfold nunciolaw11_TableFinds.l1
   repeat' first
   | (with_reducible exact ih0 _ _ _ _ _)
   | (with_reducible exact ih1 _ _ _ _ _ _ _)
   | (with_reducible exact ih2 _ _ _ _ _ _)
   | (with_reducible exact ih3 _ _ _ _ _ _ _)
   | (with_reducible exact nunciolaw11_Few.mono _ _)
   | (with_reducible exact nunciolaw11_play.mono _ _ _ _ _ _ _)
   | (with_reducible exact nuncioref11_All.mono _ _ _)
   | (with_reducible exact nuncioref11_Find.mono _ _ _ _ _)
   | (with_reducible exact LeO.refl _)
   | (with_reducible exact LeO.none _)
   | (with_reducible refine LeO.ite ?_ ?_)
   | (with_reducible refine LeO.bind ?_ (fun _ => ?_))
   | exact ih0 _ _ _ _ _
   | exact ih1 _ _ _ _ _ _ _
   | exact ih2 _ _ _ _ _ _
   | exact ih3 _ _ _ _ _ _ _
   | exact nunciolaw11_Few.mono _ _
   | exact nunciolaw11_play.mono _ _ _ _ _ _ _
   | exact nuncioref11_All.mono _ _ _
   | exact nuncioref11_Find.mono _ _ _ _ _
   | exact LeO.none _
   | refine LeO.ite ?_ ?_
   | refine LeO.bind ?_ (fun _ => ?_)
  ·
   intro y0 y1 y2 y3 y4 y5 y6
   unfold nunciolaw11_TableFinds.j3
   repeat' first
   | (with_reducible exact ih0 _ _ _ _ _)
   | (with_reducible exact ih1 _ _ _ _ _ _ _)
   | (with_reducible exact ih2 _ _ _ _ _ _)
   | (with_reducible exact ih3 _ _ _ _ _ _ _)
   | (with_reducible exact nunciolaw11_Few.mono _ _)
   | (with_reducible exact nunciolaw11_play.mono _ _ _ _ _ _ _)
   | (with_reducible exact nuncioref11_All.mono _ _ _)
   | (with_reducible exact nuncioref11_Find.mono _ _ _ _ _)
   | (with_reducible exact LeO.refl _)
   | (with_reducible exact LeO.none _)
   | (with_reducible refine LeO.ite ?_ ?_)
   | (with_reducible refine LeO.bind ?_ (fun _ => ?_))
   | exact ih0 _ _ _ _ _
   | exact ih1 _ _ _ _ _ _ _
   | exact ih2 _ _ _ _ _ _
   | exact ih3 _ _ _ _ _ _ _
   | exact nunciolaw11_Few.mono _ _
   | exact nunciolaw11_play.mono _ _ _ _ _ _ _
   | exact nuncioref11_All.mono _ _ _
   | exact nuncioref11_Find.mono _ _ _ _ _
   | exact LeO.none _
   | refine LeO.ite ?_ ?_
   | refine LeO.bind ?_ (fun _ => ?_)
theorem nunciolaw11_TableFinds.mono : ∀ a0 a1 a2 a3 k, LeO (nunciolaw11_TableFinds.f k a0 a1 a2 a3) (nunciolaw11_TableFinds.f (k + 1) a0 a1 a2 a3) := by
 intro a0 a1 a2 a3 k
 obtain ⟨ih0, ih1, ih2, ih3⟩ := nunciolaw11_TableFinds.mono_l k
 unfold nunciolaw11_TableFinds.f
 repeat' first
   | (with_reducible exact ih0 _ _ _ _ _)
   | (with_reducible exact ih1 _ _ _ _ _ _ _)
   | (with_reducible exact ih2 _ _ _ _ _ _)
   | (with_reducible exact ih3 _ _ _ _ _ _ _)
   | (with_reducible exact nunciolaw11_Few.mono _ _)
   | (with_reducible exact nunciolaw11_play.mono _ _ _ _ _ _ _)
   | (with_reducible exact nuncioref11_All.mono _ _ _)
   | (with_reducible exact nuncioref11_Find.mono _ _ _ _ _)
   | (with_reducible exact LeO.refl _)
   | (with_reducible exact LeO.none _)
   | (with_reducible refine LeO.ite ?_ ?_)
   | (with_reducible refine LeO.bind ?_ (fun _ => ?_))
   | exact ih0 _ _ _ _ _
   | exact ih1 _ _ _ _ _ _ _
   | exact ih2 _ _ _ _ _ _
   | exact ih3 _ _ _ _ _ _ _
   | exact nunciolaw11_Few.mono _ _
   | exact nunciolaw11_play.mono _ _ _ _ _ _ _
   | exact nuncioref11_All.mono _ _ _
   | exact nuncioref11_Find.mono _ _ _ _ _
   | exact LeO.none _
   | refine LeO.ite ?_ ?_
   | refine LeO.bind ?_ (fun _ => ?_)
def nunciolaw11_TableFinds.T10 : Bool × List (List Nat × List Nat) := (true, [([], []), ([], []), ([], []), ([], []), ([2, 3], [2, 3]), ([4], [4]), ([0, 1, 5], [0, 1, 5]), ([6, 6, 0, 1, 2, 3, 4, 5, 6], [6])])
def nunciolaw11_TableFinds.B10 : List Nat := [0, 0, 0, 0, 12, 28, 63, 127]
theorem nunciolaw11_TableFinds.tab10 : rtab .any (opsOf Tryd.f4 10) = nunciolaw11_TableFinds.T10 := by kernel_rfl
theorem nunciolaw11_TableFinds.bits10 : waitsOk nunciolaw11_TableFinds.T10.2 nunciolaw11_TableFinds.B10 = true := by kernel_rfl
def nunciolaw11_TableFinds.T15 : Bool × List (List Nat × List Nat) := (true, [([], []), ([], []), ([], []), ([1, 2], [1, 2]), ([3], [3]), ([4], [4]), ([], []), ([], []), ([6, 7], [6, 7]), ([8], [8]), ([9], [9]), ([0, 5, 10], [0, 5, 10]), ([11], [11]), ([12], [12]), ([12], [12]), ([13, 11, 0, 1, 2, 3, 4, 5, 6, 7, 8, 9, 10, 11, 12, 13], [13]), ([14, 15, 0, 1, 2, 3, 4, 5, 6, 7, 8, 9, 10, 11, 12, 13, 14, 15], [14])])
def nunciolaw11_TableFinds.B15 : List Nat := [0, 0, 0, 6, 14, 30, 0, 0, 192, 448, 960, 2047, 4095, 8191, 8191, 16383, 65535]
theorem nunciolaw11_TableFinds.tab15 : rtab .any (opsOf Tryd.f4 15) = nunciolaw11_TableFinds.T15 := by kernel_rfl
theorem nunciolaw11_TableFinds.bits15 : waitsOk nunciolaw11_TableFinds.T15.2 nunciolaw11_TableFinds.B15 = true := by kernel_rfl
def nunciolaw11_TableFinds.T16 : Bool × List (List Nat × List Nat) := (true, [([], []), ([], []), ([], []), ([1, 2], [1, 2]), ([3], [3]), ([4], [4]), ([], []), ([], []), ([6, 7], [6, 7]), ([8], [8]), ([9], [9]), ([0, 5, 10], [0, 5, 10]), ([11], [11]), ([12], [12]), ([12], [12]), ([13, 11, 0, 1, 2, 3, 4, 5, 6, 7, 8, 9, 10, 11, 12, 13], [13]), ([14, 15, 0, 1, 2, 3, 4, 5, 6, 7, 8, 9, 10, 11, 12, 13, 14, 15], [14])])
def nunciolaw11_TableFinds.B16 : List Nat := [0, 0, 0, 6, 14, 30, 0, 0, 192, 448, 960, 2047, 4095, 8191, 8191, 16383, 65535]
theorem nunciolaw11_TableFinds.tab16 : rtab .any (opsOf Tryd.f4 16) = nunciolaw11_TableFinds.T16 := by kernel_rfl
theorem nunciolaw11_TableFinds.bits16 : waitsOk nunciolaw11_TableFinds.T16.2 nunciolaw11_TableFinds.B16 = true := by kernel_rfl
def nunciolaw11_TableFinds.T20 : Bool × List (List Nat × List Nat) := (true, [([], []), ([], []), ([], []), ([1, 2], [1, 2]), ([3], [3]), ([4], [4]), ([], []), ([0, 5, 6], [0, 5, 6]), ([7], [7]), ([8], [8]), ([8], [8]), ([9, 7, 0, 1, 2, 3, 4, 5, 6, 7, 8, 9], [9]), ([10, 11, 0, 1, 2, 3, 4, 5, 6, 7, 8, 9, 10, 11], [10])])
def nunciolaw11_TableFinds.B20 : List Nat := [0, 0, 0, 6, 14, 30, 0, 127, 255, 511, 511, 1023, 4095]
theorem nunciolaw11_TableFinds.tab20 : rtab .any (opsOf Tryd.f4 20) = nunciolaw11_TableFinds.T20 := by kernel_rfl
theorem nunciolaw11_TableFinds.bits20 : waitsOk nunciolaw11_TableFinds.T20.2 nunciolaw11_TableFinds.B20 = true := by kernel_rfl
set_option maxHeartbeats 8000000 in
set_option maxRecDepth 100000 in
theorem nunciolaw11_TableFinds.calls (k : Nat) (a0 : Int) (A1 : Option Addr) (c1 : Nat) (l1 : List (S34)) (a2 : ByteArray) (a3 : ByteArray) (r : Bool) (w : World) (hE : EnvW w) (hr1 : Kd.C k34 w A1 l1.length l1) (hc1 : l1.length ≤ c1) (h : nunciolaw11_TableFinds.f k a0 l1 a2 a3 = some r) (hT : r = true) :
  Calls Tryd.prog 4 #[.int .i64 a0, .slice A1 l1.length c1, .string a2, .string a3] w fun e w' => e = .returned (.bool r) ∧ Below w.heap.size w w' := by
 have hu29 := Tryd.underlying29
 have hu34 := Tryd.underlying34
 have hu38 := Tryd.underlying38
 have HR1 := Aside0.mk hr1
 have HC1 := Aside0.mk hc1
 clear hr1 hc1
 have HB := Aside0.mk (Below.refl w.heap.size w)
 have HEnv := Aside0.mk hE
 clear hE
 have HT := Aside0.mk hT
 clear hT
 have H : ((nunciolaw11_awake.f).bind fun t235 => (if t235 = true then ((nunciolaw11_Few.f k l1).bind fun t236 => (if t236 = true then (if (l1.length : Int) > 100 then (nunciolaw11_TableFinds.j0 k a0 l1 a2 a3 true) else (if (a2.size : Int) > 3000 then (nunciolaw11_TableFinds.j0 k a0 l1 a2 a3 true) else (nunciolaw11_TableFinds.j0 k a0 l1 a2 a3 (decide ((a3.size : Int) > 3000))))) else (nunciolaw11_TableFinds.j0 k a0 l1 a2 a3 true))) else (some false))) = some r := h
 clear h
 replace H := Option.bind_eq_some_iff.mp H
 obtain ⟨t235, A50, H⟩ := H
 replace H : (if t235 = true then ((nunciolaw11_Few.f k l1).bind fun t236 => (if t236 = true then (if (l1.length : Int) > 100 then (nunciolaw11_TableFinds.j0 k a0 l1 a2 a3 true) else (if (a2.size : Int) > 3000 then (nunciolaw11_TableFinds.j0 k a0 l1 a2 a3 true) else (nunciolaw11_TableFinds.j0 k a0 l1 a2 a3 (decide ((a3.size : Int) > 3000))))) else (nunciolaw11_TableFinds.j0 k a0 l1 a2 a3 true))) else (some false)) = some r := H
 have A5 := Aside0.mk A50
 clear A50
 by_cases c6 : t235 = true
 ·
  subst c6
  have H1 : ((nunciolaw11_Few.f k l1).bind fun t236 => (if t236 = true then (if (l1.length : Int) > 100 then (nunciolaw11_TableFinds.j0 k a0 l1 a2 a3 true) else (if (a2.size : Int) > 3000 then (nunciolaw11_TableFinds.j0 k a0 l1 a2 a3 true) else (nunciolaw11_TableFinds.j0 k a0 l1 a2 a3 (decide ((a3.size : Int) > 3000))))) else (nunciolaw11_TableFinds.j0 k a0 l1 a2 a3 true))) = some r := by rw [if_pos rfl] at H; exact H
  clear H
  have H := H1
  clear H1
  have HC7 := Aside0.mk H
  clear H
  go_enter Tryd.func4, Tryd.ntmps4
  go_upto_region 3 with (first | ((with_reducible refine gate_callee (f := 8) rfl ?_); refine goesL_ (some 18) rfl rfl Tryd.func8 (by kernel_rfl) rfl #[] rfl (by (try simp only [List.map_toArray, List.map_cons, List.map_nil]); first | done | rfl | (simp only [List.length_drop, List.length_take]; rfl)) ?_; (with_reducible refine (nunciolaw11_awake.calls  true _ ?side1 A5.out).mono ?_); (case side1 => exact EnvW.below HEnv.out rfl (by repeat (first | (with_reducible first | exact HB.out | apply below_alloc | apply pw_below_drewN | apply below_drew1) | exact HB.out))); rintro e w8 ⟨rfl, hb⟩; refine ⟨_, rfl, ?_⟩; have n0_ := Aside0.mk (below_step (by repeat (first | (with_reducible first | exact HB.out | apply below_alloc | apply pw_below_drewN | apply below_drew1) | exact HB.out)) hb); clear HB; have HB := n0_; clear n0_; (try clear hb); (try clear hb2); (try clear hk); (try clear hi)))
  (try simp only [Act.put, List.setIfInBounds_toArray, List.set_cons_zero, List.set_cons_succ])
  go_cut [37] (fun v37 wc => ∃ (kq : Nat) (x37_6 : Bool), v37 = .bool x37_6 ∧ Aside0 (nunciolaw11_TableFinds.j0 kq a0 l1 a2 a3 x37_6 = some r) ∧ Aside0 (kq ≤ k) ∧ Aside0 (Below w.heap.size w wc))
  case first =>
   have H := HC7.out
   clear HC7
   replace H := Option.bind_eq_some_iff.mp H
   obtain ⟨t236, A90, H⟩ := H
   replace H : (if t236 = true then (if (l1.length : Int) > 100 then (nunciolaw11_TableFinds.j0 k a0 l1 a2 a3 true) else (if (a2.size : Int) > 3000 then (nunciolaw11_TableFinds.j0 k a0 l1 a2 a3 true) else (nunciolaw11_TableFinds.j0 k a0 l1 a2 a3 (decide ((a3.size : Int) > 3000))))) else (nunciolaw11_TableFinds.j0 k a0 l1 a2 a3 true)) = some r := H
   have A9 := Aside0.mk A90
   clear A90
   by_cases c10 : t236 = true
   ·
    subst c10
    have H1 : (if (l1.length : Int) > 100 then (nunciolaw11_TableFinds.j0 k a0 l1 a2 a3 true) else (if (a2.size : Int) > 3000 then (nunciolaw11_TableFinds.j0 k a0 l1 a2 a3 true) else (nunciolaw11_TableFinds.j0 k a0 l1 a2 a3 (decide ((a3.size : Int) > 3000))))) = some r := by rw [if_pos rfl] at H; exact H
    clear H
    have H := H1
    clear H1
    by_cases c11 : (l1.length : Int) > 100
    ·
     rw [if_pos c11] at H
     have c11b0 : decide (100 < (l1.length : Int)) = true := decide_eq_true c11
     have c11b1 : decide (100 < l1.length) = true := decide_eq_true (by omega)
     clear c11
     (first | rw [c11b0] | rw [c11b1] | (simp only [i64_w, i32_w]; rw [c11b0]) | skip)
     have H' := Aside0.mk H
     clear H
     go_wp2_with (first | ((with_reducible refine gate_callee (f := 9) rfl ?_); refine goesL_ (some 21) rfl rfl Tryd.func9 (by kernel_rfl) rfl #[.slice A1 l1.length c1] rfl (by (try simp only [List.map_toArray, List.map_cons, List.map_nil]); first | done | rfl | (simp only [List.length_drop, List.length_take]; rfl)) ?_; (with_reducible refine (nunciolaw11_Few.calls k _ _ l1 true _ ?side1 ?side2 A9.out).mono ?_); (case side1 => repeat (first | exact (Kd.C_below HR1.out HB.out) | (with_reducible refine Kd.C_alloc ?_ _) | (with_reducible refine Kd.C_drewN ?_ _) | (with_reducible refine Kd.C_drew ?_))); (case side2 => exact HC1.out); rintro e w12 ⟨rfl, hb⟩; refine ⟨_, rfl, ?_⟩; have n0_ := Aside0.mk (below_step (by repeat (first | (with_reducible first | exact HB.out | apply below_alloc | apply pw_below_drewN | apply below_drew1) | exact HB.out)) hb); clear HB; have HB := n0_; clear n0_; (try clear hb); (try clear hb2); (try clear hk); (try clear hi)))
     go_meet
     case rel => exact ⟨_, (true), (by first | rfl | (simp; done) | (simp [*]; done)), H', ⟨by first | omega | exact Nat.le_refl _⟩, ⟨by repeat (first | (with_reducible first | exact HB.out | apply below_alloc | apply pw_below_drewN | apply below_drew1) | exact HB.out)⟩⟩
    ·
     rw [if_neg c11] at H
     have c11b0 : decide (100 < (l1.length : Int)) = false := decide_eq_false c11
     have c11b1 : decide (100 < l1.length) = false := decide_eq_false (by omega)
     clear c11
     (first | rw [c11b0] | rw [c11b1] | (simp only [i64_w, i32_w]; rw [c11b0]) | skip)
     by_cases c13 : (a2.size : Int) > 3000
     ·
      rw [if_pos c13] at H
      have c13b0 : decide (3000 < (a2.size : Int)) = true := decide_eq_true c13
      have c13b1 : decide (3000 < a2.size) = true := decide_eq_true (by omega)
      clear c13
      have H' := Aside0.mk H
      clear H
      go_wp2_with (first | ((with_reducible refine gate_callee (f := 9) rfl ?_); refine goesL_ (some 21) rfl rfl Tryd.func9 (by kernel_rfl) rfl #[.slice A1 l1.length c1] rfl (by (try simp only [List.map_toArray, List.map_cons, List.map_nil]); first | done | rfl | (simp only [List.length_drop, List.length_take]; rfl)) ?_; (with_reducible refine (nunciolaw11_Few.calls k _ _ l1 true _ ?side1 ?side2 A9.out).mono ?_); (case side1 => repeat (first | exact (Kd.C_below HR1.out HB.out) | (with_reducible refine Kd.C_alloc ?_ _) | (with_reducible refine Kd.C_drewN ?_ _) | (with_reducible refine Kd.C_drew ?_))); (case side2 => exact HC1.out); rintro e w14 ⟨rfl, hb⟩; refine ⟨_, rfl, ?_⟩; have n0_ := Aside0.mk (below_step (by repeat (first | (with_reducible first | exact HB.out | apply below_alloc | apply pw_below_drewN | apply below_drew1) | exact HB.out)) hb); clear HB; have HB := n0_; clear n0_; (try clear hb); (try clear hb2); (try clear hk); (try clear hi)))
      go_meet
      case rel => exact ⟨_, (true), (by first | rfl | (simp; done) | (simp [*]; done)), H', ⟨by first | omega | exact Nat.le_refl _⟩, ⟨by repeat (first | (with_reducible first | exact HB.out | apply below_alloc | apply pw_below_drewN | apply below_drew1) | exact HB.out)⟩⟩
     ·
      rw [if_neg c13] at H
      have c13b0 : decide (3000 < (a2.size : Int)) = false := decide_eq_false c13
      have c13b1 : decide (3000 < a2.size) = false := decide_eq_false (by omega)
      clear c13
      have H' := Aside0.mk H
      clear H
      go_wp2_with (first | ((with_reducible refine gate_callee (f := 9) rfl ?_); refine goesL_ (some 21) rfl rfl Tryd.func9 (by kernel_rfl) rfl #[.slice A1 l1.length c1] rfl (by (try simp only [List.map_toArray, List.map_cons, List.map_nil]); first | done | rfl | (simp only [List.length_drop, List.length_take]; rfl)) ?_; (with_reducible refine (nunciolaw11_Few.calls k _ _ l1 true _ ?side1 ?side2 A9.out).mono ?_); (case side1 => repeat (first | exact (Kd.C_below HR1.out HB.out) | (with_reducible refine Kd.C_alloc ?_ _) | (with_reducible refine Kd.C_drewN ?_ _) | (with_reducible refine Kd.C_drew ?_))); (case side2 => exact HC1.out); rintro e w15 ⟨rfl, hb⟩; refine ⟨_, rfl, ?_⟩; have n0_ := Aside0.mk (below_step (by repeat (first | (with_reducible first | exact HB.out | apply below_alloc | apply pw_below_drewN | apply below_drew1) | exact HB.out)) hb); clear HB; have HB := n0_; clear n0_; (try clear hb); (try clear hb2); (try clear hk); (try clear hi)))
      go_meet
      case rel => exact ⟨_, (decide ((a3.size : Int) > 3000)), (by first | rfl | (simp; done) | (simp [*]; done)), H', ⟨by first | omega | exact Nat.le_refl _⟩, ⟨by repeat (first | (with_reducible first | exact HB.out | apply below_alloc | apply pw_below_drewN | apply below_drew1) | exact HB.out)⟩⟩
   ·
    replace c10 := Bool.eq_false_iff.mpr c10
    subst c10
    have H1 : (nunciolaw11_TableFinds.j0 k a0 l1 a2 a3 true) = some r := by rw [if_neg (show ¬ (false = true) by decide)] at H; exact H
    clear H
    have H := H1
    clear H1
    have H' := Aside0.mk H
    clear H
    go_wp2_with (first | ((with_reducible refine gate_callee (f := 9) rfl ?_); refine goesL_ (some 21) rfl rfl Tryd.func9 (by kernel_rfl) rfl #[.slice A1 l1.length c1] rfl (by (try simp only [List.map_toArray, List.map_cons, List.map_nil]); first | done | rfl | (simp only [List.length_drop, List.length_take]; rfl)) ?_; (with_reducible refine (nunciolaw11_Few.calls k _ _ l1 false _ ?side1 ?side2 A9.out).mono ?_); (case side1 => repeat (first | exact (Kd.C_below HR1.out HB.out) | (with_reducible refine Kd.C_alloc ?_ _) | (with_reducible refine Kd.C_drewN ?_ _) | (with_reducible refine Kd.C_drew ?_))); (case side2 => exact HC1.out); rintro e w16 ⟨rfl, hb⟩; refine ⟨_, rfl, ?_⟩; have n0_ := Aside0.mk (below_step (by repeat (first | (with_reducible first | exact HB.out | apply below_alloc | apply pw_below_drewN | apply below_drew1) | exact HB.out)) hb); clear HB; have HB := n0_; clear n0_; (try clear hb); (try clear hb2); (try clear hk); (try clear hi)))
    go_meet
    case rel => exact ⟨_, (true), (by first | rfl | (simp; done) | (simp [*]; done)), H', ⟨by first | omega | exact Nat.le_refl _⟩, ⟨by repeat (first | (with_reducible first | exact HB.out | apply below_alloc | apply pw_below_drewN | apply below_drew1) | exact HB.out)⟩⟩
  case rest =>
   clear HC7
   try clear c1
   try clear p2
   try clear c4
   try clear c6
   try clear c8
   try clear c9
   try clear c10
   try clear c11
   try clear c11b0
   try clear c11b1
   try clear c13
   try clear c13b0
   try clear c13b1
   obtain ⟨kq, x37_6, rfl, HA, HJ6, HB⟩ := hcut
   cases kq with
   | zero => exact absurd HA.out (by simp [nunciolaw11_TableFinds.j0])
   | succ kj6 =>
    have H := HA.out
    clear HA
    simp only [nunciolaw11_TableFinds.j0] at H
    by_cases c17 : x37_6 = true
    ·
     subst c17
     have H1 : (some true) = some r := by rw [if_pos rfl] at H; exact H
     clear H
     have H := H1
     clear H1
     obtain rfl := Option.some.inj H
     go_wp2
     go_ret
     exact ⟨by first | rfl | (simp [errW_none, errW_some] <;> rfl) | (simp [*, errW_none, errW_some] <;> rfl), by repeat (first | (with_reducible first | exact HB.out | apply below_alloc | apply pw_below_drewN | apply below_drew1) | exact HB.out)⟩
    ·
     replace c17 := Bool.eq_false_iff.mpr c17
     subst c17
     have H1 : ((table_New.f a0).bind fun t237 => ((nuncioref11_New.f a0).bind fun bt239 => (nunciolaw11_TableFinds.l0 kj6 l1 a2 a3 0 t237 bt239.1 bt239.2))) = some r := by rw [if_neg (show ¬ (false = true) by decide)] at H; exact H
     clear H
     have H := H1
     clear H1
     replace H := Option.bind_eq_some_iff.mp H
     obtain ⟨t237, A180, H⟩ := H
     replace H : ((nuncioref11_New.f a0).bind fun bt239 => (nunciolaw11_TableFinds.l0 kj6 l1 a2 a3 0 t237 bt239.1 bt239.2)) = some r := H
     have A18 := Aside0.mk A180
     clear A180
     replace H := Option.bind_eq_some_iff.mp H
     obtain ⟨⟨t239, t240⟩, A190, H⟩ := H
     replace H : (nunciolaw11_TableFinds.l0 kj6 l1 a2 a3 0 t237 t239 t240) = some r := H
     have A19 := Aside0.mk A190
     clear A190
     have H' := Aside0.mk H
     clear H
     go_wp2_with (first | ((with_reducible refine gate_callee (f := 10) rfl ?_); refine goesL_ (some 39) rfl rfl Tryd.func10 (by kernel_rfl) rfl #[.int .i64 a0] rfl (by (try simp only [List.map_toArray, List.map_cons, List.map_nil]); first | done | rfl | (simp only [List.length_drop, List.length_take]; rfl)) ?_; (with_reducible refine (table_New.calls a0 t237 w _ ?side1 ?side2 A18.out).mono ?_); (case side1 => repeat (first | (with_reducible first | exact HB.out | apply below_alloc | apply pw_below_drewN | apply below_drew1) | exact HB.out)); (case side2 => exact EnvW.below HEnv.out rfl (by repeat (first | (with_reducible first | exact HB.out | apply below_alloc | apply pw_below_drewN | apply below_drew1) | exact HB.out))); rintro e w20 ⟨g238, rfl, hi, hb, hb2⟩; refine ⟨_, rfl, ?_⟩; have n0_ := Aside0.mk (hb); have n1_ := Aside0.mk (hi); clear HB; have HB := n0_; have HI238 := n1_; clear n0_ n1_; (try clear hb); (try clear hb2); (try clear hk); (try clear hi)) | ((with_reducible refine gate_callee (f := 11) rfl ?_); refine goesL_ (some 41) rfl rfl Tryd.func11 (by kernel_rfl) rfl #[.int .i64 a0] rfl (by (try simp only [List.map_toArray, List.map_cons, List.map_nil]); first | done | rfl | (simp only [List.length_drop, List.length_take]; rfl)) ?_; (with_reducible refine (nuncioref11_New.calls a0 t239 t240 _ A19.out).mono ?_); rintro e w21 ⟨v241, rfl, ho0, hb⟩; refine ⟨_, rfl, ?_⟩; have n0_ := Aside0.mk (Kd.R_lower ho0 (below_size (by repeat (first | (with_reducible first | exact HB.out | apply below_alloc | apply pw_below_drewN | apply below_drew1 | refine below_set ?_ (IsS57.ge HI238.out)) | exact HB.out)))); have n1_ := Aside0.mk (IsS57.below (by repeat (first | (with_reducible first | exact HI238.out | apply IsS57.alloc | apply IsS57.drewN | apply IsS57.drew) | exact HI238.out)) hb); have n2_ := Aside0.mk (below_step (by repeat (first | (with_reducible first | exact HB.out | apply below_alloc | apply pw_below_drewN | apply below_drew1 | refine below_set ?_ (IsS57.ge HI238.out)) | exact HB.out)) hb); clear HI238; clear HB; have HO242 := n0_; have HI238 := n1_; have HB := n2_; clear n0_ n1_ n2_; (try clear hb); (try clear hb2); (try clear hk); (try clear hi); (try clear ho0)) | ((with_reducible refine gate_dst (N := 10) rfl ?_); (try (refine gate_guard (by rfl) ?_; dsimp only)); refine box_event ?hg (N := 10) ?hd (cs := #[.int .i64 0, .slice none 0 0]) (t := 29) ?hr ?_; (case hd => rfl); (case hg => rfl); (case hr => first | (go_simp; done) | (go_simp; rfl)); intro gb243 hg w22 hbox hb; have n0_ := Aside0.mk (Kd.R_below (by (with_reducible repeat (first | apply Kd.R_alloc | apply Kd.R_drewN | apply Kd.R_drew)); exact HO242.out) hb); have n1_ := Aside0.mk (IsS57.below (by repeat (first | (with_reducible first | exact HI238.out | apply IsS57.alloc | apply IsS57.drewN | apply IsS57.drew) | exact HI238.out)) hb); have n2_ := Aside0.mk (below_step (by repeat (first | (with_reducible first | exact HB.out | apply below_alloc | apply pw_below_drewN | apply below_drew1 | refine below_set ?_ (IsS57.ge HI238.out)) | exact HB.out)) hb); have n3_ := Aside0.mk (hbox); have n4_ := Aside0.mk ((by rw [hg]; exact (below_size (by repeat (first | (with_reducible first | exact HB.out | apply below_alloc | apply pw_below_drewN | apply below_drew1 | refine below_set ?_ (IsS57.ge HI238.out)) | exact HB.out))) : w.heap.size ≤ gb243)); have n5_ := Aside0.mk ((by rw [hg]; exact (below_size (by repeat (first | (with_reducible first | exact HB.out | apply below_alloc | apply pw_below_drewN | apply below_drew1 | refine below_set ?_ (IsS57.ge HI238.out)) | exact HB.out))) : w.heap.size ≤ gb243)); have n6_ := Aside0.mk ((by rw [hg]; exact Nat.ne_of_lt (IsS57.lt (show IsS57 w _ g238 t237 from by repeat (first | (with_reducible first | exact HI238.out | apply IsS57.alloc | apply IsS57.drewN | apply IsS57.drew) | exact HI238.out))) : g238 ≠ gb243)); have n7_ := Aside0.mk ((by rw [hg]; exact Nat.ne_of_gt (IsS57.lt (show IsS57 w _ g238 t237 from by repeat (first | (with_reducible first | exact HI238.out | apply IsS57.alloc | apply IsS57.drewN | apply IsS57.drew) | exact HI238.out))) : gb243 ≠ g238)); clear HO242; clear HI238; clear HB; have HO242 := n0_; have HI238 := n1_; have HB := n2_; have BK243 := n3_; have GW243 := n4_; have GE243 := n5_; have NB238_243 := n6_; have NB243_238 := n7_; clear n0_ n1_ n2_ n3_ n4_ n5_ n6_ n7_; clear hb hbox hg; have hnb23 := NB243_238.out; have hnc23 := NB238_243.out; have hcz24_0 : w22.cell? ⟨gb243, 0, none⟩ = some (.int .i64 0) := (blk_cell BK243.out 0).trans rfl; have hcz24_1 : w22.cell? ⟨gb243, 1, none⟩ = some (.slice none 0 0) := (blk_cell BK243.out 1).trans rfl; have hfz24_0 := blk_frozen BK243.out 0; have hfz24_1 := blk_frozen BK243.out 1; obtain ⟨Ao25, co25, eo25⟩ := Kd.R_slice HO242.out; subst eo25))
     go_loopg [11] kj6 (fun kq v11 w' => ∃ (x11_2 : Int) (x239000_2 : TB) (x244000_2 : Int) (x244001_2 : List (S38)) (u244001 : Value), v11 = .int .i64 x11_2 ∧ Aside0 (nunciolaw11_TableFinds.l0 kq l1 a2 a3 x11_2 x239000_2 x244000_2 x244001_2 = some r) ∧ Aside0 (kq ≤ kj6) ∧ Aside0 (Kd.R k38 38 w' w.heap.size (fun _ => True) u244001 x244001_2) ∧ Aside0 (w'.heap[gb243]? = some (.cells #[.int .i64 x244000_2, u244001] 29 (0, 0))) ∧ Aside0 (IsS57 w w' g238 x239000_2) ∧ Aside0 (Below w.heap.size w w'))
     case atStart => exact ⟨(0), (t237), (t239), (t240), (.slice Ao25 t240.length co25), (by first | rfl | (simp; done) | (simp [*]; done)), H', ⟨Nat.le_refl _⟩, ⟨by (with_reducible repeat (first | apply Kd.R_alloc | apply Kd.R_drewN | apply Kd.R_drew)); exact Kd.R_mono (Kd.R_far (p := ⟨gb243, 1, none⟩) (Kd.R_far (p := ⟨gb243, 0, none⟩) (Kd.R_types HO242.out BK243.out (by decide)) (fun _ hk => hk.2) (.int .i64 t239)) (fun _ hk => hk.2) (.slice Ao25 t240.length co25)) (fun _ hk => trivial)⟩, ⟨by (with_reducible repeat (first | refine blk_drewN ?_ _ | refine blk_drew ?_ | refine blk_alloc ?_ _)); refine blk_put (cs := #[.int .i64 t239, .slice none 0 0]) ?_ 1 _ rfl; (with_reducible repeat (first | refine blk_drewN ?_ _ | refine blk_drew ?_ | refine blk_alloc ?_ _)); refine blk_put (cs := #[.int .i64 0, .slice none 0 0]) ?_ 0 _ rfl; (with_reducible repeat (first | refine blk_drewN ?_ _ | refine blk_drew ?_ | refine blk_alloc ?_ _)); exact BK243.out⟩, ⟨by repeat (first | (with_reducible first | exact HI238.out | apply IsS57.alloc | apply IsS57.drewN | apply IsS57.drew | refine IsS57.farT ?_ (by repeat (first | exact TyOf.mk BK243.out | apply TyOf.alloc | apply TyOf.drewN | apply TyOf.drew | apply TyOf.set)) (by decide) _) | exact HI238.out)⟩, ⟨by repeat (first | (with_reducible first | exact HB.out | apply below_alloc | apply pw_below_drewN | apply below_drew1 | refine below_set ?_ (IsS57.ge HI238.out) | refine below_set ?_ GE243.out) | exact HB.out)⟩⟩
     case round =>
      clear H'
      try clear c1
      try clear c2
      try clear p2
      try clear c4
      try clear c6
      try clear c8
      try clear c9
      try clear c10
      try clear c11
      try clear c11b0
      try clear c11b1
      try clear c13
      try clear c13b0
      try clear c13b1
      try clear c17
      try clear c23
      try clear hcz24_0
      try clear hcz24_1
      try clear hfz24_0
      try clear hfz24_1
      try clear p2
      obtain ⟨x11_2, x239000_2, x244000_2, x244001_2, u244001, rfl, HA, HK2, HO_244001, BK243, HI238, HB⟩ := hrel
      cases gk with
      | zero => exact absurd HA.out (by simp [nunciolaw11_TableFinds.l0])
      | succ k2 =>
       have H := HA.out
       clear HA
       simp only [nunciolaw11_TableFinds.l0] at H
       by_cases c26 : x11_2 < (l1.length : Int)
       ·
        rw [if_pos c26] at H
        have c26b0 : decide (x11_2 < (l1.length : Int)) = true := decide_eq_true c26
        clear c26
        by_cases c27 : 0 ≤ x11_2
        ·
         rw [if_pos c27] at H
         have c27b0 : decide (0 ≤ x11_2) = true := decide_eq_true c27
         clear c27
         replace H := Option.bind_eq_some_iff.mp H
         obtain ⟨⟨t245, t246, t249⟩, A280, H⟩ := H
         replace H : (nunciolaw11_TableFinds.l0 k2 l1 a2 a3 (wrap64 (x11_2 + 1)) t249 t245 t246) = some r := H
         have A28 := Aside0.mk A280
         clear A280
         have H' := Aside0.mk H
         clear H
         try go_wp2
         have n0_ := Aside0.mk (Kd.R_drew HO_244001.out)
         have n1_ := Aside0.mk (blk_drew BK243.out)
         have n2_ := Aside0.mk (IsS57.drew HI238.out)
         have n3_ := Aside0.mk (below_drew1 HB.out)
         clear HO_244001
         clear BK243
         clear HI238
         clear HB
         have HO_244001 := n0_
         have BK243 := n1_
         have HI238 := n2_
         have HB := n3_
         clear n0_ n1_ n2_ n3_
         have p244 : 0 ≤ (x11_2 : Int) := of_decide_eq_true (by first | (with_reducible assumption) | assumption)
         have q244 : x11_2 < (l1.length : Int) := of_decide_eq_true (by first | (with_reducible assumption) | assumption)
         obtain ⟨ad244, e244, hx244_0, hx244_1, hx244_2⟩ := at_T34 HR1.out x11_2 p244 q244
         have hw244_2 := hx244_2
         have hw244_1 := hx244_1
         have hw244_0 := hx244_0
         cases e244
         replace hx244_0 := (HB.out.cell (World.block_lt_of_cell? w _ hx244_0)).trans hx244_0
         replace hx244_1 := (HB.out.cell (World.block_lt_of_cell? w _ hx244_1)).trans hx244_1
         replace hx244_2 := (HB.out.cell (World.block_lt_of_cell? w _ hx244_2)).trans hx244_2
         replace p244 := eq_true p244
         replace q244 := eq_true q244
         obtain ⟨Ao30, co30, eo30⟩ := Kd.R_slice HO_244001.out
         (first | subst eo30 | (injection eo30 with f1_ f2_ f3_; have f4_ := f1_.symm; have f5_ := f3_.symm; clear f1_ f2_ f3_; subst f4_; subst f5_))
         refine start_ (n := 8) (S := fun w' => w'.cell? ⟨gb243, 0, none⟩ = some (.int .i64 x244000_2) ∧ w'.cell? ⟨gb243, 1, none⟩ = some (.slice Ao30 x244001_2.length co30) ∧ w'.cell? (ad244.add ((x11_2).toNat * 3)) = some (.string ((rd_T34 l1 x11_2).f0)) ∧ w'.cell? ⟨(ad244.add ((x11_2).toNat * 3)).block, (ad244.add ((x11_2).toNat * 3)).off + 1, none⟩ = some (.string ((rd_T34 l1 x11_2).f1)) ∧ w'.cell? ⟨(ad244.add ((x11_2).toNat * 3)).block, (ad244.add ((x11_2).toNat * 3)).off + 2, none⟩ = some (.int .i64 ((rd_T34 l1 x11_2).f2))) (ds := [7]) #[false, false, false, false, false, false, false, false] (by kernel_rfl) rfl rfl ⟨(blk_cell BK243.out 0).trans rfl, (blk_cell BK243.out 1).trans rfl, ((HB.out.cell (World.block_lt_of_cell? w _ hw244_0)).trans hw244_0), ((HB.out.cell (World.block_lt_of_cell? w _ hw244_1)).trans hw244_1), ((HB.out.cell (World.block_lt_of_cell? w _ hw244_2)).trans hw244_2)⟩ (fun hHeld => ?_); refine with_tabW nunciolaw11_TableFinds.tab10 nunciolaw11_TableFinds.bits10 (fun HT_ HW_ => ?_)
         generalize wr.drew = w29 at HO_244001 BK243 HI238 HB hx244_0 hx244_1 hx244_2 hHeld ⊢
         refine pure_ (i := 0) (N := some 48) (v := ?_) (a' := ?_) #[true, false, false, false, false, false, false, false] rfl rfl (any_of HT_.out (by kernel_rfl)) (fun _ _ _ h => h) (Or.inl ⟨by rfl, ?_⟩) ?_ ?_
         rotate_left
         ·
          intro w'
          go_simp
          with_reducible rfl
         rotate_left
         ·
          simp only [Act.put, List.setIfInBounds_toArray, List.set_cons_zero, List.set_cons_succ, i64_w, i32_w]
          rfl
         refine pure_ (i := 2) (N := some 50) (v := ?_) (a' := ?_) #[true, false, true, false, false, false, false, false] rfl rfl (any_of HT_.out (by kernel_rfl)) (fun _ _ _ h => h) (Or.inl ⟨by rfl, ?_⟩) ?_ ?_
         rotate_left
         ·
          intro w'
          go_simp
          with_reducible rfl
         rotate_left
         ·
          simp only [Act.put, List.setIfInBounds_toArray, List.set_cons_zero, List.set_cons_succ, i64_w, i32_w]
          rfl
         refine pure_ (i := 3) (N := some 51) (v := ?_) (a' := ?_) #[true, false, true, true, false, false, false, false] rfl rfl (any_of HT_.out (by kernel_rfl)) (fun _ _ _ h => h) (Or.inl ⟨by rfl, ?_⟩) ?_ ?_
         rotate_left
         ·
          intro w'
          go_simp
          with_reducible rfl
         rotate_left
         ·
          simp only [Act.put, List.setIfInBounds_toArray, List.set_cons_zero, List.set_cons_succ, i64_w, i32_w]
          rfl
         refine pure_ (i := 4) (N := some 52) (v := ?_) (a' := ?_) #[true, false, true, true, true, false, false, false] rfl rfl (any_of HT_.out (by kernel_rfl)) (fun _ _ _ h => h) (Or.inl ⟨by rfl, ?_⟩) ?_ ?_
         rotate_left
         ·
          intro w'
          go_simp
          with_reducible rfl
         rotate_left
         ·
          simp only [Act.put, List.setIfInBounds_toArray, List.set_cons_zero, List.set_cons_succ, i64_w, i32_w]
          rfl
         refine take_ (i := 1) (N := some 49) (v := ?_) (a' := ?_) #[true, true, true, true, true, false, false, false] rfl rfl (take_ofW HT_.out HW_.out (by kernel_rfl)) (fun _ _ _ h => h) (Or.inl ⟨by rfl, ?_⟩) hHeld ?_ ?_
         rotate_left
         ·
          rintro w' ⟨s0, s1, s2, s3, s4⟩
          go_simp
          with_reducible rfl
         rotate_left
         ·
          simp only [Act.put, List.setIfInBounds_toArray, List.set_cons_zero, List.set_cons_succ, i64_w, i32_w]
          rfl
         refine take_ (i := 5) (N := some 53) (v := ?_) (a' := ?_) #[true, true, true, true, true, true, false, false] rfl rfl (take_ofW HT_.out HW_.out (by kernel_rfl)) (fun _ _ _ h => h) (Or.inl ⟨by rfl, ?_⟩) hHeld ?_ ?_
         rotate_left
         ·
          rintro w' ⟨s0, s1, s2, s3, s4⟩
          go_simp
          with_reducible rfl
         rotate_left
         ·
          simp only [Act.put, List.setIfInBounds_toArray, List.set_cons_zero, List.set_cons_succ, i64_w, i32_w]
          rfl
         refine one_ (i := 6) (N := some 54) #[true, true, true, true, true, true, true, false] rfl rfl (one_of HT_.out (by kernel_rfl)) (by decide) (fun K hK => ?_)
         refine goes_ Tryd.func13 (by kernel_rfl) rfl #[.pointer (some ⟨g238, 0, none⟩), .agg #[.int .i64 x244000_2, .slice Ao30 x244001_2.length co30], .agg #[.string ((rd_T34 l1 x11_2).f0), .string ((rd_T34 l1 x11_2).f1), .int .i64 ((rd_T34 l1 x11_2).f2)]] (by rfl) rfl rfl (by (try simp only [List.map_toArray, List.map_cons, List.map_nil]); first | done | rfl | (simp only [List.length_drop, List.length_take]; rfl)) ?_
         with_reducible refine (nunciolaw11_play.calls k2 g238 x239000_2 x244000_2 _ _ x244001_2 ((rd_T34 l1 x11_2).f0) ((rd_T34 l1 x11_2).f1) ((rd_T34 l1 x11_2).f2) t245 t246 t249 w _ ?side1 ?side2 ?side3 ?side4 A28.out).mono ?_
         (case side1 => repeat (first | (with_reducible first | exact HI238.out | apply IsS57.alloc | apply IsS57.drewN | apply IsS57.drew | refine IsS57.farT ?_ (by repeat (first | exact TyOf.mk BK243.out | apply TyOf.alloc | apply TyOf.drewN | apply TyOf.drew | apply TyOf.set)) (by decide) _) | exact HI238.out))
         (case side2 => repeat (first | (with_reducible first | exact HB.out | apply below_alloc | apply pw_below_drewN | apply below_drew1 | refine below_set ?_ (IsS57.ge HI238.out) | refine below_set ?_ GE243.out) | exact HB.out))
         (case side3 => exact Kd.C_foot_own (IsS57.apart (show IsS57 w _ g238 x239000_2 from by repeat (first | (with_reducible first | exact HI238.out | apply IsS57.alloc | apply IsS57.drewN | apply IsS57.drew | refine IsS57.farT ?_ (by repeat (first | exact TyOf.mk BK243.out | apply TyOf.alloc | apply TyOf.drewN | apply TyOf.drew | apply TyOf.set)) (by decide) _) | exact HI238.out)) (by (with_reducible repeat (first | apply Kd.R_alloc | apply Kd.R_drewN | apply Kd.R_drew)); exact HO_244001.out) (by decide)) (fun _ h_ => h_.2))
         (case side4 => exact (Kd.R_reads' HO_244001.out).2.1)
         rintro e w31 ⟨v247, rfl, ho0, hi, hb, hk⟩
         refine ⟨_, rfl, ?_⟩
         have n0_ := Aside0.mk (Kd.R_mono (Kd.R_told (Kd.R_oldK (IsS57.apart (show IsS57 w _ g238 x239000_2 from by repeat (first | (with_reducible first | exact HI238.out | apply IsS57.alloc | apply IsS57.drewN | apply IsS57.drew | refine IsS57.farT ?_ (by repeat (first | exact TyOf.mk BK243.out | apply TyOf.alloc | apply TyOf.drewN | apply TyOf.drew | apply TyOf.set)) (by decide) _) | exact HI238.out)) (by (with_reducible repeat (first | apply Kd.R_alloc | apply Kd.R_drewN | apply Kd.R_drew)); exact HO_244001.out) (by decide)) hk) (Kd.R_base ho0)) (fun _ h_ => h_.1))
         have n1_ := Aside0.mk (KeepBut.blk hk (g' := gb243) (o := .cells #[.int .i64 x244000_2, .slice Ao30 x244001_2.length co30] 29 (0, 0)) (by (with_reducible repeat (first | refine blk_drewN ?_ _ | refine blk_drew ?_ | refine blk_alloc ?_ _)); exact BK243.out) NB243_238.out (by simp))
         have n2_ := Aside0.mk (Kd.R_lower (Kd.R_new' ho0 (Kd.R_lt (by (with_reducible repeat (first | apply Kd.R_alloc | apply Kd.R_drewN | apply Kd.R_drew)); exact HO_244001.out))) (below_size (by repeat (first | (with_reducible first | exact HB.out | apply below_alloc | apply pw_below_drewN | apply below_drew1 | refine below_set ?_ (IsS57.ge HI238.out) | refine below_set ?_ GE243.out) | exact HB.out))))
         have n3_ := Aside0.mk (hb)
         have n4_ := Aside0.mk (hi)
         clear HO_244001
         clear BK243
         clear HB
         clear HI238
         have HO_244001 := n0_
         have BK243 := n1_
         have HO248 := n2_
         have HB := n3_
         have HI238 := n4_
         clear n0_ n1_ n2_ n3_ n4_
         (try clear hb)
         (try clear hb2)
         (try clear hk)
         (try clear hi)
         (try clear ho0)
         obtain ⟨Ao33, co33, eo33⟩ := Kd.R_slice HO248.out
         (first | subst eo33 | (injection eo33 with f1_ f2_ f3_; have f4_ := f1_.symm; have f5_ := f3_.symm; clear f1_ f2_ f3_; subst f4_; subst f5_))
         refine hK.out _ _ ⟨(blk_cell BK243.out 0).trans rfl, (blk_cell BK243.out 1).trans rfl, ((HB.out.cell (World.block_lt_of_cell? w _ hw244_0)).trans hw244_0), ((HB.out.cell (World.block_lt_of_cell? w _ hw244_1)).trans hw244_1), ((HB.out.cell (World.block_lt_of_cell? w _ hw244_2)).trans hw244_2)⟩ (fun hHeld => ?_)
         clear hK K
         refine norm_ (a' := ?_) ?_ ?_
         rotate_left
         ·
          show Act.put _ (some 54) _ = _
          simp only [Act.put, List.setIfInBounds_toArray, List.set_cons_zero, List.set_cons_succ, i64_w, i32_w]
          rfl
         refine last_ (i := 7) (N := none) #[true, true, true, true, true, true, true, true] rfl rfl (one_of HT_.out (by kernel_rfl)) (by decide) (fun K hK => ?_)
         have hs32 : w31.cell? ⟨gb243, 0, none⟩ = some (.int .i64 x244000_2) := (blk_cell BK243.out 0).trans rfl
         have hfs32 := blk_frozen BK243.out 0
         have hs34 : w31.cell? ⟨gb243, 1, none⟩ = some (.slice Ao30 x244001_2.length co30) := (blk_cell BK243.out 1).trans rfl
         have hfs34 := blk_frozen BK243.out 1
         refine skip_ (w1 := ?_) (by rfl) rfl ?_ ?_
         rotate_left
         ·
          go_simp
          rfl
         refine hK.out _ _ ?_
         clear hK K
         refine done_ (done_of HT_.out (by kernel_rfl)) ?_
         try go_wp2
         go_roundg k2
         case measure => have := HJ6.out; have := HK2.out; omega
         case rel => exact ⟨(wrap64 (x11_2 + 1)), (t249), (t245), (t246), (.slice Ao33 t246.length co33), (by first | rfl | (simp; done) | (simp [*]; done)), H', ⟨by have := HJ6.out; have := HK2.out; omega⟩, ⟨by (with_reducible repeat (first | apply Kd.R_alloc | apply Kd.R_drewN | apply Kd.R_drew)); exact Kd.R_mono (Kd.R_far (p := ⟨gb243, 1, none⟩) (Kd.R_far (p := ⟨gb243, 0, none⟩) (Kd.R_types HO248.out BK243.out (by decide)) (fun _ hk => hk.2) (.int .i64 t245)) (fun _ hk => hk.2) (.slice Ao33 t246.length co33)) (fun _ hk => trivial)⟩, ⟨by (with_reducible repeat (first | refine blk_drewN ?_ _ | refine blk_drew ?_ | refine blk_alloc ?_ _)); refine blk_put (cs := #[.int .i64 t245, .slice Ao30 x244001_2.length co30]) ?_ 1 _ rfl; (with_reducible repeat (first | refine blk_drewN ?_ _ | refine blk_drew ?_ | refine blk_alloc ?_ _)); refine blk_put (cs := #[.int .i64 x244000_2, .slice Ao30 x244001_2.length co30]) ?_ 0 _ rfl; (with_reducible repeat (first | refine blk_drewN ?_ _ | refine blk_drew ?_ | refine blk_alloc ?_ _)); exact BK243.out⟩, ⟨by repeat (first | (with_reducible first | exact HI238.out | apply IsS57.alloc | apply IsS57.drewN | apply IsS57.drew | refine IsS57.farT ?_ (by repeat (first | exact TyOf.mk BK243.out | apply TyOf.alloc | apply TyOf.drewN | apply TyOf.drew | apply TyOf.set)) (by decide) _) | exact HI238.out)⟩, ⟨by repeat (first | (with_reducible first | exact HB.out | apply below_alloc | apply pw_below_drewN | apply below_drew1 | refine below_set ?_ (IsS57.ge HI238.out) | refine below_set ?_ GE243.out) | exact HB.out)⟩⟩
        ·
         rw [if_neg c27] at H
         exact absurd H (by simp)
       ·
        rw [if_neg c26] at H
        have c26b0 : decide (x11_2 < (l1.length : Int)) = false := decide_eq_false c26
        clear c26
        replace H := Option.bind_eq_some_iff.mp H
        obtain ⟨t250, A350, H⟩ := H
        replace H : (if t250.length < 4398046511104 then (nunciolaw11_TableFinds.l1 k2 a3 (t250 ++ [(⟨a2, a3⟩ : S38)]) 0 x239000_2 x244000_2 x244001_2) else (none)) = some r := H
        have A35 := Aside0.mk A350
        clear A350
        by_cases c36 : t250.length < 4398046511104
        ·
         rw [if_pos c36] at H
         have LMc36 := Aside0.mk c36
         clear c36
         obtain ⟨y253, hy253⟩ : ∃ y_ : List (S38), y_ = (t250 ++ [(⟨a2, a3⟩ : S38)]) := ⟨_, rfl⟩
         replace H : (nunciolaw11_TableFinds.l1 k2 a3 y253 0 x239000_2 x244000_2 x244001_2) = some r := by first | (rw [hy253]; with_reducible exact H) | (have H2_ := (Option.bind_some _ _).symm.trans H; rw [hy253]; with_reducible exact H2_) | (have H2_ := (Option.bind_some _ _).symm.trans H; with_reducible exact H2_) | with_reducible exact H | (rw [hy253]; exact H) | exact H
         have Ny253 := Aside0.mk hy253
         clear hy253
         have H' := Aside0.mk H
         clear H
         have hnb37 := NB243_238.out
         have hnc37 := NB238_243.out
         have hcz38_0 : wr.cell? ⟨gb243, 0, none⟩ = some (.int .i64 x244000_2) := (blk_cell BK243.out 0).trans rfl
         have hcz38_1 : wr.cell? ⟨gb243, 1, none⟩ = some (u244001) := (blk_cell BK243.out 1).trans rfl
         have hfz38_0 := blk_frozen BK243.out 0
         have hfz38_1 := blk_frozen BK243.out 1
         obtain ⟨Ao39, co39, eo39⟩ := Kd.R_slice HO_244001.out
         subst eo39
         go_wp2_with (first | ((with_reducible refine gate_callee (f := 16) rfl ?_); refine goesL_ (some 56) rfl rfl Tryd.func16 (by kernel_rfl) rfl #[.agg #[.int .i64 x244000_2, .slice Ao39 x244001_2.length co39]] rfl (by (try simp only [List.map_toArray, List.map_cons, List.map_nil]); first | done | rfl | (simp only [List.length_drop, List.length_take]; rfl)) ?_; (with_reducible refine (nuncioref11_All.calls k2 x244000_2 _ _ x244001_2 t250 _ ?side1 ?side2 A35.out).mono ?_); (case side1 => repeat (first | exact (Kd.R_reads' HO_244001.out).2.2 | (with_reducible refine Kd.C_alloc ?_ _) | (with_reducible refine Kd.C_drewN ?_ _) | (with_reducible refine Kd.C_drew ?_))); (case side2 => exact (Kd.R_reads' HO_244001.out).2.1); rintro e w40 ⟨v251, rfl, ho0, hb⟩; refine ⟨_, rfl, ?_⟩; have n0_ := Aside0.mk (Kd.R_elder' (by (with_reducible repeat (first | apply Kd.R_alloc | apply Kd.R_drewN | apply Kd.R_drew)); exact HO_244001.out) (Kd.R_base ho0) hb); have n1_ := Aside0.mk (Kd.R_lower (Kd.R_new' ho0 (Kd.R_lt (by (with_reducible repeat (first | apply Kd.R_alloc | apply Kd.R_drewN | apply Kd.R_drew)); exact HO_244001.out))) (below_size (by repeat (first | (with_reducible first | exact HB.out | apply below_alloc | apply pw_below_drewN | apply below_drew1 | refine below_set ?_ (IsS57.ge HI238.out) | refine below_set ?_ GE243.out) | exact HB.out)))); have n2_ := Aside0.mk (blk_below (g := gb243) (o := .cells #[.int .i64 x244000_2, .slice Ao39 x244001_2.length co39] 29 (0, 0)) (by (with_reducible repeat (first | refine blk_drewN ?_ _ | refine blk_drew ?_ | refine blk_alloc ?_ _)); exact BK243.out) hb); have n3_ := Aside0.mk (IsS57.below (by repeat (first | (with_reducible first | exact HI238.out | apply IsS57.alloc | apply IsS57.drewN | apply IsS57.drew | refine IsS57.farT ?_ (by repeat (first | exact TyOf.mk BK243.out | apply TyOf.alloc | apply TyOf.drewN | apply TyOf.drew | apply TyOf.set)) (by decide) _) | exact HI238.out)) hb); have n4_ := Aside0.mk (below_step (by repeat (first | (with_reducible first | exact HB.out | apply below_alloc | apply pw_below_drewN | apply below_drew1 | refine below_set ?_ (IsS57.ge HI238.out) | refine below_set ?_ GE243.out) | exact HB.out)) hb); clear HO_244001; clear BK243; clear HI238; clear HB; have HO_244001 := n0_; have HO252 := n1_; have BK243 := n2_; have HI238 := n3_; have HB := n4_; clear n0_ n1_ n2_ n3_ n4_; (try clear hb); (try clear hb2); (try clear hk); (try clear hi); (try clear ho0)) | ((with_reducible refine gate_builtin (b := .append) (xs := #[.tmp 56, .tmp 60]) rfl ?_); (try (refine gate_guard (by rfl) ?_; dsimp only)); at_builtin; refine Kd.R_append k38 (w0 := w) w.heap.size rfl (.tmp 56) (.tmp 60) 27 38 (.agg #[(.string ⟨#[]⟩), (.string ⟨#[]⟩)]) 32 rfl Tryd.underlying27 info38 rfl (by decide) (by omega) v251 t250 (⟨a2, a3⟩ : S38) [.string a2, .string a3] (fun k_ => some k_ ≠ (.slice Ao39 x244001_2.length co39 : Value).ownBlock) (fun _ => False) rfl rfl ?aP (fun _ hk => hk.elim) ?aF ?aO ?aB ?aS ?aL ?_; (case aP => exact k38_mkM _ _ _ (⟨a2, a3⟩ : S38)); (case aB => exact (by repeat (first | (with_reducible first | exact HB.out | apply below_alloc | apply pw_below_drewN | apply below_drew1 | refine below_set ?_ (IsS57.ge HI238.out) | refine below_set ?_ GE243.out) | exact HB.out))); (case aF => exact (fun k_ hk => Kd.fresh' (Kd.R_lt (by (with_reducible repeat (first | apply Kd.R_alloc | apply Kd.R_drewN | apply Kd.R_drew)); exact HO_244001.out)) k_ hk)); (case aO => exact (by (with_reducible repeat (first | apply Kd.R_alloc | apply Kd.R_drewN | apply Kd.R_drew)); exact Kd.R_mono HO252.out (fun _ hk => hk.2))); (case aS => exact (below_size (by repeat (first | (with_reducible first | exact HB.out | apply below_alloc | apply pw_below_drewN | apply below_drew1 | refine below_set ?_ (IsS57.ge HI238.out) | refine below_set ?_ GE243.out) | exact HB.out)))); (case aL => have := LMc36.out; omega); intro v254 w41 ho hb hg hat; rw [← Ny253.out] at ho; have n0_ := Aside0.mk (Kd.R_after (ok := (fun _ => True)) (by (with_reducible repeat (first | apply Kd.R_alloc | apply Kd.R_drewN | apply Kd.R_drew)); exact HO_244001.out) hg hat); have n1_ := Aside0.mk (blk_grown (g := gb243) (o := .cells #[.int .i64 x244000_2, .slice Ao39 x244001_2.length co39] 29 (0, 0)) (by (with_reducible repeat (first | refine blk_drewN ?_ _ | refine blk_drew ?_ | refine blk_alloc ?_ _)); exact BK243.out) hg (Kd.R_ne HO252.out BK243.out (by decide))); have n2_ := Aside0.mk (IsS57.grownT (by repeat (first | (with_reducible first | exact HI238.out | apply IsS57.alloc | apply IsS57.drewN | apply IsS57.drew | refine IsS57.farT ?_ (by repeat (first | exact TyOf.mk BK243.out | apply TyOf.alloc | apply TyOf.drewN | apply TyOf.drew | apply TyOf.set)) (by decide) _) | exact HI238.out)) (by repeat (first | exact Below.refl _ _ | apply below_alloc | apply pw_below_drewN | apply below_drew1)) hg HO252.out (by decide)); have n3_ := Aside0.mk (hb); have n4_ := Aside0.mk (ho); clear HO_244001; clear BK243; clear HI238; clear HB; clear HO252; have HO_244001 := n0_; have BK243 := n1_; have HI238 := n2_; have HB := n3_; have HO255 := n4_; clear n0_ n1_ n2_ n3_ n4_; clear ho hb hg hat))
         go_loopg [13] k2 (fun kq v13 w' => ∃ (x13_3 : Int) (x239000_3 : TB), v13 = .int .i64 x13_3 ∧ Aside0 (nunciolaw11_TableFinds.l1 kq a3 y253 x13_3 x239000_3 x244000_2 x244001_2 = some r) ∧ Aside0 (kq ≤ k2) ∧ Aside0 (Kd.R k38 38 w' w.heap.size (fun k_ => some k_ ≠ ((.slice Ao39 x244001_2.length co39) : Value).ownBlock) v254 y253) ∧ Aside0 (Kd.R k38 38 w' w.heap.size (fun k_ => some k_ ≠ (v254 : Value).ownBlock) (.slice Ao39 x244001_2.length co39) x244001_2) ∧ Aside0 (w'.heap[gb243]? = some (.cells #[.int .i64 x244000_2, (.slice Ao39 x244001_2.length co39)] 29 (0, 0))) ∧ Aside0 (IsS57 w w' g238 x239000_3) ∧ Aside0 (Below w.heap.size w w'))
         case atStart => exact ⟨(0), (x239000_2), (by first | rfl | (simp; done) | (simp [*]; done)), H', ⟨Nat.le_refl _⟩, ⟨by (with_reducible repeat (first | apply Kd.R_alloc | apply Kd.R_drewN | apply Kd.R_drew)); exact HO255.out⟩, ⟨by (with_reducible repeat (first | apply Kd.R_alloc | apply Kd.R_drewN | apply Kd.R_drew)); exact Kd.R_mono HO_244001.out (fun _ hk => hk.2)⟩, ⟨by (with_reducible repeat (first | refine blk_drewN ?_ _ | refine blk_drew ?_ | refine blk_alloc ?_ _)); exact BK243.out⟩, ⟨by repeat (first | (with_reducible first | exact HI238.out | apply IsS57.alloc | apply IsS57.drewN | apply IsS57.drew | refine IsS57.farT ?_ (by repeat (first | exact TyOf.mk BK243.out | apply TyOf.alloc | apply TyOf.drewN | apply TyOf.drew | apply TyOf.set)) (by decide) _) | exact HI238.out)⟩, ⟨by repeat (first | (with_reducible first | exact HB.out | apply below_alloc | apply pw_below_drewN | apply below_drew1 | refine below_set ?_ (IsS57.ge HI238.out) | refine below_set ?_ GE243.out) | exact HB.out)⟩⟩
         case round =>
          clear H'
          try clear c1
          try clear c2
          try clear p2
          try clear q2
          try clear hx2
          try clear c3
          try clear c4
          try clear c6
          try clear p6
          try clear c8
          try clear c9
          try clear c10
          try clear c11
          try clear c11b0
          try clear c11b1
          try clear c13
          try clear c13b0
          try clear c13b1
          try clear c16
          try clear c17
          try clear c23
          try clear p24
          try clear q24
          try clear hx24
          try clear c26
          try clear c26b0
          try clear c27
          try clear c27b0
          try clear c36
          try clear c37
          try clear hcz24_0
          try clear hcz24_1
          try clear hcz38_0
          try clear hcz38_1
          try clear hfz24_0
          try clear hfz24_1
          try clear hfz38_0
          try clear hfz38_1
          try clear hx244_0
          try clear hx244_1
          try clear hx244_2
          try clear p2
          try clear p244
          try clear q244
          obtain ⟨x13_3, x239000_3, rfl, HA, HK3, HO_12, HO_244001, BK243, HI238, HB⟩ := hrel
          cases gk with
          | zero => exact absurd HA.out (by simp [nunciolaw11_TableFinds.l1])
          | succ k3 =>
           have H := HA.out
           clear HA
           simp only [nunciolaw11_TableFinds.l1] at H
           by_cases c42 : x13_3 < (y253.length : Int)
           ·
            rw [if_pos c42] at H
            have c42b0 : decide (x13_3 < (y253.length : Int)) = true := decide_eq_true c42
            clear c42
            by_cases c43 : 0 ≤ x13_3
            ·
             rw [if_pos c43] at H
             have c43b0 : decide (0 ≤ x13_3) = true := decide_eq_true c43
             clear c43
             replace H := Option.bind_eq_some_iff.mp H
             obtain ⟨⟨t258, t259, t260⟩, A440, H⟩ := H
             replace H : ((nuncioref11_Find.f k3 x244000_2 x244001_2 ((rd_T38 y253 x13_3).f0) ((rd_T38 y253 x13_3).f1)).bind fun bt263 => (if t258 = bt263.1 then (nunciolaw11_TableFinds.j3 k3 a3 y253 x13_3 (t259 != bt263.2) t260 x244000_2 x244001_2) else (nunciolaw11_TableFinds.j3 k3 a3 y253 x13_3 true t260 x244000_2 x244001_2))) = some r := H
             have A44 := Aside0.mk A440
             clear A440
             replace H := Option.bind_eq_some_iff.mp H
             obtain ⟨⟨t263, t264⟩, A450, H⟩ := H
             replace H : (if t258 = t263 then (nunciolaw11_TableFinds.j3 k3 a3 y253 x13_3 (t259 != t264) t260 x244000_2 x244001_2) else (nunciolaw11_TableFinds.j3 k3 a3 y253 x13_3 true t260 x244000_2 x244001_2)) = some r := H
             have A45 := Aside0.mk A450
             clear A450
             have HC46 := Aside0.mk H
             clear H
             obtain ⟨Ao47, co47, eo47⟩ := Kd.R_slice HO_12.out
             subst eo47
             try go_wp2
             have n0_ := Aside0.mk (Kd.R_drew HO_12.out)
             have n1_ := Aside0.mk (Kd.R_drew HO_244001.out)
             have n2_ := Aside0.mk (blk_drew BK243.out)
             have n3_ := Aside0.mk (IsS57.drew HI238.out)
             have n4_ := Aside0.mk (below_drew1 HB.out)
             clear HO_12
             clear HO_244001
             clear BK243
             clear HI238
             clear HB
             have HO_12 := n0_
             have HO_244001 := n1_
             have BK243 := n2_
             have HI238 := n3_
             have HB := n4_
             clear n0_ n1_ n2_ n3_ n4_
             have p256 : 0 ≤ (x13_3 : Int) := of_decide_eq_true (by first | (with_reducible assumption) | assumption)
             have q256 : x13_3 < (y253.length : Int) := of_decide_eq_true (by first | (with_reducible assumption) | assumption)
             obtain ⟨ad256, e256, hx256_0, hx256_1⟩ := at_T38 (Kd.R_reads' HO_12.out).2.2 x13_3 p256 q256
             cases e256
             replace p256 := eq_true p256
             replace q256 := eq_true q256
             have p257 : 0 ≤ (x13_3 : Int) := of_decide_eq_true (by first | (with_reducible assumption) | assumption)
             have q257 : x13_3 < (y253.length : Int) := of_decide_eq_true (by first | (with_reducible assumption) | assumption)
             obtain ⟨ad257, e257, hx257_0, hx257_1⟩ := at_T38 (Kd.R_reads' HO_12.out).2.2 x13_3 p257 q257
             obtain rfl : ad256 = ad257 := (by injection e257)
             replace p257 := eq_true p257
             replace q257 := eq_true q257
             refine start_ (n := 17) (S := fun w' => w'.cell? (ad256.add ((x13_3).toNat * 2)) = some (.string ((rd_T38 y253 x13_3).f0)) ∧ w'.cell? ⟨(ad256.add ((x13_3).toNat * 2)).block, (ad256.add ((x13_3).toNat * 2)).off + 1, none⟩ = some (.string ((rd_T38 y253 x13_3).f1)) ∧ w'.cell? (ad256.add ((x13_3).toNat * 2)) = some (.string ((rd_T38 y253 x13_3).f0)) ∧ w'.cell? ⟨(ad256.add ((x13_3).toNat * 2)).block, (ad256.add ((x13_3).toNat * 2)).off + 1, none⟩ = some (.string ((rd_T38 y253 x13_3).f1))) (ds := []) #[false, false, false, false, false, false, false, false, false, false, false, false, false, false, false, false, false] (by kernel_rfl) rfl rfl ⟨hx256_0, hx256_1, hx257_0, hx257_1⟩ (fun hHeld => ?_); refine with_tabW nunciolaw11_TableFinds.tab15 nunciolaw11_TableFinds.bits15 (fun HT_ HW_ => ?_)
             generalize wr.drew = w48 at HO_12 HO_244001 BK243 HI238 HB hx256_0 hx256_1 hx257_0 hx257_1 hHeld ⊢
             refine pure_ (i := 0) (N := some 69) (v := ?_) (a' := ?_) #[true, false, false, false, false, false, false, false, false, false, false, false, false, false, false, false, false] rfl rfl (any_of HT_.out (by kernel_rfl)) (fun _ _ _ h => h) (Or.inl ⟨by rfl, ?_⟩) ?_ ?_
             rotate_left
             ·
              intro w'
              go_simp
              with_reducible rfl
             rotate_left
             ·
              simp only [Act.put, List.setIfInBounds_toArray, List.set_cons_zero, List.set_cons_succ, i64_w, i32_w]
              rfl
             refine pure_ (i := 1) (N := some 70) (v := ?_) (a' := ?_) #[true, true, false, false, false, false, false, false, false, false, false, false, false, false, false, false, false] rfl rfl (any_of HT_.out (by kernel_rfl)) (fun _ _ _ h => h) (Or.inl ⟨by rfl, ?_⟩) ?_ ?_
             rotate_left
             ·
              intro w'
              go_simp
              with_reducible rfl
             rotate_left
             ·
              simp only [Act.put, List.setIfInBounds_toArray, List.set_cons_zero, List.set_cons_succ, i64_w, i32_w]
              rfl
             refine pure_ (i := 2) (N := some 71) (v := ?_) (a' := ?_) #[true, true, true, false, false, false, false, false, false, false, false, false, false, false, false, false, false] rfl rfl (any_of HT_.out (by kernel_rfl)) (fun _ _ _ h => h) (Or.inl ⟨by rfl, ?_⟩) ?_ ?_
             rotate_left
             ·
              intro w'
              go_simp
              with_reducible rfl
             rotate_left
             ·
              simp only [Act.put, List.setIfInBounds_toArray, List.set_cons_zero, List.set_cons_succ, i64_w, i32_w]
              rfl
             refine pure_ (i := 3) (N := some 72) (v := ?_) (a' := ?_) #[true, true, true, true, false, false, false, false, false, false, false, false, false, false, false, false, false] rfl rfl (any_of HT_.out (by kernel_rfl)) (fun _ _ _ h => h) (Or.inl ⟨by rfl, ?_⟩) ?_ ?_
             rotate_left
             ·
              intro w'
              go_simp
              with_reducible rfl
             rotate_left
             ·
              simp only [Act.put, List.setIfInBounds_toArray, List.set_cons_zero, List.set_cons_succ, i64_w, i32_w]
              rfl
             refine pure_ (i := 4) (N := some 73) (v := ?_) (a' := ?_) #[true, true, true, true, true, false, false, false, false, false, false, false, false, false, false, false, false] rfl rfl (any_of HT_.out (by kernel_rfl)) (fun _ _ _ h => h) (Or.inl ⟨by rfl, ?_⟩) ?_ ?_
             rotate_left
             ·
              intro w'
              go_simp
              with_reducible rfl
             rotate_left
             ·
              simp only [Act.put, List.setIfInBounds_toArray, List.set_cons_zero, List.set_cons_succ, i64_w, i32_w]
              rfl
             refine pure_ (i := 6) (N := some 75) (v := ?_) (a' := ?_) #[true, true, true, true, true, false, true, false, false, false, false, false, false, false, false, false, false] rfl rfl (any_of HT_.out (by kernel_rfl)) (fun _ _ _ h => h) (Or.inl ⟨by rfl, ?_⟩) ?_ ?_
             rotate_left
             ·
              intro w'
              go_simp
              with_reducible rfl
             rotate_left
             ·
              simp only [Act.put, List.setIfInBounds_toArray, List.set_cons_zero, List.set_cons_succ, i64_w, i32_w]
              rfl
             refine pure_ (i := 7) (N := some 76) (v := ?_) (a' := ?_) #[true, true, true, true, true, false, true, true, false, false, false, false, false, false, false, false, false] rfl rfl (any_of HT_.out (by kernel_rfl)) (fun _ _ _ h => h) (Or.inl ⟨by rfl, ?_⟩) ?_ ?_
             rotate_left
             ·
              intro w'
              go_simp
              with_reducible rfl
             rotate_left
             ·
              simp only [Act.put, List.setIfInBounds_toArray, List.set_cons_zero, List.set_cons_succ, i64_w, i32_w]
              rfl
             refine pure_ (i := 8) (N := some 77) (v := ?_) (a' := ?_) #[true, true, true, true, true, false, true, true, true, false, false, false, false, false, false, false, false] rfl rfl (any_of HT_.out (by kernel_rfl)) (fun _ _ _ h => h) (Or.inl ⟨by rfl, ?_⟩) ?_ ?_
             rotate_left
             ·
              intro w'
              go_simp
              with_reducible rfl
             rotate_left
             ·
              simp only [Act.put, List.setIfInBounds_toArray, List.set_cons_zero, List.set_cons_succ, i64_w, i32_w]
              rfl
             refine pure_ (i := 9) (N := some 78) (v := ?_) (a' := ?_) #[true, true, true, true, true, false, true, true, true, true, false, false, false, false, false, false, false] rfl rfl (any_of HT_.out (by kernel_rfl)) (fun _ _ _ h => h) (Or.inl ⟨by rfl, ?_⟩) ?_ ?_
             rotate_left
             ·
              intro w'
              go_simp
              with_reducible rfl
             rotate_left
             ·
              simp only [Act.put, List.setIfInBounds_toArray, List.set_cons_zero, List.set_cons_succ, i64_w, i32_w]
              rfl
             refine take_ (i := 5) (N := some 74) (v := ?_) (a' := ?_) #[true, true, true, true, true, true, true, true, true, true, false, false, false, false, false, false, false] rfl rfl (take_ofW HT_.out HW_.out (by kernel_rfl)) (fun _ _ _ h => h) (Or.inl ⟨by rfl, ?_⟩) hHeld ?_ ?_
             rotate_left
             ·
              rintro w' ⟨s0, s1, s2, s3⟩
              go_simp
              with_reducible rfl
             rotate_left
             ·
              simp only [Act.put, List.setIfInBounds_toArray, List.set_cons_zero, List.set_cons_succ, i64_w, i32_w]
              rfl
             refine take_ (i := 10) (N := some 79) (v := ?_) (a' := ?_) #[true, true, true, true, true, true, true, true, true, true, true, false, false, false, false, false, false] rfl rfl (take_ofW HT_.out HW_.out (by kernel_rfl)) (fun _ _ _ h => h) (Or.inl ⟨by rfl, ?_⟩) hHeld ?_ ?_
             rotate_left
             ·
              rintro w' ⟨s0, s1, s2, s3⟩
              go_simp
              with_reducible rfl
             rotate_left
             ·
              simp only [Act.put, List.setIfInBounds_toArray, List.set_cons_zero, List.set_cons_succ, i64_w, i32_w]
              rfl
             refine one_ (i := 11) (N := some 80) #[true, true, true, true, true, true, true, true, true, true, true, true, false, false, false, false, false] rfl rfl (one_of HT_.out (by kernel_rfl)) (by decide) (fun K hK => ?_)
             refine goes_ Tryd.func17 (by kernel_rfl) rfl #[.pointer (some ⟨g238, 0, none⟩), .string ((rd_T38 y253 x13_3).f0), .string ((rd_T38 y253 x13_3).f1)] (by rfl) rfl rfl (by (try simp only [List.map_toArray, List.map_cons, List.map_nil]); first | done | rfl | (simp only [List.length_drop, List.length_take]; rfl)) ?_
             with_reducible refine (table_Table_Find.calls g238 x239000_3 ((rd_T38 y253 x13_3).f0) ((rd_T38 y253 x13_3).f1) t258 t259 t260 w _ ?side1 ?side2 A44.out).mono ?_
             (case side1 => repeat (first | (with_reducible first | exact HI238.out | apply IsS57.alloc | apply IsS57.drewN | apply IsS57.drew | refine IsS57.farT ?_ (by repeat (first | exact TyOf.mk BK243.out | apply TyOf.alloc | apply TyOf.drewN | apply TyOf.drew | apply TyOf.set)) (by decide) _) | exact HI238.out))
             (case side2 => repeat (first | (with_reducible first | exact HB.out | apply below_alloc | apply pw_below_drewN | apply below_drew1 | refine below_set ?_ (IsS57.ge HI238.out) | refine below_set ?_ GE243.out) | exact HB.out))
             rintro e w49 ⟨rfl, hi, hb, hk⟩
             have HS0_ := keep_cell hk (hHeld.1) (by first | (rw [add_block]; exact Kd.own_blk (IsS57.own_ne HI238.out HO_12.out (by decide))) | (show (Addr.add _ _).block ≠ _; rw [add_block]; exact Kd.own_blk (IsS57.own_ne HI238.out HO_12.out (by decide))) | exact Kd.own_blk (IsS57.own_ne HI238.out HO_12.out (by decide)))
             have HS1_ := keep_cell hk (hHeld.2.1) (by first | (rw [add_block]; exact Kd.own_blk (IsS57.own_ne HI238.out HO_12.out (by decide))) | (show (Addr.add _ _).block ≠ _; rw [add_block]; exact Kd.own_blk (IsS57.own_ne HI238.out HO_12.out (by decide))) | exact Kd.own_blk (IsS57.own_ne HI238.out HO_12.out (by decide)))
             have HS2_ := keep_cell hk (hHeld.2.2.1) (by first | (rw [add_block]; exact Kd.own_blk (IsS57.own_ne HI238.out HO_12.out (by decide))) | (show (Addr.add _ _).block ≠ _; rw [add_block]; exact Kd.own_blk (IsS57.own_ne HI238.out HO_12.out (by decide))) | exact Kd.own_blk (IsS57.own_ne HI238.out HO_12.out (by decide)))
             have HS3_ := keep_cell hk (hHeld.2.2.2) (by first | (rw [add_block]; exact Kd.own_blk (IsS57.own_ne HI238.out HO_12.out (by decide))) | (show (Addr.add _ _).block ≠ _; rw [add_block]; exact Kd.own_blk (IsS57.own_ne HI238.out HO_12.out (by decide))) | exact Kd.own_blk (IsS57.own_ne HI238.out HO_12.out (by decide)))
             refine ⟨_, rfl, ?_⟩
             have n0_ := Aside0.mk (Kd.R_mono (Kd.R_keep (IsS57.apart (show IsS57 w _ g238 x239000_3 from by repeat (first | (with_reducible first | exact HI238.out | apply IsS57.alloc | apply IsS57.drewN | apply IsS57.drew | refine IsS57.farT ?_ (by repeat (first | exact TyOf.mk BK243.out | apply TyOf.alloc | apply TyOf.drewN | apply TyOf.drew | apply TyOf.set)) (by decide) _) | exact HI238.out)) (by (with_reducible repeat (first | apply Kd.R_alloc | apply Kd.R_drewN | apply Kd.R_drew)); exact HO_12.out) (by decide)) hk (fun _ h => h.2)) (fun _ h => h.1))
             have n1_ := Aside0.mk (Kd.R_mono (Kd.R_keep (IsS57.apart (show IsS57 w _ g238 x239000_3 from by repeat (first | (with_reducible first | exact HI238.out | apply IsS57.alloc | apply IsS57.drewN | apply IsS57.drew | refine IsS57.farT ?_ (by repeat (first | exact TyOf.mk BK243.out | apply TyOf.alloc | apply TyOf.drewN | apply TyOf.drew | apply TyOf.set)) (by decide) _) | exact HI238.out)) (by (with_reducible repeat (first | apply Kd.R_alloc | apply Kd.R_drewN | apply Kd.R_drew)); exact HO_244001.out) (by decide)) hk (fun _ h => h.2)) (fun _ h => h.1))
             have n2_ := Aside0.mk (KeepBut.blk hk (g' := gb243) (o := .cells #[.int .i64 x244000_2, .slice Ao39 x244001_2.length co39] 29 (0, 0)) (by (with_reducible repeat (first | refine blk_drewN ?_ _ | refine blk_drew ?_ | refine blk_alloc ?_ _)); exact BK243.out) NB243_238.out (by simp))
             have n3_ := Aside0.mk (hb)
             have n4_ := Aside0.mk (hi)
             clear HO_12
             clear HO_244001
             clear BK243
             clear HB
             clear HI238
             have HO_12 := n0_
             have HO_244001 := n1_
             have BK243 := n2_
             have HB := n3_
             have HI238 := n4_
             clear n0_ n1_ n2_ n3_ n4_
             (try clear hb)
             (try clear hb2)
             (try clear hk)
             (try clear hi)
             refine hK.out _ _ ⟨HS0_, HS1_, HS2_, HS3_⟩ (fun hHeld => ?_)
             clear hK K
             refine norm_ (a' := ?_) ?_ ?_
             rotate_left
             ·
              show Act.put _ (some 80) _ = _
              simp only [Act.put, List.setIfInBounds_toArray, List.set_cons_zero, List.set_cons_succ, i64_w, i32_w]
              rfl
             refine pure_ (i := 12) (N := some 68) (v := ?_) (a' := ?_) #[true, true, true, true, true, true, true, true, true, true, true, true, true, false, false, false, false] rfl rfl (any_of HT_.out (by kernel_rfl)) (fun _ _ _ h => h) (Or.inl ⟨by rfl, ?_⟩) ?_ ?_
             rotate_left
             ·
              intro w'
              go_simp
              with_reducible rfl
             rotate_left
             ·
              simp only [Act.put, List.setIfInBounds_toArray, List.set_cons_zero, List.set_cons_succ, i64_w, i32_w]
              rfl
             refine pure_ (i := 13) (N := some 81) (v := ?_) (a' := ?_) #[true, true, true, true, true, true, true, true, true, true, true, true, true, true, false, false, false] rfl rfl (any_of HT_.out (by kernel_rfl)) (fun _ _ _ h => h) (Or.inl ⟨by rfl, ?_⟩) ?_ ?_
             rotate_left
             ·
              intro w'
              go_simp
              with_reducible rfl
             rotate_left
             ·
              simp only [Act.put, List.setIfInBounds_toArray, List.set_cons_zero, List.set_cons_succ, i64_w, i32_w]
              rfl
             refine pure_ (i := 14) (N := some 82) (v := ?_) (a' := ?_) #[true, true, true, true, true, true, true, true, true, true, true, true, true, true, true, false, false] rfl rfl (any_of HT_.out (by kernel_rfl)) (fun _ _ _ h => h) (Or.inl ⟨by rfl, ?_⟩) ?_ ?_
             rotate_left
             ·
              intro w'
              go_simp
              with_reducible rfl
             rotate_left
             ·
              simp only [Act.put, List.setIfInBounds_toArray, List.set_cons_zero, List.set_cons_succ, i64_w, i32_w]
              rfl
             refine pure_ (i := 15) (N := some 14) (v := ?_) (a' := ?_) #[true, true, true, true, true, true, true, true, true, true, true, true, true, true, true, true, false] rfl rfl (any_of HT_.out (by kernel_rfl)) (fun _ _ _ h => h) (Or.inl ⟨by rfl, ?_⟩) ?_ ?_
             rotate_left
             ·
              intro w'
              go_simp
              with_reducible rfl
             rotate_left
             ·
              simp only [Act.put, List.setIfInBounds_toArray, List.set_cons_zero, List.set_cons_succ, i64_w, i32_w]
              rfl
             refine pure_ (i := 16) (N := some 15) (v := ?_) (a' := ?_) #[true, true, true, true, true, true, true, true, true, true, true, true, true, true, true, true, true] rfl rfl (any_of HT_.out (by kernel_rfl)) (fun _ _ _ h => h) (Or.inl ⟨by rfl, ?_⟩) ?_ ?_
             rotate_left
             ·
              intro w'
              go_simp
              with_reducible rfl
             rotate_left
             ·
              simp only [Act.put, List.setIfInBounds_toArray, List.set_cons_zero, List.set_cons_succ, i64_w, i32_w]
              rfl
             refine done_ (done_of HT_.out (by kernel_rfl)) ?_
             try go_wp2
             have n0_ := Aside0.mk (Kd.R_drew HO_12.out)
             have n1_ := Aside0.mk (Kd.R_drew HO_244001.out)
             have n2_ := Aside0.mk (blk_drew BK243.out)
             have n3_ := Aside0.mk (IsS57.drew HI238.out)
             have n4_ := Aside0.mk (below_drew1 HB.out)
             clear HO_12
             clear HO_244001
             clear BK243
             clear HI238
             clear HB
             have HO_12 := n0_
             have HO_244001 := n1_
             have BK243 := n2_
             have HI238 := n3_
             have HB := n4_
             clear n0_ n1_ n2_ n3_ n4_
             have p261 : 0 ≤ (x13_3 : Int) := of_decide_eq_true (by first | (with_reducible assumption) | assumption)
             have q261 : x13_3 < (y253.length : Int) := of_decide_eq_true (by first | (with_reducible assumption) | assumption)
             obtain ⟨ad261, e261, hx261_0, hx261_1⟩ := at_T38 (Kd.R_reads' HO_12.out).2.2 x13_3 p261 q261
             obtain rfl : ad256 = ad261 := (by injection e261)
             replace p261 := eq_true p261
             replace q261 := eq_true q261
             have p262 : 0 ≤ (x13_3 : Int) := of_decide_eq_true (by first | (with_reducible assumption) | assumption)
             have q262 : x13_3 < (y253.length : Int) := of_decide_eq_true (by first | (with_reducible assumption) | assumption)
             obtain ⟨ad262, e262, hx262_0, hx262_1⟩ := at_T38 (Kd.R_reads' HO_12.out).2.2 x13_3 p262 q262
             obtain rfl : ad256 = ad262 := (by injection e262)
             replace p262 := eq_true p262
             replace q262 := eq_true q262
             refine start_ (n := 17) (S := fun w' => w'.cell? ⟨gb243, 0, none⟩ = some (.int .i64 x244000_2) ∧ w'.cell? ⟨gb243, 1, none⟩ = some (.slice Ao39 x244001_2.length co39) ∧ w'.cell? (ad256.add ((x13_3).toNat * 2)) = some (.string ((rd_T38 y253 x13_3).f0)) ∧ w'.cell? ⟨(ad256.add ((x13_3).toNat * 2)).block, (ad256.add ((x13_3).toNat * 2)).off + 1, none⟩ = some (.string ((rd_T38 y253 x13_3).f1)) ∧ w'.cell? (ad256.add ((x13_3).toNat * 2)) = some (.string ((rd_T38 y253 x13_3).f0)) ∧ w'.cell? ⟨(ad256.add ((x13_3).toNat * 2)).block, (ad256.add ((x13_3).toNat * 2)).off + 1, none⟩ = some (.string ((rd_T38 y253 x13_3).f1))) (ds := []) #[false, false, false, false, false, false, false, false, false, false, false, false, false, false, false, false, false] (by kernel_rfl) rfl rfl ⟨(blk_cell BK243.out 0).trans rfl, (blk_cell BK243.out 1).trans rfl, hx261_0, hx261_1, hx262_0, hx262_1⟩ (fun hHeld => ?_); refine with_tabW nunciolaw11_TableFinds.tab16 nunciolaw11_TableFinds.bits16 (fun HT_ HW_ => ?_)
             generalize w49.drew = w50 at HO_12 HO_244001 BK243 HI238 HB hx261_0 hx261_1 hx262_0 hx262_1 hHeld ⊢
             refine pure_ (i := 1) (N := some 85) (v := ?_) (a' := ?_) #[false, true, false, false, false, false, false, false, false, false, false, false, false, false, false, false, false] rfl rfl (any_of HT_.out (by kernel_rfl)) (fun _ _ _ h => h) (Or.inl ⟨by rfl, ?_⟩) ?_ ?_
             rotate_left
             ·
              intro w'
              go_simp
              with_reducible rfl
             rotate_left
             ·
              simp only [Act.put, List.setIfInBounds_toArray, List.set_cons_zero, List.set_cons_succ, i64_w, i32_w]
              rfl
             refine pure_ (i := 2) (N := some 86) (v := ?_) (a' := ?_) #[false, true, true, false, false, false, false, false, false, false, false, false, false, false, false, false, false] rfl rfl (any_of HT_.out (by kernel_rfl)) (fun _ _ _ h => h) (Or.inl ⟨by rfl, ?_⟩) ?_ ?_
             rotate_left
             ·
              intro w'
              go_simp
              with_reducible rfl
             rotate_left
             ·
              simp only [Act.put, List.setIfInBounds_toArray, List.set_cons_zero, List.set_cons_succ, i64_w, i32_w]
              rfl
             refine pure_ (i := 3) (N := some 87) (v := ?_) (a' := ?_) #[false, true, true, true, false, false, false, false, false, false, false, false, false, false, false, false, false] rfl rfl (any_of HT_.out (by kernel_rfl)) (fun _ _ _ h => h) (Or.inl ⟨by rfl, ?_⟩) ?_ ?_
             rotate_left
             ·
              intro w'
              go_simp
              with_reducible rfl
             rotate_left
             ·
              simp only [Act.put, List.setIfInBounds_toArray, List.set_cons_zero, List.set_cons_succ, i64_w, i32_w]
              rfl
             refine pure_ (i := 4) (N := some 88) (v := ?_) (a' := ?_) #[false, true, true, true, true, false, false, false, false, false, false, false, false, false, false, false, false] rfl rfl (any_of HT_.out (by kernel_rfl)) (fun _ _ _ h => h) (Or.inl ⟨by rfl, ?_⟩) ?_ ?_
             rotate_left
             ·
              intro w'
              go_simp
              with_reducible rfl
             rotate_left
             ·
              simp only [Act.put, List.setIfInBounds_toArray, List.set_cons_zero, List.set_cons_succ, i64_w, i32_w]
              rfl
             refine pure_ (i := 6) (N := some 90) (v := ?_) (a' := ?_) #[false, true, true, true, true, false, true, false, false, false, false, false, false, false, false, false, false] rfl rfl (any_of HT_.out (by kernel_rfl)) (fun _ _ _ h => h) (Or.inl ⟨by rfl, ?_⟩) ?_ ?_
             rotate_left
             ·
              intro w'
              go_simp
              with_reducible rfl
             rotate_left
             ·
              simp only [Act.put, List.setIfInBounds_toArray, List.set_cons_zero, List.set_cons_succ, i64_w, i32_w]
              rfl
             refine pure_ (i := 7) (N := some 91) (v := ?_) (a' := ?_) #[false, true, true, true, true, false, true, true, false, false, false, false, false, false, false, false, false] rfl rfl (any_of HT_.out (by kernel_rfl)) (fun _ _ _ h => h) (Or.inl ⟨by rfl, ?_⟩) ?_ ?_
             rotate_left
             ·
              intro w'
              go_simp
              with_reducible rfl
             rotate_left
             ·
              simp only [Act.put, List.setIfInBounds_toArray, List.set_cons_zero, List.set_cons_succ, i64_w, i32_w]
              rfl
             refine pure_ (i := 8) (N := some 92) (v := ?_) (a' := ?_) #[false, true, true, true, true, false, true, true, true, false, false, false, false, false, false, false, false] rfl rfl (any_of HT_.out (by kernel_rfl)) (fun _ _ _ h => h) (Or.inl ⟨by rfl, ?_⟩) ?_ ?_
             rotate_left
             ·
              intro w'
              go_simp
              with_reducible rfl
             rotate_left
             ·
              simp only [Act.put, List.setIfInBounds_toArray, List.set_cons_zero, List.set_cons_succ, i64_w, i32_w]
              rfl
             refine pure_ (i := 9) (N := some 93) (v := ?_) (a' := ?_) #[false, true, true, true, true, false, true, true, true, true, false, false, false, false, false, false, false] rfl rfl (any_of HT_.out (by kernel_rfl)) (fun _ _ _ h => h) (Or.inl ⟨by rfl, ?_⟩) ?_ ?_
             rotate_left
             ·
              intro w'
              go_simp
              with_reducible rfl
             rotate_left
             ·
              simp only [Act.put, List.setIfInBounds_toArray, List.set_cons_zero, List.set_cons_succ, i64_w, i32_w]
              rfl
             refine take_ (i := 0) (N := some 84) (v := ?_) (a' := ?_) #[true, true, true, true, true, false, true, true, true, true, false, false, false, false, false, false, false] rfl rfl (take_ofW HT_.out HW_.out (by kernel_rfl)) (fun _ _ _ h => h) (Or.inl ⟨by rfl, ?_⟩) hHeld ?_ ?_
             rotate_left
             ·
              rintro w' ⟨s0, s1, s2, s3, s4, s5⟩
              go_simp
              with_reducible rfl
             rotate_left
             ·
              simp only [Act.put, List.setIfInBounds_toArray, List.set_cons_zero, List.set_cons_succ, i64_w, i32_w]
              rfl
             refine take_ (i := 5) (N := some 89) (v := ?_) (a' := ?_) #[true, true, true, true, true, true, true, true, true, true, false, false, false, false, false, false, false] rfl rfl (take_ofW HT_.out HW_.out (by kernel_rfl)) (fun _ _ _ h => h) (Or.inl ⟨by rfl, ?_⟩) hHeld ?_ ?_
             rotate_left
             ·
              rintro w' ⟨s0, s1, s2, s3, s4, s5⟩
              go_simp
              with_reducible rfl
             rotate_left
             ·
              simp only [Act.put, List.setIfInBounds_toArray, List.set_cons_zero, List.set_cons_succ, i64_w, i32_w]
              rfl
             refine take_ (i := 10) (N := some 94) (v := ?_) (a' := ?_) #[true, true, true, true, true, true, true, true, true, true, true, false, false, false, false, false, false] rfl rfl (take_ofW HT_.out HW_.out (by kernel_rfl)) (fun _ _ _ h => h) (Or.inl ⟨by rfl, ?_⟩) hHeld ?_ ?_
             rotate_left
             ·
              rintro w' ⟨s0, s1, s2, s3, s4, s5⟩
              go_simp
              with_reducible rfl
             rotate_left
             ·
              simp only [Act.put, List.setIfInBounds_toArray, List.set_cons_zero, List.set_cons_succ, i64_w, i32_w]
              rfl
             refine one_ (i := 11) (N := some 95) #[true, true, true, true, true, true, true, true, true, true, true, true, false, false, false, false, false] rfl rfl (one_of HT_.out (by kernel_rfl)) (by decide) (fun K hK => ?_)
             refine goes_ Tryd.func18 (by kernel_rfl) rfl #[.agg #[.int .i64 x244000_2, .slice Ao39 x244001_2.length co39], .string ((rd_T38 y253 x13_3).f0), .string ((rd_T38 y253 x13_3).f1)] (by rfl) rfl rfl (by (try simp only [List.map_toArray, List.map_cons, List.map_nil]); first | done | rfl | (simp only [List.length_drop, List.length_take]; rfl)) ?_
             with_reducible refine (nuncioref11_Find.calls k3 x244000_2 _ _ x244001_2 ((rd_T38 y253 x13_3).f0) ((rd_T38 y253 x13_3).f1) t263 t264 _ ?side1 ?side2 A45.out).mono ?_
             (case side1 => repeat (first | exact (Kd.R_reads' HO_244001.out).2.2 | (with_reducible refine Kd.C_alloc ?_ _) | (with_reducible refine Kd.C_drewN ?_ _) | (with_reducible refine Kd.C_drew ?_)))
             (case side2 => exact (Kd.R_reads' HO_244001.out).2.1)
             rintro e w51 ⟨rfl, hb⟩
             have HS2_ := (hb.cell (World.block_lt_of_cell? _ _ (hHeld.2.2.1))).trans (hHeld.2.2.1)
             have HS3_ := (hb.cell (World.block_lt_of_cell? _ _ (hHeld.2.2.2.1))).trans (hHeld.2.2.2.1)
             have HS4_ := (hb.cell (World.block_lt_of_cell? _ _ (hHeld.2.2.2.2.1))).trans (hHeld.2.2.2.2.1)
             have HS5_ := (hb.cell (World.block_lt_of_cell? _ _ (hHeld.2.2.2.2.2))).trans (hHeld.2.2.2.2.2)
             refine ⟨_, rfl, ?_⟩
             have n0_ := Aside0.mk (Kd.R_below (by (with_reducible repeat (first | apply Kd.R_alloc | apply Kd.R_drewN | apply Kd.R_drew)); exact HO_12.out) hb)
             have n1_ := Aside0.mk (Kd.R_below (by (with_reducible repeat (first | apply Kd.R_alloc | apply Kd.R_drewN | apply Kd.R_drew)); exact HO_244001.out) hb)
             have n2_ := Aside0.mk (blk_below (g := gb243) (o := .cells #[.int .i64 x244000_2, .slice Ao39 x244001_2.length co39] 29 (0, 0)) (by (with_reducible repeat (first | refine blk_drewN ?_ _ | refine blk_drew ?_ | refine blk_alloc ?_ _)); exact BK243.out) hb)
             have n3_ := Aside0.mk (IsS57.below (by repeat (first | (with_reducible first | exact HI238.out | apply IsS57.alloc | apply IsS57.drewN | apply IsS57.drew | refine IsS57.farT ?_ (by repeat (first | exact TyOf.mk BK243.out | apply TyOf.alloc | apply TyOf.drewN | apply TyOf.drew | apply TyOf.set)) (by decide) _) | exact HI238.out)) hb)
             have n4_ := Aside0.mk (below_step (by repeat (first | (with_reducible first | exact HB.out | apply below_alloc | apply pw_below_drewN | apply below_drew1 | refine below_set ?_ (IsS57.ge HI238.out) | refine below_set ?_ GE243.out) | exact HB.out)) hb)
             clear HO_12
             clear HO_244001
             clear BK243
             clear HI238
             clear HB
             have HO_12 := n0_
             have HO_244001 := n1_
             have BK243 := n2_
             have HI238 := n3_
             have HB := n4_
             clear n0_ n1_ n2_ n3_ n4_
             (try clear hb)
             (try clear hb2)
             (try clear hk)
             (try clear hi)
             refine hK.out _ _ ⟨(blk_cell BK243.out 0).trans rfl, (blk_cell BK243.out 1).trans rfl, HS2_, HS3_, HS4_, HS5_⟩ (fun hHeld => ?_)
             clear hK K
             refine norm_ (a' := ?_) ?_ ?_
             rotate_left
             ·
              show Act.put _ (some 95) _ = _
              simp only [Act.put, List.setIfInBounds_toArray, List.set_cons_zero, List.set_cons_succ, i64_w, i32_w]
              rfl
             refine pure_ (i := 12) (N := some 83) (v := ?_) (a' := ?_) #[true, true, true, true, true, true, true, true, true, true, true, true, true, false, false, false, false] rfl rfl (any_of HT_.out (by kernel_rfl)) (fun _ _ _ h => h) (Or.inl ⟨by rfl, ?_⟩) ?_ ?_
             rotate_left
             ·
              intro w'
              go_simp
              with_reducible rfl
             rotate_left
             ·
              simp only [Act.put, List.setIfInBounds_toArray, List.set_cons_zero, List.set_cons_succ, i64_w, i32_w]
              rfl
             refine pure_ (i := 13) (N := some 96) (v := ?_) (a' := ?_) #[true, true, true, true, true, true, true, true, true, true, true, true, true, true, false, false, false] rfl rfl (any_of HT_.out (by kernel_rfl)) (fun _ _ _ h => h) (Or.inl ⟨by rfl, ?_⟩) ?_ ?_
             rotate_left
             ·
              intro w'
              go_simp
              with_reducible rfl
             rotate_left
             ·
              simp only [Act.put, List.setIfInBounds_toArray, List.set_cons_zero, List.set_cons_succ, i64_w, i32_w]
              rfl
             refine pure_ (i := 14) (N := some 97) (v := ?_) (a' := ?_) #[true, true, true, true, true, true, true, true, true, true, true, true, true, true, true, false, false] rfl rfl (any_of HT_.out (by kernel_rfl)) (fun _ _ _ h => h) (Or.inl ⟨by rfl, ?_⟩) ?_ ?_
             rotate_left
             ·
              intro w'
              go_simp
              with_reducible rfl
             rotate_left
             ·
              simp only [Act.put, List.setIfInBounds_toArray, List.set_cons_zero, List.set_cons_succ, i64_w, i32_w]
              rfl
             refine pure_ (i := 15) (N := some 16) (v := ?_) (a' := ?_) #[true, true, true, true, true, true, true, true, true, true, true, true, true, true, true, true, false] rfl rfl (any_of HT_.out (by kernel_rfl)) (fun _ _ _ h => h) (Or.inl ⟨by rfl, ?_⟩) ?_ ?_
             rotate_left
             ·
              intro w'
              go_simp
              with_reducible rfl
             rotate_left
             ·
              simp only [Act.put, List.setIfInBounds_toArray, List.set_cons_zero, List.set_cons_succ, i64_w, i32_w]
              rfl
             refine pure_ (i := 16) (N := some 17) (v := ?_) (a' := ?_) #[true, true, true, true, true, true, true, true, true, true, true, true, true, true, true, true, true] rfl rfl (any_of HT_.out (by kernel_rfl)) (fun _ _ _ h => h) (Or.inl ⟨by rfl, ?_⟩) ?_ ?_
             rotate_left
             ·
              intro w'
              go_simp
              with_reducible rfl
             rotate_left
             ·
              simp only [Act.put, List.setIfInBounds_toArray, List.set_cons_zero, List.set_cons_succ, i64_w, i32_w]
              rfl
             refine done_ (done_of HT_.out (by kernel_rfl)) ?_
             go_upto_region 17 with (fail)
             go_cut [105] (fun v105 wc => ∃ (kq : Nat) (x105_45 : Bool), v105 = .bool x105_45 ∧ Aside0 (nunciolaw11_TableFinds.j3 kq a3 y253 x13_3 x105_45 t260 x244000_2 x244001_2 = some r) ∧ Aside0 (kq ≤ k3) ∧ Aside0 (Kd.R k38 38 wc w.heap.size (fun k_ => some k_ ≠ ((.slice Ao39 x244001_2.length co39) : Value).ownBlock) (.slice (some ad256) y253.length co47) y253) ∧ Aside0 (Kd.R k38 38 wc w.heap.size (fun k_ => some k_ ≠ ((.slice (some ad256) y253.length co47) : Value).ownBlock) (.slice Ao39 x244001_2.length co39) x244001_2) ∧ Aside0 (wc.heap[gb243]? = some (.cells #[.int .i64 x244000_2, (.slice Ao39 x244001_2.length co39)] 29 (0, 0))) ∧ Aside0 (IsS57 w wc g238 t260) ∧ Aside0 (Below w.heap.size w wc))
             case first =>
              have H := HC46.out
              clear HC46
              by_cases c52 : t258 = t263
              ·
               rw [if_pos c52] at H
               have c52b0 : (t258 == t263) = true := beq_iff_eq.mpr c52
               have c52b1 : (t258 != t263) = false := bne_eq_false_iff_eq.mpr c52
               clear c52
               (first | rw [c52b0] | rw [c52b1] | (simp only [i64_w, i32_w]; rw [c52b0]) | skip)
               have H' := Aside0.mk H
               clear H
               go_wp2
               go_meet
               case rel => exact ⟨_, ((t259 != t264)), (by first | rfl | (simp; done) | (simp [*]; done)), H', ⟨by have := HJ6.out; have := HK2.out; have := HK3.out; first | omega | exact Nat.le_refl _⟩, ⟨by (with_reducible repeat (first | apply Kd.R_alloc | apply Kd.R_drewN | apply Kd.R_drew)); exact HO_12.out⟩, ⟨by (with_reducible repeat (first | apply Kd.R_alloc | apply Kd.R_drewN | apply Kd.R_drew)); exact HO_244001.out⟩, ⟨by (with_reducible repeat (first | refine blk_drewN ?_ _ | refine blk_drew ?_ | refine blk_alloc ?_ _)); exact BK243.out⟩, ⟨by repeat (first | (with_reducible first | exact HI238.out | apply IsS57.alloc | apply IsS57.drewN | apply IsS57.drew | refine IsS57.farT ?_ (by repeat (first | exact TyOf.mk BK243.out | apply TyOf.alloc | apply TyOf.drewN | apply TyOf.drew | apply TyOf.set)) (by decide) _) | exact HI238.out)⟩, ⟨by repeat (first | (with_reducible first | exact HB.out | apply below_alloc | apply pw_below_drewN | apply below_drew1 | refine below_set ?_ (IsS57.ge HI238.out) | refine below_set ?_ GE243.out) | exact HB.out)⟩⟩
              ·
               rw [if_neg c52] at H
               have c52b0 : (t258 == t263) = false := beq_eq_false_iff_ne.mpr c52
               have c52b1 : (t258 != t263) = true := bne_iff_ne.mpr c52
               (first | rw [c52b0] | rw [c52b1] | (simp only [i64_w, i32_w]; rw [c52b0]) | skip)
               have H' := Aside0.mk H
               clear H
               go_wp2
               go_meet
               case rel => exact ⟨_, (true), (by first | rfl | (simp; done) | (simp [*]; done)), H', ⟨by have := HJ6.out; have := HK2.out; have := HK3.out; first | omega | exact Nat.le_refl _⟩, ⟨by (with_reducible repeat (first | apply Kd.R_alloc | apply Kd.R_drewN | apply Kd.R_drew)); exact HO_12.out⟩, ⟨by (with_reducible repeat (first | apply Kd.R_alloc | apply Kd.R_drewN | apply Kd.R_drew)); exact HO_244001.out⟩, ⟨by (with_reducible repeat (first | refine blk_drewN ?_ _ | refine blk_drew ?_ | refine blk_alloc ?_ _)); exact BK243.out⟩, ⟨by repeat (first | (with_reducible first | exact HI238.out | apply IsS57.alloc | apply IsS57.drewN | apply IsS57.drew | refine IsS57.farT ?_ (by repeat (first | exact TyOf.mk BK243.out | apply TyOf.alloc | apply TyOf.drewN | apply TyOf.drew | apply TyOf.set)) (by decide) _) | exact HI238.out)⟩, ⟨by repeat (first | (with_reducible first | exact HB.out | apply below_alloc | apply pw_below_drewN | apply below_drew1 | refine below_set ?_ (IsS57.ge HI238.out) | refine below_set ?_ GE243.out) | exact HB.out)⟩⟩
             case rest =>
              clear HC46
              try clear c1
              try clear c2
              try clear p2
              try clear q2
              try clear hx2
              try clear c3
              try clear c4
              try clear c5
              try clear c6
              try clear p6
              try clear c8
              try clear c9
              try clear c10
              try clear c11
              try clear c11b0
              try clear c11b1
              try clear c13
              try clear c13b0
              try clear c13b1
              try clear c16
              try clear c17
              try clear c18
              try clear c23
              try clear p24
              try clear q24
              try clear hx24
              try clear p25
              try clear q25
              try clear hx25
              try clear c26
              try clear c26b0
              try clear p26
              try clear q26
              try clear hx26
              try clear c27
              try clear c27b0
              try clear c36
              try clear c37
              try clear c42
              try clear c42b0
              try clear c43
              try clear c43b0
              try clear c52
              try clear c52b0
              try clear c52b1
              try clear hcz24_0
              try clear hcz24_1
              try clear hcz38_0
              try clear hcz38_1
              try clear hfz24_0
              try clear hfz24_1
              try clear hfz38_0
              try clear hfz38_1
              try clear hx244_0
              try clear hx244_1
              try clear hx244_2
              try clear hx256_0
              try clear hx256_1
              try clear hx257_0
              try clear hx257_1
              try clear hx261_0
              try clear hx261_1
              try clear hx262_0
              try clear hx262_1
              try clear p2
              try clear p24
              try clear p244
              try clear p256
              try clear p257
              try clear p261
              try clear p262
              try clear p6
              try clear q2
              try clear q24
              try clear q244
              try clear q256
              try clear q257
              try clear q261
              try clear q262
              obtain ⟨kq, x105_45, rfl, HA, HJ45, HO_12, HO_244001, BK243, HI238, HB⟩ := hcut
              cases kq with
              | zero => exact absurd HA.out (by simp [nunciolaw11_TableFinds.j3])
              | succ kj45 =>
               have H := HA.out
               clear HA
               simp only [nunciolaw11_TableFinds.j3] at H
               by_cases c53 : x105_45 = true
               ·
                subst c53
                have H1 : (some false) = some r := by rw [if_pos rfl] at H; exact H
                clear H
                have H := H1
                clear H1
                exact absurd ((Option.some.inj H).trans HT.out) (by decide)
               ·
                replace c53 := Bool.eq_false_iff.mpr c53
                subst c53
                have H1 : (if 0 ≤ x13_3 then (if x13_3 < (y253.length : Int) then ((table_Table_Find.f t260 ((rd_T38 y253 x13_3).f0) a3).bind fun bt266 => ((nuncioref11_Find.f kj45 x244000_2 x244001_2 ((rd_T38 y253 x13_3).f0) a3).bind fun bt270 => (if bt266.1 = bt270.1 then (if (bt266.2.1 != bt270.2) = true then (some false) else (nunciolaw11_TableFinds.l1 kj45 a3 y253 (wrap64 (x13_3 + 1)) bt266.2.2 x244000_2 x244001_2)) else (some false)))) else (none)) else (none)) = some r := by rw [if_neg (show ¬ (false = true) by decide)] at H; exact H
                clear H
                have H := H1
                clear H1
                by_cases c54 : 0 ≤ x13_3
                ·
                 rw [if_pos c54] at H
                 have c54b0 : decide (0 ≤ x13_3) = true := decide_eq_true c54
                 clear c54
                 by_cases c55 : x13_3 < (y253.length : Int)
                 ·
                  rw [if_pos c55] at H
                  have c55b0 : decide (x13_3 < (y253.length : Int)) = true := decide_eq_true c55
                  clear c55
                  replace H := Option.bind_eq_some_iff.mp H
                  obtain ⟨⟨t266, t267, t268⟩, A560, H⟩ := H
                  replace H : ((nuncioref11_Find.f kj45 x244000_2 x244001_2 ((rd_T38 y253 x13_3).f0) a3).bind fun bt270 => (if t266 = bt270.1 then (if (t267 != bt270.2) = true then (some false) else (nunciolaw11_TableFinds.l1 kj45 a3 y253 (wrap64 (x13_3 + 1)) t268 x244000_2 x244001_2)) else (some false))) = some r := H
                  have A56 := Aside0.mk A560
                  clear A560
                  replace H := Option.bind_eq_some_iff.mp H
                  obtain ⟨⟨t270, t271⟩, A570, H⟩ := H
                  replace H : (if t266 = t270 then (if (t267 != t271) = true then (some false) else (nunciolaw11_TableFinds.l1 kj45 a3 y253 (wrap64 (x13_3 + 1)) t268 x244000_2 x244001_2)) else (some false)) = some r := H
                  have A57 := Aside0.mk A570
                  clear A570
                  by_cases c58 : t266 = t270
                  ·
                   rw [if_pos c58] at H
                   have c58b0 : (t266 == t270) = true := beq_iff_eq.mpr c58
                   have c58b1 : (t266 != t270) = false := bne_eq_false_iff_eq.mpr c58
                   clear c58
                   by_cases c59 : (t267 != t271) = true
                   ·
                    rw [if_pos c59] at H
                    have c59b0 : (t267 != t271) = true := c59
                    (try (have c59b1 : decide (t267 = t271) = false := by simpa using c59))
                    (try (have c59b2 : (t267 == t271) = false := by simpa using c59))
                    (try (have c59b3 : ¬ (t267 = t271) := by simpa using c59))
                    clear c59
                    exact absurd ((Option.some.inj H).trans HT.out) (by decide)
                   ·
                    rw [if_neg c59] at H
                    have c59b0 : (t267 != t271) = false := by simpa using c59
                    (try (have c59b1 : decide (t267 = t271) = true := by simpa using c59))
                    (try (have c59b2 : (t267 == t271) = true := by simpa using c59))
                    clear c59
                    have H' := Aside0.mk H
                    clear H
                    have p265 : 0 ≤ (x13_3 : Int) := of_decide_eq_true (by first | (with_reducible assumption) | assumption)
                    have q265 : x13_3 < (y253.length : Int) := of_decide_eq_true (by first | (with_reducible assumption) | assumption)
                    obtain ⟨ad265, e265, hx265_0, hx265_1⟩ := at_T38 (Kd.R_reads' HO_12.out).2.2 x13_3 p265 q265
                    obtain rfl : ad256 = ad265 := (by injection e265)
                    replace p265 := eq_true p265
                    replace q265 := eq_true q265
                    try go_wp2_with (first | ((with_reducible refine gate_callee (f := 17) rfl ?_); refine goesL_ (some 114) rfl rfl Tryd.func17 (by kernel_rfl) rfl #[.pointer (some ⟨g238, 0, none⟩), .string ((rd_T38 y253 x13_3).f0), .string a3] rfl (by (try simp only [List.map_toArray, List.map_cons, List.map_nil]); first | done | rfl | (simp only [List.length_drop, List.length_take]; rfl)) ?_; (with_reducible refine (table_Table_Find.calls g238 t260 ((rd_T38 y253 x13_3).f0) a3 t266 t267 t268 w _ ?side1 ?side2 A56.out).mono ?_); (case side1 => repeat (first | (with_reducible first | exact HI238.out | apply IsS57.alloc | apply IsS57.drewN | apply IsS57.drew | refine IsS57.farT ?_ (by repeat (first | exact TyOf.mk BK243.out | apply TyOf.alloc | apply TyOf.drewN | apply TyOf.drew | apply TyOf.set)) (by decide) _) | exact HI238.out)); (case side2 => repeat (first | (with_reducible first | exact HB.out | apply below_alloc | apply pw_below_drewN | apply below_drew1 | refine below_set ?_ (IsS57.ge HI238.out) | refine below_set ?_ GE243.out) | exact HB.out)); rintro e w60 ⟨rfl, hi, hb, hk⟩; refine ⟨_, rfl, ?_⟩; have n0_ := Aside0.mk (Kd.R_mono (Kd.R_keep (IsS57.apart (show IsS57 w _ g238 t260 from by repeat (first | (with_reducible first | exact HI238.out | apply IsS57.alloc | apply IsS57.drewN | apply IsS57.drew | refine IsS57.farT ?_ (by repeat (first | exact TyOf.mk BK243.out | apply TyOf.alloc | apply TyOf.drewN | apply TyOf.drew | apply TyOf.set)) (by decide) _) | exact HI238.out)) (by (with_reducible repeat (first | apply Kd.R_alloc | apply Kd.R_drewN | apply Kd.R_drew)); exact HO_12.out) (by decide)) hk (fun _ h => h.2)) (fun _ h => h.1)); have n1_ := Aside0.mk (Kd.R_mono (Kd.R_keep (IsS57.apart (show IsS57 w _ g238 t260 from by repeat (first | (with_reducible first | exact HI238.out | apply IsS57.alloc | apply IsS57.drewN | apply IsS57.drew | refine IsS57.farT ?_ (by repeat (first | exact TyOf.mk BK243.out | apply TyOf.alloc | apply TyOf.drewN | apply TyOf.drew | apply TyOf.set)) (by decide) _) | exact HI238.out)) (by (with_reducible repeat (first | apply Kd.R_alloc | apply Kd.R_drewN | apply Kd.R_drew)); exact HO_244001.out) (by decide)) hk (fun _ h => h.2)) (fun _ h => h.1)); have n2_ := Aside0.mk (KeepBut.blk hk (g' := gb243) (o := .cells #[.int .i64 x244000_2, .slice Ao39 x244001_2.length co39] 29 (0, 0)) (by (with_reducible repeat (first | refine blk_drewN ?_ _ | refine blk_drew ?_ | refine blk_alloc ?_ _)); exact BK243.out) NB243_238.out (by simp)); have n3_ := Aside0.mk (hb); have n4_ := Aside0.mk (hi); clear HO_12; clear HO_244001; clear BK243; clear HB; clear HI238; have HO_12 := n0_; have HO_244001 := n1_; have BK243 := n2_; have HB := n3_; have HI238 := n4_; clear n0_ n1_ n2_ n3_ n4_; (try clear hb); (try clear hb2); (try clear hk); (try clear hi)))
                    have n0_ := Aside0.mk (Kd.R_drew HO_12.out)
                    have n1_ := Aside0.mk (Kd.R_drew HO_244001.out)
                    have n2_ := Aside0.mk (blk_drew BK243.out)
                    have n3_ := Aside0.mk (IsS57.drew HI238.out)
                    have n4_ := Aside0.mk (below_drew1 HB.out)
                    clear HO_12
                    clear HO_244001
                    clear BK243
                    clear HI238
                    clear HB
                    have HO_12 := n0_
                    have HO_244001 := n1_
                    have BK243 := n2_
                    have HI238 := n3_
                    have HB := n4_
                    clear n0_ n1_ n2_ n3_ n4_
                    have p269 : 0 ≤ (x13_3 : Int) := of_decide_eq_true (by first | (with_reducible assumption) | assumption)
                    have q269 : x13_3 < (y253.length : Int) := of_decide_eq_true (by first | (with_reducible assumption) | assumption)
                    obtain ⟨ad269, e269, hx269_0, hx269_1⟩ := at_T38 (Kd.R_reads' HO_12.out).2.2 x13_3 p269 q269
                    obtain rfl : ad256 = ad269 := (by injection e269)
                    replace p269 := eq_true p269
                    replace q269 := eq_true q269
                    refine start_ (n := 13) (S := fun w' => w'.cell? ⟨gb243, 0, none⟩ = some (.int .i64 x244000_2) ∧ w'.cell? ⟨gb243, 1, none⟩ = some (.slice Ao39 x244001_2.length co39) ∧ w'.cell? (ad256.add ((x13_3).toNat * 2)) = some (.string ((rd_T38 y253 x13_3).f0)) ∧ w'.cell? ⟨(ad256.add ((x13_3).toNat * 2)).block, (ad256.add ((x13_3).toNat * 2)).off + 1, none⟩ = some (.string ((rd_T38 y253 x13_3).f1))) (ds := []) #[false, false, false, false, false, false, false, false, false, false, false, false, false] (by kernel_rfl) rfl rfl ⟨(blk_cell BK243.out 0).trans rfl, (blk_cell BK243.out 1).trans rfl, hx269_0, hx269_1⟩ (fun hHeld => ?_); refine with_tabW nunciolaw11_TableFinds.tab20 nunciolaw11_TableFinds.bits20 (fun HT_ HW_ => ?_)
                    generalize w60.drew = w61 at HO_12 HO_244001 BK243 HI238 HB hx269_0 hx269_1 hHeld ⊢
                    refine pure_ (i := 1) (N := some 119) (v := ?_) (a' := ?_) #[false, true, false, false, false, false, false, false, false, false, false, false, false] rfl rfl (any_of HT_.out (by kernel_rfl)) (fun _ _ _ h => h) (Or.inl ⟨by rfl, ?_⟩) ?_ ?_
                    rotate_left
                    ·
                     intro w'
                     go_simp
                     with_reducible rfl
                    rotate_left
                    ·
                     simp only [Act.put, List.setIfInBounds_toArray, List.set_cons_zero, List.set_cons_succ, i64_w, i32_w]
                     rfl
                    refine pure_ (i := 2) (N := some 120) (v := ?_) (a' := ?_) #[false, true, true, false, false, false, false, false, false, false, false, false, false] rfl rfl (any_of HT_.out (by kernel_rfl)) (fun _ _ _ h => h) (Or.inl ⟨by rfl, ?_⟩) ?_ ?_
                    rotate_left
                    ·
                     intro w'
                     go_simp
                     with_reducible rfl
                    rotate_left
                    ·
                     simp only [Act.put, List.setIfInBounds_toArray, List.set_cons_zero, List.set_cons_succ, i64_w, i32_w]
                     rfl
                    refine pure_ (i := 3) (N := some 121) (v := ?_) (a' := ?_) #[false, true, true, true, false, false, false, false, false, false, false, false, false] rfl rfl (any_of HT_.out (by kernel_rfl)) (fun _ _ _ h => h) (Or.inl ⟨by rfl, ?_⟩) ?_ ?_
                    rotate_left
                    ·
                     intro w'
                     go_simp
                     with_reducible rfl
                    rotate_left
                    ·
                     simp only [Act.put, List.setIfInBounds_toArray, List.set_cons_zero, List.set_cons_succ, i64_w, i32_w]
                     rfl
                    refine pure_ (i := 4) (N := some 122) (v := ?_) (a' := ?_) #[false, true, true, true, true, false, false, false, false, false, false, false, false] rfl rfl (any_of HT_.out (by kernel_rfl)) (fun _ _ _ h => h) (Or.inl ⟨by rfl, ?_⟩) ?_ ?_
                    rotate_left
                    ·
                     intro w'
                     go_simp
                     with_reducible rfl
                    rotate_left
                    ·
                     simp only [Act.put, List.setIfInBounds_toArray, List.set_cons_zero, List.set_cons_succ, i64_w, i32_w]
                     rfl
                    refine pure_ (i := 6) (N := some 124) (v := ?_) (a' := ?_) #[false, true, true, true, true, false, true, false, false, false, false, false, false] rfl rfl (any_of HT_.out (by kernel_rfl)) (fun _ _ _ h => h) (Or.inl ⟨by rfl, ?_⟩) ?_ ?_
                    rotate_left
                    ·
                     intro w'
                     go_simp
                     with_reducible rfl
                    rotate_left
                    ·
                     simp only [Act.put, List.setIfInBounds_toArray, List.set_cons_zero, List.set_cons_succ, i64_w, i32_w]
                     rfl
                    refine take_ (i := 0) (N := some 118) (v := ?_) (a' := ?_) #[true, true, true, true, true, false, true, false, false, false, false, false, false] rfl rfl (take_ofW HT_.out HW_.out (by kernel_rfl)) (fun _ _ _ h => h) (Or.inl ⟨by rfl, ?_⟩) hHeld ?_ ?_
                    rotate_left
                    ·
                     rintro w' ⟨s0, s1, s2, s3⟩
                     go_simp
                     with_reducible rfl
                    rotate_left
                    ·
                     simp only [Act.put, List.setIfInBounds_toArray, List.set_cons_zero, List.set_cons_succ, i64_w, i32_w]
                     rfl
                    refine take_ (i := 5) (N := some 123) (v := ?_) (a' := ?_) #[true, true, true, true, true, true, true, false, false, false, false, false, false] rfl rfl (take_ofW HT_.out HW_.out (by kernel_rfl)) (fun _ _ _ h => h) (Or.inl ⟨by rfl, ?_⟩) hHeld ?_ ?_
                    rotate_left
                    ·
                     rintro w' ⟨s0, s1, s2, s3⟩
                     go_simp
                     with_reducible rfl
                    rotate_left
                    ·
                     simp only [Act.put, List.setIfInBounds_toArray, List.set_cons_zero, List.set_cons_succ, i64_w, i32_w]
                     rfl
                    refine one_ (i := 7) (N := some 125) #[true, true, true, true, true, true, true, true, false, false, false, false, false] rfl rfl (one_of HT_.out (by kernel_rfl)) (by decide) (fun K hK => ?_)
                    refine goes_ Tryd.func18 (by kernel_rfl) rfl #[.agg #[.int .i64 x244000_2, .slice Ao39 x244001_2.length co39], .string ((rd_T38 y253 x13_3).f0), .string a3] (by rfl) rfl rfl (by (try simp only [List.map_toArray, List.map_cons, List.map_nil]); first | done | rfl | (simp only [List.length_drop, List.length_take]; rfl)) ?_
                    with_reducible refine (nuncioref11_Find.calls kj45 x244000_2 _ _ x244001_2 ((rd_T38 y253 x13_3).f0) a3 t270 t271 _ ?side1 ?side2 A57.out).mono ?_
                    (case side1 => repeat (first | exact (Kd.R_reads' HO_244001.out).2.2 | (with_reducible refine Kd.C_alloc ?_ _) | (with_reducible refine Kd.C_drewN ?_ _) | (with_reducible refine Kd.C_drew ?_)))
                    (case side2 => exact (Kd.R_reads' HO_244001.out).2.1)
                    rintro e w62 ⟨rfl, hb⟩
                    have HS2_ := (hb.cell (World.block_lt_of_cell? _ _ (hHeld.2.2.1))).trans (hHeld.2.2.1)
                    have HS3_ := (hb.cell (World.block_lt_of_cell? _ _ (hHeld.2.2.2))).trans (hHeld.2.2.2)
                    refine ⟨_, rfl, ?_⟩
                    have n0_ := Aside0.mk (Kd.R_below (by (with_reducible repeat (first | apply Kd.R_alloc | apply Kd.R_drewN | apply Kd.R_drew)); exact HO_12.out) hb)
                    have n1_ := Aside0.mk (Kd.R_below (by (with_reducible repeat (first | apply Kd.R_alloc | apply Kd.R_drewN | apply Kd.R_drew)); exact HO_244001.out) hb)
                    have n2_ := Aside0.mk (blk_below (g := gb243) (o := .cells #[.int .i64 x244000_2, .slice Ao39 x244001_2.length co39] 29 (0, 0)) (by (with_reducible repeat (first | refine blk_drewN ?_ _ | refine blk_drew ?_ | refine blk_alloc ?_ _)); exact BK243.out) hb)
                    have n3_ := Aside0.mk (IsS57.below (by repeat (first | (with_reducible first | exact HI238.out | apply IsS57.alloc | apply IsS57.drewN | apply IsS57.drew | refine IsS57.farT ?_ (by repeat (first | exact TyOf.mk BK243.out | apply TyOf.alloc | apply TyOf.drewN | apply TyOf.drew | apply TyOf.set)) (by decide) _) | exact HI238.out)) hb)
                    have n4_ := Aside0.mk (below_step (by repeat (first | (with_reducible first | exact HB.out | apply below_alloc | apply pw_below_drewN | apply below_drew1 | refine below_set ?_ (IsS57.ge HI238.out) | refine below_set ?_ GE243.out) | exact HB.out)) hb)
                    clear HO_12
                    clear HO_244001
                    clear BK243
                    clear HI238
                    clear HB
                    have HO_12 := n0_
                    have HO_244001 := n1_
                    have BK243 := n2_
                    have HI238 := n3_
                    have HB := n4_
                    clear n0_ n1_ n2_ n3_ n4_
                    (try clear hb)
                    (try clear hb2)
                    (try clear hk)
                    (try clear hi)
                    refine hK.out _ _ ⟨(blk_cell BK243.out 0).trans rfl, (blk_cell BK243.out 1).trans rfl, HS2_, HS3_⟩ (fun hHeld => ?_)
                    clear hK K
                    refine norm_ (a' := ?_) ?_ ?_
                    rotate_left
                    ·
                     show Act.put _ (some 125) _ = _
                     simp only [Act.put, List.setIfInBounds_toArray, List.set_cons_zero, List.set_cons_succ, i64_w, i32_w]
                     rfl
                    refine pure_ (i := 8) (N := some 117) (v := ?_) (a' := ?_) #[true, true, true, true, true, true, true, true, true, false, false, false, false] rfl rfl (any_of HT_.out (by kernel_rfl)) (fun _ _ _ h => h) (Or.inl ⟨by rfl, ?_⟩) ?_ ?_
                    rotate_left
                    ·
                     intro w'
                     go_simp
                     with_reducible rfl
                    rotate_left
                    ·
                     simp only [Act.put, List.setIfInBounds_toArray, List.set_cons_zero, List.set_cons_succ, i64_w, i32_w]
                     rfl
                    refine pure_ (i := 9) (N := some 126) (v := ?_) (a' := ?_) #[true, true, true, true, true, true, true, true, true, true, false, false, false] rfl rfl (any_of HT_.out (by kernel_rfl)) (fun _ _ _ h => h) (Or.inl ⟨by rfl, ?_⟩) ?_ ?_
                    rotate_left
                    ·
                     intro w'
                     go_simp
                     with_reducible rfl
                    rotate_left
                    ·
                     simp only [Act.put, List.setIfInBounds_toArray, List.set_cons_zero, List.set_cons_succ, i64_w, i32_w]
                     rfl
                    refine pure_ (i := 10) (N := some 127) (v := ?_) (a' := ?_) #[true, true, true, true, true, true, true, true, true, true, true, false, false] rfl rfl (any_of HT_.out (by kernel_rfl)) (fun _ _ _ h => h) (Or.inl ⟨by rfl, ?_⟩) ?_ ?_
                    rotate_left
                    ·
                     intro w'
                     go_simp
                     with_reducible rfl
                    rotate_left
                    ·
                     simp only [Act.put, List.setIfInBounds_toArray, List.set_cons_zero, List.set_cons_succ, i64_w, i32_w]
                     rfl
                    refine pure_ (i := 11) (N := some 16) (v := ?_) (a' := ?_) #[true, true, true, true, true, true, true, true, true, true, true, true, false] rfl rfl (any_of HT_.out (by kernel_rfl)) (fun _ _ _ h => h) (Or.inl ⟨by rfl, ?_⟩) ?_ ?_
                    rotate_left
                    ·
                     intro w'
                     go_simp
                     with_reducible rfl
                    rotate_left
                    ·
                     simp only [Act.put, List.setIfInBounds_toArray, List.set_cons_zero, List.set_cons_succ, i64_w, i32_w]
                     rfl
                    refine pure_ (i := 12) (N := some 17) (v := ?_) (a' := ?_) #[true, true, true, true, true, true, true, true, true, true, true, true, true] rfl rfl (any_of HT_.out (by kernel_rfl)) (fun _ _ _ h => h) (Or.inl ⟨by rfl, ?_⟩) ?_ ?_
                    rotate_left
                    ·
                     intro w'
                     go_simp
                     with_reducible rfl
                    rotate_left
                    ·
                     simp only [Act.put, List.setIfInBounds_toArray, List.set_cons_zero, List.set_cons_succ, i64_w, i32_w]
                     rfl
                    refine done_ (done_of HT_.out (by kernel_rfl)) ?_
                    try go_wp2
                    go_roundg kj45
                    case measure => have := HJ6.out; have := HK2.out; have := HK3.out; have := HJ45.out; omega
                    case rel => exact ⟨(wrap64 (x13_3 + 1)), (t268), (by first | rfl | (simp; done) | (simp [*]; done)), H', ⟨by have := HJ6.out; have := HK2.out; have := HK3.out; have := HJ45.out; omega⟩, ⟨by (with_reducible repeat (first | apply Kd.R_alloc | apply Kd.R_drewN | apply Kd.R_drew)); exact HO_12.out⟩, ⟨by (with_reducible repeat (first | apply Kd.R_alloc | apply Kd.R_drewN | apply Kd.R_drew)); exact HO_244001.out⟩, ⟨by (with_reducible repeat (first | refine blk_drewN ?_ _ | refine blk_drew ?_ | refine blk_alloc ?_ _)); exact BK243.out⟩, ⟨by repeat (first | (with_reducible first | exact HI238.out | apply IsS57.alloc | apply IsS57.drewN | apply IsS57.drew | refine IsS57.farT ?_ (by repeat (first | exact TyOf.mk BK243.out | apply TyOf.alloc | apply TyOf.drewN | apply TyOf.drew | apply TyOf.set)) (by decide) _) | exact HI238.out)⟩, ⟨by repeat (first | (with_reducible first | exact HB.out | apply below_alloc | apply pw_below_drewN | apply below_drew1 | refine below_set ?_ (IsS57.ge HI238.out) | refine below_set ?_ GE243.out) | exact HB.out)⟩⟩
                  ·
                   rw [if_neg c58] at H
                   have c58b0 : (t266 == t270) = false := beq_eq_false_iff_ne.mpr c58
                   have c58b1 : (t266 != t270) = true := bne_iff_ne.mpr c58
                   exact absurd ((Option.some.inj H).trans HT.out) (by decide)
                 ·
                  rw [if_neg c55] at H
                  exact absurd H (by simp)
                ·
                 rw [if_neg c54] at H
                 exact absurd H (by simp)
            ·
             rw [if_neg c43] at H
             exact absurd H (by simp)
           ·
            rw [if_neg c42] at H
            have c42b0 : decide (x13_3 < (y253.length : Int)) = false := decide_eq_false c42
            clear c42
            obtain rfl := Option.some.inj H
            obtain ⟨Ao63, co63, eo63⟩ := Kd.R_slice HO_12.out
            subst eo63
            go_wp2
            go_ret
            exact ⟨by first | rfl | (simp [errW_none, errW_some] <;> rfl) | (simp [*, errW_none, errW_some] <;> rfl), by repeat (first | (with_reducible first | exact HB.out | apply below_alloc | apply pw_below_drewN | apply below_drew1 | refine below_set ?_ (IsS57.ge HI238.out) | refine below_set ?_ GE243.out) | exact HB.out)⟩
        ·
         rw [if_neg c36] at H
         exact absurd H (by simp)
 ·
  replace c6 := Bool.eq_false_iff.mpr c6
  subst c6
  have H1 : (some false) = some r := by rw [if_neg (show ¬ (false = true) by decide)] at H; exact H
  clear H
  have H := H1
  clear H1
  exact absurd ((Option.some.inj H).trans HT.out) (by decide)

/-- THE ONE PURE STATEMENT of nunciolaw11_TableFinds: yours. -/
def nunciolaw11_TableFinds.Pure : Prop := ∀ (a0 : Int) (l1 : List (S34)) (a2 : ByteArray) (a3 : ByteArray), ((Lit.int .i64 a0).wf = true) → (l1.length ≤ 9223372036854775807 ∧ l1.length * 40 ≤ 140737488351232 ∧ ∀ x_ ∈ l1, k34_wf x_) → (a2.size ≤ 140737488351232) → (a3.size ≤ 140737488351232) → ∃ k, nunciolaw11_TableFinds.f k a0 l1 a2 a3 = some true
theorem nunciolaw11_TableFinds.walk (P : nunciolaw11_TableFinds.Pure) (a0 : Int) (A1 : Option Addr) (c1 : Nat) (l1 : List (S34)) (a2 : ByteArray) (a3 : ByteArray) (w : World) (hE : EnvW w) (hr1 : Kd.C k34 w A1 l1.length l1) (hc1 : l1.length ≤ c1) (w0 : (Lit.int .i64 a0).wf = true) (w1 : l1.length ≤ 9223372036854775807 ∧ l1.length * 40 ≤ 140737488351232 ∧ ∀ x_ ∈ l1, k34_wf x_) (w2 : a2.size ≤ 140737488351232) (w3 : a3.size ≤ 140737488351232) :
  Calls Tryd.prog 4 #[.int .i64 a0, .slice A1 l1.length c1, .string a2, .string a3] w fun e w' => e = .returned (.bool true) ∧ Below w.heap.size w w' := by
 obtain ⟨k, h⟩ := P a0 l1 a2 a3 w0 w1 w2 w3
 refine (nunciolaw11_TableFinds.calls k a0 _ _ l1 a2 a3 true w hE hr1 hc1 h rfl).mono ?_
 rintro e w' ⟨rfl, hd⟩
 exact ⟨rfl, hd⟩

end Go.Proofs.YtjdnimgkfkpaeaaDoor.Mine
