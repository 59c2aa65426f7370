-- Written by this repo's own printer (wip/print), which builds on the kit's.
import Derived.Test.YtjdnimgkfkpaeaaDoorTbM
import Derived.Test.YtjdnimgkfkpaeaaDoorWf
import Derived.Test.YtjdnimgkfkpaeaaDoorMinex0
import Derived.Test.YtjdnimgkfkpaeaaDoorMinex3
import Derived.Test.YtjdnimgkfkpaeaaDoorMinex11
namespace Go.Proofs.YtjdnimgkfkpaeaaDoor.Mine
open Go.RowKit Go.Proofs.YtjdnimgkfkpaeaaDoorW.PrintWords Go.Proofs.YtjdnimgkfkpaeaaDoorW.PrintLast Go.Proofs.YtjdnimgkfkpaeaaDoorW.PrintMore
attribute [local go_sem] max2_int min2_int max_two min_two max_three min_three max_four min_four   -- for this text's walks alone
set_option linter.unusedVariables false
set_option linter.unusedSimpArgs false

/-! ### nunciolaw11_TableHolds: function 5 -/
mutual
def nunciolaw11_TableHolds.j0 : Nat → Int → List (S34) → Bool → Option (Bool)
 | 0, _, _, _ => none
 | k + 1, x0, x1, x32 => if x32 = true then (some true) else ((table_New.f x0).bind fun t274 => (nunciolaw11_TableHolds.l0 k x1 0 t274))
def nunciolaw11_TableHolds.l0 : Nat → List (S34) → Int → TB → Option (Bool)
 | 0, _, _, _ => none
 | k + 1, x1, x6, x276000 => if x6 < (x1.length : Int) then (if 0 ≤ x6 then ((table_Table_At.f x276000 62).bind fun bt278 => ((table_Table_Len.f bt278.2.2.2).bind fun bt282 => (if ((rd_T34 x1 x6).f0).toList = ([] : List UInt8) then (nunciolaw11_TableHolds.j2 k x1 x6 bt278.1 bt278.2.1 bt278.2.2.1 bt282.1 (((rd_T34 x1 x6).f1).toList == ([] : List UInt8)) bt282.2 ((rd_T34 x1 x6).f0) ((rd_T34 x1 x6).f1) ((rd_T34 x1 x6).f2)) else (nunciolaw11_TableHolds.j2 k x1 x6 bt278.1 bt278.2.1 bt278.2.2.1 bt282.1 false bt282.2 ((rd_T34 x1 x6).f0) ((rd_T34 x1 x6).f1) ((rd_T34 x1 x6).f2))))) else (none)) else (some true)
def nunciolaw11_TableHolds.j2 : Nat → List (S34) → Int → ByteArray → ByteArray → Bool → Int → Bool → TB → ByteArray → ByteArray → Int → Option (Bool)
 | 0, _, _, _, _, _, _, _, _, _, _, _ => none
 | k + 1, x1, x6, x8, x9, x10, x11, x60, x276000, x278000, x278001, x278002 => if x60 = true then ((table_Table_Resize.f x276000 x278002).bind fun t284 => (nunciolaw11_TableHolds.j4 k x1 x6 t284)) else ((table_Table_Add.f x276000 x278000 x278001).bind fun t285 => ((table_Table_At.f t285 62).bind fun bt286 => ((table_Table_Len.f bt286.2.2.2).bind fun bt290 => (if (bt286.2.2.1 != (decide (bt290.1 > 0))) = true then (nunciolaw11_TableHolds.j3 k x1 x6 x8 x9 x10 x11 true bt290.2) else (if bt286.2.2.1 = true then (if bt286.1.toList = x278000.toList then (if bt286.2.1.toList = x278001.toList then ((table_Table_Most.f bt290.2).bind fun bt292 => (nunciolaw11_TableHolds.j3 k x1 x6 x8 x9 x10 x11 (bt286.2.2.1 != (decide ((wrap64 ((x278000.size : Int) + (x278001.size : Int))) ≤ (wrap64 (bt292.1 - 32))))) bt292.2)) else (nunciolaw11_TableHolds.j3 k x1 x6 x8 x9 x10 x11 true bt290.2)) else (nunciolaw11_TableHolds.j3 k x1 x6 x8 x9 x10 x11 true bt290.2)) else ((table_Table_Most.f bt290.2).bind fun bt294 => (nunciolaw11_TableHolds.j3 k x1 x6 x8 x9 x10 x11 (bt286.2.2.1 != (decide ((wrap64 ((x278000.size : Int) + (x278001.size : Int))) ≤ (wrap64 (bt294.1 - 32))))) bt294.2)))))))
def nunciolaw11_TableHolds.j4 : Nat → List (S34) → Int → TB → Option (Bool)
 | 0, _, _, _ => none
 | k + 1, x1, x6, x276000 => nunciolaw11_TableHolds.l1 k x1 x6 0 0 x276000
def nunciolaw11_TableHolds.l1 : Nat → List (S34) → Int → Int → Int → TB → Option (Bool)
 | 0, _, _, _, _, _ => none
 | k + 1, x1, x6, x18, x19, x276000 => (table_Table_Len.f x276000).bind fun bt304 => (if x19 < bt304.1 then ((table_Table_At.f bt304.2 (wrap64 (62 + x19))).bind fun bt306 => (if bt306.2.2.1 = true then (nunciolaw11_TableHolds.l1 k x1 x6 (wrap64 ((wrap64 ((wrap64 (x18 + (bt306.1.size : Int))) + (bt306.2.1.size : Int))) + 32)) (wrap64 (x19 + 1)) bt306.2.2.2) else (some false))) else ((table_Table_Size.f bt304.2).bind fun bt310 => (if x18 = bt310.1 then ((table_Table_Most.f bt310.2).bind fun bt312 => (if x18 > bt312.1 then (some false) else ((table_Table_Most.f bt312.2).bind fun bt314 => (if bt314.1 < 0 then (some false) else (nunciolaw11_TableHolds.l0 k x1 (wrap64 (x6 + 1)) bt314.2))))) else (some false))))
def nunciolaw11_TableHolds.j3 : Nat → List (S34) → Int → ByteArray → ByteArray → Bool → Int → Bool → TB → Option (Bool)
 | 0, _, _, _, _, _, _, _, _ => none
 | k + 1, x1, x6, x8, x9, x10, x11, x111, x276000 => if x111 = true then (some false) else ((table_Table_At.f x276000 63).bind fun bt296 => (if bt296.2.2.1 = true then (if x10 = true then (if bt296.1.toList = x8.toList then (if bt296.2.1.toList = x9.toList then ((table_Table_Len.f bt296.2.2.2).bind fun bt300 => (if bt300.1 > (wrap64 (x11 + 1)) then (some false) else (nunciolaw11_TableHolds.j4 k x1 x6 bt300.2))) else (some false)) else (some false)) else (some false)) else ((table_Table_Len.f bt296.2.2.2).bind fun bt302 => (if bt302.1 > (wrap64 (x11 + 1)) then (some false) else (nunciolaw11_TableHolds.j4 k x1 x6 bt302.2)))))
end
def nunciolaw11_TableHolds.f (k : Nat) (a0 : Int) (l1 : List (S34)) : Option (Bool) := (nunciolaw11_awake.f).bind fun t272 => (if t272 = true then ((nunciolaw11_Few.f k l1).bind fun t273 => (if t273 = true then (nunciolaw11_TableHolds.j0 k a0 l1 (decide ((l1.length : Int) > 100))) else (nunciolaw11_TableHolds.j0 k a0 l1 true))) else (some false))
theorem nunciolaw11_TableHolds.mono_l : ∀ k, (∀ y0 y1 y2, LeO (nunciolaw11_TableHolds.j0 k y0 y1 y2) (nunciolaw11_TableHolds.j0 (k + 1) y0 y1 y2)) ∧ (∀ y0 y1 y2, LeO (nunciolaw11_TableHolds.l0 k y0 y1 y2) (nunciolaw11_TableHolds.l0 (k + 1) y0 y1 y2)) ∧ (∀ y0 y1 y2 y3 y4 y5 y6 y7 y8 y9 y10, LeO (nunciolaw11_TableHolds.j2 k y0 y1 y2 y3 y4 y5 y6 y7 y8 y9 y10) (nunciolaw11_TableHolds.j2 (k + 1) y0 y1 y2 y3 y4 y5 y6 y7 y8 y9 y10)) ∧ (∀ y0 y1 y2, LeO (nunciolaw11_TableHolds.j4 k y0 y1 y2) (nunciolaw11_TableHolds.j4 (k + 1) y0 y1 y2)) ∧ (∀ y0 y1 y2 y3 y4, LeO (nunciolaw11_TableHolds.l1 k y0 y1 y2 y3 y4) (nunciolaw11_TableHolds.l1 (k + 1) y0 y1 y2 y3 y4)) ∧ (∀ y0 y1 y2 y3 y4 y5 y6 y7, LeO (nunciolaw11_TableHolds.j3 k y0 y1 y2 y3 y4 y5 y6 y7) (nunciolaw11_TableHolds.j3 (k + 1) y0 y1 y2 y3 y4 y5 y6 y7))
 | 0 => ⟨fun _ _ _ r h => by simp [nunciolaw11_TableHolds.j0] at h, fun _ _ _ r h => by simp [nunciolaw11_TableHolds.l0] at h, fun _ _ _ _ _ _ _ _ _ _ _ r h => by simp [nunciolaw11_TableHolds.j2] at h, fun _ _ _ r h => by simp [nunciolaw11_TableHolds.j4] at h, fun _ _ _ _ _ r h => by simp [nunciolaw11_TableHolds.l1] at h, fun _ _ _ _ _ _ _ _ r h => by simp [nunciolaw11_TableHolds.j3] at h⟩
 | k + 1 => by
  obtain ⟨ih0, ih1, ih2, ih3, ih4, ih5⟩ := nunciolaw11_TableHolds.mono_l k
  refine ⟨?_, ?_, ?_, ?_, ?_, ?_⟩
  ·
   intro y0 y1 y2
   unfold nunciolaw11_TableHolds.j0
   repeat' first
   | (with_reducible exact ih0 _ _ _)
   | (with_reducible exact ih1 _ _ _)
   | (with_reducible exact ih2 _ _ _ _ _ _ _ _ _ _ _)
   | (with_reducible exact ih3 _ _ _)
   | (with_reducible exact ih4 _ _ _ _ _)
   | (with_reducible exact ih5 _ _ _ _ _ _ _ _)
   | (with_reducible exact nunciolaw11_Few.mono _ _)
   | (with_reducible exact LeO.refl _)
   | (with_reducible exact LeO.none _)
   | (with_reducible refine LeO.ite ?_ ?_)
   | (with_reducible refine LeO.bind ?_ (fun _ => ?_))
   | exact ih0 _ _ _
   | exact ih1 _ _ _
   | exact ih2 _ _ _ _ _ _ _ _ _ _ _
   | exact ih3 _ _ _
   | exact ih4 _ _ _ _ _
   | exact ih5 _ _ _ _ _ _ _ _
   | exact nunciolaw11_Few.mono _ _
   | exact LeO.none _
   | refine LeO.ite ?_ ?_
   | refine LeO.bind ?_ (fun _ => ?_)
  ·
   intro y0 y1 y2
   unfold nunciolaw11_TableHolds.l0
   repeat' first
   | (with_reducible exact ih0 _ _ _)
   | (with_reducible exact ih1 _ _ _)
   | (with_reducible exact ih2 _ _ _ _ _ _ _ _ _ _ _)
   | (with_reducible exact ih3 _ _ _)
   | (with_reducible exact ih4 _ _ _ _ _)
   | (with_reducible exact ih5 _ _ _ _ _ _ _ _)
   | (with_reducible exact nunciolaw11_Few.mono _ _)
   | (with_reducible exact LeO.refl _)
   | (with_reducible exact LeO.none _)
   | (with_reducible refine LeO.ite ?_ ?_)
   | (with_reducible refine LeO.bind ?_ (fun _ => ?_))
   | exact ih0 _ _ _
   | exact ih1 _ _ _
   | exact ih2 _ _ _ _ _ _ _ _ _ _ _
   | exact ih3 _ _ _
   | exact ih4 _ _ _ _ _
   | exact ih5 _ _ _ _ _ _ _ _
   | exact nunciolaw11_Few.mono _ _
   | exact LeO.none _
   | refine LeO.ite ?_ ?_
   | refine LeO.bind ?_ (fun _ => ?_)
  ·
   intro y0 y1 y2 y3 y4 y5 y6 y7 y8 y9 y10
   unfold nunciolaw11_TableHolds.j2
   repeat' first
   | (with_reducible exact ih0 _ _ _)
   | (with_reducible exact ih1 _ _ _)
   | (with_reducible exact ih2 _ _ _ _ _ _ _ _ _ _ _)
   | (with_reducible exact ih3 _ _ _)
   | (with_reducible exact ih4 _ _ _ _ _)
   | (with_reducible exact ih5 _ _ _ _ _ _ _ _)
   | (with_reducible exact nunciolaw11_Few.mono _ _)
   | (with_reducible exact LeO.refl _)
   | (with_reducible exact LeO.none _)
   | (with_reducible refine LeO.ite ?_ ?_)
   | (with_reducible refine LeO.bind ?_ (fun _ => ?_))
   | exact ih0 _ _ _
   | exact ih1 _ _ _
   | exact ih2 _ _ _ _ _ _ _ _ _ _ _
   | exact ih3 _ _ _
   | exact ih4 _ _ _ _ _
   | exact ih5 _ _ _ _ _ _ _ _
   | exact nunciolaw11_Few.mono _ _
   | exact LeO.none _
   | refine LeO.ite ?_ ?_
   | refine LeO.bind ?_ (fun _ => ?_)
  ·
   intro y0 y1 y2
   unfold nunciolaw11_TableHolds.j4
   repeat' first
   | (with_reducible exact ih0 _ _ _)
   | (with_reducible exact ih1 _ _ _)
   | (with_reducible exact ih2 _ _ _ _ _ _ _ _ _ _ _)
   | (with_reducible exact ih3 _ _ _)
   | (with_reducible exact ih4 _ _ _ _ _)
   | (with_reducible exact ih5 _ _ _ _ _ _ _ _)
   | (with_reducible exact nunciolaw11_Few.mono _ _)
   | (with_reducible exact LeO.refl _)
   | (with_reducible exact LeO.none _)
   | (with_reducible refine LeO.ite ?_ ?_)
   | (with_reducible refine LeO.bind ?_ (fun _ => ?_))
   | exact ih0 _ _ _
   | exact ih1 _ _ _
   | exact ih2 _ _ _ _ _ _ _ _ _ _ _
   | exact ih3 _ _ _
   | exact ih4 _ _ _ _ _
   | exact ih5 _ _ _ _ _ _ _ _
   | exact nunciolaw11_Few.mono _ _
   | exact LeO.none _
   | refine LeO.ite ?_ ?_
   | refine LeO.bind ?_ (fun _ => ?_)
  ·
   intro y0 y1 y2 y3 y4
   unfold nunciolaw11_TableHolds.l1
   repeat' first
   | (with_reducible exact ih0 _ _ _)
   | (with_reducible exact ih1 _ _ _)
   | (with_reducible exact ih2 _ _ _ _ _ _ _ _ _ _ _)
   | (with_reducible exact ih3 _ _ _)
   | (with_reducible exact ih4 _ _ _ _ _)
   | (with_reducible exact ih5 _ _ _ _ _ _ _ _)
   | (with_reducible exact nunciolaw11_Few.mono _ _)
   | (with_reducible exact LeO.refl _)
   | (with_reducible exact LeO.none _)
   | (with_reducible refine LeO.ite ?_ ?_)
   | (with_reducible refine LeO.bind ?_ (fun _ => ?_))
   | exact ih0 _ _ _
   | exact ih1 _ _ _
   | exact ih2 _ _ _ _ _ _ _ _ _ _ _
   | exact ih3 _ _ _
   | exact ih4 _ _ _ _ _
   | exact ih5 _ _ _ _ _ _ _ _
   | exact nunciolaw11_Few.mono _ _
   | exact LeO.none _
   | refine LeO.ite ?_ ?_
   | refine LeO.bind ?_ (fun _ => ?_)
  ·
   intro y0 y1 y2 y3 y4 y5 y6 y7
   unfold nunciolaw11_TableHolds.j3
   repeat' first
   | (with_reducible exact ih0 _ _ _)
   | (with_reducible exact ih1 _ _ _)
   | (with_reducible exact ih2 _ _ _ _ _ _ _ _ _ _ _)
   | (with_reducible exact ih3 _ _ _)
   | (with_reducible exact ih4 _ _ _ _ _)
   | (with_reducible exact ih5 _ _ _ _ _ _ _ _)
   | (with_reducible exact nunciolaw11_Few.mono _ _)
   | (with_reducible exact LeO.refl _)
   | (with_reducible exact LeO.none _)
   | (with_reducible refine LeO.ite ?_ ?_)
   | (with_reducible refine LeO.bind ?_ (fun _ => ?_))
   | exact ih0 _ _ _
   | exact ih1 _ _ _
   | exact ih2 _ _ _ _ _ _ _ _ _ _ _
   | exact ih3 _ _ _
   | exact ih4 _ _ _ _ _
   | exact ih5 _ _ _ _ _ _ _ _
   | exact nunciolaw11_Few.mono _ _
   | exact LeO.none _
   | refine LeO.ite ?_ ?_
   | refine LeO.bind ?_ (fun _ => ?_)
theorem nunciolaw11_TableHolds.mono : ∀ a0 a1 k, LeO (nunciolaw11_TableHolds.f k a0 a1) (nunciolaw11_TableHolds.f (k + 1) a0 a1) := by
 intro a0 a1 k
 obtain ⟨ih0, ih1, ih2, ih3, ih4, ih5⟩ := nunciolaw11_TableHolds.mono_l k
 unfold nunciolaw11_TableHolds.f
 repeat' first
   | (with_reducible exact ih0 _ _ _)
   | (with_reducible exact ih1 _ _ _)
   | (with_reducible exact ih2 _ _ _ _ _ _ _ _ _ _ _)
   | (with_reducible exact ih3 _ _ _)
   | (with_reducible exact ih4 _ _ _ _ _)
   | (with_reducible exact ih5 _ _ _ _ _ _ _ _)
   | (with_reducible exact nunciolaw11_Few.mono _ _)
   | (with_reducible exact LeO.refl _)
   | (with_reducible exact LeO.none _)
   | (with_reducible refine LeO.ite ?_ ?_)
   | (with_reducible refine LeO.bind ?_ (fun _ => ?_))
   | exact ih0 _ _ _
   | exact ih1 _ _ _
   | exact ih2 _ _ _ _ _ _ _ _ _ _ _
   | exact ih3 _ _ _
   | exact ih4 _ _ _ _ _
   | exact ih5 _ _ _ _ _ _ _ _
   | exact nunciolaw11_Few.mono _ _
   | exact LeO.none _
   | refine LeO.ite ?_ ?_
   | refine LeO.bind ?_ (fun _ => ?_)
def nunciolaw11_TableHolds.T16 : Bool × List (List Nat × List Nat) := (true, [([], []), ([], []), ([1], [1]), ([2], [2]), ([0, 3], [0, 3]), ([4, 2], [4]), ([5], [5]), ([6, 5, 5], [5, 6]), ([7], [7]), ([7], [7]), ([9, 7], [7, 9]), ([8, 10, 7], [7, 8, 10]), ([11, 7, 7], [7, 11]), ([12], [12]), ([12], [12]), ([14, 12], [12, 14]), ([13, 15, 12], [12, 13, 15]), ([12, 16, 7], [7, 12, 16]), ([7, 17, 5], [5, 7, 17]), ([5, 18], [5, 18]), ([19, 12], [19]), ([20], [20]), ([20], [20]), ([22, 20], [20, 22]), ([23, 20], [20, 23]), ([20], [20]), ([25, 20], [20, 25]), ([26, 20], [20, 26]), ([24, 27, 20], [20, 24, 27]), ([20], [20]), ([29, 20, 20], [20, 29]), ([30, 20], [20, 30]), ([28, 31, 20], [20, 28, 31]), ([21, 32, 20], [20, 21, 32]), ([20, 33], [20, 33])])
def nunciolaw11_TableHolds.B16 : List Nat := [0, 0, 2, 6, 15, 31, 63, 127, 255, 255, 767, 2047, 4095, 8191, 8191, 24575, 65535, 131071, 262143, 524287, 1048575, 2097151, 2097151, 6291455, 14680063, 2097151, 35651583, 102760447, 266338303, 2097151, 538968063, 1612709887, 4292870143, 8589934591, 17179869183]
theorem nunciolaw11_TableHolds.tab16 : rtab .any (opsOf Tryd.f5 16) = nunciolaw11_TableHolds.T16 := by kernel_rfl
theorem nunciolaw11_TableHolds.bits16 : waitsOk nunciolaw11_TableHolds.T16.2 nunciolaw11_TableHolds.B16 = true := by kernel_rfl
set_option maxHeartbeats 8000000 in
set_option maxRecDepth 100000 in
theorem nunciolaw11_TableHolds.calls (k : Nat) (a0 : Int) (A1 : Option Addr) (c1 : Nat) (l1 : List (S34)) (r : Bool) (w : World) (hE : EnvW w) (hr1 : Kd.C k34 w A1 l1.length l1) (hc1 : l1.length ≤ c1) (h : nunciolaw11_TableHolds.f k a0 l1 = some r) (hT : r = true) :
  Calls Tryd.prog 5 #[.int .i64 a0, .slice A1 l1.length c1] w fun e w' => e = .returned (.bool r) ∧ Below w.heap.size w w' := by
 have hu34 := Tryd.underlying34
 have HR1 := Aside0.mk hr1
 have HC1 := Aside0.mk hc1
 clear hr1 hc1
 have HB := Aside0.mk (Below.refl w.heap.size w)
 have HEnv := Aside0.mk hE
 clear hE
 have HT := Aside0.mk hT
 clear hT
 have H : ((nunciolaw11_awake.f).bind fun t272 => (if t272 = true then ((nunciolaw11_Few.f k l1).bind fun t273 => (if t273 = true then (nunciolaw11_TableHolds.j0 k a0 l1 (decide ((l1.length : Int) > 100))) else (nunciolaw11_TableHolds.j0 k a0 l1 true))) else (some false))) = some r := h
 clear h
 replace H := Option.bind_eq_some_iff.mp H
 obtain ⟨t272, A30, H⟩ := H
 replace H : (if t272 = true then ((nunciolaw11_Few.f k l1).bind fun t273 => (if t273 = true then (nunciolaw11_TableHolds.j0 k a0 l1 (decide ((l1.length : Int) > 100))) else (nunciolaw11_TableHolds.j0 k a0 l1 true))) else (some false)) = some r := H
 have A3 := Aside0.mk A30
 clear A30
 by_cases c4 : t272 = true
 ·
  subst c4
  have H1 : ((nunciolaw11_Few.f k l1).bind fun t273 => (if t273 = true then (nunciolaw11_TableHolds.j0 k a0 l1 (decide ((l1.length : Int) > 100))) else (nunciolaw11_TableHolds.j0 k a0 l1 true))) = some r := by rw [if_pos rfl] at H; exact H
  clear H
  have H := H1
  clear H1
  have HC5 := Aside0.mk H
  clear H
  go_enter Tryd.func5, Tryd.ntmps5
  go_upto_region 3 with (first | ((with_reducible refine gate_callee (f := 8) rfl ?_); refine goesL_ (some 23) rfl rfl Tryd.func8 (by kernel_rfl) rfl #[] rfl (by (try simp only [List.map_toArray, List.map_cons, List.map_nil]); first | done | rfl | (simp only [List.length_drop, List.length_take]; rfl)) ?_; (with_reducible refine (nunciolaw11_awake.calls  true _ ?side1 A3.out).mono ?_); (case side1 => exact EnvW.below HEnv.out rfl (by repeat (first | (with_reducible first | exact HB.out | apply below_alloc | apply pw_below_drewN | apply below_drew1) | exact HB.out))); rintro e w6 ⟨rfl, hb⟩; refine ⟨_, rfl, ?_⟩; have n0_ := Aside0.mk (below_step (by repeat (first | (with_reducible first | exact HB.out | apply below_alloc | apply pw_below_drewN | apply below_drew1) | exact HB.out)) hb); clear HB; have HB := n0_; clear n0_; (try clear hb); (try clear hb2); (try clear hk); (try clear hi)))
  (try simp only [Act.put, List.setIfInBounds_toArray, List.set_cons_zero, List.set_cons_succ])
  go_cut [32] (fun v32 wc => ∃ (kq : Nat) (x32_4 : Bool), v32 = .bool x32_4 ∧ Aside0 (nunciolaw11_TableHolds.j0 kq a0 l1 x32_4 = some r) ∧ Aside0 (kq ≤ k) ∧ Aside0 (Below w.heap.size w wc))
  case first =>
   have H := HC5.out
   clear HC5
   replace H := Option.bind_eq_some_iff.mp H
   obtain ⟨t273, A70, H⟩ := H
   replace H : (if t273 = true then (nunciolaw11_TableHolds.j0 k a0 l1 (decide ((l1.length : Int) > 100))) else (nunciolaw11_TableHolds.j0 k a0 l1 true)) = some r := H
   have A7 := Aside0.mk A70
   clear A70
   by_cases c8 : t273 = true
   ·
    subst c8
    have H1 : (nunciolaw11_TableHolds.j0 k a0 l1 (decide ((l1.length : Int) > 100))) = some r := by rw [if_pos rfl] at H; exact H
    clear H
    have H := H1
    clear H1
    have H' := Aside0.mk H
    clear H
    go_wp2_with (first | ((with_reducible refine gate_callee (f := 9) rfl ?_); refine goesL_ (some 26) rfl rfl Tryd.func9 (by kernel_rfl) rfl #[.slice A1 l1.length c1] rfl (by (try simp only [List.map_toArray, List.map_cons, List.map_nil]); first | done | rfl | (simp only [List.length_drop, List.length_take]; rfl)) ?_; (with_reducible refine (nunciolaw11_Few.calls k _ _ l1 true _ ?side1 ?side2 A7.out).mono ?_); (case side1 => repeat (first | exact (Kd.C_below HR1.out HB.out) | (with_reducible refine Kd.C_alloc ?_ _) | (with_reducible refine Kd.C_drewN ?_ _) | (with_reducible refine Kd.C_drew ?_))); (case side2 => exact HC1.out); rintro e w9 ⟨rfl, hb⟩; refine ⟨_, rfl, ?_⟩; have n0_ := Aside0.mk (below_step (by repeat (first | (with_reducible first | exact HB.out | apply below_alloc | apply pw_below_drewN | apply below_drew1) | exact HB.out)) hb); clear HB; have HB := n0_; clear n0_; (try clear hb); (try clear hb2); (try clear hk); (try clear hi)))
    go_meet
    case rel => exact ⟨_, (decide ((l1.length : Int) > 100)), (by first | rfl | (simp; done) | (simp [*]; done)), H', ⟨by first | omega | exact Nat.le_refl _⟩, ⟨by repeat (first | (with_reducible first | exact HB.out | apply below_alloc | apply pw_below_drewN | apply below_drew1) | exact HB.out)⟩⟩
   ·
    replace c8 := Bool.eq_false_iff.mpr c8
    subst c8
    have H1 : (nunciolaw11_TableHolds.j0 k a0 l1 true) = some r := by rw [if_neg (show ¬ (false = true) by decide)] at H; exact H
    clear H
    have H := H1
    clear H1
    have H' := Aside0.mk H
    clear H
    go_wp2_with (first | ((with_reducible refine gate_callee (f := 9) rfl ?_); refine goesL_ (some 26) rfl rfl Tryd.func9 (by kernel_rfl) rfl #[.slice A1 l1.length c1] rfl (by (try simp only [List.map_toArray, List.map_cons, List.map_nil]); first | done | rfl | (simp only [List.length_drop, List.length_take]; rfl)) ?_; (with_reducible refine (nunciolaw11_Few.calls k _ _ l1 false _ ?side1 ?side2 A7.out).mono ?_); (case side1 => repeat (first | exact (Kd.C_below HR1.out HB.out) | (with_reducible refine Kd.C_alloc ?_ _) | (with_reducible refine Kd.C_drewN ?_ _) | (with_reducible refine Kd.C_drew ?_))); (case side2 => exact HC1.out); rintro e w10 ⟨rfl, hb⟩; refine ⟨_, rfl, ?_⟩; have n0_ := Aside0.mk (below_step (by repeat (first | (with_reducible first | exact HB.out | apply below_alloc | apply pw_below_drewN | apply below_drew1) | exact HB.out)) hb); clear HB; have HB := n0_; clear n0_; (try clear hb); (try clear hb2); (try clear hk); (try clear hi)))
    go_meet
    case rel => exact ⟨_, (true), (by first | rfl | (simp; done) | (simp [*]; done)), H', ⟨by first | omega | exact Nat.le_refl _⟩, ⟨by repeat (first | (with_reducible first | exact HB.out | apply below_alloc | apply pw_below_drewN | apply below_drew1) | exact HB.out)⟩⟩
  case rest =>
   clear HC5
   try clear c1
   try clear p2
   try clear c4
   try clear c5
   try clear c8
   try clear c9
   obtain ⟨kq, x32_4, rfl, HA, HJ4, HB⟩ := hcut
   cases kq with
   | zero => exact absurd HA.out (by simp [nunciolaw11_TableHolds.j0])
   | succ kj4 =>
    have H := HA.out
    clear HA
    simp only [nunciolaw11_TableHolds.j0] at H
    by_cases c11 : x32_4 = true
    ·
     subst c11
     have H1 : (some true) = some r := by rw [if_pos rfl] at H; exact H
     clear H
     have H := H1
     clear H1
     obtain rfl := Option.some.inj H
     go_wp2
     go_ret
     exact ⟨by first | rfl | (simp [errW_none, errW_some] <;> rfl) | (simp [*, errW_none, errW_some] <;> rfl), by repeat (first | (with_reducible first | exact HB.out | apply below_alloc | apply pw_below_drewN | apply below_drew1) | exact HB.out)⟩
    ·
     replace c11 := Bool.eq_false_iff.mpr c11
     subst c11
     have H1 : ((table_New.f a0).bind fun t274 => (nunciolaw11_TableHolds.l0 kj4 l1 0 t274)) = some r := by rw [if_neg (show ¬ (false = true) by decide)] at H; exact H
     clear H
     have H := H1
     clear H1
     replace H := Option.bind_eq_some_iff.mp H
     obtain ⟨t274, A120, H⟩ := H
     replace H : (nunciolaw11_TableHolds.l0 kj4 l1 0 t274) = some r := H
     have A12 := Aside0.mk A120
     clear A120
     have H' := Aside0.mk H
     clear H
     go_wp2_with (first | ((with_reducible refine gate_callee (f := 10) rfl ?_); refine goesL_ (some 34) rfl rfl Tryd.func10 (by kernel_rfl) rfl #[.int .i64 a0] rfl (by (try simp only [List.map_toArray, List.map_cons, List.map_nil]); first | done | rfl | (simp only [List.length_drop, List.length_take]; rfl)) ?_; (with_reducible refine (table_New.calls a0 t274 w _ ?side1 ?side2 A12.out).mono ?_); (case side1 => repeat (first | (with_reducible first | exact HB.out | apply below_alloc | apply pw_below_drewN | apply below_drew1) | exact HB.out)); (case side2 => exact EnvW.below HEnv.out rfl (by repeat (first | (with_reducible first | exact HB.out | apply below_alloc | apply pw_below_drewN | apply below_drew1) | exact HB.out))); rintro e w13 ⟨g275, rfl, hi, hb, hb2⟩; refine ⟨_, rfl, ?_⟩; have n0_ := Aside0.mk (hb); have n1_ := Aside0.mk (hi); clear HB; have HB := n0_; have HI275 := n1_; clear n0_ n1_; (try clear hb); (try clear hb2); (try clear hk); (try clear hi)))
     go_loopg [6] kj4 (fun kq v6 w' => ∃ (x6_2 : Int) (x276000_2 : TB), v6 = .int .i64 x6_2 ∧ Aside0 (nunciolaw11_TableHolds.l0 kq l1 x6_2 x276000_2 = some r) ∧ Aside0 (kq ≤ kj4) ∧ Aside0 (IsS57 w w' g275 x276000_2) ∧ Aside0 (Below w.heap.size w w'))
     case atStart => exact ⟨(0), (t274), (by first | rfl | (simp; done) | (simp [*]; done)), H', ⟨Nat.le_refl _⟩, ⟨by repeat (first | (with_reducible first | exact HI275.out | apply IsS57.alloc | apply IsS57.drewN | apply IsS57.drew) | exact HI275.out)⟩, ⟨by repeat (first | (with_reducible first | exact HB.out | apply below_alloc | apply pw_below_drewN | apply below_drew1 | refine below_set ?_ (IsS57.ge HI275.out)) | exact HB.out)⟩⟩
     case round =>
      clear H'
      try clear c1
      try clear p2
      try clear c4
      try clear c5
      try clear c8
      try clear c9
      try clear c10
      try clear c11
      try clear p2
      obtain ⟨x6_2, x276000_2, rfl, HA, HK2, HI275, HB⟩ := hrel
      cases gk with
      | zero => exact absurd HA.out (by simp [nunciolaw11_TableHolds.l0])
      | succ k2 =>
       have H := HA.out
       clear HA
       simp only [nunciolaw11_TableHolds.l0] at H
       by_cases c14 : x6_2 < (l1.length : Int)
       ·
        rw [if_pos c14] at H
        have c14b0 : decide (x6_2 < (l1.length : Int)) = true := decide_eq_true c14
        clear c14
        by_cases c15 : 0 ≤ x6_2
        ·
         rw [if_pos c15] at H
         have c15b0 : decide (0 ≤ x6_2) = true := decide_eq_true c15
         clear c15
         replace H := Option.bind_eq_some_iff.mp H
         obtain ⟨⟨t278, t279, t280, t281⟩, A160, H⟩ := H
         replace H : ((table_Table_Len.f t281).bind fun bt282 => (if ((rd_T34 l1 x6_2).f0).toList = ([] : List UInt8) then (nunciolaw11_TableHolds.j2 k2 l1 x6_2 t278 t279 t280 bt282.1 (((rd_T34 l1 x6_2).f1).toList == ([] : List UInt8)) bt282.2 ((rd_T34 l1 x6_2).f0) ((rd_T34 l1 x6_2).f1) ((rd_T34 l1 x6_2).f2)) else (nunciolaw11_TableHolds.j2 k2 l1 x6_2 t278 t279 t280 bt282.1 false bt282.2 ((rd_T34 l1 x6_2).f0) ((rd_T34 l1 x6_2).f1) ((rd_T34 l1 x6_2).f2)))) = some r := H
         have A16 := Aside0.mk A160
         clear A160
         replace H := Option.bind_eq_some_iff.mp H
         obtain ⟨⟨t282, t283⟩, A170, H⟩ := H
         replace H : (if ((rd_T34 l1 x6_2).f0).toList = ([] : List UInt8) then (nunciolaw11_TableHolds.j2 k2 l1 x6_2 t278 t279 t280 t282 (((rd_T34 l1 x6_2).f1).toList == ([] : List UInt8)) t283 ((rd_T34 l1 x6_2).f0) ((rd_T34 l1 x6_2).f1) ((rd_T34 l1 x6_2).f2)) else (nunciolaw11_TableHolds.j2 k2 l1 x6_2 t278 t279 t280 t282 false t283 ((rd_T34 l1 x6_2).f0) ((rd_T34 l1 x6_2).f1) ((rd_T34 l1 x6_2).f2))) = some r := H
         have A17 := Aside0.mk A170
         clear A170
         have HC18 := Aside0.mk H
         clear H
         have p276 : 0 ≤ (x6_2 : Int) := of_decide_eq_true (by first | (with_reducible assumption) | assumption)
         have q276 : x6_2 < (l1.length : Int) := of_decide_eq_true (by first | (with_reducible assumption) | assumption)
         obtain ⟨ad276, e276, hx276_0, hx276_1, hx276_2⟩ := at_T34 HR1.out x6_2 p276 q276
         cases e276
         replace hx276_0 := (HB.out.cell (World.block_lt_of_cell? w _ hx276_0)).trans hx276_0
         replace hx276_1 := (HB.out.cell (World.block_lt_of_cell? w _ hx276_1)).trans hx276_1
         replace hx276_2 := (HB.out.cell (World.block_lt_of_cell? w _ hx276_2)).trans hx276_2
         replace p276 := eq_true p276
         replace q276 := eq_true q276
         go_upto_region 12 with (first | ((with_reducible refine gate_dst (N := 7) rfl ?_); (try (refine gate_guard (by rfl) ?_; dsimp only)); refine box_event ?hg (N := 7) ?hd (cs := #[.string (⟨#[]⟩ : ByteArray), .string (⟨#[]⟩ : ByteArray), .int .i64 0]) (t := 34) ?hr ?_; (case hd => rfl); (case hg => rfl); (case hr => first | (go_simp; done) | (go_simp; rfl)); intro gb277 hg w19 hbox hb; have n0_ := Aside0.mk (IsS57.below (by repeat (first | (with_reducible first | exact HI275.out | apply IsS57.alloc | apply IsS57.drewN | apply IsS57.drew) | exact HI275.out)) hb); have n1_ := Aside0.mk (below_step (by repeat (first | (with_reducible first | exact HB.out | apply below_alloc | apply pw_below_drewN | apply below_drew1 | refine below_set ?_ (IsS57.ge HI275.out)) | exact HB.out)) hb); have n2_ := Aside0.mk (hbox); have n3_ := Aside0.mk ((by rw [hg]; exact (below_size (by repeat (first | (with_reducible first | exact HB.out | apply below_alloc | apply pw_below_drewN | apply below_drew1 | refine below_set ?_ (IsS57.ge HI275.out)) | exact HB.out))) : w.heap.size ≤ gb277)); have n4_ := Aside0.mk ((by rw [hg]; exact (below_size (by repeat (first | (with_reducible first | exact HB.out | apply below_alloc | apply pw_below_drewN | apply below_drew1 | refine below_set ?_ (IsS57.ge HI275.out)) | exact HB.out))) : w.heap.size ≤ gb277)); have n5_ := Aside0.mk ((by rw [hg]; exact Nat.ne_of_lt (IsS57.lt (show IsS57 w _ g275 x276000_2 from by repeat (first | (with_reducible first | exact HI275.out | apply IsS57.alloc | apply IsS57.drewN | apply IsS57.drew) | exact HI275.out))) : g275 ≠ gb277)); have n6_ := Aside0.mk ((by rw [hg]; exact Nat.ne_of_gt (IsS57.lt (show IsS57 w _ g275 x276000_2 from by repeat (first | (with_reducible first | exact HI275.out | apply IsS57.alloc | apply IsS57.drewN | apply IsS57.drew) | exact HI275.out))) : gb277 ≠ g275)); clear HI275; clear HB; have HI275 := n0_; have HB := n1_; have BK277 := n2_; have GW277 := n3_; have GE277 := n4_; have NB275_277 := n5_; have NB277_275 := n6_; clear n0_ n1_ n2_ n3_ n4_ n5_ n6_; clear hb hbox hg; have hnb20 := NB277_275.out; have hnc20 := NB275_277.out; have hcz21_0 : w19.cell? ⟨gb277, 0, none⟩ = some (.string (⟨#[]⟩ : ByteArray)) := (blk_cell BK277.out 0).trans rfl; have hcz21_1 : w19.cell? ⟨gb277, 1, none⟩ = some (.string (⟨#[]⟩ : ByteArray)) := (blk_cell BK277.out 1).trans rfl; have hcz21_2 : w19.cell? ⟨gb277, 2, none⟩ = some (.int .i64 0) := (blk_cell BK277.out 2).trans rfl; have hfz21_0 := blk_frozen BK277.out 0; have hfz21_1 := blk_frozen BK277.out 1; have hfz21_2 := blk_frozen BK277.out 2) | ((with_reducible refine gate_callee (f := 14) rfl ?_); refine goesL_ (some 47) rfl rfl Tryd.func14 (by kernel_rfl) rfl #[.pointer (some ⟨g275, 0, none⟩), .int .i64 62] rfl (by (try simp only [List.map_toArray, List.map_cons, List.map_nil]); first | done | rfl | (simp only [List.length_drop, List.length_take]; rfl)) ?_; (with_reducible refine (table_Table_At.calls g275 x276000_2 62 t278 t279 t280 t281 w _ ?side1 ?side2 A16.out).mono ?_); (case side1 => repeat (first | (with_reducible first | exact HI275.out | apply IsS57.alloc | apply IsS57.drewN | apply IsS57.drew | refine IsS57.farT ?_ (by repeat (first | exact TyOf.mk BK277.out | apply TyOf.alloc | apply TyOf.drewN | apply TyOf.drew | apply TyOf.set)) (by decide) _) | exact HI275.out)); (case side2 => repeat (first | (with_reducible first | exact HB.out | apply below_alloc | apply pw_below_drewN | apply below_drew1 | refine below_set ?_ (IsS57.ge HI275.out) | refine below_set ?_ GE277.out) | exact HB.out)); rintro e w22 ⟨rfl, hi, hb, hk⟩; refine ⟨_, rfl, ?_⟩; have n0_ := Aside0.mk (KeepBut.blk hk (g' := gb277) (o := .cells #[.string ((rd_T34 l1 x6_2).f0), .string ((rd_T34 l1 x6_2).f1), .int .i64 ((rd_T34 l1 x6_2).f2)] 34 (0, 0)) (by (with_reducible repeat (first | refine blk_drewN ?_ _ | refine blk_drew ?_ | refine blk_alloc ?_ _)); refine blk_put (cs := #[.string ((rd_T34 l1 x6_2).f0), .string ((rd_T34 l1 x6_2).f1), .int .i64 0]) ?_ 2 _ rfl; (with_reducible repeat (first | refine blk_drewN ?_ _ | refine blk_drew ?_ | refine blk_alloc ?_ _)); refine blk_put (cs := #[.string ((rd_T34 l1 x6_2).f0), .string (⟨#[]⟩ : ByteArray), .int .i64 0]) ?_ 1 _ rfl; (with_reducible repeat (first | refine blk_drewN ?_ _ | refine blk_drew ?_ | refine blk_alloc ?_ _)); refine blk_put (cs := #[.string (⟨#[]⟩ : ByteArray), .string (⟨#[]⟩ : ByteArray), .int .i64 0]) ?_ 0 _ rfl; (with_reducible repeat (first | refine blk_drewN ?_ _ | refine blk_drew ?_ | refine blk_alloc ?_ _)); exact BK277.out) NB277_275.out (by simp)); have n1_ := Aside0.mk (hb); have n2_ := Aside0.mk (hi); clear BK277; clear HB; clear HI275; have BK277 := n0_; have HB := n1_; have HI275 := n2_; clear n0_ n1_ n2_; (try clear hb); (try clear hb2); (try clear hk); (try clear hi)) | ((with_reducible refine gate_callee (f := 19) rfl ?_); refine goesL_ (some 52) rfl rfl Tryd.func19 (by kernel_rfl) rfl #[.pointer (some ⟨g275, 0, none⟩)] rfl (by (try simp only [List.map_toArray, List.map_cons, List.map_nil]); first | done | rfl | (simp only [List.length_drop, List.length_take]; rfl)) ?_; (with_reducible refine (table_Table_Len.calls g275 t281 t282 t283 w _ ?side1 ?side2 A17.out).mono ?_); (case side1 => repeat (first | (with_reducible first | exact HI275.out | apply IsS57.alloc | apply IsS57.drewN | apply IsS57.drew | refine IsS57.farT ?_ (by repeat (first | exact TyOf.mk BK277.out | apply TyOf.alloc | apply TyOf.drewN | apply TyOf.drew | apply TyOf.set)) (by decide) _) | exact HI275.out)); (case side2 => repeat (first | (with_reducible first | exact HB.out | apply below_alloc | apply pw_below_drewN | apply below_drew1 | refine below_set ?_ (IsS57.ge HI275.out) | refine below_set ?_ GE277.out) | exact HB.out)); rintro e w23 ⟨rfl, hi, hb, hk⟩; refine ⟨_, rfl, ?_⟩; have n0_ := Aside0.mk (KeepBut.blk hk (g' := gb277) (o := .cells #[.string ((rd_T34 l1 x6_2).f0), .string ((rd_T34 l1 x6_2).f1), .int .i64 ((rd_T34 l1 x6_2).f2)] 34 (0, 0)) (by (with_reducible repeat (first | refine blk_drewN ?_ _ | refine blk_drew ?_ | refine blk_alloc ?_ _)); exact BK277.out) NB277_275.out (by simp)); have n1_ := Aside0.mk (hb); have n2_ := Aside0.mk (hi); clear BK277; clear HB; clear HI275; have BK277 := n0_; have HB := n1_; have HI275 := n2_; clear n0_ n1_ n2_; (try clear hb); (try clear hb2); (try clear hk); (try clear hi)))
         (try simp only [Act.put, List.setIfInBounds_toArray, List.set_cons_zero, List.set_cons_succ])
         go_cut [60] (fun v60 wc => ∃ (kq : Nat) (x60_17 : Bool), v60 = .bool x60_17 ∧ Aside0 (nunciolaw11_TableHolds.j2 kq l1 x6_2 t278 t279 t280 t282 x60_17 t283 ((rd_T34 l1 x6_2).f0) ((rd_T34 l1 x6_2).f1) ((rd_T34 l1 x6_2).f2) = some r) ∧ Aside0 (kq ≤ k2) ∧ Aside0 (wc.heap[gb277]? = some (.cells #[.string ((rd_T34 l1 x6_2).f0), .string ((rd_T34 l1 x6_2).f1), .int .i64 ((rd_T34 l1 x6_2).f2)] 34 (0, 0))) ∧ Aside0 (IsS57 w wc g275 t283) ∧ Aside0 (Below w.heap.size w wc))
         case first =>
          have H := HC18.out
          clear HC18
          by_cases c24 : ((rd_T34 l1 x6_2).f0).toList = ([] : List UInt8)
          ·
           rw [if_pos c24] at H
           have c24b0 : (((rd_T34 l1 x6_2).f0).toList == ([] : List UInt8)) = true := beq_iff_eq.mpr c24
           have c24b1 : (((rd_T34 l1 x6_2).f0).toList != ([] : List UInt8)) = false := bne_eq_false_iff_eq.mpr c24
           clear c24
           (first | rw [c24b0] | rw [c24b1] | (simp only [i64_w, i32_w]; rw [c24b0]) | skip)
           have H' := Aside0.mk H
           clear H
           have hnb25 := NB277_275.out
           have hnc25 := NB275_277.out
           have hcz26_0 : w23.cell? ⟨gb277, 0, none⟩ = some (.string ((rd_T34 l1 x6_2).f0)) := (blk_cell BK277.out 0).trans rfl
           have hcz26_1 : w23.cell? ⟨gb277, 1, none⟩ = some (.string ((rd_T34 l1 x6_2).f1)) := (blk_cell BK277.out 1).trans rfl
           have hcz26_2 : w23.cell? ⟨gb277, 2, none⟩ = some (.int .i64 ((rd_T34 l1 x6_2).f2)) := (blk_cell BK277.out 2).trans rfl
           have hfz26_0 := blk_frozen BK277.out 0
           have hfz26_1 := blk_frozen BK277.out 1
           have hfz26_2 := blk_frozen BK277.out 2
           go_wp2
           go_meet
           case rel => exact ⟨_, ((((rd_T34 l1 x6_2).f1).toList == ([] : List UInt8))), (by first | rfl | (simp; done) | (simp [*]; done)), H', ⟨by have := HJ4.out; have := HK2.out; first | omega | exact Nat.le_refl _⟩, ⟨by (with_reducible repeat (first | refine blk_drewN ?_ _ | refine blk_drew ?_ | refine blk_alloc ?_ _)); exact BK277.out⟩, ⟨by repeat (first | (with_reducible first | exact HI275.out | apply IsS57.alloc | apply IsS57.drewN | apply IsS57.drew | refine IsS57.farT ?_ (by repeat (first | exact TyOf.mk BK277.out | apply TyOf.alloc | apply TyOf.drewN | apply TyOf.drew | apply TyOf.set)) (by decide) _) | exact HI275.out)⟩, ⟨by repeat (first | (with_reducible first | exact HB.out | apply below_alloc | apply pw_below_drewN | apply below_drew1 | refine below_set ?_ (IsS57.ge HI275.out) | refine below_set ?_ GE277.out) | exact HB.out)⟩⟩
          ·
           rw [if_neg c24] at H
           have c24b0 : (((rd_T34 l1 x6_2).f0).toList == ([] : List UInt8)) = false := beq_eq_false_iff_ne.mpr c24
           have c24b1 : (((rd_T34 l1 x6_2).f0).toList != ([] : List UInt8)) = true := bne_iff_ne.mpr c24
           (first | rw [c24b0] | rw [c24b1] | (simp only [i64_w, i32_w]; rw [c24b0]) | skip)
           have H' := Aside0.mk H
           clear H
           have hnb27 := NB277_275.out
           have hnc27 := NB275_277.out
           have hcz28_0 : w23.cell? ⟨gb277, 0, none⟩ = some (.string ((rd_T34 l1 x6_2).f0)) := (blk_cell BK277.out 0).trans rfl
           have hcz28_1 : w23.cell? ⟨gb277, 1, none⟩ = some (.string ((rd_T34 l1 x6_2).f1)) := (blk_cell BK277.out 1).trans rfl
           have hcz28_2 : w23.cell? ⟨gb277, 2, none⟩ = some (.int .i64 ((rd_T34 l1 x6_2).f2)) := (blk_cell BK277.out 2).trans rfl
           have hfz28_0 := blk_frozen BK277.out 0
           have hfz28_1 := blk_frozen BK277.out 1
           have hfz28_2 := blk_frozen BK277.out 2
           go_wp2
           go_meet
           case rel => exact ⟨_, (false), (by first | rfl | (simp; done) | (simp [*]; done)), H', ⟨by have := HJ4.out; have := HK2.out; first | omega | exact Nat.le_refl _⟩, ⟨by (with_reducible repeat (first | refine blk_drewN ?_ _ | refine blk_drew ?_ | refine blk_alloc ?_ _)); exact BK277.out⟩, ⟨by repeat (first | (with_reducible first | exact HI275.out | apply IsS57.alloc | apply IsS57.drewN | apply IsS57.drew | refine IsS57.farT ?_ (by repeat (first | exact TyOf.mk BK277.out | apply TyOf.alloc | apply TyOf.drewN | apply TyOf.drew | apply TyOf.set)) (by decide) _) | exact HI275.out)⟩, ⟨by repeat (first | (with_reducible first | exact HB.out | apply below_alloc | apply pw_below_drewN | apply below_drew1 | refine below_set ?_ (IsS57.ge HI275.out) | refine below_set ?_ GE277.out) | exact HB.out)⟩⟩
         case rest =>
          clear HC18
          try clear c1
          try clear c2
          try clear p2
          try clear q2
          try clear hx2
          try clear c4
          try clear c5
          try clear c8
          try clear c9
          try clear c10
          try clear c11
          try clear c14
          try clear c14b0
          try clear c15
          try clear c15b0
          try clear c19
          try clear c20
          try clear c24
          try clear c24b0
          try clear c24b1
          try clear c25
          try clear c27
          try clear p27
          try clear q27
          try clear hx27
          try clear hcz21_0
          try clear hcz21_1
          try clear hcz21_2
          try clear hcz26_0
          try clear hcz26_1
          try clear hcz26_2
          try clear hcz28_0
          try clear hcz28_1
          try clear hcz28_2
          try clear hfz21_0
          try clear hfz21_1
          try clear hfz21_2
          try clear hfz26_0
          try clear hfz26_1
          try clear hfz26_2
          try clear hfz28_0
          try clear hfz28_1
          try clear hfz28_2
          try clear hx276_0
          try clear hx276_1
          try clear hx276_2
          try clear p2
          try clear p276
          try clear q276
          obtain ⟨kq, x60_17, rfl, HA, HJ17, BK277, HI275, HB⟩ := hcut
          cases kq with
          | zero => exact absurd HA.out (by simp [nunciolaw11_TableHolds.j2])
          | succ kj17 =>
           have H := HA.out
           clear HA
           simp only [nunciolaw11_TableHolds.j2] at H
           have HC29 := Aside0.mk H
           clear H
           go_upto_if 60 with (fail)
           go_cut [] (fun wc => ∃ (kq : Nat) (x276000_28 : TB), Aside0 (nunciolaw11_TableHolds.j4 kq l1 x6_2 x276000_28 = some r) ∧ Aside0 (kq ≤ kj17) ∧ Aside0 (wc.heap[gb277]? = some (.cells #[.string ((rd_T34 l1 x6_2).f0), .string ((rd_T34 l1 x6_2).f1), .int .i64 ((rd_T34 l1 x6_2).f2)] 34 (0, 0))) ∧ Aside0 (IsS57 w wc g275 x276000_28) ∧ Aside0 (Below w.heap.size w wc))
           case first =>
            have H := HC29.out
            clear HC29
            by_cases c30 : x60_17 = true
            ·
             subst c30
             have H1 : ((table_Table_Resize.f t283 ((rd_T34 l1 x6_2).f2)).bind fun t284 => (nunciolaw11_TableHolds.j4 kj17 l1 x6_2 t284)) = some r := by rw [if_pos rfl] at H; exact H
             clear H
             have H := H1
             clear H1
             replace H := Option.bind_eq_some_iff.mp H
             obtain ⟨t284, A310, H⟩ := H
             replace H : (nunciolaw11_TableHolds.j4 kj17 l1 x6_2 t284) = some r := H
             have A31 := Aside0.mk A310
             clear A310
             have H' := Aside0.mk H
             clear H
             have hnb32 := NB277_275.out
             have hnc32 := NB275_277.out
             have hcz33_0 : wc.cell? ⟨gb277, 0, none⟩ = some (.string ((rd_T34 l1 x6_2).f0)) := (blk_cell BK277.out 0).trans rfl
             have hcz33_1 : wc.cell? ⟨gb277, 1, none⟩ = some (.string ((rd_T34 l1 x6_2).f1)) := (blk_cell BK277.out 1).trans rfl
             have hcz33_2 : wc.cell? ⟨gb277, 2, none⟩ = some (.int .i64 ((rd_T34 l1 x6_2).f2)) := (blk_cell BK277.out 2).trans rfl
             have hfz33_0 := blk_frozen BK277.out 0
             have hfz33_1 := blk_frozen BK277.out 1
             have hfz33_2 := blk_frozen BK277.out 2
             go_wp2_with (first | ((with_reducible refine gate_callee (f := 20) rfl ?_); refine goesL_ (some 64) rfl rfl Tryd.func20 (by kernel_rfl) rfl #[.pointer (some ⟨g275, 0, none⟩), .int .i64 ((rd_T34 l1 x6_2).f2)] rfl (by (try simp only [List.map_toArray, List.map_cons, List.map_nil]); first | done | rfl | (simp only [List.length_drop, List.length_take]; rfl)) ?_; (with_reducible refine (table_Table_Resize.calls g275 t283 ((rd_T34 l1 x6_2).f2) t284 w _ ?side1 ?side2 A31.out).mono ?_); (case side1 => repeat (first | (with_reducible first | exact HI275.out | apply IsS57.alloc | apply IsS57.drewN | apply IsS57.drew | refine IsS57.farT ?_ (by repeat (first | exact TyOf.mk BK277.out | apply TyOf.alloc | apply TyOf.drewN | apply TyOf.drew | apply TyOf.set)) (by decide) _) | exact HI275.out)); (case side2 => repeat (first | (with_reducible first | exact HB.out | apply below_alloc | apply pw_below_drewN | apply below_drew1 | refine below_set ?_ (IsS57.ge HI275.out) | refine below_set ?_ GE277.out) | exact HB.out)); rintro e w34 ⟨rfl, hi, hb, hk⟩; refine ⟨_, rfl, ?_⟩; have n0_ := Aside0.mk (KeepBut.blk hk (g' := gb277) (o := .cells #[.string ((rd_T34 l1 x6_2).f0), .string ((rd_T34 l1 x6_2).f1), .int .i64 ((rd_T34 l1 x6_2).f2)] 34 (0, 0)) (by (with_reducible repeat (first | refine blk_drewN ?_ _ | refine blk_drew ?_ | refine blk_alloc ?_ _)); exact BK277.out) NB277_275.out (by simp)); have n1_ := Aside0.mk (hb); have n2_ := Aside0.mk (hi); clear BK277; clear HB; clear HI275; have BK277 := n0_; have HB := n1_; have HI275 := n2_; clear n0_ n1_ n2_; (try clear hb); (try clear hb2); (try clear hk); (try clear hi)))
             go_meet
             case rel => exact ⟨_, (t284), H', ⟨by have := HJ4.out; have := HK2.out; have := HJ17.out; first | omega | exact Nat.le_refl _⟩, ⟨by (with_reducible repeat (first | refine blk_drewN ?_ _ | refine blk_drew ?_ | refine blk_alloc ?_ _)); exact BK277.out⟩, ⟨by repeat (first | (with_reducible first | exact HI275.out | apply IsS57.alloc | apply IsS57.drewN | apply IsS57.drew | refine IsS57.farT ?_ (by repeat (first | exact TyOf.mk BK277.out | apply TyOf.alloc | apply TyOf.drewN | apply TyOf.drew | apply TyOf.set)) (by decide) _) | exact HI275.out)⟩, ⟨by repeat (first | (with_reducible first | exact HB.out | apply below_alloc | apply pw_below_drewN | apply below_drew1 | refine below_set ?_ (IsS57.ge HI275.out) | refine below_set ?_ GE277.out) | exact HB.out)⟩⟩
            ·
             replace c30 := Bool.eq_false_iff.mpr c30
             subst c30
             have H1 : ((table_Table_Add.f t283 ((rd_T34 l1 x6_2).f0) ((rd_T34 l1 x6_2).f1)).bind fun t285 => ((table_Table_At.f t285 62).bind fun bt286 => ((table_Table_Len.f bt286.2.2.2).bind fun bt290 => (if (bt286.2.2.1 != (decide (bt290.1 > 0))) = true then (nunciolaw11_TableHolds.j3 kj17 l1 x6_2 t278 t279 t280 t282 true bt290.2) else (if bt286.2.2.1 = true then (if bt286.1.toList = ((rd_T34 l1 x6_2).f0).toList then (if bt286.2.1.toList = ((rd_T34 l1 x6_2).f1).toList then ((table_Table_Most.f bt290.2).bind fun bt292 => (nunciolaw11_TableHolds.j3 kj17 l1 x6_2 t278 t279 t280 t282 (bt286.2.2.1 != (decide ((wrap64 ((((rd_T34 l1 x6_2).f0).size : Int) + (((rd_T34 l1 x6_2).f1).size : Int))) ≤ (wrap64 (bt292.1 - 32))))) bt292.2)) else (nunciolaw11_TableHolds.j3 kj17 l1 x6_2 t278 t279 t280 t282 true bt290.2)) else (nunciolaw11_TableHolds.j3 kj17 l1 x6_2 t278 t279 t280 t282 true bt290.2)) else ((table_Table_Most.f bt290.2).bind fun bt294 => (nunciolaw11_TableHolds.j3 kj17 l1 x6_2 t278 t279 t280 t282 (bt286.2.2.1 != (decide ((wrap64 ((((rd_T34 l1 x6_2).f0).size : Int) + (((rd_T34 l1 x6_2).f1).size : Int))) ≤ (wrap64 (bt294.1 - 32))))) bt294.2))))))) = some r := by rw [if_neg (show ¬ (false = true) by decide)] at H; exact H
             clear H
             have H := H1
             clear H1
             replace H := Option.bind_eq_some_iff.mp H
             obtain ⟨t285, A350, H⟩ := H
             replace H : ((table_Table_At.f t285 62).bind fun bt286 => ((table_Table_Len.f bt286.2.2.2).bind fun bt290 => (if (bt286.2.2.1 != (decide (bt290.1 > 0))) = true then (nunciolaw11_TableHolds.j3 kj17 l1 x6_2 t278 t279 t280 t282 true bt290.2) else (if bt286.2.2.1 = true then (if bt286.1.toList = ((rd_T34 l1 x6_2).f0).toList then (if bt286.2.1.toList = ((rd_T34 l1 x6_2).f1).toList then ((table_Table_Most.f bt290.2).bind fun bt292 => (nunciolaw11_TableHolds.j3 kj17 l1 x6_2 t278 t279 t280 t282 (bt286.2.2.1 != (decide ((wrap64 ((((rd_T34 l1 x6_2).f0).size : Int) + (((rd_T34 l1 x6_2).f1).size : Int))) ≤ (wrap64 (bt292.1 - 32))))) bt292.2)) else (nunciolaw11_TableHolds.j3 kj17 l1 x6_2 t278 t279 t280 t282 true bt290.2)) else (nunciolaw11_TableHolds.j3 kj17 l1 x6_2 t278 t279 t280 t282 true bt290.2)) else ((table_Table_Most.f bt290.2).bind fun bt294 => (nunciolaw11_TableHolds.j3 kj17 l1 x6_2 t278 t279 t280 t282 (bt286.2.2.1 != (decide ((wrap64 ((((rd_T34 l1 x6_2).f0).size : Int) + (((rd_T34 l1 x6_2).f1).size : Int))) ≤ (wrap64 (bt294.1 - 32))))) bt294.2)))))) = some r := H
             have A35 := Aside0.mk A350
             clear A350
             replace H := Option.bind_eq_some_iff.mp H
             obtain ⟨⟨t286, t287, t288, t289⟩, A360, H⟩ := H
             replace H : ((table_Table_Len.f t289).bind fun bt290 => (if (t288 != (decide (bt290.1 > 0))) = true then (nunciolaw11_TableHolds.j3 kj17 l1 x6_2 t278 t279 t280 t282 true bt290.2) else (if t288 = true then (if t286.toList = ((rd_T34 l1 x6_2).f0).toList then (if t287.toList = ((rd_T34 l1 x6_2).f1).toList then ((table_Table_Most.f bt290.2).bind fun bt292 => (nunciolaw11_TableHolds.j3 kj17 l1 x6_2 t278 t279 t280 t282 (t288 != (decide ((wrap64 ((((rd_T34 l1 x6_2).f0).size : Int) + (((rd_T34 l1 x6_2).f1).size : Int))) ≤ (wrap64 (bt292.1 - 32))))) bt292.2)) else (nunciolaw11_TableHolds.j3 kj17 l1 x6_2 t278 t279 t280 t282 true bt290.2)) else (nunciolaw11_TableHolds.j3 kj17 l1 x6_2 t278 t279 t280 t282 true bt290.2)) else ((table_Table_Most.f bt290.2).bind fun bt294 => (nunciolaw11_TableHolds.j3 kj17 l1 x6_2 t278 t279 t280 t282 (t288 != (decide ((wrap64 ((((rd_T34 l1 x6_2).f0).size : Int) + (((rd_T34 l1 x6_2).f1).size : Int))) ≤ (wrap64 (bt294.1 - 32))))) bt294.2))))) = some r := H
             have A36 := Aside0.mk A360
             clear A360
             have HC37 := Aside0.mk H
             clear H
             have hnb38 := NB277_275.out
             have hnc38 := NB275_277.out
             have hcz39_0 : wc.cell? ⟨gb277, 0, none⟩ = some (.string ((rd_T34 l1 x6_2).f0)) := (blk_cell BK277.out 0).trans rfl
             have hcz39_1 : wc.cell? ⟨gb277, 1, none⟩ = some (.string ((rd_T34 l1 x6_2).f1)) := (blk_cell BK277.out 1).trans rfl
             have hcz39_2 : wc.cell? ⟨gb277, 2, none⟩ = some (.int .i64 ((rd_T34 l1 x6_2).f2)) := (blk_cell BK277.out 2).trans rfl
             have hfz39_0 := blk_frozen BK277.out 0
             have hfz39_1 := blk_frozen BK277.out 1
             have hfz39_2 := blk_frozen BK277.out 2
             go_upto_region 16 with (first | ((with_reducible refine gate_callee (f := 21) rfl ?_); refine goesL_ (some 70) rfl rfl Tryd.func21 (by kernel_rfl) rfl #[.pointer (some ⟨g275, 0, none⟩), .string ((rd_T34 l1 x6_2).f0), .string ((rd_T34 l1 x6_2).f1)] rfl (by (try simp only [List.map_toArray, List.map_cons, List.map_nil]); first | done | rfl | (simp only [List.length_drop, List.length_take]; rfl)) ?_; (with_reducible refine (table_Table_Add.calls g275 t283 ((rd_T34 l1 x6_2).f0) ((rd_T34 l1 x6_2).f1) t285 w _ ?side1 ?side2 A35.out).mono ?_); (case side1 => repeat (first | (with_reducible first | exact HI275.out | apply IsS57.alloc | apply IsS57.drewN | apply IsS57.drew | refine IsS57.farT ?_ (by repeat (first | exact TyOf.mk BK277.out | apply TyOf.alloc | apply TyOf.drewN | apply TyOf.drew | apply TyOf.set)) (by decide) _) | exact HI275.out)); (case side2 => repeat (first | (with_reducible first | exact HB.out | apply below_alloc | apply pw_below_drewN | apply below_drew1 | refine below_set ?_ (IsS57.ge HI275.out) | refine below_set ?_ GE277.out) | exact HB.out)); rintro e w40 ⟨rfl, hi, hb, hk⟩; refine ⟨_, rfl, ?_⟩; have n0_ := Aside0.mk (KeepBut.blk hk (g' := gb277) (o := .cells #[.string ((rd_T34 l1 x6_2).f0), .string ((rd_T34 l1 x6_2).f1), .int .i64 ((rd_T34 l1 x6_2).f2)] 34 (0, 0)) (by (with_reducible repeat (first | refine blk_drewN ?_ _ | refine blk_drew ?_ | refine blk_alloc ?_ _)); exact BK277.out) NB277_275.out (by simp)); have n1_ := Aside0.mk (hb); have n2_ := Aside0.mk (hi); clear BK277; clear HB; clear HI275; have BK277 := n0_; have HB := n1_; have HI275 := n2_; clear n0_ n1_ n2_; (try clear hb); (try clear hb2); (try clear hk); (try clear hi)) | ((with_reducible refine gate_callee (f := 14) rfl ?_); refine goesL_ (some 73) rfl rfl Tryd.func14 (by kernel_rfl) rfl #[.pointer (some ⟨g275, 0, none⟩), .int .i64 62] rfl (by (try simp only [List.map_toArray, List.map_cons, List.map_nil]); first | done | rfl | (simp only [List.length_drop, List.length_take]; rfl)) ?_; (with_reducible refine (table_Table_At.calls g275 t285 62 t286 t287 t288 t289 w _ ?side1 ?side2 A36.out).mono ?_); (case side1 => repeat (first | (with_reducible first | exact HI275.out | apply IsS57.alloc | apply IsS57.drewN | apply IsS57.drew | refine IsS57.farT ?_ (by repeat (first | exact TyOf.mk BK277.out | apply TyOf.alloc | apply TyOf.drewN | apply TyOf.drew | apply TyOf.set)) (by decide) _) | exact HI275.out)); (case side2 => repeat (first | (with_reducible first | exact HB.out | apply below_alloc | apply pw_below_drewN | apply below_drew1 | refine below_set ?_ (IsS57.ge HI275.out) | refine below_set ?_ GE277.out) | exact HB.out)); rintro e w41 ⟨rfl, hi, hb, hk⟩; refine ⟨_, rfl, ?_⟩; have n0_ := Aside0.mk (KeepBut.blk hk (g' := gb277) (o := .cells #[.string ((rd_T34 l1 x6_2).f0), .string ((rd_T34 l1 x6_2).f1), .int .i64 ((rd_T34 l1 x6_2).f2)] 34 (0, 0)) (by (with_reducible repeat (first | refine blk_drewN ?_ _ | refine blk_drew ?_ | refine blk_alloc ?_ _)); exact BK277.out) NB277_275.out (by simp)); have n1_ := Aside0.mk (hb); have n2_ := Aside0.mk (hi); clear BK277; clear HB; clear HI275; have BK277 := n0_; have HB := n1_; have HI275 := n2_; clear n0_ n1_ n2_; (try clear hb); (try clear hb2); (try clear hk); (try clear hi)))
             (try simp only [Act.put, List.setIfInBounds_toArray, List.set_cons_zero, List.set_cons_succ])
             go_cut [111] (fun v111 wc => ∃ (kq : Nat) (x111_36 : Bool) (x276000_36 : TB), v111 = .bool x111_36 ∧ Aside0 (nunciolaw11_TableHolds.j3 kq l1 x6_2 t278 t279 t280 t282 x111_36 x276000_36 = some r) ∧ Aside0 (kq ≤ kj17) ∧ Aside0 (wc.heap[gb277]? = some (.cells #[.string ((rd_T34 l1 x6_2).f0), .string ((rd_T34 l1 x6_2).f1), .int .i64 ((rd_T34 l1 x6_2).f2)] 34 (0, 0))) ∧ Aside0 (IsS57 w wc g275 x276000_36) ∧ Aside0 (Below w.heap.size w wc))
             case first =>
              have H := HC37.out
              clear HC37
              replace H := Option.bind_eq_some_iff.mp H
              obtain ⟨⟨t290, t291⟩, A420, H⟩ := H
              replace H : (if (t288 != (decide (t290 > 0))) = true then (nunciolaw11_TableHolds.j3 kj17 l1 x6_2 t278 t279 t280 t282 true t291) else (if t288 = true then (if t286.toList = ((rd_T34 l1 x6_2).f0).toList then (if t287.toList = ((rd_T34 l1 x6_2).f1).toList then ((table_Table_Most.f t291).bind fun bt292 => (nunciolaw11_TableHolds.j3 kj17 l1 x6_2 t278 t279 t280 t282 (t288 != (decide ((wrap64 ((((rd_T34 l1 x6_2).f0).size : Int) + (((rd_T34 l1 x6_2).f1).size : Int))) ≤ (wrap64 (bt292.1 - 32))))) bt292.2)) else (nunciolaw11_TableHolds.j3 kj17 l1 x6_2 t278 t279 t280 t282 true t291)) else (nunciolaw11_TableHolds.j3 kj17 l1 x6_2 t278 t279 t280 t282 true t291)) else ((table_Table_Most.f t291).bind fun bt294 => (nunciolaw11_TableHolds.j3 kj17 l1 x6_2 t278 t279 t280 t282 (t288 != (decide ((wrap64 ((((rd_T34 l1 x6_2).f0).size : Int) + (((rd_T34 l1 x6_2).f1).size : Int))) ≤ (wrap64 (bt294.1 - 32))))) bt294.2)))) = some r := H
              have A42 := Aside0.mk A420
              clear A420
              by_cases c43 : (t288 != (decide (t290 > 0))) = true
              ·
               as_aux_lemma =>
                rw [if_pos c43] at H
                have c43b0 : (t288 != (decide (t290 > 0))) = true := c43
                (try (have c43b1 : decide (t288 = (decide (t290 > 0))) = false := by simpa using c43))
                (try (have c43b2 : (t288 == (decide (t290 > 0))) = false := by simpa using c43))
                (try (have c43b3 : ¬ (t288 = (decide (t290 > 0))) := by simpa using c43))
                clear c43
                (first | rw [c43b0] | rw [c43b1] | (simp only [i64_w, i32_w]; rw [c43b0]) | skip)
                have H' := Aside0.mk H
                clear H
                try go_wp2
                have n0_ := Aside0.mk (blk_drew BK277.out)
                have n1_ := Aside0.mk (IsS57.drew HI275.out)
                have n2_ := Aside0.mk (below_drew1 HB.out)
                clear BK277
                clear HI275
                clear HB
                have BK277 := n0_
                have HI275 := n1_
                have HB := n2_
                clear n0_ n1_ n2_
                refine start_ (n := 35) (S := fun w' => True) (ds := []) #[false, false, false, false, false, false, false, false, false, false, false, false, false, false, false, false, false, false, false, false, false, false, false, false, false, false, false, false, false, false, false, false, false, false, false] (by kernel_rfl) rfl rfl trivial (fun hHeld => ?_); refine with_tabW nunciolaw11_TableHolds.tab16 nunciolaw11_TableHolds.bits16 (fun HT_ HW_ => ?_)
                generalize w41.drew = w44 at BK277 HI275 HB hHeld ⊢
                refine pure_ (i := 0) (N := some 77) (v := ?_) (a' := ?_) #[true, false, false, false, false, false, false, false, false, false, false, false, false, false, false, false, false, false, false, false, false, false, false, false, false, false, false, false, false, false, false, false, false, false, false] rfl rfl (any_of HT_.out (by kernel_rfl)) (fun _ _ _ h => h) (Or.inl ⟨by rfl, ?_⟩) ?_ ?_
                rotate_left
                ·
                 intro w'
                 go_simp
                 with_reducible rfl
                rotate_left
                ·
                 simp only [Act.put, List.setIfInBounds_toArray, List.set_cons_zero, List.set_cons_succ, i64_w, i32_w]
                 rfl
                refine pure_ (i := 1) (N := some 78) (v := ?_) (a' := ?_) #[true, true, false, false, false, false, false, false, false, false, false, false, false, false, false, false, false, false, false, false, false, false, false, false, false, false, false, false, false, false, false, false, false, false, false] rfl rfl (any_of HT_.out (by kernel_rfl)) (fun _ _ _ h => h) (Or.inl ⟨by rfl, ?_⟩) ?_ ?_
                rotate_left
                ·
                 intro w'
                 go_simp
                 with_reducible rfl
                rotate_left
                ·
                 simp only [Act.put, List.setIfInBounds_toArray, List.set_cons_zero, List.set_cons_succ, i64_w, i32_w]
                 rfl
                refine one_ (i := 2) (N := some 79) #[true, true, true, false, false, false, false, false, false, false, false, false, false, false, false, false, false, false, false, false, false, false, false, false, false, false, false, false, false, false, false, false, false, false, false] rfl rfl (one_of HT_.out (by kernel_rfl)) (by decide) (fun K hK => ?_)
                refine goes_ Tryd.func19 (by kernel_rfl) rfl #[.pointer (some ⟨g275, 0, none⟩)] (by rfl) rfl rfl (by (try simp only [List.map_toArray, List.map_cons, List.map_nil]); first | done | rfl | (simp only [List.length_drop, List.length_take]; rfl)) ?_
                with_reducible refine (table_Table_Len.calls g275 t289 t290 t291 w _ ?side1 ?side2 A42.out).mono ?_
                (case side1 => repeat (first | (with_reducible first | exact HI275.out | apply IsS57.alloc | apply IsS57.drewN | apply IsS57.drew | refine IsS57.farT ?_ (by repeat (first | exact TyOf.mk BK277.out | apply TyOf.alloc | apply TyOf.drewN | apply TyOf.drew | apply TyOf.set)) (by decide) _) | exact HI275.out))
                (case side2 => repeat (first | (with_reducible first | exact HB.out | apply below_alloc | apply pw_below_drewN | apply below_drew1 | refine below_set ?_ (IsS57.ge HI275.out) | refine below_set ?_ GE277.out) | exact HB.out))
                rintro e w45 ⟨rfl, hi, hb, hk⟩
                refine ⟨_, rfl, ?_⟩
                have n0_ := Aside0.mk (KeepBut.blk hk (g' := gb277) (o := .cells #[.string ((rd_T34 l1 x6_2).f0), .string ((rd_T34 l1 x6_2).f1), .int .i64 ((rd_T34 l1 x6_2).f2)] 34 (0, 0)) (by (with_reducible repeat (first | refine blk_drewN ?_ _ | refine blk_drew ?_ | refine blk_alloc ?_ _)); exact BK277.out) NB277_275.out (by simp))
                have n1_ := Aside0.mk (hb)
                have n2_ := Aside0.mk (hi)
                clear BK277
                clear HB
                clear HI275
                have BK277 := n0_
                have HB := n1_
                have HI275 := n2_
                clear n0_ n1_ n2_
                (try clear hb)
                (try clear hb2)
                (try clear hk)
                (try clear hi)
                refine hK.out _ _ trivial (fun hHeld => ?_)
                clear hK K
                refine norm_ (a' := ?_) ?_ ?_
                rotate_left
                ·
                 show Act.put _ (some 79) _ = _
                 simp only [Act.put, List.setIfInBounds_toArray, List.set_cons_zero, List.set_cons_succ, i64_w, i32_w]
                 rfl
                refine pure_ (i := 3) (N := some 80) (v := ?_) (a' := ?_) #[true, true, true, true, false, false, false, false, false, false, false, false, false, false, false, false, false, false, false, false, false, false, false, false, false, false, false, false, false, false, false, false, false, false, false] rfl rfl (any_of HT_.out (by kernel_rfl)) (fun _ _ _ h => h) (Or.inl ⟨by rfl, ?_⟩) ?_ ?_
                rotate_left
                ·
                 intro w'
                 go_simp
                 with_reducible rfl
                rotate_left
                ·
                 simp only [Act.put, List.setIfInBounds_toArray, List.set_cons_zero, List.set_cons_succ, i64_w, i32_w]
                 rfl
                refine pure_ (i := 4) (N := some 81) (v := ?_) (a' := ?_) #[true, true, true, true, true, false, false, false, false, false, false, false, false, false, false, false, false, false, false, false, false, false, false, false, false, false, false, false, false, false, false, false, false, false, false] rfl rfl (any_of HT_.out (by kernel_rfl)) (fun _ _ _ h => h) (Or.inl ⟨by rfl, ?_⟩) ?_ ?_
                rotate_left
                ·
                 intro w'
                 go_simp
                 with_reducible rfl
                rotate_left
                ·
                 simp only [Act.put, List.setIfInBounds_toArray, List.set_cons_zero, List.set_cons_succ, i64_w, i32_w]
                 rfl
                refine pure_ (i := 5) (N := some 82) (v := ?_) (a' := ?_) #[true, true, true, true, true, true, false, false, false, false, false, false, false, false, false, false, false, false, false, false, false, false, false, false, false, false, false, false, false, false, false, false, false, false, false] rfl rfl (any_of HT_.out (by kernel_rfl)) (fun _ _ _ h => h) (Or.inl ⟨by rfl, ?_⟩) ?_ ?_
                rotate_left
                ·
                 intro w'
                 go_simp
                 with_reducible rfl
                rotate_left
                ·
                 simp only [Act.put, List.setIfInBounds_toArray, List.set_cons_zero, List.set_cons_succ, i64_w, i32_w]
                 rfl
                refine pure_ (i := 6) (N := some 83) (v := undef) (a' := ?_) #[true, true, true, true, true, true, true, false, false, false, false, false, false, false, false, false, false, false, false, false, false, false, false, false, false, false, false, false, false, false, false, false, false, false, false] rfl rfl (any_of HT_.out (by kernel_rfl)) (fun _ _ _ h => h) (Or.inr ⟨by rfl, rfl⟩) ?_ ?_
                rotate_left
                ·
                 simp only [Act.put, List.setIfInBounds_toArray, List.set_cons_zero, List.set_cons_succ, i64_w, i32_w]
                 rfl
                refine pure_ (i := 7) (N := some 84) (v := undef) (a' := ?_) #[true, true, true, true, true, true, true, true, false, false, false, false, false, false, false, false, false, false, false, false, false, false, false, false, false, false, false, false, false, false, false, false, false, false, false] rfl rfl (any_of HT_.out (by kernel_rfl)) (fun _ _ _ h => h) (Or.inr ⟨by rfl, rfl⟩) ?_ ?_
                rotate_left
                ·
                 simp only [Act.put, List.setIfInBounds_toArray, List.set_cons_zero, List.set_cons_succ, i64_w, i32_w]
                 rfl
                refine pure_ (i := 8) (N := some 85) (v := undef) (a' := ?_) #[true, true, true, true, true, true, true, true, true, false, false, false, false, false, false, false, false, false, false, false, false, false, false, false, false, false, false, false, false, false, false, false, false, false, false] rfl rfl (any_of HT_.out (by kernel_rfl)) (fun _ _ _ h => h) (Or.inr ⟨by rfl, rfl⟩) ?_ ?_
                rotate_left
                ·
                 simp only [Act.put, List.setIfInBounds_toArray, List.set_cons_zero, List.set_cons_succ, i64_w, i32_w]
                 rfl
                refine pure_ (i := 9) (N := some 86) (v := undef) (a' := ?_) #[true, true, true, true, true, true, true, true, true, true, false, false, false, false, false, false, false, false, false, false, false, false, false, false, false, false, false, false, false, false, false, false, false, false, false] rfl rfl (any_of HT_.out (by kernel_rfl)) (fun _ _ _ h => h) (Or.inr ⟨by rfl, rfl⟩) ?_ ?_
                rotate_left
                ·
                 simp only [Act.put, List.setIfInBounds_toArray, List.set_cons_zero, List.set_cons_succ, i64_w, i32_w]
                 rfl
                refine pure_ (i := 10) (N := some 87) (v := undef) (a' := ?_) #[true, true, true, true, true, true, true, true, true, true, true, false, false, false, false, false, false, false, false, false, false, false, false, false, false, false, false, false, false, false, false, false, false, false, false] rfl rfl (any_of HT_.out (by kernel_rfl)) (fun _ _ _ h => h) (Or.inr ⟨by rfl, rfl⟩) ?_ ?_
                rotate_left
                ·
                 simp only [Act.put, List.setIfInBounds_toArray, List.set_cons_zero, List.set_cons_succ, i64_w, i32_w]
                 rfl
                refine pure_ (i := 11) (N := some 88) (v := undef) (a' := ?_) #[true, true, true, true, true, true, true, true, true, true, true, true, false, false, false, false, false, false, false, false, false, false, false, false, false, false, false, false, false, false, false, false, false, false, false] rfl rfl (any_of HT_.out (by kernel_rfl)) (fun _ _ _ h => h) (Or.inr ⟨by rfl, rfl⟩) ?_ ?_
                rotate_left
                ·
                 simp only [Act.put, List.setIfInBounds_toArray, List.set_cons_zero, List.set_cons_succ, i64_w, i32_w]
                 rfl
                refine pure_ (i := 12) (N := some 89) (v := undef) (a' := ?_) #[true, true, true, true, true, true, true, true, true, true, true, true, true, false, false, false, false, false, false, false, false, false, false, false, false, false, false, false, false, false, false, false, false, false, false] rfl rfl (any_of HT_.out (by kernel_rfl)) (fun _ _ _ h => h) (Or.inr ⟨by rfl, rfl⟩) ?_ ?_
                rotate_left
                ·
                 simp only [Act.put, List.setIfInBounds_toArray, List.set_cons_zero, List.set_cons_succ, i64_w, i32_w]
                 rfl
                refine pure_ (i := 13) (N := some 90) (v := undef) (a' := ?_) #[true, true, true, true, true, true, true, true, true, true, true, true, true, true, false, false, false, false, false, false, false, false, false, false, false, false, false, false, false, false, false, false, false, false, false] rfl rfl (any_of HT_.out (by kernel_rfl)) (fun _ _ _ h => h) (Or.inr ⟨by rfl, rfl⟩) ?_ ?_
                rotate_left
                ·
                 simp only [Act.put, List.setIfInBounds_toArray, List.set_cons_zero, List.set_cons_succ, i64_w, i32_w]
                 rfl
                refine pure_ (i := 14) (N := some 91) (v := undef) (a' := ?_) #[true, true, true, true, true, true, true, true, true, true, true, true, true, true, true, false, false, false, false, false, false, false, false, false, false, false, false, false, false, false, false, false, false, false, false] rfl rfl (any_of HT_.out (by kernel_rfl)) (fun _ _ _ h => h) (Or.inr ⟨by rfl, rfl⟩) ?_ ?_
                rotate_left
                ·
                 simp only [Act.put, List.setIfInBounds_toArray, List.set_cons_zero, List.set_cons_succ, i64_w, i32_w]
                 rfl
                refine pure_ (i := 15) (N := some 92) (v := undef) (a' := ?_) #[true, true, true, true, true, true, true, true, true, true, true, true, true, true, true, true, false, false, false, false, false, false, false, false, false, false, false, false, false, false, false, false, false, false, false] rfl rfl (any_of HT_.out (by kernel_rfl)) (fun _ _ _ h => h) (Or.inr ⟨by rfl, rfl⟩) ?_ ?_
                rotate_left
                ·
                 simp only [Act.put, List.setIfInBounds_toArray, List.set_cons_zero, List.set_cons_succ, i64_w, i32_w]
                 rfl
                refine pure_ (i := 16) (N := some 93) (v := undef) (a' := ?_) #[true, true, true, true, true, true, true, true, true, true, true, true, true, true, true, true, true, false, false, false, false, false, false, false, false, false, false, false, false, false, false, false, false, false, false] rfl rfl (any_of HT_.out (by kernel_rfl)) (fun _ _ _ h => h) (Or.inr ⟨by rfl, rfl⟩) ?_ ?_
                rotate_left
                ·
                 simp only [Act.put, List.setIfInBounds_toArray, List.set_cons_zero, List.set_cons_succ, i64_w, i32_w]
                 rfl
                refine pure_ (i := 17) (N := some 94) (v := undef) (a' := ?_) #[true, true, true, true, true, true, true, true, true, true, true, true, true, true, true, true, true, true, false, false, false, false, false, false, false, false, false, false, false, false, false, false, false, false, false] rfl rfl (any_of HT_.out (by kernel_rfl)) (fun _ _ _ h => h) (Or.inr ⟨by rfl, rfl⟩) ?_ ?_
                rotate_left
                ·
                 simp only [Act.put, List.setIfInBounds_toArray, List.set_cons_zero, List.set_cons_succ, i64_w, i32_w]
                 rfl
                refine pure_ (i := 18) (N := some 95) (v := undef) (a' := ?_) #[true, true, true, true, true, true, true, true, true, true, true, true, true, true, true, true, true, true, true, false, false, false, false, false, false, false, false, false, false, false, false, false, false, false, false] rfl rfl (any_of HT_.out (by kernel_rfl)) (fun _ _ _ h => h) (Or.inr ⟨by rfl, rfl⟩) ?_ ?_
                rotate_left
                ·
                 simp only [Act.put, List.setIfInBounds_toArray, List.set_cons_zero, List.set_cons_succ, i64_w, i32_w]
                 rfl
                refine pure_ (i := 19) (N := some 96) (v := ?_) (a' := ?_) #[true, true, true, true, true, true, true, true, true, true, true, true, true, true, true, true, true, true, true, true, false, false, false, false, false, false, false, false, false, false, false, false, false, false, false] rfl rfl (any_of HT_.out (by kernel_rfl)) (fun _ _ _ h => h) (Or.inl ⟨by rfl, ?_⟩) ?_ ?_
                rotate_left
                ·
                 intro w'
                 go_simp
                 with_reducible rfl
                rotate_left
                ·
                 simp only [Act.put, List.setIfInBounds_toArray, List.set_cons_zero, List.set_cons_succ, i64_w, i32_w]
                 rfl
                refine pure_ (i := 20) (N := some 97) (v := ?_) (a' := ?_) #[true, true, true, true, true, true, true, true, true, true, true, true, true, true, true, true, true, true, true, true, true, false, false, false, false, false, false, false, false, false, false, false, false, false, false] rfl rfl (any_of HT_.out (by kernel_rfl)) (fun _ _ _ h => h) (Or.inl ⟨by rfl, ?_⟩) ?_ ?_
                rotate_left
                ·
                 intro w'
                 go_simp
                 with_reducible rfl
                rotate_left
                ·
                 simp only [Act.put, List.setIfInBounds_toArray, List.set_cons_zero, List.set_cons_succ, i64_w, i32_w]
                 rfl
                refine pure_ (i := 21) (N := some 98) (v := undef) (a' := ?_) #[true, true, true, true, true, true, true, true, true, true, true, true, true, true, true, true, true, true, true, true, true, true, false, false, false, false, false, false, false, false, false, false, false, false, false] rfl rfl (any_of HT_.out (by kernel_rfl)) (fun _ _ _ h => h) (Or.inr ⟨by rfl, rfl⟩) ?_ ?_
                rotate_left
                ·
                 simp only [Act.put, List.setIfInBounds_toArray, List.set_cons_zero, List.set_cons_succ, i64_w, i32_w]
                 rfl
                refine pure_ (i := 22) (N := some 99) (v := undef) (a' := ?_) #[true, true, true, true, true, true, true, true, true, true, true, true, true, true, true, true, true, true, true, true, true, true, true, false, false, false, false, false, false, false, false, false, false, false, false] rfl rfl (any_of HT_.out (by kernel_rfl)) (fun _ _ _ h => h) (Or.inr ⟨by rfl, rfl⟩) ?_ ?_
                rotate_left
                ·
                 simp only [Act.put, List.setIfInBounds_toArray, List.set_cons_zero, List.set_cons_succ, i64_w, i32_w]
                 rfl
                refine pure_ (i := 23) (N := some 100) (v := undef) (a' := ?_) #[true, true, true, true, true, true, true, true, true, true, true, true, true, true, true, true, true, true, true, true, true, true, true, true, false, false, false, false, false, false, false, false, false, false, false] rfl rfl (any_of HT_.out (by kernel_rfl)) (fun _ _ _ h => h) (Or.inr ⟨by rfl, rfl⟩) ?_ ?_
                rotate_left
                ·
                 simp only [Act.put, List.setIfInBounds_toArray, List.set_cons_zero, List.set_cons_succ, i64_w, i32_w]
                 rfl
                refine pure_ (i := 24) (N := some 101) (v := undef) (a' := ?_) #[true, true, true, true, true, true, true, true, true, true, true, true, true, true, true, true, true, true, true, true, true, true, true, true, true, false, false, false, false, false, false, false, false, false, false] rfl rfl (any_of HT_.out (by kernel_rfl)) (fun _ _ _ h => h) (Or.inr ⟨by rfl, rfl⟩) ?_ ?_
                rotate_left
                ·
                 simp only [Act.put, List.setIfInBounds_toArray, List.set_cons_zero, List.set_cons_succ, i64_w, i32_w]
                 rfl
                refine pure_ (i := 25) (N := some 102) (v := undef) (a' := ?_) #[true, true, true, true, true, true, true, true, true, true, true, true, true, true, true, true, true, true, true, true, true, true, true, true, true, true, false, false, false, false, false, false, false, false, false] rfl rfl (any_of HT_.out (by kernel_rfl)) (fun _ _ _ h => h) (Or.inr ⟨by rfl, rfl⟩) ?_ ?_
                rotate_left
                ·
                 simp only [Act.put, List.setIfInBounds_toArray, List.set_cons_zero, List.set_cons_succ, i64_w, i32_w]
                 rfl
                refine pure_ (i := 26) (N := some 103) (v := undef) (a' := ?_) #[true, true, true, true, true, true, true, true, true, true, true, true, true, true, true, true, true, true, true, true, true, true, true, true, true, true, true, false, false, false, false, false, false, false, false] rfl rfl (any_of HT_.out (by kernel_rfl)) (fun _ _ _ h => h) (Or.inr ⟨by rfl, rfl⟩) ?_ ?_
                rotate_left
                ·
                 simp only [Act.put, List.setIfInBounds_toArray, List.set_cons_zero, List.set_cons_succ, i64_w, i32_w]
                 rfl
                refine pure_ (i := 27) (N := some 104) (v := undef) (a' := ?_) #[true, true, true, true, true, true, true, true, true, true, true, true, true, true, true, true, true, true, true, true, true, true, true, true, true, true, true, true, false, false, false, false, false, false, false] rfl rfl (any_of HT_.out (by kernel_rfl)) (fun _ _ _ h => h) (Or.inr ⟨by rfl, rfl⟩) ?_ ?_
                rotate_left
                ·
                 simp only [Act.put, List.setIfInBounds_toArray, List.set_cons_zero, List.set_cons_succ, i64_w, i32_w]
                 rfl
                refine pure_ (i := 28) (N := some 105) (v := undef) (a' := ?_) #[true, true, true, true, true, true, true, true, true, true, true, true, true, true, true, true, true, true, true, true, true, true, true, true, true, true, true, true, true, false, false, false, false, false, false] rfl rfl (any_of HT_.out (by kernel_rfl)) (fun _ _ _ h => h) (Or.inr ⟨by rfl, rfl⟩) ?_ ?_
                rotate_left
                ·
                 simp only [Act.put, List.setIfInBounds_toArray, List.set_cons_zero, List.set_cons_succ, i64_w, i32_w]
                 rfl
                refine pure_ (i := 29) (N := some 106) (v := undef) (a' := ?_) #[true, true, true, true, true, true, true, true, true, true, true, true, true, true, true, true, true, true, true, true, true, true, true, true, true, true, true, true, true, true, false, false, false, false, false] rfl rfl (any_of HT_.out (by kernel_rfl)) (fun _ _ _ h => h) (Or.inr ⟨by rfl, rfl⟩) ?_ ?_
                rotate_left
                ·
                 simp only [Act.put, List.setIfInBounds_toArray, List.set_cons_zero, List.set_cons_succ, i64_w, i32_w]
                 rfl
                refine pure_ (i := 30) (N := some 107) (v := undef) (a' := ?_) #[true, true, true, true, true, true, true, true, true, true, true, true, true, true, true, true, true, true, true, true, true, true, true, true, true, true, true, true, true, true, true, false, false, false, false] rfl rfl (any_of HT_.out (by kernel_rfl)) (fun _ _ _ h => h) (Or.inr ⟨by rfl, rfl⟩) ?_ ?_
                rotate_left
                ·
                 simp only [Act.put, List.setIfInBounds_toArray, List.set_cons_zero, List.set_cons_succ, i64_w, i32_w]
                 rfl
                refine pure_ (i := 31) (N := some 108) (v := undef) (a' := ?_) #[true, true, true, true, true, true, true, true, true, true, true, true, true, true, true, true, true, true, true, true, true, true, true, true, true, true, true, true, true, true, true, true, false, false, false] rfl rfl (any_of HT_.out (by kernel_rfl)) (fun _ _ _ h => h) (Or.inr ⟨by rfl, rfl⟩) ?_ ?_
                rotate_left
                ·
                 simp only [Act.put, List.setIfInBounds_toArray, List.set_cons_zero, List.set_cons_succ, i64_w, i32_w]
                 rfl
                refine pure_ (i := 32) (N := some 109) (v := undef) (a' := ?_) #[true, true, true, true, true, true, true, true, true, true, true, true, true, true, true, true, true, true, true, true, true, true, true, true, true, true, true, true, true, true, true, true, true, false, false] rfl rfl (any_of HT_.out (by kernel_rfl)) (fun _ _ _ h => h) (Or.inr ⟨by rfl, rfl⟩) ?_ ?_
                rotate_left
                ·
                 simp only [Act.put, List.setIfInBounds_toArray, List.set_cons_zero, List.set_cons_succ, i64_w, i32_w]
                 rfl
                refine pure_ (i := 33) (N := some 110) (v := undef) (a' := ?_) #[true, true, true, true, true, true, true, true, true, true, true, true, true, true, true, true, true, true, true, true, true, true, true, true, true, true, true, true, true, true, true, true, true, true, false] rfl rfl (any_of HT_.out (by kernel_rfl)) (fun _ _ _ h => h) (Or.inr ⟨by rfl, rfl⟩) ?_ ?_
                rotate_left
                ·
                 simp only [Act.put, List.setIfInBounds_toArray, List.set_cons_zero, List.set_cons_succ, i64_w, i32_w]
                 rfl
                refine pure_ (i := 34) (N := some 111) (v := ?_) (a' := ?_) #[true, true, true, true, true, true, true, true, true, true, true, true, true, true, true, true, true, true, true, true, true, true, true, true, true, true, true, true, true, true, true, true, true, true, true] rfl rfl (any_of HT_.out (by kernel_rfl)) (fun _ _ _ h => h) (Or.inl ⟨by rfl, ?_⟩) ?_ ?_
                rotate_left
                ·
                 intro w'
                 go_simp
                 with_reducible rfl
                rotate_left
                ·
                 simp only [Act.put, List.setIfInBounds_toArray, List.set_cons_zero, List.set_cons_succ, i64_w, i32_w]
                 rfl
                refine done_ (done_of HT_.out (by kernel_rfl)) ?_
                try go_wp2
                go_meet
                case rel => exact ⟨_, (true), (t291), (by first | rfl | (simp; done) | (simp [*]; done)), H', ⟨by have := HJ4.out; have := HK2.out; have := HJ17.out; first | omega | exact Nat.le_refl _⟩, ⟨by (with_reducible repeat (first | refine blk_drewN ?_ _ | refine blk_drew ?_ | refine blk_alloc ?_ _)); exact BK277.out⟩, ⟨by repeat (first | (with_reducible first | exact HI275.out | apply IsS57.alloc | apply IsS57.drewN | apply IsS57.drew | refine IsS57.farT ?_ (by repeat (first | exact TyOf.mk BK277.out | apply TyOf.alloc | apply TyOf.drewN | apply TyOf.drew | apply TyOf.set)) (by decide) _) | exact HI275.out)⟩, ⟨by repeat (first | (with_reducible first | exact HB.out | apply below_alloc | apply pw_below_drewN | apply below_drew1 | refine below_set ?_ (IsS57.ge HI275.out) | refine below_set ?_ GE277.out) | exact HB.out)⟩⟩
              ·
               rw [if_neg c43] at H
               have c43b0 : (t288 != (decide (t290 > 0))) = false := by simpa using c43
               (try (have c43b1 : decide (t288 = (decide (t290 > 0))) = true := by simpa using c43))
               (try (have c43b2 : (t288 == (decide (t290 > 0))) = true := by simpa using c43))
               clear c43
               (first | rw [c43b0] | rw [c43b1] | (simp only [i64_w, i32_w]; rw [c43b0]) | skip)
               by_cases c46 : t288 = true
               ·
                subst c46
                have H1 : (if t286.toList = ((rd_T34 l1 x6_2).f0).toList then (if t287.toList = ((rd_T34 l1 x6_2).f1).toList then ((table_Table_Most.f t291).bind fun bt292 => (nunciolaw11_TableHolds.j3 kj17 l1 x6_2 t278 t279 t280 t282 (true != (decide ((wrap64 ((((rd_T34 l1 x6_2).f0).size : Int) + (((rd_T34 l1 x6_2).f1).size : Int))) ≤ (wrap64 (bt292.1 - 32))))) bt292.2)) else (nunciolaw11_TableHolds.j3 kj17 l1 x6_2 t278 t279 t280 t282 true t291)) else (nunciolaw11_TableHolds.j3 kj17 l1 x6_2 t278 t279 t280 t282 true t291)) = some r := by rw [if_pos rfl] at H; exact H
                clear H
                have H := H1
                clear H1
                by_cases c47 : t286.toList = ((rd_T34 l1 x6_2).f0).toList
                ·
                 rw [if_pos c47] at H
                 have c47b0 : (t286.toList == ((rd_T34 l1 x6_2).f0).toList) = true := beq_iff_eq.mpr c47
                 have c47b1 : (t286.toList != ((rd_T34 l1 x6_2).f0).toList) = false := bne_eq_false_iff_eq.mpr c47
                 clear c47
                 by_cases c48 : t287.toList = ((rd_T34 l1 x6_2).f1).toList
                 ·
                  as_aux_lemma =>
                   rw [if_pos c48] at H
                   have c48b0 : (t287.toList == ((rd_T34 l1 x6_2).f1).toList) = true := beq_iff_eq.mpr c48
                   have c48b1 : (t287.toList != ((rd_T34 l1 x6_2).f1).toList) = false := bne_eq_false_iff_eq.mpr c48
                   clear c48
                   replace H := Option.bind_eq_some_iff.mp H
                   obtain ⟨⟨t292, t293⟩, A490, H⟩ := H
                   replace H : (nunciolaw11_TableHolds.j3 kj17 l1 x6_2 t278 t279 t280 t282 (true != (decide ((wrap64 ((((rd_T34 l1 x6_2).f0).size : Int) + (((rd_T34 l1 x6_2).f1).size : Int))) ≤ (wrap64 (t292 - 32))))) t293) = some r := H
                   have A49 := Aside0.mk A490
                   clear A490
                   have H' := Aside0.mk H
                   clear H
                   try go_wp2
                   have n0_ := Aside0.mk (blk_drew BK277.out)
                   have n1_ := Aside0.mk (IsS57.drew HI275.out)
                   have n2_ := Aside0.mk (below_drew1 HB.out)
                   clear BK277
                   clear HI275
                   clear HB
                   have BK277 := n0_
                   have HI275 := n1_
                   have HB := n2_
                   clear n0_ n1_ n2_
                   refine start_ (n := 35) (S := fun w' => w'.cell? ⟨gb277, 0, none⟩ = some (.string ((rd_T34 l1 x6_2).f0)) ∧ w'.cell? ⟨gb277, 1, none⟩ = some (.string ((rd_T34 l1 x6_2).f1)) ∧ w'.cell? ⟨gb277, 2, none⟩ = some (.int .i64 ((rd_T34 l1 x6_2).f2))) (ds := []) #[false, false, false, false, false, false, false, false, false, false, false, false, false, false, false, false, false, false, false, false, false, false, false, false, false, false, false, false, false, false, false, false, false, false, false] (by kernel_rfl) rfl rfl ⟨(blk_cell BK277.out 0).trans rfl, (blk_cell BK277.out 1).trans rfl, (blk_cell BK277.out 2).trans rfl⟩ (fun hHeld => ?_); refine with_tabW nunciolaw11_TableHolds.tab16 nunciolaw11_TableHolds.bits16 (fun HT_ HW_ => ?_)
                   generalize w41.drew = w50 at BK277 HI275 HB hHeld ⊢
                   refine pure_ (i := 0) (N := some 77) (v := ?_) (a' := ?_) #[true, false, false, false, false, false, false, false, false, false, false, false, false, false, false, false, false, false, false, false, false, false, false, false, false, false, false, false, false, false, false, false, false, false, false] rfl rfl (any_of HT_.out (by kernel_rfl)) (fun _ _ _ h => h) (Or.inl ⟨by rfl, ?_⟩) ?_ ?_
                   rotate_left
                   ·
                    intro w'
                    go_simp
                    with_reducible rfl
                   rotate_left
                   ·
                    simp only [Act.put, List.setIfInBounds_toArray, List.set_cons_zero, List.set_cons_succ, i64_w, i32_w]
                    rfl
                   refine pure_ (i := 1) (N := some 78) (v := ?_) (a' := ?_) #[true, true, false, false, false, false, false, false, false, false, false, false, false, false, false, false, false, false, false, false, false, false, false, false, false, false, false, false, false, false, false, false, false, false, false] rfl rfl (any_of HT_.out (by kernel_rfl)) (fun _ _ _ h => h) (Or.inl ⟨by rfl, ?_⟩) ?_ ?_
                   rotate_left
                   ·
                    intro w'
                    go_simp
                    with_reducible rfl
                   rotate_left
                   ·
                    simp only [Act.put, List.setIfInBounds_toArray, List.set_cons_zero, List.set_cons_succ, i64_w, i32_w]
                    rfl
                   refine one_ (i := 2) (N := some 79) #[true, true, true, false, false, false, false, false, false, false, false, false, false, false, false, false, false, false, false, false, false, false, false, false, false, false, false, false, false, false, false, false, false, false, false] rfl rfl (one_of HT_.out (by kernel_rfl)) (by decide) (fun K hK => ?_)
                   refine goes_ Tryd.func19 (by kernel_rfl) rfl #[.pointer (some ⟨g275, 0, none⟩)] (by rfl) rfl rfl (by (try simp only [List.map_toArray, List.map_cons, List.map_nil]); first | done | rfl | (simp only [List.length_drop, List.length_take]; rfl)) ?_
                   with_reducible refine (table_Table_Len.calls g275 t289 t290 t291 w _ ?side1 ?side2 A42.out).mono ?_
                   (case side1 => repeat (first | (with_reducible first | exact HI275.out | apply IsS57.alloc | apply IsS57.drewN | apply IsS57.drew | refine IsS57.farT ?_ (by repeat (first | exact TyOf.mk BK277.out | apply TyOf.alloc | apply TyOf.drewN | apply TyOf.drew | apply TyOf.set)) (by decide) _) | exact HI275.out))
                   (case side2 => repeat (first | (with_reducible first | exact HB.out | apply below_alloc | apply pw_below_drewN | apply below_drew1 | refine below_set ?_ (IsS57.ge HI275.out) | refine below_set ?_ GE277.out) | exact HB.out))
                   rintro e w51 ⟨rfl, hi, hb, hk⟩
                   refine ⟨_, rfl, ?_⟩
                   have n0_ := Aside0.mk (KeepBut.blk hk (g' := gb277) (o := .cells #[.string ((rd_T34 l1 x6_2).f0), .string ((rd_T34 l1 x6_2).f1), .int .i64 ((rd_T34 l1 x6_2).f2)] 34 (0, 0)) (by (with_reducible repeat (first | refine blk_drewN ?_ _ | refine blk_drew ?_ | refine blk_alloc ?_ _)); exact BK277.out) NB277_275.out (by simp))
                   have n1_ := Aside0.mk (hb)
                   have n2_ := Aside0.mk (hi)
                   clear BK277
                   clear HB
                   clear HI275
                   have BK277 := n0_
                   have HB := n1_
                   have HI275 := n2_
                   clear n0_ n1_ n2_
                   (try clear hb)
                   (try clear hb2)
                   (try clear hk)
                   (try clear hi)
                   refine hK.out _ _ ⟨(blk_cell BK277.out 0).trans rfl, (blk_cell BK277.out 1).trans rfl, (blk_cell BK277.out 2).trans rfl⟩ (fun hHeld => ?_)
                   clear hK K
                   refine norm_ (a' := ?_) ?_ ?_
                   rotate_left
                   ·
                    show Act.put _ (some 79) _ = _
                    simp only [Act.put, List.setIfInBounds_toArray, List.set_cons_zero, List.set_cons_succ, i64_w, i32_w]
                    rfl
                   refine pure_ (i := 3) (N := some 80) (v := ?_) (a' := ?_) #[true, true, true, true, false, false, false, false, false, false, false, false, false, false, false, false, false, false, false, false, false, false, false, false, false, false, false, false, false, false, false, false, false, false, false] rfl rfl (any_of HT_.out (by kernel_rfl)) (fun _ _ _ h => h) (Or.inl ⟨by rfl, ?_⟩) ?_ ?_
                   rotate_left
                   ·
                    intro w'
                    go_simp
                    with_reducible rfl
                   rotate_left
                   ·
                    simp only [Act.put, List.setIfInBounds_toArray, List.set_cons_zero, List.set_cons_succ, i64_w, i32_w]
                    rfl
                   refine pure_ (i := 4) (N := some 81) (v := ?_) (a' := ?_) #[true, true, true, true, true, false, false, false, false, false, false, false, false, false, false, false, false, false, false, false, false, false, false, false, false, false, false, false, false, false, false, false, false, false, false] rfl rfl (any_of HT_.out (by kernel_rfl)) (fun _ _ _ h => h) (Or.inl ⟨by rfl, ?_⟩) ?_ ?_
                   rotate_left
                   ·
                    intro w'
                    go_simp
                    with_reducible rfl
                   rotate_left
                   ·
                    simp only [Act.put, List.setIfInBounds_toArray, List.set_cons_zero, List.set_cons_succ, i64_w, i32_w]
                    rfl
                   refine pure_ (i := 5) (N := some 82) (v := ?_) (a' := ?_) #[true, true, true, true, true, true, false, false, false, false, false, false, false, false, false, false, false, false, false, false, false, false, false, false, false, false, false, false, false, false, false, false, false, false, false] rfl rfl (any_of HT_.out (by kernel_rfl)) (fun _ _ _ h => h) (Or.inl ⟨by rfl, ?_⟩) ?_ ?_
                   rotate_left
                   ·
                    intro w'
                    go_simp
                    with_reducible rfl
                   rotate_left
                   ·
                    simp only [Act.put, List.setIfInBounds_toArray, List.set_cons_zero, List.set_cons_succ, i64_w, i32_w]
                    rfl
                   refine pure_ (i := 6) (N := some 83) (v := ?_) (a' := ?_) #[true, true, true, true, true, true, true, false, false, false, false, false, false, false, false, false, false, false, false, false, false, false, false, false, false, false, false, false, false, false, false, false, false, false, false] rfl rfl (any_of HT_.out (by kernel_rfl)) (fun _ _ _ h => h) (Or.inl ⟨by rfl, ?_⟩) ?_ ?_
                   rotate_left
                   ·
                    intro w'
                    go_simp
                    with_reducible rfl
                   rotate_left
                   ·
                    simp only [Act.put, List.setIfInBounds_toArray, List.set_cons_zero, List.set_cons_succ, i64_w, i32_w]
                    rfl
                   refine pure_ (i := 7) (N := some 84) (v := ?_) (a' := ?_) #[true, true, true, true, true, true, true, true, false, false, false, false, false, false, false, false, false, false, false, false, false, false, false, false, false, false, false, false, false, false, false, false, false, false, false] rfl rfl (any_of HT_.out (by kernel_rfl)) (fun _ _ _ h => h) (Or.inl ⟨by rfl, ?_⟩) ?_ ?_
                   rotate_left
                   ·
                    intro w'
                    go_simp
                    with_reducible rfl
                   rotate_left
                   ·
                    simp only [Act.put, List.setIfInBounds_toArray, List.set_cons_zero, List.set_cons_succ, i64_w, i32_w]
                    rfl
                   refine pure_ (i := 8) (N := some 85) (v := ?_) (a' := ?_) #[true, true, true, true, true, true, true, true, true, false, false, false, false, false, false, false, false, false, false, false, false, false, false, false, false, false, false, false, false, false, false, false, false, false, false] rfl rfl (any_of HT_.out (by kernel_rfl)) (fun _ _ _ h => h) (Or.inl ⟨by rfl, ?_⟩) ?_ ?_
                   rotate_left
                   ·
                    intro w'
                    go_simp
                    with_reducible rfl
                   rotate_left
                   ·
                    simp only [Act.put, List.setIfInBounds_toArray, List.set_cons_zero, List.set_cons_succ, i64_w, i32_w]
                    rfl
                   refine pure_ (i := 9) (N := some 86) (v := ?_) (a' := ?_) #[true, true, true, true, true, true, true, true, true, true, false, false, false, false, false, false, false, false, false, false, false, false, false, false, false, false, false, false, false, false, false, false, false, false, false] rfl rfl (any_of HT_.out (by kernel_rfl)) (fun _ _ _ h => h) (Or.inl ⟨by rfl, ?_⟩) ?_ ?_
                   rotate_left
                   ·
                    intro w'
                    go_simp
                    with_reducible rfl
                   rotate_left
                   ·
                    simp only [Act.put, List.setIfInBounds_toArray, List.set_cons_zero, List.set_cons_succ, i64_w, i32_w]
                    rfl
                   refine take_ (i := 10) (N := some 87) (v := ?_) (a' := ?_) #[true, true, true, true, true, true, true, true, true, true, true, false, false, false, false, false, false, false, false, false, false, false, false, false, false, false, false, false, false, false, false, false, false, false, false] rfl rfl (take_ofW HT_.out HW_.out (by kernel_rfl)) (fun _ _ _ h => h) (Or.inl ⟨by rfl, ?_⟩) hHeld ?_ ?_
                   rotate_left
                   ·
                    rintro w' ⟨s0, s1, s2⟩
                    go_simp
                    with_reducible rfl
                   rotate_left
                   ·
                    simp only [Act.put, List.setIfInBounds_toArray, List.set_cons_zero, List.set_cons_succ, i64_w, i32_w]
                    rfl
                   refine pure_ (i := 11) (N := some 88) (v := ?_) (a' := ?_) #[true, true, true, true, true, true, true, true, true, true, true, true, false, false, false, false, false, false, false, false, false, false, false, false, false, false, false, false, false, false, false, false, false, false, false] rfl rfl (any_of HT_.out (by kernel_rfl)) (fun _ _ _ h => h) (Or.inl ⟨by rfl, ?_⟩) ?_ ?_
                   rotate_left
                   ·
                    intro w'
                    go_simp
                    with_reducible rfl
                   rotate_left
                   ·
                    simp only [Act.put, List.setIfInBounds_toArray, List.set_cons_zero, List.set_cons_succ, i64_w, i32_w]
                    rfl
                   refine pure_ (i := 12) (N := some 89) (v := ?_) (a' := ?_) #[true, true, true, true, true, true, true, true, true, true, true, true, true, false, false, false, false, false, false, false, false, false, false, false, false, false, false, false, false, false, false, false, false, false, false] rfl rfl (any_of HT_.out (by kernel_rfl)) (fun _ _ _ h => h) (Or.inl ⟨by rfl, ?_⟩) ?_ ?_
                   rotate_left
                   ·
                    intro w'
                    go_simp
                    with_reducible rfl
                   rotate_left
                   ·
                    simp only [Act.put, List.setIfInBounds_toArray, List.set_cons_zero, List.set_cons_succ, i64_w, i32_w]
                    rfl
                   refine pure_ (i := 13) (N := some 90) (v := ?_) (a' := ?_) #[true, true, true, true, true, true, true, true, true, true, true, true, true, true, false, false, false, false, false, false, false, false, false, false, false, false, false, false, false, false, false, false, false, false, false] rfl rfl (any_of HT_.out (by kernel_rfl)) (fun _ _ _ h => h) (Or.inl ⟨by rfl, ?_⟩) ?_ ?_
                   rotate_left
                   ·
                    intro w'
                    go_simp
                    with_reducible rfl
                   rotate_left
                   ·
                    simp only [Act.put, List.setIfInBounds_toArray, List.set_cons_zero, List.set_cons_succ, i64_w, i32_w]
                    rfl
                   refine pure_ (i := 14) (N := some 91) (v := ?_) (a' := ?_) #[true, true, true, true, true, true, true, true, true, true, true, true, true, true, true, false, false, false, false, false, false, false, false, false, false, false, false, false, false, false, false, false, false, false, false] rfl rfl (any_of HT_.out (by kernel_rfl)) (fun _ _ _ h => h) (Or.inl ⟨by rfl, ?_⟩) ?_ ?_
                   rotate_left
                   ·
                    intro w'
                    go_simp
                    with_reducible rfl
                   rotate_left
                   ·
                    simp only [Act.put, List.setIfInBounds_toArray, List.set_cons_zero, List.set_cons_succ, i64_w, i32_w]
                    rfl
                   refine take_ (i := 15) (N := some 92) (v := ?_) (a' := ?_) #[true, true, true, true, true, true, true, true, true, true, true, true, true, true, true, true, false, false, false, false, false, false, false, false, false, false, false, false, false, false, false, false, false, false, false] rfl rfl (take_ofW HT_.out HW_.out (by kernel_rfl)) (fun _ _ _ h => h) (Or.inl ⟨by rfl, ?_⟩) hHeld ?_ ?_
                   rotate_left
                   ·
                    rintro w' ⟨s0, s1, s2⟩
                    go_simp
                    with_reducible rfl
                   rotate_left
                   ·
                    simp only [Act.put, List.setIfInBounds_toArray, List.set_cons_zero, List.set_cons_succ, i64_w, i32_w]
                    rfl
                   refine pure_ (i := 16) (N := some 93) (v := ?_) (a' := ?_) #[true, true, true, true, true, true, true, true, true, true, true, true, true, true, true, true, true, false, false, false, false, false, false, false, false, false, false, false, false, false, false, false, false, false, false] rfl rfl (any_of HT_.out (by kernel_rfl)) (fun _ _ _ h => h) (Or.inl ⟨by rfl, ?_⟩) ?_ ?_
                   rotate_left
                   ·
                    intro w'
                    go_simp
                    with_reducible rfl
                   rotate_left
                   ·
                    simp only [Act.put, List.setIfInBounds_toArray, List.set_cons_zero, List.set_cons_succ, i64_w, i32_w]
                    rfl
                   refine pure_ (i := 17) (N := some 94) (v := ?_) (a' := ?_) #[true, true, true, true, true, true, true, true, true, true, true, true, true, true, true, true, true, true, false, false, false, false, false, false, false, false, false, false, false, false, false, false, false, false, false] rfl rfl (any_of HT_.out (by kernel_rfl)) (fun _ _ _ h => h) (Or.inl ⟨by rfl, ?_⟩) ?_ ?_
                   rotate_left
                   ·
                    intro w'
                    go_simp
                    with_reducible rfl
                   rotate_left
                   ·
                    simp only [Act.put, List.setIfInBounds_toArray, List.set_cons_zero, List.set_cons_succ, i64_w, i32_w]
                    rfl
                   refine pure_ (i := 18) (N := some 95) (v := ?_) (a' := ?_) #[true, true, true, true, true, true, true, true, true, true, true, true, true, true, true, true, true, true, true, false, false, false, false, false, false, false, false, false, false, false, false, false, false, false, false] rfl rfl (any_of HT_.out (by kernel_rfl)) (fun _ _ _ h => h) (Or.inl ⟨by rfl, ?_⟩) ?_ ?_
                   rotate_left
                   ·
                    intro w'
                    go_simp
                    with_reducible rfl
                   rotate_left
                   ·
                    simp only [Act.put, List.setIfInBounds_toArray, List.set_cons_zero, List.set_cons_succ, i64_w, i32_w]
                    rfl
                   refine pure_ (i := 19) (N := some 96) (v := ?_) (a' := ?_) #[true, true, true, true, true, true, true, true, true, true, true, true, true, true, true, true, true, true, true, true, false, false, false, false, false, false, false, false, false, false, false, false, false, false, false] rfl rfl (any_of HT_.out (by kernel_rfl)) (fun _ _ _ h => h) (Or.inl ⟨by rfl, ?_⟩) ?_ ?_
                   rotate_left
                   ·
                    intro w'
                    go_simp
                    with_reducible rfl
                   rotate_left
                   ·
                    simp only [Act.put, List.setIfInBounds_toArray, List.set_cons_zero, List.set_cons_succ, i64_w, i32_w]
                    rfl
                   refine pure_ (i := 20) (N := some 97) (v := ?_) (a' := ?_) #[true, true, true, true, true, true, true, true, true, true, true, true, true, true, true, true, true, true, true, true, true, false, false, false, false, false, false, false, false, false, false, false, false, false, false] rfl rfl (any_of HT_.out (by kernel_rfl)) (fun _ _ _ h => h) (Or.inl ⟨by rfl, ?_⟩) ?_ ?_
                   rotate_left
                   ·
                    intro w'
                    go_simp
                    with_reducible rfl
                   rotate_left
                   ·
                    simp only [Act.put, List.setIfInBounds_toArray, List.set_cons_zero, List.set_cons_succ, i64_w, i32_w]
                    rfl
                   refine pure_ (i := 21) (N := some 98) (v := ?_) (a' := ?_) #[true, true, true, true, true, true, true, true, true, true, true, true, true, true, true, true, true, true, true, true, true, true, false, false, false, false, false, false, false, false, false, false, false, false, false] rfl rfl (any_of HT_.out (by kernel_rfl)) (fun _ _ _ h => h) (Or.inl ⟨by rfl, ?_⟩) ?_ ?_
                   rotate_left
                   ·
                    intro w'
                    go_simp
                    with_reducible rfl
                   rotate_left
                   ·
                    simp only [Act.put, List.setIfInBounds_toArray, List.set_cons_zero, List.set_cons_succ, i64_w, i32_w]
                    rfl
                   refine pure_ (i := 22) (N := some 99) (v := ?_) (a' := ?_) #[true, true, true, true, true, true, true, true, true, true, true, true, true, true, true, true, true, true, true, true, true, true, true, false, false, false, false, false, false, false, false, false, false, false, false] rfl rfl (any_of HT_.out (by kernel_rfl)) (fun _ _ _ h => h) (Or.inl ⟨by rfl, ?_⟩) ?_ ?_
                   rotate_left
                   ·
                    intro w'
                    go_simp
                    with_reducible rfl
                   rotate_left
                   ·
                    simp only [Act.put, List.setIfInBounds_toArray, List.set_cons_zero, List.set_cons_succ, i64_w, i32_w]
                    rfl
                   refine pure_ (i := 25) (N := some 102) (v := ?_) (a' := ?_) #[true, true, true, true, true, true, true, true, true, true, true, true, true, true, true, true, true, true, true, true, true, true, true, false, false, true, false, false, false, false, false, false, false, false, false] rfl rfl (any_of HT_.out (by kernel_rfl)) (fun _ _ _ h => h) (Or.inl ⟨by rfl, ?_⟩) ?_ ?_
                   rotate_left
                   ·
                    intro w'
                    go_simp
                    with_reducible rfl
                   rotate_left
                   ·
                    simp only [Act.put, List.setIfInBounds_toArray, List.set_cons_zero, List.set_cons_succ, i64_w, i32_w]
                    rfl
                   refine pure_ (i := 29) (N := some 106) (v := ?_) (a' := ?_) #[true, true, true, true, true, true, true, true, true, true, true, true, true, true, true, true, true, true, true, true, true, true, true, false, false, true, false, false, false, true, false, false, false, false, false] rfl rfl (any_of HT_.out (by kernel_rfl)) (fun _ _ _ h => h) (Or.inl ⟨by rfl, ?_⟩) ?_ ?_
                   rotate_left
                   ·
                    intro w'
                    go_simp
                    with_reducible rfl
                   rotate_left
                   ·
                    simp only [Act.put, List.setIfInBounds_toArray, List.set_cons_zero, List.set_cons_succ, i64_w, i32_w]
                    rfl
                   refine take_ (i := 23) (N := some 100) (v := ?_) (a' := ?_) #[true, true, true, true, true, true, true, true, true, true, true, true, true, true, true, true, true, true, true, true, true, true, true, true, false, true, false, false, false, true, false, false, false, false, false] rfl rfl (take_ofW HT_.out HW_.out (by kernel_rfl)) (fun _ _ _ h => h) (Or.inl ⟨by rfl, ?_⟩) hHeld ?_ ?_
                   rotate_left
                   ·
                    rintro w' ⟨s0, s1, s2⟩
                    go_simp
                    with_reducible rfl
                   rotate_left
                   ·
                    simp only [Act.put, List.setIfInBounds_toArray, List.set_cons_zero, List.set_cons_succ, i64_w, i32_w]
                    rfl
                   refine pure_ (i := 24) (N := some 101) (v := ?_) (a' := ?_) #[true, true, true, true, true, true, true, true, true, true, true, true, true, true, true, true, true, true, true, true, true, true, true, true, true, true, false, false, false, true, false, false, false, false, false] rfl rfl (any_of HT_.out (by kernel_rfl)) (fun _ _ _ h => h) (Or.inl ⟨by rfl, ?_⟩) ?_ ?_
                   rotate_left
                   ·
                    intro w'
                    go_simp
                    with_reducible rfl
                   rotate_left
                   ·
                    simp only [Act.put, List.setIfInBounds_toArray, List.set_cons_zero, List.set_cons_succ, i64_w, i32_w]
                    rfl
                   refine take_ (i := 26) (N := some 103) (v := ?_) (a' := ?_) #[true, true, true, true, true, true, true, true, true, true, true, true, true, true, true, true, true, true, true, true, true, true, true, true, true, true, true, false, false, true, false, false, false, false, false] rfl rfl (take_ofW HT_.out HW_.out (by kernel_rfl)) (fun _ _ _ h => h) (Or.inl ⟨by rfl, ?_⟩) hHeld ?_ ?_
                   rotate_left
                   ·
                    rintro w' ⟨s0, s1, s2⟩
                    go_simp
                    with_reducible rfl
                   rotate_left
                   ·
                    simp only [Act.put, List.setIfInBounds_toArray, List.set_cons_zero, List.set_cons_succ, i64_w, i32_w]
                    rfl
                   refine pure_ (i := 27) (N := some 104) (v := ?_) (a' := ?_) #[true, true, true, true, true, true, true, true, true, true, true, true, true, true, true, true, true, true, true, true, true, true, true, true, true, true, true, true, false, true, false, false, false, false, false] rfl rfl (any_of HT_.out (by kernel_rfl)) (fun _ _ _ h => h) (Or.inl ⟨by rfl, ?_⟩) ?_ ?_
                   rotate_left
                   ·
                    intro w'
                    go_simp
                    with_reducible rfl
                   rotate_left
                   ·
                    simp only [Act.put, List.setIfInBounds_toArray, List.set_cons_zero, List.set_cons_succ, i64_w, i32_w]
                    rfl
                   refine pure_ (i := 28) (N := some 105) (v := ?_) (a' := ?_) #[true, true, true, true, true, true, true, true, true, true, true, true, true, true, true, true, true, true, true, true, true, true, true, true, true, true, true, true, true, true, false, false, false, false, false] rfl rfl (any_of HT_.out (by kernel_rfl)) (fun _ _ _ h => h) (Or.inl ⟨by rfl, ?_⟩) ?_ ?_
                   rotate_left
                   ·
                    intro w'
                    go_simp
                    with_reducible rfl
                   rotate_left
                   ·
                    simp only [Act.put, List.setIfInBounds_toArray, List.set_cons_zero, List.set_cons_succ, i64_w, i32_w]
                    rfl
                   refine one_ (i := 30) (N := some 107) #[true, true, true, true, true, true, true, true, true, true, true, true, true, true, true, true, true, true, true, true, true, true, true, true, true, true, true, true, true, true, true, false, false, false, false] rfl rfl (one_of HT_.out (by kernel_rfl)) (by decide) (fun K hK => ?_)
                   refine goes_ Tryd.func22 (by kernel_rfl) rfl #[.pointer (some ⟨g275, 0, none⟩)] (by rfl) rfl rfl (by (try simp only [List.map_toArray, List.map_cons, List.map_nil]); first | done | rfl | (simp only [List.length_drop, List.length_take]; rfl)) ?_
                   with_reducible refine (table_Table_Most.calls g275 t291 t292 t293 w _ ?side1 ?side2 A49.out).mono ?_
                   (case side1 => repeat (first | (with_reducible first | exact HI275.out | apply IsS57.alloc | apply IsS57.drewN | apply IsS57.drew | refine IsS57.farT ?_ (by repeat (first | exact TyOf.mk BK277.out | apply TyOf.alloc | apply TyOf.drewN | apply TyOf.drew | apply TyOf.set)) (by decide) _) | exact HI275.out))
                   (case side2 => repeat (first | (with_reducible first | exact HB.out | apply below_alloc | apply pw_below_drewN | apply below_drew1 | refine below_set ?_ (IsS57.ge HI275.out) | refine below_set ?_ GE277.out) | exact HB.out))
                   rintro e w52 ⟨rfl, hi, hb, hk⟩
                   refine ⟨_, rfl, ?_⟩
                   have n0_ := Aside0.mk (KeepBut.blk hk (g' := gb277) (o := .cells #[.string ((rd_T34 l1 x6_2).f0), .string ((rd_T34 l1 x6_2).f1), .int .i64 ((rd_T34 l1 x6_2).f2)] 34 (0, 0)) (by (with_reducible repeat (first | refine blk_drewN ?_ _ | refine blk_drew ?_ | refine blk_alloc ?_ _)); exact BK277.out) NB277_275.out (by simp))
                   have n1_ := Aside0.mk (hb)
                   have n2_ := Aside0.mk (hi)
                   clear BK277
                   clear HB
                   clear HI275
                   have BK277 := n0_
                   have HB := n1_
                   have HI275 := n2_
                   clear n0_ n1_ n2_
                   (try clear hb)
                   (try clear hb2)
                   (try clear hk)
                   (try clear hi)
                   refine hK.out _ _ ⟨(blk_cell BK277.out 0).trans rfl, (blk_cell BK277.out 1).trans rfl, (blk_cell BK277.out 2).trans rfl⟩ (fun hHeld => ?_)
                   clear hK K
                   refine norm_ (a' := ?_) ?_ ?_
                   rotate_left
                   ·
                    show Act.put _ (some 107) _ = _
                    simp only [Act.put, List.setIfInBounds_toArray, List.set_cons_zero, List.set_cons_succ, i64_w, i32_w]
                    rfl
                   refine pure_ (i := 31) (N := some 108) (v := ?_) (a' := ?_) #[true, true, true, true, true, true, true, true, true, true, true, true, true, true, true, true, true, true, true, true, true, true, true, true, true, true, true, true, true, true, true, true, false, false, false] rfl rfl (any_of HT_.out (by kernel_rfl)) (fun _ _ _ h => h) (Or.inl ⟨by rfl, ?_⟩) ?_ ?_
                   rotate_left
                   ·
                    intro w'
                    go_simp
                    with_reducible rfl
                   rotate_left
                   ·
                    simp only [Act.put, List.setIfInBounds_toArray, List.set_cons_zero, List.set_cons_succ, i64_w, i32_w]
                    rfl
                   refine pure_ (i := 32) (N := some 109) (v := ?_) (a' := ?_) #[true, true, true, true, true, true, true, true, true, true, true, true, true, true, true, true, true, true, true, true, true, true, true, true, true, true, true, true, true, true, true, true, true, false, false] rfl rfl (any_of HT_.out (by kernel_rfl)) (fun _ _ _ h => h) (Or.inl ⟨by rfl, ?_⟩) ?_ ?_
                   rotate_left
                   ·
                    intro w'
                    go_simp
                    with_reducible rfl
                   rotate_left
                   ·
                    simp only [Act.put, List.setIfInBounds_toArray, List.set_cons_zero, List.set_cons_succ, i64_w, i32_w]
                    rfl
                   refine pure_ (i := 33) (N := some 110) (v := ?_) (a' := ?_) #[true, true, true, true, true, true, true, true, true, true, true, true, true, true, true, true, true, true, true, true, true, true, true, true, true, true, true, true, true, true, true, true, true, true, false] rfl rfl (any_of HT_.out (by kernel_rfl)) (fun _ _ _ h => h) (Or.inl ⟨by rfl, ?_⟩) ?_ ?_
                   rotate_left
                   ·
                    intro w'
                    go_simp
                    with_reducible rfl
                   rotate_left
                   ·
                    simp only [Act.put, List.setIfInBounds_toArray, List.set_cons_zero, List.set_cons_succ, i64_w, i32_w]
                    rfl
                   refine pure_ (i := 34) (N := some 111) (v := ?_) (a' := ?_) #[true, true, true, true, true, true, true, true, true, true, true, true, true, true, true, true, true, true, true, true, true, true, true, true, true, true, true, true, true, true, true, true, true, true, true] rfl rfl (any_of HT_.out (by kernel_rfl)) (fun _ _ _ h => h) (Or.inl ⟨by rfl, ?_⟩) ?_ ?_
                   rotate_left
                   ·
                    intro w'
                    go_simp
                    with_reducible rfl
                   rotate_left
                   ·
                    simp only [Act.put, List.setIfInBounds_toArray, List.set_cons_zero, List.set_cons_succ, i64_w, i32_w]
                    rfl
                   refine done_ (done_of HT_.out (by kernel_rfl)) ?_
                   try go_wp2
                   go_meet
                   case rel => exact ⟨_, ((true != (decide ((wrap64 ((((rd_T34 l1 x6_2).f0).size : Int) + (((rd_T34 l1 x6_2).f1).size : Int))) ≤ (wrap64 (t292 - 32)))))), (t293), (by first | rfl | (simp; done) | (simp [*]; done)), H', ⟨by have := HJ4.out; have := HK2.out; have := HJ17.out; first | omega | exact Nat.le_refl _⟩, ⟨by (with_reducible repeat (first | refine blk_drewN ?_ _ | refine blk_drew ?_ | refine blk_alloc ?_ _)); exact BK277.out⟩, ⟨by repeat (first | (with_reducible first | exact HI275.out | apply IsS57.alloc | apply IsS57.drewN | apply IsS57.drew | refine IsS57.farT ?_ (by repeat (first | exact TyOf.mk BK277.out | apply TyOf.alloc | apply TyOf.drewN | apply TyOf.drew | apply TyOf.set)) (by decide) _) | exact HI275.out)⟩, ⟨by repeat (first | (with_reducible first | exact HB.out | apply below_alloc | apply pw_below_drewN | apply below_drew1 | refine below_set ?_ (IsS57.ge HI275.out) | refine below_set ?_ GE277.out) | exact HB.out)⟩⟩
                 ·
                  as_aux_lemma =>
                   rw [if_neg c48] at H
                   have c48b0 : (t287.toList == ((rd_T34 l1 x6_2).f1).toList) = false := beq_eq_false_iff_ne.mpr c48
                   have c48b1 : (t287.toList != ((rd_T34 l1 x6_2).f1).toList) = true := bne_iff_ne.mpr c48
                   have H' := Aside0.mk H
                   clear H
                   try go_wp2
                   have n0_ := Aside0.mk (blk_drew BK277.out)
                   have n1_ := Aside0.mk (IsS57.drew HI275.out)
                   have n2_ := Aside0.mk (below_drew1 HB.out)
                   clear BK277
                   clear HI275
                   clear HB
                   have BK277 := n0_
                   have HI275 := n1_
                   have HB := n2_
                   clear n0_ n1_ n2_
                   refine start_ (n := 35) (S := fun w' => w'.cell? ⟨gb277, 0, none⟩ = some (.string ((rd_T34 l1 x6_2).f0)) ∧ w'.cell? ⟨gb277, 1, none⟩ = some (.string ((rd_T34 l1 x6_2).f1)) ∧ w'.cell? ⟨gb277, 2, none⟩ = some (.int .i64 ((rd_T34 l1 x6_2).f2))) (ds := []) #[false, false, false, false, false, false, false, false, false, false, false, false, false, false, false, false, false, false, false, false, false, false, false, false, false, false, false, false, false, false, false, false, false, false, false] (by kernel_rfl) rfl rfl ⟨(blk_cell BK277.out 0).trans rfl, (blk_cell BK277.out 1).trans rfl, (blk_cell BK277.out 2).trans rfl⟩ (fun hHeld => ?_); refine with_tabW nunciolaw11_TableHolds.tab16 nunciolaw11_TableHolds.bits16 (fun HT_ HW_ => ?_)
                   generalize w41.drew = w53 at BK277 HI275 HB hHeld ⊢
                   refine pure_ (i := 0) (N := some 77) (v := ?_) (a' := ?_) #[true, false, false, false, false, false, false, false, false, false, false, false, false, false, false, false, false, false, false, false, false, false, false, false, false, false, false, false, false, false, false, false, false, false, false] rfl rfl (any_of HT_.out (by kernel_rfl)) (fun _ _ _ h => h) (Or.inl ⟨by rfl, ?_⟩) ?_ ?_
                   rotate_left
                   ·
                    intro w'
                    go_simp
                    with_reducible rfl
                   rotate_left
                   ·
                    simp only [Act.put, List.setIfInBounds_toArray, List.set_cons_zero, List.set_cons_succ, i64_w, i32_w]
                    rfl
                   refine pure_ (i := 1) (N := some 78) (v := ?_) (a' := ?_) #[true, true, false, false, false, false, false, false, false, false, false, false, false, false, false, false, false, false, false, false, false, false, false, false, false, false, false, false, false, false, false, false, false, false, false] rfl rfl (any_of HT_.out (by kernel_rfl)) (fun _ _ _ h => h) (Or.inl ⟨by rfl, ?_⟩) ?_ ?_
                   rotate_left
                   ·
                    intro w'
                    go_simp
                    with_reducible rfl
                   rotate_left
                   ·
                    simp only [Act.put, List.setIfInBounds_toArray, List.set_cons_zero, List.set_cons_succ, i64_w, i32_w]
                    rfl
                   refine one_ (i := 2) (N := some 79) #[true, true, true, false, false, false, false, false, false, false, false, false, false, false, false, false, false, false, false, false, false, false, false, false, false, false, false, false, false, false, false, false, false, false, false] rfl rfl (one_of HT_.out (by kernel_rfl)) (by decide) (fun K hK => ?_)
                   refine goes_ Tryd.func19 (by kernel_rfl) rfl #[.pointer (some ⟨g275, 0, none⟩)] (by rfl) rfl rfl (by (try simp only [List.map_toArray, List.map_cons, List.map_nil]); first | done | rfl | (simp only [List.length_drop, List.length_take]; rfl)) ?_
                   with_reducible refine (table_Table_Len.calls g275 t289 t290 t291 w _ ?side1 ?side2 A42.out).mono ?_
                   (case side1 => repeat (first | (with_reducible first | exact HI275.out | apply IsS57.alloc | apply IsS57.drewN | apply IsS57.drew | refine IsS57.farT ?_ (by repeat (first | exact TyOf.mk BK277.out | apply TyOf.alloc | apply TyOf.drewN | apply TyOf.drew | apply TyOf.set)) (by decide) _) | exact HI275.out))
                   (case side2 => repeat (first | (with_reducible first | exact HB.out | apply below_alloc | apply pw_below_drewN | apply below_drew1 | refine below_set ?_ (IsS57.ge HI275.out) | refine below_set ?_ GE277.out) | exact HB.out))
                   rintro e w54 ⟨rfl, hi, hb, hk⟩
                   refine ⟨_, rfl, ?_⟩
                   have n0_ := Aside0.mk (KeepBut.blk hk (g' := gb277) (o := .cells #[.string ((rd_T34 l1 x6_2).f0), .string ((rd_T34 l1 x6_2).f1), .int .i64 ((rd_T34 l1 x6_2).f2)] 34 (0, 0)) (by (with_reducible repeat (first | refine blk_drewN ?_ _ | refine blk_drew ?_ | refine blk_alloc ?_ _)); exact BK277.out) NB277_275.out (by simp))
                   have n1_ := Aside0.mk (hb)
                   have n2_ := Aside0.mk (hi)
                   clear BK277
                   clear HB
                   clear HI275
                   have BK277 := n0_
                   have HB := n1_
                   have HI275 := n2_
                   clear n0_ n1_ n2_
                   (try clear hb)
                   (try clear hb2)
                   (try clear hk)
                   (try clear hi)
                   refine hK.out _ _ ⟨(blk_cell BK277.out 0).trans rfl, (blk_cell BK277.out 1).trans rfl, (blk_cell BK277.out 2).trans rfl⟩ (fun hHeld => ?_)
                   clear hK K
                   refine norm_ (a' := ?_) ?_ ?_
                   rotate_left
                   ·
                    show Act.put _ (some 79) _ = _
                    simp only [Act.put, List.setIfInBounds_toArray, List.set_cons_zero, List.set_cons_succ, i64_w, i32_w]
                    rfl
                   refine pure_ (i := 3) (N := some 80) (v := ?_) (a' := ?_) #[true, true, true, true, false, false, false, false, false, false, false, false, false, false, false, false, false, false, false, false, false, false, false, false, false, false, false, false, false, false, false, false, false, false, false] rfl rfl (any_of HT_.out (by kernel_rfl)) (fun _ _ _ h => h) (Or.inl ⟨by rfl, ?_⟩) ?_ ?_
                   rotate_left
                   ·
                    intro w'
                    go_simp
                    with_reducible rfl
                   rotate_left
                   ·
                    simp only [Act.put, List.setIfInBounds_toArray, List.set_cons_zero, List.set_cons_succ, i64_w, i32_w]
                    rfl
                   refine pure_ (i := 4) (N := some 81) (v := ?_) (a' := ?_) #[true, true, true, true, true, false, false, false, false, false, false, false, false, false, false, false, false, false, false, false, false, false, false, false, false, false, false, false, false, false, false, false, false, false, false] rfl rfl (any_of HT_.out (by kernel_rfl)) (fun _ _ _ h => h) (Or.inl ⟨by rfl, ?_⟩) ?_ ?_
                   rotate_left
                   ·
                    intro w'
                    go_simp
                    with_reducible rfl
                   rotate_left
                   ·
                    simp only [Act.put, List.setIfInBounds_toArray, List.set_cons_zero, List.set_cons_succ, i64_w, i32_w]
                    rfl
                   refine pure_ (i := 5) (N := some 82) (v := ?_) (a' := ?_) #[true, true, true, true, true, true, false, false, false, false, false, false, false, false, false, false, false, false, false, false, false, false, false, false, false, false, false, false, false, false, false, false, false, false, false] rfl rfl (any_of HT_.out (by kernel_rfl)) (fun _ _ _ h => h) (Or.inl ⟨by rfl, ?_⟩) ?_ ?_
                   rotate_left
                   ·
                    intro w'
                    go_simp
                    with_reducible rfl
                   rotate_left
                   ·
                    simp only [Act.put, List.setIfInBounds_toArray, List.set_cons_zero, List.set_cons_succ, i64_w, i32_w]
                    rfl
                   refine pure_ (i := 6) (N := some 83) (v := ?_) (a' := ?_) #[true, true, true, true, true, true, true, false, false, false, false, false, false, false, false, false, false, false, false, false, false, false, false, false, false, false, false, false, false, false, false, false, false, false, false] rfl rfl (any_of HT_.out (by kernel_rfl)) (fun _ _ _ h => h) (Or.inl ⟨by rfl, ?_⟩) ?_ ?_
                   rotate_left
                   ·
                    intro w'
                    go_simp
                    with_reducible rfl
                   rotate_left
                   ·
                    simp only [Act.put, List.setIfInBounds_toArray, List.set_cons_zero, List.set_cons_succ, i64_w, i32_w]
                    rfl
                   refine pure_ (i := 7) (N := some 84) (v := ?_) (a' := ?_) #[true, true, true, true, true, true, true, true, false, false, false, false, false, false, false, false, false, false, false, false, false, false, false, false, false, false, false, false, false, false, false, false, false, false, false] rfl rfl (any_of HT_.out (by kernel_rfl)) (fun _ _ _ h => h) (Or.inl ⟨by rfl, ?_⟩) ?_ ?_
                   rotate_left
                   ·
                    intro w'
                    go_simp
                    with_reducible rfl
                   rotate_left
                   ·
                    simp only [Act.put, List.setIfInBounds_toArray, List.set_cons_zero, List.set_cons_succ, i64_w, i32_w]
                    rfl
                   refine pure_ (i := 8) (N := some 85) (v := ?_) (a' := ?_) #[true, true, true, true, true, true, true, true, true, false, false, false, false, false, false, false, false, false, false, false, false, false, false, false, false, false, false, false, false, false, false, false, false, false, false] rfl rfl (any_of HT_.out (by kernel_rfl)) (fun _ _ _ h => h) (Or.inl ⟨by rfl, ?_⟩) ?_ ?_
                   rotate_left
                   ·
                    intro w'
                    go_simp
                    with_reducible rfl
                   rotate_left
                   ·
                    simp only [Act.put, List.setIfInBounds_toArray, List.set_cons_zero, List.set_cons_succ, i64_w, i32_w]
                    rfl
                   refine pure_ (i := 9) (N := some 86) (v := ?_) (a' := ?_) #[true, true, true, true, true, true, true, true, true, true, false, false, false, false, false, false, false, false, false, false, false, false, false, false, false, false, false, false, false, false, false, false, false, false, false] rfl rfl (any_of HT_.out (by kernel_rfl)) (fun _ _ _ h => h) (Or.inl ⟨by rfl, ?_⟩) ?_ ?_
                   rotate_left
                   ·
                    intro w'
                    go_simp
                    with_reducible rfl
                   rotate_left
                   ·
                    simp only [Act.put, List.setIfInBounds_toArray, List.set_cons_zero, List.set_cons_succ, i64_w, i32_w]
                    rfl
                   refine take_ (i := 10) (N := some 87) (v := ?_) (a' := ?_) #[true, true, true, true, true, true, true, true, true, true, true, false, false, false, false, false, false, false, false, false, false, false, false, false, false, false, false, false, false, false, false, false, false, false, false] rfl rfl (take_ofW HT_.out HW_.out (by kernel_rfl)) (fun _ _ _ h => h) (Or.inl ⟨by rfl, ?_⟩) hHeld ?_ ?_
                   rotate_left
                   ·
                    rintro w' ⟨s0, s1, s2⟩
                    go_simp
                    with_reducible rfl
                   rotate_left
                   ·
                    simp only [Act.put, List.setIfInBounds_toArray, List.set_cons_zero, List.set_cons_succ, i64_w, i32_w]
                    rfl
                   refine pure_ (i := 11) (N := some 88) (v := ?_) (a' := ?_) #[true, true, true, true, true, true, true, true, true, true, true, true, false, false, false, false, false, false, false, false, false, false, false, false, false, false, false, false, false, false, false, false, false, false, false] rfl rfl (any_of HT_.out (by kernel_rfl)) (fun _ _ _ h => h) (Or.inl ⟨by rfl, ?_⟩) ?_ ?_
                   rotate_left
                   ·
                    intro w'
                    go_simp
                    with_reducible rfl
                   rotate_left
                   ·
                    simp only [Act.put, List.setIfInBounds_toArray, List.set_cons_zero, List.set_cons_succ, i64_w, i32_w]
                    rfl
                   refine pure_ (i := 12) (N := some 89) (v := ?_) (a' := ?_) #[true, true, true, true, true, true, true, true, true, true, true, true, true, false, false, false, false, false, false, false, false, false, false, false, false, false, false, false, false, false, false, false, false, false, false] rfl rfl (any_of HT_.out (by kernel_rfl)) (fun _ _ _ h => h) (Or.inl ⟨by rfl, ?_⟩) ?_ ?_
                   rotate_left
                   ·
                    intro w'
                    go_simp
                    with_reducible rfl
                   rotate_left
                   ·
                    simp only [Act.put, List.setIfInBounds_toArray, List.set_cons_zero, List.set_cons_succ, i64_w, i32_w]
                    rfl
                   refine pure_ (i := 13) (N := some 90) (v := ?_) (a' := ?_) #[true, true, true, true, true, true, true, true, true, true, true, true, true, true, false, false, false, false, false, false, false, false, false, false, false, false, false, false, false, false, false, false, false, false, false] rfl rfl (any_of HT_.out (by kernel_rfl)) (fun _ _ _ h => h) (Or.inl ⟨by rfl, ?_⟩) ?_ ?_
                   rotate_left
                   ·
                    intro w'
                    go_simp
                    with_reducible rfl
                   rotate_left
                   ·
                    simp only [Act.put, List.setIfInBounds_toArray, List.set_cons_zero, List.set_cons_succ, i64_w, i32_w]
                    rfl
                   refine pure_ (i := 14) (N := some 91) (v := ?_) (a' := ?_) #[true, true, true, true, true, true, true, true, true, true, true, true, true, true, true, false, false, false, false, false, false, false, false, false, false, false, false, false, false, false, false, false, false, false, false] rfl rfl (any_of HT_.out (by kernel_rfl)) (fun _ _ _ h => h) (Or.inl ⟨by rfl, ?_⟩) ?_ ?_
                   rotate_left
                   ·
                    intro w'
                    go_simp
                    with_reducible rfl
                   rotate_left
                   ·
                    simp only [Act.put, List.setIfInBounds_toArray, List.set_cons_zero, List.set_cons_succ, i64_w, i32_w]
                    rfl
                   refine take_ (i := 15) (N := some 92) (v := ?_) (a' := ?_) #[true, true, true, true, true, true, true, true, true, true, true, true, true, true, true, true, false, false, false, false, false, false, false, false, false, false, false, false, false, false, false, false, false, false, false] rfl rfl (take_ofW HT_.out HW_.out (by kernel_rfl)) (fun _ _ _ h => h) (Or.inl ⟨by rfl, ?_⟩) hHeld ?_ ?_
                   rotate_left
                   ·
                    rintro w' ⟨s0, s1, s2⟩
                    go_simp
                    with_reducible rfl
                   rotate_left
                   ·
                    simp only [Act.put, List.setIfInBounds_toArray, List.set_cons_zero, List.set_cons_succ, i64_w, i32_w]
                    rfl
                   refine pure_ (i := 16) (N := some 93) (v := ?_) (a' := ?_) #[true, true, true, true, true, true, true, true, true, true, true, true, true, true, true, true, true, false, false, false, false, false, false, false, false, false, false, false, false, false, false, false, false, false, false] rfl rfl (any_of HT_.out (by kernel_rfl)) (fun _ _ _ h => h) (Or.inl ⟨by rfl, ?_⟩) ?_ ?_
                   rotate_left
                   ·
                    intro w'
                    go_simp
                    with_reducible rfl
                   rotate_left
                   ·
                    simp only [Act.put, List.setIfInBounds_toArray, List.set_cons_zero, List.set_cons_succ, i64_w, i32_w]
                    rfl
                   refine pure_ (i := 17) (N := some 94) (v := ?_) (a' := ?_) #[true, true, true, true, true, true, true, true, true, true, true, true, true, true, true, true, true, true, false, false, false, false, false, false, false, false, false, false, false, false, false, false, false, false, false] rfl rfl (any_of HT_.out (by kernel_rfl)) (fun _ _ _ h => h) (Or.inl ⟨by rfl, ?_⟩) ?_ ?_
                   rotate_left
                   ·
                    intro w'
                    go_simp
                    with_reducible rfl
                   rotate_left
                   ·
                    simp only [Act.put, List.setIfInBounds_toArray, List.set_cons_zero, List.set_cons_succ, i64_w, i32_w]
                    rfl
                   refine pure_ (i := 18) (N := some 95) (v := ?_) (a' := ?_) #[true, true, true, true, true, true, true, true, true, true, true, true, true, true, true, true, true, true, true, false, false, false, false, false, false, false, false, false, false, false, false, false, false, false, false] rfl rfl (any_of HT_.out (by kernel_rfl)) (fun _ _ _ h => h) (Or.inl ⟨by rfl, ?_⟩) ?_ ?_
                   rotate_left
                   ·
                    intro w'
                    go_simp
                    with_reducible rfl
                   rotate_left
                   ·
                    simp only [Act.put, List.setIfInBounds_toArray, List.set_cons_zero, List.set_cons_succ, i64_w, i32_w]
                    rfl
                   refine pure_ (i := 19) (N := some 96) (v := ?_) (a' := ?_) #[true, true, true, true, true, true, true, true, true, true, true, true, true, true, true, true, true, true, true, true, false, false, false, false, false, false, false, false, false, false, false, false, false, false, false] rfl rfl (any_of HT_.out (by kernel_rfl)) (fun _ _ _ h => h) (Or.inl ⟨by rfl, ?_⟩) ?_ ?_
                   rotate_left
                   ·
                    intro w'
                    go_simp
                    with_reducible rfl
                   rotate_left
                   ·
                    simp only [Act.put, List.setIfInBounds_toArray, List.set_cons_zero, List.set_cons_succ, i64_w, i32_w]
                    rfl
                   refine pure_ (i := 20) (N := some 97) (v := ?_) (a' := ?_) #[true, true, true, true, true, true, true, true, true, true, true, true, true, true, true, true, true, true, true, true, true, false, false, false, false, false, false, false, false, false, false, false, false, false, false] rfl rfl (any_of HT_.out (by kernel_rfl)) (fun _ _ _ h => h) (Or.inl ⟨by rfl, ?_⟩) ?_ ?_
                   rotate_left
                   ·
                    intro w'
                    go_simp
                    with_reducible rfl
                   rotate_left
                   ·
                    simp only [Act.put, List.setIfInBounds_toArray, List.set_cons_zero, List.set_cons_succ, i64_w, i32_w]
                    rfl
                   refine pure_ (i := 21) (N := some 98) (v := undef) (a' := ?_) #[true, true, true, true, true, true, true, true, true, true, true, true, true, true, true, true, true, true, true, true, true, true, false, false, false, false, false, false, false, false, false, false, false, false, false] rfl rfl (any_of HT_.out (by kernel_rfl)) (fun _ _ _ h => h) (Or.inr ⟨by rfl, rfl⟩) ?_ ?_
                   rotate_left
                   ·
                    simp only [Act.put, List.setIfInBounds_toArray, List.set_cons_zero, List.set_cons_succ, i64_w, i32_w]
                    rfl
                   refine pure_ (i := 22) (N := some 99) (v := undef) (a' := ?_) #[true, true, true, true, true, true, true, true, true, true, true, true, true, true, true, true, true, true, true, true, true, true, true, false, false, false, false, false, false, false, false, false, false, false, false] rfl rfl (any_of HT_.out (by kernel_rfl)) (fun _ _ _ h => h) (Or.inr ⟨by rfl, rfl⟩) ?_ ?_
                   rotate_left
                   ·
                    simp only [Act.put, List.setIfInBounds_toArray, List.set_cons_zero, List.set_cons_succ, i64_w, i32_w]
                    rfl
                   refine pure_ (i := 23) (N := some 100) (v := undef) (a' := ?_) #[true, true, true, true, true, true, true, true, true, true, true, true, true, true, true, true, true, true, true, true, true, true, true, true, false, false, false, false, false, false, false, false, false, false, false] rfl rfl (any_of HT_.out (by kernel_rfl)) (fun _ _ _ h => h) (Or.inr ⟨by rfl, rfl⟩) ?_ ?_
                   rotate_left
                   ·
                    simp only [Act.put, List.setIfInBounds_toArray, List.set_cons_zero, List.set_cons_succ, i64_w, i32_w]
                    rfl
                   refine pure_ (i := 24) (N := some 101) (v := undef) (a' := ?_) #[true, true, true, true, true, true, true, true, true, true, true, true, true, true, true, true, true, true, true, true, true, true, true, true, true, false, false, false, false, false, false, false, false, false, false] rfl rfl (any_of HT_.out (by kernel_rfl)) (fun _ _ _ h => h) (Or.inr ⟨by rfl, rfl⟩) ?_ ?_
                   rotate_left
                   ·
                    simp only [Act.put, List.setIfInBounds_toArray, List.set_cons_zero, List.set_cons_succ, i64_w, i32_w]
                    rfl
                   refine pure_ (i := 25) (N := some 102) (v := undef) (a' := ?_) #[true, true, true, true, true, true, true, true, true, true, true, true, true, true, true, true, true, true, true, true, true, true, true, true, true, true, false, false, false, false, false, false, false, false, false] rfl rfl (any_of HT_.out (by kernel_rfl)) (fun _ _ _ h => h) (Or.inr ⟨by rfl, rfl⟩) ?_ ?_
                   rotate_left
                   ·
                    simp only [Act.put, List.setIfInBounds_toArray, List.set_cons_zero, List.set_cons_succ, i64_w, i32_w]
                    rfl
                   refine pure_ (i := 26) (N := some 103) (v := undef) (a' := ?_) #[true, true, true, true, true, true, true, true, true, true, true, true, true, true, true, true, true, true, true, true, true, true, true, true, true, true, true, false, false, false, false, false, false, false, false] rfl rfl (any_of HT_.out (by kernel_rfl)) (fun _ _ _ h => h) (Or.inr ⟨by rfl, rfl⟩) ?_ ?_
                   rotate_left
                   ·
                    simp only [Act.put, List.setIfInBounds_toArray, List.set_cons_zero, List.set_cons_succ, i64_w, i32_w]
                    rfl
                   refine pure_ (i := 27) (N := some 104) (v := undef) (a' := ?_) #[true, true, true, true, true, true, true, true, true, true, true, true, true, true, true, true, true, true, true, true, true, true, true, true, true, true, true, true, false, false, false, false, false, false, false] rfl rfl (any_of HT_.out (by kernel_rfl)) (fun _ _ _ h => h) (Or.inr ⟨by rfl, rfl⟩) ?_ ?_
                   rotate_left
                   ·
                    simp only [Act.put, List.setIfInBounds_toArray, List.set_cons_zero, List.set_cons_succ, i64_w, i32_w]
                    rfl
                   refine pure_ (i := 28) (N := some 105) (v := undef) (a' := ?_) #[true, true, true, true, true, true, true, true, true, true, true, true, true, true, true, true, true, true, true, true, true, true, true, true, true, true, true, true, true, false, false, false, false, false, false] rfl rfl (any_of HT_.out (by kernel_rfl)) (fun _ _ _ h => h) (Or.inr ⟨by rfl, rfl⟩) ?_ ?_
                   rotate_left
                   ·
                    simp only [Act.put, List.setIfInBounds_toArray, List.set_cons_zero, List.set_cons_succ, i64_w, i32_w]
                    rfl
                   refine pure_ (i := 29) (N := some 106) (v := undef) (a' := ?_) #[true, true, true, true, true, true, true, true, true, true, true, true, true, true, true, true, true, true, true, true, true, true, true, true, true, true, true, true, true, true, false, false, false, false, false] rfl rfl (any_of HT_.out (by kernel_rfl)) (fun _ _ _ h => h) (Or.inr ⟨by rfl, rfl⟩) ?_ ?_
                   rotate_left
                   ·
                    simp only [Act.put, List.setIfInBounds_toArray, List.set_cons_zero, List.set_cons_succ, i64_w, i32_w]
                    rfl
                   refine pure_ (i := 30) (N := some 107) (v := undef) (a' := ?_) #[true, true, true, true, true, true, true, true, true, true, true, true, true, true, true, true, true, true, true, true, true, true, true, true, true, true, true, true, true, true, true, false, false, false, false] rfl rfl (any_of HT_.out (by kernel_rfl)) (fun _ _ _ h => h) (Or.inr ⟨by rfl, rfl⟩) ?_ ?_
                   rotate_left
                   ·
                    simp only [Act.put, List.setIfInBounds_toArray, List.set_cons_zero, List.set_cons_succ, i64_w, i32_w]
                    rfl
                   refine pure_ (i := 31) (N := some 108) (v := undef) (a' := ?_) #[true, true, true, true, true, true, true, true, true, true, true, true, true, true, true, true, true, true, true, true, true, true, true, true, true, true, true, true, true, true, true, true, false, false, false] rfl rfl (any_of HT_.out (by kernel_rfl)) (fun _ _ _ h => h) (Or.inr ⟨by rfl, rfl⟩) ?_ ?_
                   rotate_left
                   ·
                    simp only [Act.put, List.setIfInBounds_toArray, List.set_cons_zero, List.set_cons_succ, i64_w, i32_w]
                    rfl
                   refine pure_ (i := 32) (N := some 109) (v := undef) (a' := ?_) #[true, true, true, true, true, true, true, true, true, true, true, true, true, true, true, true, true, true, true, true, true, true, true, true, true, true, true, true, true, true, true, true, true, false, false] rfl rfl (any_of HT_.out (by kernel_rfl)) (fun _ _ _ h => h) (Or.inr ⟨by rfl, rfl⟩) ?_ ?_
                   rotate_left
                   ·
                    simp only [Act.put, List.setIfInBounds_toArray, List.set_cons_zero, List.set_cons_succ, i64_w, i32_w]
                    rfl
                   refine pure_ (i := 33) (N := some 110) (v := undef) (a' := ?_) #[true, true, true, true, true, true, true, true, true, true, true, true, true, true, true, true, true, true, true, true, true, true, true, true, true, true, true, true, true, true, true, true, true, true, false] rfl rfl (any_of HT_.out (by kernel_rfl)) (fun _ _ _ h => h) (Or.inr ⟨by rfl, rfl⟩) ?_ ?_
                   rotate_left
                   ·
                    simp only [Act.put, List.setIfInBounds_toArray, List.set_cons_zero, List.set_cons_succ, i64_w, i32_w]
                    rfl
                   refine pure_ (i := 34) (N := some 111) (v := ?_) (a' := ?_) #[true, true, true, true, true, true, true, true, true, true, true, true, true, true, true, true, true, true, true, true, true, true, true, true, true, true, true, true, true, true, true, true, true, true, true] rfl rfl (any_of HT_.out (by kernel_rfl)) (fun _ _ _ h => h) (Or.inl ⟨by rfl, ?_⟩) ?_ ?_
                   rotate_left
                   ·
                    intro w'
                    go_simp
                    with_reducible rfl
                   rotate_left
                   ·
                    simp only [Act.put, List.setIfInBounds_toArray, List.set_cons_zero, List.set_cons_succ, i64_w, i32_w]
                    rfl
                   refine done_ (done_of HT_.out (by kernel_rfl)) ?_
                   try go_wp2
                   go_meet
                   case rel => exact ⟨_, (true), (t291), (by first | rfl | (simp; done) | (simp [*]; done)), H', ⟨by have := HJ4.out; have := HK2.out; have := HJ17.out; first | omega | exact Nat.le_refl _⟩, ⟨by (with_reducible repeat (first | refine blk_drewN ?_ _ | refine blk_drew ?_ | refine blk_alloc ?_ _)); exact BK277.out⟩, ⟨by repeat (first | (with_reducible first | exact HI275.out | apply IsS57.alloc | apply IsS57.drewN | apply IsS57.drew | refine IsS57.farT ?_ (by repeat (first | exact TyOf.mk BK277.out | apply TyOf.alloc | apply TyOf.drewN | apply TyOf.drew | apply TyOf.set)) (by decide) _) | exact HI275.out)⟩, ⟨by repeat (first | (with_reducible first | exact HB.out | apply below_alloc | apply pw_below_drewN | apply below_drew1 | refine below_set ?_ (IsS57.ge HI275.out) | refine below_set ?_ GE277.out) | exact HB.out)⟩⟩
                ·
                 as_aux_lemma =>
                  rw [if_neg c47] at H
                  have c47b0 : (t286.toList == ((rd_T34 l1 x6_2).f0).toList) = false := beq_eq_false_iff_ne.mpr c47
                  have c47b1 : (t286.toList != ((rd_T34 l1 x6_2).f0).toList) = true := bne_iff_ne.mpr c47
                  have H' := Aside0.mk H
                  clear H
                  try go_wp2
                  have n0_ := Aside0.mk (blk_drew BK277.out)
                  have n1_ := Aside0.mk (IsS57.drew HI275.out)
                  have n2_ := Aside0.mk (below_drew1 HB.out)
                  clear BK277
                  clear HI275
                  clear HB
                  have BK277 := n0_
                  have HI275 := n1_
                  have HB := n2_
                  clear n0_ n1_ n2_
                  refine start_ (n := 35) (S := fun w' => w'.cell? ⟨gb277, 0, none⟩ = some (.string ((rd_T34 l1 x6_2).f0)) ∧ w'.cell? ⟨gb277, 1, none⟩ = some (.string ((rd_T34 l1 x6_2).f1)) ∧ w'.cell? ⟨gb277, 2, none⟩ = some (.int .i64 ((rd_T34 l1 x6_2).f2))) (ds := []) #[false, false, false, false, false, false, false, false, false, false, false, false, false, false, false, false, false, false, false, false, false, false, false, false, false, false, false, false, false, false, false, false, false, false, false] (by kernel_rfl) rfl rfl ⟨(blk_cell BK277.out 0).trans rfl, (blk_cell BK277.out 1).trans rfl, (blk_cell BK277.out 2).trans rfl⟩ (fun hHeld => ?_); refine with_tabW nunciolaw11_TableHolds.tab16 nunciolaw11_TableHolds.bits16 (fun HT_ HW_ => ?_)
                  generalize w41.drew = w55 at BK277 HI275 HB hHeld ⊢
                  refine pure_ (i := 0) (N := some 77) (v := ?_) (a' := ?_) #[true, false, false, false, false, false, false, false, false, false, false, false, false, false, false, false, false, false, false, false, false, false, false, false, false, false, false, false, false, false, false, false, false, false, false] rfl rfl (any_of HT_.out (by kernel_rfl)) (fun _ _ _ h => h) (Or.inl ⟨by rfl, ?_⟩) ?_ ?_
                  rotate_left
                  ·
                   intro w'
                   go_simp
                   with_reducible rfl
                  rotate_left
                  ·
                   simp only [Act.put, List.setIfInBounds_toArray, List.set_cons_zero, List.set_cons_succ, i64_w, i32_w]
                   rfl
                  refine pure_ (i := 1) (N := some 78) (v := ?_) (a' := ?_) #[true, true, false, false, false, false, false, false, false, false, false, false, false, false, false, false, false, false, false, false, false, false, false, false, false, false, false, false, false, false, false, false, false, false, false] rfl rfl (any_of HT_.out (by kernel_rfl)) (fun _ _ _ h => h) (Or.inl ⟨by rfl, ?_⟩) ?_ ?_
                  rotate_left
                  ·
                   intro w'
                   go_simp
                   with_reducible rfl
                  rotate_left
                  ·
                   simp only [Act.put, List.setIfInBounds_toArray, List.set_cons_zero, List.set_cons_succ, i64_w, i32_w]
                   rfl
                  refine one_ (i := 2) (N := some 79) #[true, true, true, false, false, false, false, false, false, false, false, false, false, false, false, false, false, false, false, false, false, false, false, false, false, false, false, false, false, false, false, false, false, false, false] rfl rfl (one_of HT_.out (by kernel_rfl)) (by decide) (fun K hK => ?_)
                  refine goes_ Tryd.func19 (by kernel_rfl) rfl #[.pointer (some ⟨g275, 0, none⟩)] (by rfl) rfl rfl (by (try simp only [List.map_toArray, List.map_cons, List.map_nil]); first | done | rfl | (simp only [List.length_drop, List.length_take]; rfl)) ?_
                  with_reducible refine (table_Table_Len.calls g275 t289 t290 t291 w _ ?side1 ?side2 A42.out).mono ?_
                  (case side1 => repeat (first | (with_reducible first | exact HI275.out | apply IsS57.alloc | apply IsS57.drewN | apply IsS57.drew | refine IsS57.farT ?_ (by repeat (first | exact TyOf.mk BK277.out | apply TyOf.alloc | apply TyOf.drewN | apply TyOf.drew | apply TyOf.set)) (by decide) _) | exact HI275.out))
                  (case side2 => repeat (first | (with_reducible first | exact HB.out | apply below_alloc | apply pw_below_drewN | apply below_drew1 | refine below_set ?_ (IsS57.ge HI275.out) | refine below_set ?_ GE277.out) | exact HB.out))
                  rintro e w56 ⟨rfl, hi, hb, hk⟩
                  refine ⟨_, rfl, ?_⟩
                  have n0_ := Aside0.mk (KeepBut.blk hk (g' := gb277) (o := .cells #[.string ((rd_T34 l1 x6_2).f0), .string ((rd_T34 l1 x6_2).f1), .int .i64 ((rd_T34 l1 x6_2).f2)] 34 (0, 0)) (by (with_reducible repeat (first | refine blk_drewN ?_ _ | refine blk_drew ?_ | refine blk_alloc ?_ _)); exact BK277.out) NB277_275.out (by simp))
                  have n1_ := Aside0.mk (hb)
                  have n2_ := Aside0.mk (hi)
                  clear BK277
                  clear HB
                  clear HI275
                  have BK277 := n0_
                  have HB := n1_
                  have HI275 := n2_
                  clear n0_ n1_ n2_
                  (try clear hb)
                  (try clear hb2)
                  (try clear hk)
                  (try clear hi)
                  refine hK.out _ _ ⟨(blk_cell BK277.out 0).trans rfl, (blk_cell BK277.out 1).trans rfl, (blk_cell BK277.out 2).trans rfl⟩ (fun hHeld => ?_)
                  clear hK K
                  refine norm_ (a' := ?_) ?_ ?_
                  rotate_left
                  ·
                   show Act.put _ (some 79) _ = _
                   simp only [Act.put, List.setIfInBounds_toArray, List.set_cons_zero, List.set_cons_succ, i64_w, i32_w]
                   rfl
                  refine pure_ (i := 3) (N := some 80) (v := ?_) (a' := ?_) #[true, true, true, true, false, false, false, false, false, false, false, false, false, false, false, false, false, false, false, false, false, false, false, false, false, false, false, false, false, false, false, false, false, false, false] rfl rfl (any_of HT_.out (by kernel_rfl)) (fun _ _ _ h => h) (Or.inl ⟨by rfl, ?_⟩) ?_ ?_
                  rotate_left
                  ·
                   intro w'
                   go_simp
                   with_reducible rfl
                  rotate_left
                  ·
                   simp only [Act.put, List.setIfInBounds_toArray, List.set_cons_zero, List.set_cons_succ, i64_w, i32_w]
                   rfl
                  refine pure_ (i := 4) (N := some 81) (v := ?_) (a' := ?_) #[true, true, true, true, true, false, false, false, false, false, false, false, false, false, false, false, false, false, false, false, false, false, false, false, false, false, false, false, false, false, false, false, false, false, false] rfl rfl (any_of HT_.out (by kernel_rfl)) (fun _ _ _ h => h) (Or.inl ⟨by rfl, ?_⟩) ?_ ?_
                  rotate_left
                  ·
                   intro w'
                   go_simp
                   with_reducible rfl
                  rotate_left
                  ·
                   simp only [Act.put, List.setIfInBounds_toArray, List.set_cons_zero, List.set_cons_succ, i64_w, i32_w]
                   rfl
                  refine pure_ (i := 5) (N := some 82) (v := ?_) (a' := ?_) #[true, true, true, true, true, true, false, false, false, false, false, false, false, false, false, false, false, false, false, false, false, false, false, false, false, false, false, false, false, false, false, false, false, false, false] rfl rfl (any_of HT_.out (by kernel_rfl)) (fun _ _ _ h => h) (Or.inl ⟨by rfl, ?_⟩) ?_ ?_
                  rotate_left
                  ·
                   intro w'
                   go_simp
                   with_reducible rfl
                  rotate_left
                  ·
                   simp only [Act.put, List.setIfInBounds_toArray, List.set_cons_zero, List.set_cons_succ, i64_w, i32_w]
                   rfl
                  refine pure_ (i := 6) (N := some 83) (v := ?_) (a' := ?_) #[true, true, true, true, true, true, true, false, false, false, false, false, false, false, false, false, false, false, false, false, false, false, false, false, false, false, false, false, false, false, false, false, false, false, false] rfl rfl (any_of HT_.out (by kernel_rfl)) (fun _ _ _ h => h) (Or.inl ⟨by rfl, ?_⟩) ?_ ?_
                  rotate_left
                  ·
                   intro w'
                   go_simp
                   with_reducible rfl
                  rotate_left
                  ·
                   simp only [Act.put, List.setIfInBounds_toArray, List.set_cons_zero, List.set_cons_succ, i64_w, i32_w]
                   rfl
                  refine pure_ (i := 7) (N := some 84) (v := ?_) (a' := ?_) #[true, true, true, true, true, true, true, true, false, false, false, false, false, false, false, false, false, false, false, false, false, false, false, false, false, false, false, false, false, false, false, false, false, false, false] rfl rfl (any_of HT_.out (by kernel_rfl)) (fun _ _ _ h => h) (Or.inl ⟨by rfl, ?_⟩) ?_ ?_
                  rotate_left
                  ·
                   intro w'
                   go_simp
                   with_reducible rfl
                  rotate_left
                  ·
                   simp only [Act.put, List.setIfInBounds_toArray, List.set_cons_zero, List.set_cons_succ, i64_w, i32_w]
                   rfl
                  refine pure_ (i := 8) (N := some 85) (v := ?_) (a' := ?_) #[true, true, true, true, true, true, true, true, true, false, false, false, false, false, false, false, false, false, false, false, false, false, false, false, false, false, false, false, false, false, false, false, false, false, false] rfl rfl (any_of HT_.out (by kernel_rfl)) (fun _ _ _ h => h) (Or.inl ⟨by rfl, ?_⟩) ?_ ?_
                  rotate_left
                  ·
                   intro w'
                   go_simp
                   with_reducible rfl
                  rotate_left
                  ·
                   simp only [Act.put, List.setIfInBounds_toArray, List.set_cons_zero, List.set_cons_succ, i64_w, i32_w]
                   rfl
                  refine pure_ (i := 9) (N := some 86) (v := ?_) (a' := ?_) #[true, true, true, true, true, true, true, true, true, true, false, false, false, false, false, false, false, false, false, false, false, false, false, false, false, false, false, false, false, false, false, false, false, false, false] rfl rfl (any_of HT_.out (by kernel_rfl)) (fun _ _ _ h => h) (Or.inl ⟨by rfl, ?_⟩) ?_ ?_
                  rotate_left
                  ·
                   intro w'
                   go_simp
                   with_reducible rfl
                  rotate_left
                  ·
                   simp only [Act.put, List.setIfInBounds_toArray, List.set_cons_zero, List.set_cons_succ, i64_w, i32_w]
                   rfl
                  refine take_ (i := 10) (N := some 87) (v := ?_) (a' := ?_) #[true, true, true, true, true, true, true, true, true, true, true, false, false, false, false, false, false, false, false, false, false, false, false, false, false, false, false, false, false, false, false, false, false, false, false] rfl rfl (take_ofW HT_.out HW_.out (by kernel_rfl)) (fun _ _ _ h => h) (Or.inl ⟨by rfl, ?_⟩) hHeld ?_ ?_
                  rotate_left
                  ·
                   rintro w' ⟨s0, s1, s2⟩
                   go_simp
                   with_reducible rfl
                  rotate_left
                  ·
                   simp only [Act.put, List.setIfInBounds_toArray, List.set_cons_zero, List.set_cons_succ, i64_w, i32_w]
                   rfl
                  refine pure_ (i := 11) (N := some 88) (v := ?_) (a' := ?_) #[true, true, true, true, true, true, true, true, true, true, true, true, false, false, false, false, false, false, false, false, false, false, false, false, false, false, false, false, false, false, false, false, false, false, false] rfl rfl (any_of HT_.out (by kernel_rfl)) (fun _ _ _ h => h) (Or.inl ⟨by rfl, ?_⟩) ?_ ?_
                  rotate_left
                  ·
                   intro w'
                   go_simp
                   with_reducible rfl
                  rotate_left
                  ·
                   simp only [Act.put, List.setIfInBounds_toArray, List.set_cons_zero, List.set_cons_succ, i64_w, i32_w]
                   rfl
                  refine pure_ (i := 12) (N := some 89) (v := ?_) (a' := ?_) #[true, true, true, true, true, true, true, true, true, true, true, true, true, false, false, false, false, false, false, false, false, false, false, false, false, false, false, false, false, false, false, false, false, false, false] rfl rfl (any_of HT_.out (by kernel_rfl)) (fun _ _ _ h => h) (Or.inl ⟨by rfl, ?_⟩) ?_ ?_
                  rotate_left
                  ·
                   intro w'
                   go_simp
                   with_reducible rfl
                  rotate_left
                  ·
                   simp only [Act.put, List.setIfInBounds_toArray, List.set_cons_zero, List.set_cons_succ, i64_w, i32_w]
                   rfl
                  refine pure_ (i := 13) (N := some 90) (v := undef) (a' := ?_) #[true, true, true, true, true, true, true, true, true, true, true, true, true, true, false, false, false, false, false, false, false, false, false, false, false, false, false, false, false, false, false, false, false, false, false] rfl rfl (any_of HT_.out (by kernel_rfl)) (fun _ _ _ h => h) (Or.inr ⟨by rfl, rfl⟩) ?_ ?_
                  rotate_left
                  ·
                   simp only [Act.put, List.setIfInBounds_toArray, List.set_cons_zero, List.set_cons_succ, i64_w, i32_w]
                   rfl
                  refine pure_ (i := 14) (N := some 91) (v := undef) (a' := ?_) #[true, true, true, true, true, true, true, true, true, true, true, true, true, true, true, false, false, false, false, false, false, false, false, false, false, false, false, false, false, false, false, false, false, false, false] rfl rfl (any_of HT_.out (by kernel_rfl)) (fun _ _ _ h => h) (Or.inr ⟨by rfl, rfl⟩) ?_ ?_
                  rotate_left
                  ·
                   simp only [Act.put, List.setIfInBounds_toArray, List.set_cons_zero, List.set_cons_succ, i64_w, i32_w]
                   rfl
                  refine pure_ (i := 15) (N := some 92) (v := undef) (a' := ?_) #[true, true, true, true, true, true, true, true, true, true, true, true, true, true, true, true, false, false, false, false, false, false, false, false, false, false, false, false, false, false, false, false, false, false, false] rfl rfl (any_of HT_.out (by kernel_rfl)) (fun _ _ _ h => h) (Or.inr ⟨by rfl, rfl⟩) ?_ ?_
                  rotate_left
                  ·
                   simp only [Act.put, List.setIfInBounds_toArray, List.set_cons_zero, List.set_cons_succ, i64_w, i32_w]
                   rfl
                  refine pure_ (i := 16) (N := some 93) (v := undef) (a' := ?_) #[true, true, true, true, true, true, true, true, true, true, true, true, true, true, true, true, true, false, false, false, false, false, false, false, false, false, false, false, false, false, false, false, false, false, false] rfl rfl (any_of HT_.out (by kernel_rfl)) (fun _ _ _ h => h) (Or.inr ⟨by rfl, rfl⟩) ?_ ?_
                  rotate_left
                  ·
                   simp only [Act.put, List.setIfInBounds_toArray, List.set_cons_zero, List.set_cons_succ, i64_w, i32_w]
                   rfl
                  refine pure_ (i := 17) (N := some 94) (v := ?_) (a' := ?_) #[true, true, true, true, true, true, true, true, true, true, true, true, true, true, true, true, true, true, false, false, false, false, false, false, false, false, false, false, false, false, false, false, false, false, false] rfl rfl (any_of HT_.out (by kernel_rfl)) (fun _ _ _ h => h) (Or.inl ⟨by rfl, ?_⟩) ?_ ?_
                  rotate_left
                  ·
                   intro w'
                   go_simp
                   with_reducible rfl
                  rotate_left
                  ·
                   simp only [Act.put, List.setIfInBounds_toArray, List.set_cons_zero, List.set_cons_succ, i64_w, i32_w]
                   rfl
                  refine pure_ (i := 18) (N := some 95) (v := ?_) (a' := ?_) #[true, true, true, true, true, true, true, true, true, true, true, true, true, true, true, true, true, true, true, false, false, false, false, false, false, false, false, false, false, false, false, false, false, false, false] rfl rfl (any_of HT_.out (by kernel_rfl)) (fun _ _ _ h => h) (Or.inl ⟨by rfl, ?_⟩) ?_ ?_
                  rotate_left
                  ·
                   intro w'
                   go_simp
                   with_reducible rfl
                  rotate_left
                  ·
                   simp only [Act.put, List.setIfInBounds_toArray, List.set_cons_zero, List.set_cons_succ, i64_w, i32_w]
                   rfl
                  refine pure_ (i := 19) (N := some 96) (v := ?_) (a' := ?_) #[true, true, true, true, true, true, true, true, true, true, true, true, true, true, true, true, true, true, true, true, false, false, false, false, false, false, false, false, false, false, false, false, false, false, false] rfl rfl (any_of HT_.out (by kernel_rfl)) (fun _ _ _ h => h) (Or.inl ⟨by rfl, ?_⟩) ?_ ?_
                  rotate_left
                  ·
                   intro w'
                   go_simp
                   with_reducible rfl
                  rotate_left
                  ·
                   simp only [Act.put, List.setIfInBounds_toArray, List.set_cons_zero, List.set_cons_succ, i64_w, i32_w]
                   rfl
                  refine pure_ (i := 20) (N := some 97) (v := ?_) (a' := ?_) #[true, true, true, true, true, true, true, true, true, true, true, true, true, true, true, true, true, true, true, true, true, false, false, false, false, false, false, false, false, false, false, false, false, false, false] rfl rfl (any_of HT_.out (by kernel_rfl)) (fun _ _ _ h => h) (Or.inl ⟨by rfl, ?_⟩) ?_ ?_
                  rotate_left
                  ·
                   intro w'
                   go_simp
                   with_reducible rfl
                  rotate_left
                  ·
                   simp only [Act.put, List.setIfInBounds_toArray, List.set_cons_zero, List.set_cons_succ, i64_w, i32_w]
                   rfl
                  refine pure_ (i := 21) (N := some 98) (v := undef) (a' := ?_) #[true, true, true, true, true, true, true, true, true, true, true, true, true, true, true, true, true, true, true, true, true, true, false, false, false, false, false, false, false, false, false, false, false, false, false] rfl rfl (any_of HT_.out (by kernel_rfl)) (fun _ _ _ h => h) (Or.inr ⟨by rfl, rfl⟩) ?_ ?_
                  rotate_left
                  ·
                   simp only [Act.put, List.setIfInBounds_toArray, List.set_cons_zero, List.set_cons_succ, i64_w, i32_w]
                   rfl
                  refine pure_ (i := 22) (N := some 99) (v := undef) (a' := ?_) #[true, true, true, true, true, true, true, true, true, true, true, true, true, true, true, true, true, true, true, true, true, true, true, false, false, false, false, false, false, false, false, false, false, false, false] rfl rfl (any_of HT_.out (by kernel_rfl)) (fun _ _ _ h => h) (Or.inr ⟨by rfl, rfl⟩) ?_ ?_
                  rotate_left
                  ·
                   simp only [Act.put, List.setIfInBounds_toArray, List.set_cons_zero, List.set_cons_succ, i64_w, i32_w]
                   rfl
                  refine pure_ (i := 23) (N := some 100) (v := undef) (a' := ?_) #[true, true, true, true, true, true, true, true, true, true, true, true, true, true, true, true, true, true, true, true, true, true, true, true, false, false, false, false, false, false, false, false, false, false, false] rfl rfl (any_of HT_.out (by kernel_rfl)) (fun _ _ _ h => h) (Or.inr ⟨by rfl, rfl⟩) ?_ ?_
                  rotate_left
                  ·
                   simp only [Act.put, List.setIfInBounds_toArray, List.set_cons_zero, List.set_cons_succ, i64_w, i32_w]
                   rfl
                  refine pure_ (i := 24) (N := some 101) (v := undef) (a' := ?_) #[true, true, true, true, true, true, true, true, true, true, true, true, true, true, true, true, true, true, true, true, true, true, true, true, true, false, false, false, false, false, false, false, false, false, false] rfl rfl (any_of HT_.out (by kernel_rfl)) (fun _ _ _ h => h) (Or.inr ⟨by rfl, rfl⟩) ?_ ?_
                  rotate_left
                  ·
                   simp only [Act.put, List.setIfInBounds_toArray, List.set_cons_zero, List.set_cons_succ, i64_w, i32_w]
                   rfl
                  refine pure_ (i := 25) (N := some 102) (v := undef) (a' := ?_) #[true, true, true, true, true, true, true, true, true, true, true, true, true, true, true, true, true, true, true, true, true, true, true, true, true, true, false, false, false, false, false, false, false, false, false] rfl rfl (any_of HT_.out (by kernel_rfl)) (fun _ _ _ h => h) (Or.inr ⟨by rfl, rfl⟩) ?_ ?_
                  rotate_left
                  ·
                   simp only [Act.put, List.setIfInBounds_toArray, List.set_cons_zero, List.set_cons_succ, i64_w, i32_w]
                   rfl
                  refine pure_ (i := 26) (N := some 103) (v := undef) (a' := ?_) #[true, true, true, true, true, true, true, true, true, true, true, true, true, true, true, true, true, true, true, true, true, true, true, true, true, true, true, false, false, false, false, false, false, false, false] rfl rfl (any_of HT_.out (by kernel_rfl)) (fun _ _ _ h => h) (Or.inr ⟨by rfl, rfl⟩) ?_ ?_
                  rotate_left
                  ·
                   simp only [Act.put, List.setIfInBounds_toArray, List.set_cons_zero, List.set_cons_succ, i64_w, i32_w]
                   rfl
                  refine pure_ (i := 27) (N := some 104) (v := undef) (a' := ?_) #[true, true, true, true, true, true, true, true, true, true, true, true, true, true, true, true, true, true, true, true, true, true, true, true, true, true, true, true, false, false, false, false, false, false, false] rfl rfl (any_of HT_.out (by kernel_rfl)) (fun _ _ _ h => h) (Or.inr ⟨by rfl, rfl⟩) ?_ ?_
                  rotate_left
                  ·
                   simp only [Act.put, List.setIfInBounds_toArray, List.set_cons_zero, List.set_cons_succ, i64_w, i32_w]
                   rfl
                  refine pure_ (i := 28) (N := some 105) (v := undef) (a' := ?_) #[true, true, true, true, true, true, true, true, true, true, true, true, true, true, true, true, true, true, true, true, true, true, true, true, true, true, true, true, true, false, false, false, false, false, false] rfl rfl (any_of HT_.out (by kernel_rfl)) (fun _ _ _ h => h) (Or.inr ⟨by rfl, rfl⟩) ?_ ?_
                  rotate_left
                  ·
                   simp only [Act.put, List.setIfInBounds_toArray, List.set_cons_zero, List.set_cons_succ, i64_w, i32_w]
                   rfl
                  refine pure_ (i := 29) (N := some 106) (v := undef) (a' := ?_) #[true, true, true, true, true, true, true, true, true, true, true, true, true, true, true, true, true, true, true, true, true, true, true, true, true, true, true, true, true, true, false, false, false, false, false] rfl rfl (any_of HT_.out (by kernel_rfl)) (fun _ _ _ h => h) (Or.inr ⟨by rfl, rfl⟩) ?_ ?_
                  rotate_left
                  ·
                   simp only [Act.put, List.setIfInBounds_toArray, List.set_cons_zero, List.set_cons_succ, i64_w, i32_w]
                   rfl
                  refine pure_ (i := 30) (N := some 107) (v := undef) (a' := ?_) #[true, true, true, true, true, true, true, true, true, true, true, true, true, true, true, true, true, true, true, true, true, true, true, true, true, true, true, true, true, true, true, false, false, false, false] rfl rfl (any_of HT_.out (by kernel_rfl)) (fun _ _ _ h => h) (Or.inr ⟨by rfl, rfl⟩) ?_ ?_
                  rotate_left
                  ·
                   simp only [Act.put, List.setIfInBounds_toArray, List.set_cons_zero, List.set_cons_succ, i64_w, i32_w]
                   rfl
                  refine pure_ (i := 31) (N := some 108) (v := undef) (a' := ?_) #[true, true, true, true, true, true, true, true, true, true, true, true, true, true, true, true, true, true, true, true, true, true, true, true, true, true, true, true, true, true, true, true, false, false, false] rfl rfl (any_of HT_.out (by kernel_rfl)) (fun _ _ _ h => h) (Or.inr ⟨by rfl, rfl⟩) ?_ ?_
                  rotate_left
                  ·
                   simp only [Act.put, List.setIfInBounds_toArray, List.set_cons_zero, List.set_cons_succ, i64_w, i32_w]
                   rfl
                  refine pure_ (i := 32) (N := some 109) (v := undef) (a' := ?_) #[true, true, true, true, true, true, true, true, true, true, true, true, true, true, true, true, true, true, true, true, true, true, true, true, true, true, true, true, true, true, true, true, true, false, false] rfl rfl (any_of HT_.out (by kernel_rfl)) (fun _ _ _ h => h) (Or.inr ⟨by rfl, rfl⟩) ?_ ?_
                  rotate_left
                  ·
                   simp only [Act.put, List.setIfInBounds_toArray, List.set_cons_zero, List.set_cons_succ, i64_w, i32_w]
                   rfl
                  refine pure_ (i := 33) (N := some 110) (v := undef) (a' := ?_) #[true, true, true, true, true, true, true, true, true, true, true, true, true, true, true, true, true, true, true, true, true, true, true, true, true, true, true, true, true, true, true, true, true, true, false] rfl rfl (any_of HT_.out (by kernel_rfl)) (fun _ _ _ h => h) (Or.inr ⟨by rfl, rfl⟩) ?_ ?_
                  rotate_left
                  ·
                   simp only [Act.put, List.setIfInBounds_toArray, List.set_cons_zero, List.set_cons_succ, i64_w, i32_w]
                   rfl
                  refine pure_ (i := 34) (N := some 111) (v := ?_) (a' := ?_) #[true, true, true, true, true, true, true, true, true, true, true, true, true, true, true, true, true, true, true, true, true, true, true, true, true, true, true, true, true, true, true, true, true, true, true] rfl rfl (any_of HT_.out (by kernel_rfl)) (fun _ _ _ h => h) (Or.inl ⟨by rfl, ?_⟩) ?_ ?_
                  rotate_left
                  ·
                   intro w'
                   go_simp
                   with_reducible rfl
                  rotate_left
                  ·
                   simp only [Act.put, List.setIfInBounds_toArray, List.set_cons_zero, List.set_cons_succ, i64_w, i32_w]
                   rfl
                  refine done_ (done_of HT_.out (by kernel_rfl)) ?_
                  try go_wp2
                  go_meet
                  case rel => exact ⟨_, (true), (t291), (by first | rfl | (simp; done) | (simp [*]; done)), H', ⟨by have := HJ4.out; have := HK2.out; have := HJ17.out; first | omega | exact Nat.le_refl _⟩, ⟨by (with_reducible repeat (first | refine blk_drewN ?_ _ | refine blk_drew ?_ | refine blk_alloc ?_ _)); exact BK277.out⟩, ⟨by repeat (first | (with_reducible first | exact HI275.out | apply IsS57.alloc | apply IsS57.drewN | apply IsS57.drew | refine IsS57.farT ?_ (by repeat (first | exact TyOf.mk BK277.out | apply TyOf.alloc | apply TyOf.drewN | apply TyOf.drew | apply TyOf.set)) (by decide) _) | exact HI275.out)⟩, ⟨by repeat (first | (with_reducible first | exact HB.out | apply below_alloc | apply pw_below_drewN | apply below_drew1 | refine below_set ?_ (IsS57.ge HI275.out) | refine below_set ?_ GE277.out) | exact HB.out)⟩⟩
               ·
                as_aux_lemma =>
                 replace c46 := Bool.eq_false_iff.mpr c46
                 subst c46
                 have H1 : ((table_Table_Most.f t291).bind fun bt294 => (nunciolaw11_TableHolds.j3 kj17 l1 x6_2 t278 t279 t280 t282 (false != (decide ((wrap64 ((((rd_T34 l1 x6_2).f0).size : Int) + (((rd_T34 l1 x6_2).f1).size : Int))) ≤ (wrap64 (bt294.1 - 32))))) bt294.2)) = some r := by rw [if_neg (show ¬ (false = true) by decide)] at H; exact H
                 clear H
                 have H := H1
                 clear H1
                 replace H := Option.bind_eq_some_iff.mp H
                 obtain ⟨⟨t294, t295⟩, A570, H⟩ := H
                 replace H : (nunciolaw11_TableHolds.j3 kj17 l1 x6_2 t278 t279 t280 t282 (false != (decide ((wrap64 ((((rd_T34 l1 x6_2).f0).size : Int) + (((rd_T34 l1 x6_2).f1).size : Int))) ≤ (wrap64 (t294 - 32))))) t295) = some r := H
                 have A57 := Aside0.mk A570
                 clear A570
                 have H' := Aside0.mk H
                 clear H
                 try go_wp2
                 have n0_ := Aside0.mk (blk_drew BK277.out)
                 have n1_ := Aside0.mk (IsS57.drew HI275.out)
                 have n2_ := Aside0.mk (below_drew1 HB.out)
                 clear BK277
                 clear HI275
                 clear HB
                 have BK277 := n0_
                 have HI275 := n1_
                 have HB := n2_
                 clear n0_ n1_ n2_
                 refine start_ (n := 35) (S := fun w' => w'.cell? ⟨gb277, 0, none⟩ = some (.string ((rd_T34 l1 x6_2).f0)) ∧ w'.cell? ⟨gb277, 1, none⟩ = some (.string ((rd_T34 l1 x6_2).f1)) ∧ w'.cell? ⟨gb277, 2, none⟩ = some (.int .i64 ((rd_T34 l1 x6_2).f2))) (ds := []) #[false, false, false, false, false, false, false, false, false, false, false, false, false, false, false, false, false, false, false, false, false, false, false, false, false, false, false, false, false, false, false, false, false, false, false] (by kernel_rfl) rfl rfl ⟨(blk_cell BK277.out 0).trans rfl, (blk_cell BK277.out 1).trans rfl, (blk_cell BK277.out 2).trans rfl⟩ (fun hHeld => ?_); refine with_tabW nunciolaw11_TableHolds.tab16 nunciolaw11_TableHolds.bits16 (fun HT_ HW_ => ?_)
                 generalize w41.drew = w58 at BK277 HI275 HB hHeld ⊢
                 refine pure_ (i := 0) (N := some 77) (v := ?_) (a' := ?_) #[true, false, false, false, false, false, false, false, false, false, false, false, false, false, false, false, false, false, false, false, false, false, false, false, false, false, false, false, false, false, false, false, false, false, false] rfl rfl (any_of HT_.out (by kernel_rfl)) (fun _ _ _ h => h) (Or.inl ⟨by rfl, ?_⟩) ?_ ?_
                 rotate_left
                 ·
                  intro w'
                  go_simp
                  with_reducible rfl
                 rotate_left
                 ·
                  simp only [Act.put, List.setIfInBounds_toArray, List.set_cons_zero, List.set_cons_succ, i64_w, i32_w]
                  rfl
                 refine pure_ (i := 1) (N := some 78) (v := ?_) (a' := ?_) #[true, true, false, false, false, false, false, false, false, false, false, false, false, false, false, false, false, false, false, false, false, false, false, false, false, false, false, false, false, false, false, false, false, false, false] rfl rfl (any_of HT_.out (by kernel_rfl)) (fun _ _ _ h => h) (Or.inl ⟨by rfl, ?_⟩) ?_ ?_
                 rotate_left
                 ·
                  intro w'
                  go_simp
                  with_reducible rfl
                 rotate_left
                 ·
                  simp only [Act.put, List.setIfInBounds_toArray, List.set_cons_zero, List.set_cons_succ, i64_w, i32_w]
                  rfl
                 refine one_ (i := 2) (N := some 79) #[true, true, true, false, false, false, false, false, false, false, false, false, false, false, false, false, false, false, false, false, false, false, false, false, false, false, false, false, false, false, false, false, false, false, false] rfl rfl (one_of HT_.out (by kernel_rfl)) (by decide) (fun K hK => ?_)
                 refine goes_ Tryd.func19 (by kernel_rfl) rfl #[.pointer (some ⟨g275, 0, none⟩)] (by rfl) rfl rfl (by (try simp only [List.map_toArray, List.map_cons, List.map_nil]); first | done | rfl | (simp only [List.length_drop, List.length_take]; rfl)) ?_
                 with_reducible refine (table_Table_Len.calls g275 t289 t290 t291 w _ ?side1 ?side2 A42.out).mono ?_
                 (case side1 => repeat (first | (with_reducible first | exact HI275.out | apply IsS57.alloc | apply IsS57.drewN | apply IsS57.drew | refine IsS57.farT ?_ (by repeat (first | exact TyOf.mk BK277.out | apply TyOf.alloc | apply TyOf.drewN | apply TyOf.drew | apply TyOf.set)) (by decide) _) | exact HI275.out))
                 (case side2 => repeat (first | (with_reducible first | exact HB.out | apply below_alloc | apply pw_below_drewN | apply below_drew1 | refine below_set ?_ (IsS57.ge HI275.out) | refine below_set ?_ GE277.out) | exact HB.out))
                 rintro e w59 ⟨rfl, hi, hb, hk⟩
                 refine ⟨_, rfl, ?_⟩
                 have n0_ := Aside0.mk (KeepBut.blk hk (g' := gb277) (o := .cells #[.string ((rd_T34 l1 x6_2).f0), .string ((rd_T34 l1 x6_2).f1), .int .i64 ((rd_T34 l1 x6_2).f2)] 34 (0, 0)) (by (with_reducible repeat (first | refine blk_drewN ?_ _ | refine blk_drew ?_ | refine blk_alloc ?_ _)); exact BK277.out) NB277_275.out (by simp))
                 have n1_ := Aside0.mk (hb)
                 have n2_ := Aside0.mk (hi)
                 clear BK277
                 clear HB
                 clear HI275
                 have BK277 := n0_
                 have HB := n1_
                 have HI275 := n2_
                 clear n0_ n1_ n2_
                 (try clear hb)
                 (try clear hb2)
                 (try clear hk)
                 (try clear hi)
                 refine hK.out _ _ ⟨(blk_cell BK277.out 0).trans rfl, (blk_cell BK277.out 1).trans rfl, (blk_cell BK277.out 2).trans rfl⟩ (fun hHeld => ?_)
                 clear hK K
                 refine norm_ (a' := ?_) ?_ ?_
                 rotate_left
                 ·
                  show Act.put _ (some 79) _ = _
                  simp only [Act.put, List.setIfInBounds_toArray, List.set_cons_zero, List.set_cons_succ, i64_w, i32_w]
                  rfl
                 refine pure_ (i := 3) (N := some 80) (v := ?_) (a' := ?_) #[true, true, true, true, false, false, false, false, false, false, false, false, false, false, false, false, false, false, false, false, false, false, false, false, false, false, false, false, false, false, false, false, false, false, false] rfl rfl (any_of HT_.out (by kernel_rfl)) (fun _ _ _ h => h) (Or.inl ⟨by rfl, ?_⟩) ?_ ?_
                 rotate_left
                 ·
                  intro w'
                  go_simp
                  with_reducible rfl
                 rotate_left
                 ·
                  simp only [Act.put, List.setIfInBounds_toArray, List.set_cons_zero, List.set_cons_succ, i64_w, i32_w]
                  rfl
                 refine pure_ (i := 4) (N := some 81) (v := ?_) (a' := ?_) #[true, true, true, true, true, false, false, false, false, false, false, false, false, false, false, false, false, false, false, false, false, false, false, false, false, false, false, false, false, false, false, false, false, false, false] rfl rfl (any_of HT_.out (by kernel_rfl)) (fun _ _ _ h => h) (Or.inl ⟨by rfl, ?_⟩) ?_ ?_
                 rotate_left
                 ·
                  intro w'
                  go_simp
                  with_reducible rfl
                 rotate_left
                 ·
                  simp only [Act.put, List.setIfInBounds_toArray, List.set_cons_zero, List.set_cons_succ, i64_w, i32_w]
                  rfl
                 refine pure_ (i := 5) (N := some 82) (v := ?_) (a' := ?_) #[true, true, true, true, true, true, false, false, false, false, false, false, false, false, false, false, false, false, false, false, false, false, false, false, false, false, false, false, false, false, false, false, false, false, false] rfl rfl (any_of HT_.out (by kernel_rfl)) (fun _ _ _ h => h) (Or.inl ⟨by rfl, ?_⟩) ?_ ?_
                 rotate_left
                 ·
                  intro w'
                  go_simp
                  with_reducible rfl
                 rotate_left
                 ·
                  simp only [Act.put, List.setIfInBounds_toArray, List.set_cons_zero, List.set_cons_succ, i64_w, i32_w]
                  rfl
                 refine pure_ (i := 6) (N := some 83) (v := ?_) (a' := ?_) #[true, true, true, true, true, true, true, false, false, false, false, false, false, false, false, false, false, false, false, false, false, false, false, false, false, false, false, false, false, false, false, false, false, false, false] rfl rfl (any_of HT_.out (by kernel_rfl)) (fun _ _ _ h => h) (Or.inl ⟨by rfl, ?_⟩) ?_ ?_
                 rotate_left
                 ·
                  intro w'
                  go_simp
                  with_reducible rfl
                 rotate_left
                 ·
                  simp only [Act.put, List.setIfInBounds_toArray, List.set_cons_zero, List.set_cons_succ, i64_w, i32_w]
                  rfl
                 refine pure_ (i := 7) (N := some 84) (v := ?_) (a' := ?_) #[true, true, true, true, true, true, true, true, false, false, false, false, false, false, false, false, false, false, false, false, false, false, false, false, false, false, false, false, false, false, false, false, false, false, false] rfl rfl (any_of HT_.out (by kernel_rfl)) (fun _ _ _ h => h) (Or.inl ⟨by rfl, ?_⟩) ?_ ?_
                 rotate_left
                 ·
                  intro w'
                  go_simp
                  with_reducible rfl
                 rotate_left
                 ·
                  simp only [Act.put, List.setIfInBounds_toArray, List.set_cons_zero, List.set_cons_succ, i64_w, i32_w]
                  rfl
                 refine pure_ (i := 8) (N := some 85) (v := undef) (a' := ?_) #[true, true, true, true, true, true, true, true, true, false, false, false, false, false, false, false, false, false, false, false, false, false, false, false, false, false, false, false, false, false, false, false, false, false, false] rfl rfl (any_of HT_.out (by kernel_rfl)) (fun _ _ _ h => h) (Or.inr ⟨by rfl, rfl⟩) ?_ ?_
                 rotate_left
                 ·
                  simp only [Act.put, List.setIfInBounds_toArray, List.set_cons_zero, List.set_cons_succ, i64_w, i32_w]
                  rfl
                 refine pure_ (i := 9) (N := some 86) (v := undef) (a' := ?_) #[true, true, true, true, true, true, true, true, true, true, false, false, false, false, false, false, false, false, false, false, false, false, false, false, false, false, false, false, false, false, false, false, false, false, false] rfl rfl (any_of HT_.out (by kernel_rfl)) (fun _ _ _ h => h) (Or.inr ⟨by rfl, rfl⟩) ?_ ?_
                 rotate_left
                 ·
                  simp only [Act.put, List.setIfInBounds_toArray, List.set_cons_zero, List.set_cons_succ, i64_w, i32_w]
                  rfl
                 refine pure_ (i := 10) (N := some 87) (v := undef) (a' := ?_) #[true, true, true, true, true, true, true, true, true, true, true, false, false, false, false, false, false, false, false, false, false, false, false, false, false, false, false, false, false, false, false, false, false, false, false] rfl rfl (any_of HT_.out (by kernel_rfl)) (fun _ _ _ h => h) (Or.inr ⟨by rfl, rfl⟩) ?_ ?_
                 rotate_left
                 ·
                  simp only [Act.put, List.setIfInBounds_toArray, List.set_cons_zero, List.set_cons_succ, i64_w, i32_w]
                  rfl
                 refine pure_ (i := 11) (N := some 88) (v := undef) (a' := ?_) #[true, true, true, true, true, true, true, true, true, true, true, true, false, false, false, false, false, false, false, false, false, false, false, false, false, false, false, false, false, false, false, false, false, false, false] rfl rfl (any_of HT_.out (by kernel_rfl)) (fun _ _ _ h => h) (Or.inr ⟨by rfl, rfl⟩) ?_ ?_
                 rotate_left
                 ·
                  simp only [Act.put, List.setIfInBounds_toArray, List.set_cons_zero, List.set_cons_succ, i64_w, i32_w]
                  rfl
                 refine pure_ (i := 12) (N := some 89) (v := undef) (a' := ?_) #[true, true, true, true, true, true, true, true, true, true, true, true, true, false, false, false, false, false, false, false, false, false, false, false, false, false, false, false, false, false, false, false, false, false, false] rfl rfl (any_of HT_.out (by kernel_rfl)) (fun _ _ _ h => h) (Or.inr ⟨by rfl, rfl⟩) ?_ ?_
                 rotate_left
                 ·
                  simp only [Act.put, List.setIfInBounds_toArray, List.set_cons_zero, List.set_cons_succ, i64_w, i32_w]
                  rfl
                 refine pure_ (i := 13) (N := some 90) (v := undef) (a' := ?_) #[true, true, true, true, true, true, true, true, true, true, true, true, true, true, false, false, false, false, false, false, false, false, false, false, false, false, false, false, false, false, false, false, false, false, false] rfl rfl (any_of HT_.out (by kernel_rfl)) (fun _ _ _ h => h) (Or.inr ⟨by rfl, rfl⟩) ?_ ?_
                 rotate_left
                 ·
                  simp only [Act.put, List.setIfInBounds_toArray, List.set_cons_zero, List.set_cons_succ, i64_w, i32_w]
                  rfl
                 refine pure_ (i := 14) (N := some 91) (v := undef) (a' := ?_) #[true, true, true, true, true, true, true, true, true, true, true, true, true, true, true, false, false, false, false, false, false, false, false, false, false, false, false, false, false, false, false, false, false, false, false] rfl rfl (any_of HT_.out (by kernel_rfl)) (fun _ _ _ h => h) (Or.inr ⟨by rfl, rfl⟩) ?_ ?_
                 rotate_left
                 ·
                  simp only [Act.put, List.setIfInBounds_toArray, List.set_cons_zero, List.set_cons_succ, i64_w, i32_w]
                  rfl
                 refine pure_ (i := 15) (N := some 92) (v := undef) (a' := ?_) #[true, true, true, true, true, true, true, true, true, true, true, true, true, true, true, true, false, false, false, false, false, false, false, false, false, false, false, false, false, false, false, false, false, false, false] rfl rfl (any_of HT_.out (by kernel_rfl)) (fun _ _ _ h => h) (Or.inr ⟨by rfl, rfl⟩) ?_ ?_
                 rotate_left
                 ·
                  simp only [Act.put, List.setIfInBounds_toArray, List.set_cons_zero, List.set_cons_succ, i64_w, i32_w]
                  rfl
                 refine pure_ (i := 16) (N := some 93) (v := undef) (a' := ?_) #[true, true, true, true, true, true, true, true, true, true, true, true, true, true, true, true, true, false, false, false, false, false, false, false, false, false, false, false, false, false, false, false, false, false, false] rfl rfl (any_of HT_.out (by kernel_rfl)) (fun _ _ _ h => h) (Or.inr ⟨by rfl, rfl⟩) ?_ ?_
                 rotate_left
                 ·
                  simp only [Act.put, List.setIfInBounds_toArray, List.set_cons_zero, List.set_cons_succ, i64_w, i32_w]
                  rfl
                 refine pure_ (i := 17) (N := some 94) (v := undef) (a' := ?_) #[true, true, true, true, true, true, true, true, true, true, true, true, true, true, true, true, true, true, false, false, false, false, false, false, false, false, false, false, false, false, false, false, false, false, false] rfl rfl (any_of HT_.out (by kernel_rfl)) (fun _ _ _ h => h) (Or.inr ⟨by rfl, rfl⟩) ?_ ?_
                 rotate_left
                 ·
                  simp only [Act.put, List.setIfInBounds_toArray, List.set_cons_zero, List.set_cons_succ, i64_w, i32_w]
                  rfl
                 refine pure_ (i := 18) (N := some 95) (v := ?_) (a' := ?_) #[true, true, true, true, true, true, true, true, true, true, true, true, true, true, true, true, true, true, true, false, false, false, false, false, false, false, false, false, false, false, false, false, false, false, false] rfl rfl (any_of HT_.out (by kernel_rfl)) (fun _ _ _ h => h) (Or.inl ⟨by rfl, ?_⟩) ?_ ?_
                 rotate_left
                 ·
                  intro w'
                  go_simp
                  with_reducible rfl
                 rotate_left
                 ·
                  simp only [Act.put, List.setIfInBounds_toArray, List.set_cons_zero, List.set_cons_succ, i64_w, i32_w]
                  rfl
                 refine pure_ (i := 19) (N := some 96) (v := ?_) (a' := ?_) #[true, true, true, true, true, true, true, true, true, true, true, true, true, true, true, true, true, true, true, true, false, false, false, false, false, false, false, false, false, false, false, false, false, false, false] rfl rfl (any_of HT_.out (by kernel_rfl)) (fun _ _ _ h => h) (Or.inl ⟨by rfl, ?_⟩) ?_ ?_
                 rotate_left
                 ·
                  intro w'
                  go_simp
                  with_reducible rfl
                 rotate_left
                 ·
                  simp only [Act.put, List.setIfInBounds_toArray, List.set_cons_zero, List.set_cons_succ, i64_w, i32_w]
                  rfl
                 refine pure_ (i := 20) (N := some 97) (v := ?_) (a' := ?_) #[true, true, true, true, true, true, true, true, true, true, true, true, true, true, true, true, true, true, true, true, true, false, false, false, false, false, false, false, false, false, false, false, false, false, false] rfl rfl (any_of HT_.out (by kernel_rfl)) (fun _ _ _ h => h) (Or.inl ⟨by rfl, ?_⟩) ?_ ?_
                 rotate_left
                 ·
                  intro w'
                  go_simp
                  with_reducible rfl
                 rotate_left
                 ·
                  simp only [Act.put, List.setIfInBounds_toArray, List.set_cons_zero, List.set_cons_succ, i64_w, i32_w]
                  rfl
                 refine pure_ (i := 21) (N := some 98) (v := ?_) (a' := ?_) #[true, true, true, true, true, true, true, true, true, true, true, true, true, true, true, true, true, true, true, true, true, true, false, false, false, false, false, false, false, false, false, false, false, false, false] rfl rfl (any_of HT_.out (by kernel_rfl)) (fun _ _ _ h => h) (Or.inl ⟨by rfl, ?_⟩) ?_ ?_
                 rotate_left
                 ·
                  intro w'
                  go_simp
                  with_reducible rfl
                 rotate_left
                 ·
                  simp only [Act.put, List.setIfInBounds_toArray, List.set_cons_zero, List.set_cons_succ, i64_w, i32_w]
                  rfl
                 refine pure_ (i := 22) (N := some 99) (v := ?_) (a' := ?_) #[true, true, true, true, true, true, true, true, true, true, true, true, true, true, true, true, true, true, true, true, true, true, true, false, false, false, false, false, false, false, false, false, false, false, false] rfl rfl (any_of HT_.out (by kernel_rfl)) (fun _ _ _ h => h) (Or.inl ⟨by rfl, ?_⟩) ?_ ?_
                 rotate_left
                 ·
                  intro w'
                  go_simp
                  with_reducible rfl
                 rotate_left
                 ·
                  simp only [Act.put, List.setIfInBounds_toArray, List.set_cons_zero, List.set_cons_succ, i64_w, i32_w]
                  rfl
                 refine pure_ (i := 25) (N := some 102) (v := ?_) (a' := ?_) #[true, true, true, true, true, true, true, true, true, true, true, true, true, true, true, true, true, true, true, true, true, true, true, false, false, true, false, false, false, false, false, false, false, false, false] rfl rfl (any_of HT_.out (by kernel_rfl)) (fun _ _ _ h => h) (Or.inl ⟨by rfl, ?_⟩) ?_ ?_
                 rotate_left
                 ·
                  intro w'
                  go_simp
                  with_reducible rfl
                 rotate_left
                 ·
                  simp only [Act.put, List.setIfInBounds_toArray, List.set_cons_zero, List.set_cons_succ, i64_w, i32_w]
                  rfl
                 refine pure_ (i := 29) (N := some 106) (v := ?_) (a' := ?_) #[true, true, true, true, true, true, true, true, true, true, true, true, true, true, true, true, true, true, true, true, true, true, true, false, false, true, false, false, false, true, false, false, false, false, false] rfl rfl (any_of HT_.out (by kernel_rfl)) (fun _ _ _ h => h) (Or.inl ⟨by rfl, ?_⟩) ?_ ?_
                 rotate_left
                 ·
                  intro w'
                  go_simp
                  with_reducible rfl
                 rotate_left
                 ·
                  simp only [Act.put, List.setIfInBounds_toArray, List.set_cons_zero, List.set_cons_succ, i64_w, i32_w]
                  rfl
                 refine take_ (i := 23) (N := some 100) (v := ?_) (a' := ?_) #[true, true, true, true, true, true, true, true, true, true, true, true, true, true, true, true, true, true, true, true, true, true, true, true, false, true, false, false, false, true, false, false, false, false, false] rfl rfl (take_ofW HT_.out HW_.out (by kernel_rfl)) (fun _ _ _ h => h) (Or.inl ⟨by rfl, ?_⟩) hHeld ?_ ?_
                 rotate_left
                 ·
                  rintro w' ⟨s0, s1, s2⟩
                  go_simp
                  with_reducible rfl
                 rotate_left
                 ·
                  simp only [Act.put, List.setIfInBounds_toArray, List.set_cons_zero, List.set_cons_succ, i64_w, i32_w]
                  rfl
                 refine pure_ (i := 24) (N := some 101) (v := ?_) (a' := ?_) #[true, true, true, true, true, true, true, true, true, true, true, true, true, true, true, true, true, true, true, true, true, true, true, true, true, true, false, false, false, true, false, false, false, false, false] rfl rfl (any_of HT_.out (by kernel_rfl)) (fun _ _ _ h => h) (Or.inl ⟨by rfl, ?_⟩) ?_ ?_
                 rotate_left
                 ·
                  intro w'
                  go_simp
                  with_reducible rfl
                 rotate_left
                 ·
                  simp only [Act.put, List.setIfInBounds_toArray, List.set_cons_zero, List.set_cons_succ, i64_w, i32_w]
                  rfl
                 refine take_ (i := 26) (N := some 103) (v := ?_) (a' := ?_) #[true, true, true, true, true, true, true, true, true, true, true, true, true, true, true, true, true, true, true, true, true, true, true, true, true, true, true, false, false, true, false, false, false, false, false] rfl rfl (take_ofW HT_.out HW_.out (by kernel_rfl)) (fun _ _ _ h => h) (Or.inl ⟨by rfl, ?_⟩) hHeld ?_ ?_
                 rotate_left
                 ·
                  rintro w' ⟨s0, s1, s2⟩
                  go_simp
                  with_reducible rfl
                 rotate_left
                 ·
                  simp only [Act.put, List.setIfInBounds_toArray, List.set_cons_zero, List.set_cons_succ, i64_w, i32_w]
                  rfl
                 refine pure_ (i := 27) (N := some 104) (v := ?_) (a' := ?_) #[true, true, true, true, true, true, true, true, true, true, true, true, true, true, true, true, true, true, true, true, true, true, true, true, true, true, true, true, false, true, false, false, false, false, false] rfl rfl (any_of HT_.out (by kernel_rfl)) (fun _ _ _ h => h) (Or.inl ⟨by rfl, ?_⟩) ?_ ?_
                 rotate_left
                 ·
                  intro w'
                  go_simp
                  with_reducible rfl
                 rotate_left
                 ·
                  simp only [Act.put, List.setIfInBounds_toArray, List.set_cons_zero, List.set_cons_succ, i64_w, i32_w]
                  rfl
                 refine pure_ (i := 28) (N := some 105) (v := ?_) (a' := ?_) #[true, true, true, true, true, true, true, true, true, true, true, true, true, true, true, true, true, true, true, true, true, true, true, true, true, true, true, true, true, true, false, false, false, false, false] rfl rfl (any_of HT_.out (by kernel_rfl)) (fun _ _ _ h => h) (Or.inl ⟨by rfl, ?_⟩) ?_ ?_
                 rotate_left
                 ·
                  intro w'
                  go_simp
                  with_reducible rfl
                 rotate_left
                 ·
                  simp only [Act.put, List.setIfInBounds_toArray, List.set_cons_zero, List.set_cons_succ, i64_w, i32_w]
                  rfl
                 refine one_ (i := 30) (N := some 107) #[true, true, true, true, true, true, true, true, true, true, true, true, true, true, true, true, true, true, true, true, true, true, true, true, true, true, true, true, true, true, true, false, false, false, false] rfl rfl (one_of HT_.out (by kernel_rfl)) (by decide) (fun K hK => ?_)
                 refine goes_ Tryd.func22 (by kernel_rfl) rfl #[.pointer (some ⟨g275, 0, none⟩)] (by rfl) rfl rfl (by (try simp only [List.map_toArray, List.map_cons, List.map_nil]); first | done | rfl | (simp only [List.length_drop, List.length_take]; rfl)) ?_
                 with_reducible refine (table_Table_Most.calls g275 t291 t294 t295 w _ ?side1 ?side2 A57.out).mono ?_
                 (case side1 => repeat (first | (with_reducible first | exact HI275.out | apply IsS57.alloc | apply IsS57.drewN | apply IsS57.drew | refine IsS57.farT ?_ (by repeat (first | exact TyOf.mk BK277.out | apply TyOf.alloc | apply TyOf.drewN | apply TyOf.drew | apply TyOf.set)) (by decide) _) | exact HI275.out))
                 (case side2 => repeat (first | (with_reducible first | exact HB.out | apply below_alloc | apply pw_below_drewN | apply below_drew1 | refine below_set ?_ (IsS57.ge HI275.out) | refine below_set ?_ GE277.out) | exact HB.out))
                 rintro e w60 ⟨rfl, hi, hb, hk⟩
                 refine ⟨_, rfl, ?_⟩
                 have n0_ := Aside0.mk (KeepBut.blk hk (g' := gb277) (o := .cells #[.string ((rd_T34 l1 x6_2).f0), .string ((rd_T34 l1 x6_2).f1), .int .i64 ((rd_T34 l1 x6_2).f2)] 34 (0, 0)) (by (with_reducible repeat (first | refine blk_drewN ?_ _ | refine blk_drew ?_ | refine blk_alloc ?_ _)); exact BK277.out) NB277_275.out (by simp))
                 have n1_ := Aside0.mk (hb)
                 have n2_ := Aside0.mk (hi)
                 clear BK277
                 clear HB
                 clear HI275
                 have BK277 := n0_
                 have HB := n1_
                 have HI275 := n2_
                 clear n0_ n1_ n2_
                 (try clear hb)
                 (try clear hb2)
                 (try clear hk)
                 (try clear hi)
                 refine hK.out _ _ ⟨(blk_cell BK277.out 0).trans rfl, (blk_cell BK277.out 1).trans rfl, (blk_cell BK277.out 2).trans rfl⟩ (fun hHeld => ?_)
                 clear hK K
                 refine norm_ (a' := ?_) ?_ ?_
                 rotate_left
                 ·
                  show Act.put _ (some 107) _ = _
                  simp only [Act.put, List.setIfInBounds_toArray, List.set_cons_zero, List.set_cons_succ, i64_w, i32_w]
                  rfl
                 refine pure_ (i := 31) (N := some 108) (v := ?_) (a' := ?_) #[true, true, true, true, true, true, true, true, true, true, true, true, true, true, true, true, true, true, true, true, true, true, true, true, true, true, true, true, true, true, true, true, false, false, false] rfl rfl (any_of HT_.out (by kernel_rfl)) (fun _ _ _ h => h) (Or.inl ⟨by rfl, ?_⟩) ?_ ?_
                 rotate_left
                 ·
                  intro w'
                  go_simp
                  with_reducible rfl
                 rotate_left
                 ·
                  simp only [Act.put, List.setIfInBounds_toArray, List.set_cons_zero, List.set_cons_succ, i64_w, i32_w]
                  rfl
                 refine pure_ (i := 32) (N := some 109) (v := ?_) (a' := ?_) #[true, true, true, true, true, true, true, true, true, true, true, true, true, true, true, true, true, true, true, true, true, true, true, true, true, true, true, true, true, true, true, true, true, false, false] rfl rfl (any_of HT_.out (by kernel_rfl)) (fun _ _ _ h => h) (Or.inl ⟨by rfl, ?_⟩) ?_ ?_
                 rotate_left
                 ·
                  intro w'
                  go_simp
                  with_reducible rfl
                 rotate_left
                 ·
                  simp only [Act.put, List.setIfInBounds_toArray, List.set_cons_zero, List.set_cons_succ, i64_w, i32_w]
                  rfl
                 refine pure_ (i := 33) (N := some 110) (v := ?_) (a' := ?_) #[true, true, true, true, true, true, true, true, true, true, true, true, true, true, true, true, true, true, true, true, true, true, true, true, true, true, true, true, true, true, true, true, true, true, false] rfl rfl (any_of HT_.out (by kernel_rfl)) (fun _ _ _ h => h) (Or.inl ⟨by rfl, ?_⟩) ?_ ?_
                 rotate_left
                 ·
                  intro w'
                  go_simp
                  with_reducible rfl
                 rotate_left
                 ·
                  simp only [Act.put, List.setIfInBounds_toArray, List.set_cons_zero, List.set_cons_succ, i64_w, i32_w]
                  rfl
                 refine pure_ (i := 34) (N := some 111) (v := ?_) (a' := ?_) #[true, true, true, true, true, true, true, true, true, true, true, true, true, true, true, true, true, true, true, true, true, true, true, true, true, true, true, true, true, true, true, true, true, true, true] rfl rfl (any_of HT_.out (by kernel_rfl)) (fun _ _ _ h => h) (Or.inl ⟨by rfl, ?_⟩) ?_ ?_
                 rotate_left
                 ·
                  intro w'
                  go_simp
                  with_reducible rfl
                 rotate_left
                 ·
                  simp only [Act.put, List.setIfInBounds_toArray, List.set_cons_zero, List.set_cons_succ, i64_w, i32_w]
                  rfl
                 refine done_ (done_of HT_.out (by kernel_rfl)) ?_
                 try go_wp2
                 go_meet
                 case rel => exact ⟨_, ((false != (decide ((wrap64 ((((rd_T34 l1 x6_2).f0).size : Int) + (((rd_T34 l1 x6_2).f1).size : Int))) ≤ (wrap64 (t294 - 32)))))), (t295), (by first | rfl | (simp; done) | (simp [*]; done)), H', ⟨by have := HJ4.out; have := HK2.out; have := HJ17.out; first | omega | exact Nat.le_refl _⟩, ⟨by (with_reducible repeat (first | refine blk_drewN ?_ _ | refine blk_drew ?_ | refine blk_alloc ?_ _)); exact BK277.out⟩, ⟨by repeat (first | (with_reducible first | exact HI275.out | apply IsS57.alloc | apply IsS57.drewN | apply IsS57.drew | refine IsS57.farT ?_ (by repeat (first | exact TyOf.mk BK277.out | apply TyOf.alloc | apply TyOf.drewN | apply TyOf.drew | apply TyOf.set)) (by decide) _) | exact HI275.out)⟩, ⟨by repeat (first | (with_reducible first | exact HB.out | apply below_alloc | apply pw_below_drewN | apply below_drew1 | refine below_set ?_ (IsS57.ge HI275.out) | refine below_set ?_ GE277.out) | exact HB.out)⟩⟩
             case rest =>
              clear HC37
              try clear c1
              try clear c2
              try clear p2
              try clear c4
              try clear p6
              try clear c19
              try clear c22
              try clear c46
              try clear c47
              try clear c47b0
              try clear c47b1
              obtain ⟨kq, x111_36, x276000_36, rfl, HA, HJ36, BK277, HI275, HB⟩ := hcut
              cases kq with
              | zero => exact absurd HA.out (by simp [nunciolaw11_TableHolds.j3])
              | succ kj36 =>
               have H := HA.out
               clear HA
               simp only [nunciolaw11_TableHolds.j3] at H
               by_cases c61 : x111_36 = true
               ·
                subst c61
                have H1 : (some false) = some r := by rw [if_pos rfl] at H; exact H
                clear H
                have H := H1
                clear H1
                exact absurd ((Option.some.inj H).trans HT.out) (by decide)
               ·
                replace c61 := Bool.eq_false_iff.mpr c61
                subst c61
                have H1 : ((table_Table_At.f x276000_36 63).bind fun bt296 => (if bt296.2.2.1 = true then (if t280 = true then (if bt296.1.toList = t278.toList then (if bt296.2.1.toList = t279.toList then ((table_Table_Len.f bt296.2.2.2).bind fun bt300 => (if bt300.1 > (wrap64 (t282 + 1)) then (some false) else (nunciolaw11_TableHolds.j4 kj36 l1 x6_2 bt300.2))) else (some false)) else (some false)) else (some false)) else ((table_Table_Len.f bt296.2.2.2).bind fun bt302 => (if bt302.1 > (wrap64 (t282 + 1)) then (some false) else (nunciolaw11_TableHolds.j4 kj36 l1 x6_2 bt302.2))))) = some r := by rw [if_neg (show ¬ (false = true) by decide)] at H; exact H
                clear H
                have H := H1
                clear H1
                replace H := Option.bind_eq_some_iff.mp H
                obtain ⟨⟨t296, t297, t298, t299⟩, A620, H⟩ := H
                replace H : (if t298 = true then (if t280 = true then (if t296.toList = t278.toList then (if t297.toList = t279.toList then ((table_Table_Len.f t299).bind fun bt300 => (if bt300.1 > (wrap64 (t282 + 1)) then (some false) else (nunciolaw11_TableHolds.j4 kj36 l1 x6_2 bt300.2))) else (some false)) else (some false)) else (some false)) else ((table_Table_Len.f t299).bind fun bt302 => (if bt302.1 > (wrap64 (t282 + 1)) then (some false) else (nunciolaw11_TableHolds.j4 kj36 l1 x6_2 bt302.2)))) = some r := H
                have A62 := Aside0.mk A620
                clear A620
                by_cases c63 : t298 = true
                ·
                 subst c63
                 have H1 : (if t280 = true then (if t296.toList = t278.toList then (if t297.toList = t279.toList then ((table_Table_Len.f t299).bind fun bt300 => (if bt300.1 > (wrap64 (t282 + 1)) then (some false) else (nunciolaw11_TableHolds.j4 kj36 l1 x6_2 bt300.2))) else (some false)) else (some false)) else (some false)) = some r := by rw [if_pos rfl] at H; exact H
                 clear H
                 have H := H1
                 clear H1
                 by_cases c64 : t280 = true
                 ·
                  subst c64
                  have H1 : (if t296.toList = t278.toList then (if t297.toList = t279.toList then ((table_Table_Len.f t299).bind fun bt300 => (if bt300.1 > (wrap64 (t282 + 1)) then (some false) else (nunciolaw11_TableHolds.j4 kj36 l1 x6_2 bt300.2))) else (some false)) else (some false)) = some r := by rw [if_pos rfl] at H; exact H
                  clear H
                  have H := H1
                  clear H1
                  by_cases c65 : t296.toList = t278.toList
                  ·
                   rw [if_pos c65] at H
                   have c65b0 : (t296.toList == t278.toList) = true := beq_iff_eq.mpr c65
                   have c65b1 : (t296.toList != t278.toList) = false := bne_eq_false_iff_eq.mpr c65
                   clear c65
                   by_cases c66 : t297.toList = t279.toList
                   ·
                    rw [if_pos c66] at H
                    have c66b0 : (t297.toList == t279.toList) = true := beq_iff_eq.mpr c66
                    have c66b1 : (t297.toList != t279.toList) = false := bne_eq_false_iff_eq.mpr c66
                    clear c66
                    replace H := Option.bind_eq_some_iff.mp H
                    obtain ⟨⟨t300, t301⟩, A670, H⟩ := H
                    replace H : (if t300 > (wrap64 (t282 + 1)) then (some false) else (nunciolaw11_TableHolds.j4 kj36 l1 x6_2 t301)) = some r := H
                    have A67 := Aside0.mk A670
                    clear A670
                    by_cases c68 : t300 > (wrap64 (t282 + 1))
                    ·
                     rw [if_pos c68] at H
                     have c68b0 : decide ((wrap64 (t282 + 1)) < t300) = true := decide_eq_true c68
                     clear c68
                     exact absurd ((Option.some.inj H).trans HT.out) (by decide)
                    ·
                     rw [if_neg c68] at H
                     have c68b0 : decide ((wrap64 (t282 + 1)) < t300) = false := decide_eq_false c68
                     clear c68
                     have H' := Aside0.mk H
                     clear H
                     go_wp2_with (first | ((with_reducible refine gate_callee (f := 14) rfl ?_); refine goesL_ (some 114) rfl rfl Tryd.func14 (by kernel_rfl) rfl #[.pointer (some ⟨g275, 0, none⟩), .int .i64 63] rfl (by (try simp only [List.map_toArray, List.map_cons, List.map_nil]); first | done | rfl | (simp only [List.length_drop, List.length_take]; rfl)) ?_; (with_reducible refine (table_Table_At.calls g275 x276000_36 63 t296 t297 true t299 w _ ?side1 ?side2 A62.out).mono ?_); (case side1 => repeat (first | (with_reducible first | exact HI275.out | apply IsS57.alloc | apply IsS57.drewN | apply IsS57.drew | refine IsS57.farT ?_ (by repeat (first | exact TyOf.mk BK277.out | apply TyOf.alloc | apply TyOf.drewN | apply TyOf.drew | apply TyOf.set)) (by decide) _) | exact HI275.out)); (case side2 => repeat (first | (with_reducible first | exact HB.out | apply below_alloc | apply pw_below_drewN | apply below_drew1 | refine below_set ?_ (IsS57.ge HI275.out) | refine below_set ?_ GE277.out) | exact HB.out)); rintro e w69 ⟨rfl, hi, hb, hk⟩; refine ⟨_, rfl, ?_⟩; have n0_ := Aside0.mk (KeepBut.blk hk (g' := gb277) (o := .cells #[.string ((rd_T34 l1 x6_2).f0), .string ((rd_T34 l1 x6_2).f1), .int .i64 ((rd_T34 l1 x6_2).f2)] 34 (0, 0)) (by (with_reducible repeat (first | refine blk_drewN ?_ _ | refine blk_drew ?_ | refine blk_alloc ?_ _)); exact BK277.out) NB277_275.out (by simp)); have n1_ := Aside0.mk (hb); have n2_ := Aside0.mk (hi); clear BK277; clear HB; clear HI275; have BK277 := n0_; have HB := n1_; have HI275 := n2_; clear n0_ n1_ n2_; (try clear hb); (try clear hb2); (try clear hk); (try clear hi)) | (go_at_call 19; (with_reducible refine (table_Table_Len.calls g275 t299 t300 t301 w _ ?side1 ?side2 A67.out).mono ?_); (case side1 => repeat (first | (with_reducible first | exact HI275.out | apply IsS57.alloc | apply IsS57.drewN | apply IsS57.drew | refine IsS57.farT ?_ (by repeat (first | exact TyOf.mk BK277.out | apply TyOf.alloc | apply TyOf.drewN | apply TyOf.drew | apply TyOf.set)) (by decide) _) | exact HI275.out)); (case side2 => repeat (first | (with_reducible first | exact HB.out | apply below_alloc | apply pw_below_drewN | apply below_drew1 | refine below_set ?_ (IsS57.ge HI275.out) | refine below_set ?_ GE277.out) | exact HB.out)); rintro e w70 ⟨rfl, hi, hb, hk⟩; have n0_ := Aside0.mk (KeepBut.blk hk (g' := gb277) (o := .cells #[.string ((rd_T34 l1 x6_2).f0), .string ((rd_T34 l1 x6_2).f1), .int .i64 ((rd_T34 l1 x6_2).f2)] 34 (0, 0)) (by (with_reducible repeat (first | refine blk_drewN ?_ _ | refine blk_drew ?_ | refine blk_alloc ?_ _)); exact BK277.out) NB277_275.out (by simp)); have n1_ := Aside0.mk (hb); have n2_ := Aside0.mk (hi); clear BK277; clear HB; clear HI275; have BK277 := n0_; have HB := n1_; have HI275 := n2_; clear n0_ n1_ n2_; (try clear hb); (try clear hb2); (try clear hk); (try clear hi)))
                     go_meet
                     case rel => exact ⟨_, (t301), H', ⟨by have := HJ4.out; have := HK2.out; have := HJ17.out; have := HJ36.out; first | omega | exact Nat.le_refl _⟩, ⟨by (with_reducible repeat (first | refine blk_drewN ?_ _ | refine blk_drew ?_ | refine blk_alloc ?_ _)); exact BK277.out⟩, ⟨by repeat (first | (with_reducible first | exact HI275.out | apply IsS57.alloc | apply IsS57.drewN | apply IsS57.drew | refine IsS57.farT ?_ (by repeat (first | exact TyOf.mk BK277.out | apply TyOf.alloc | apply TyOf.drewN | apply TyOf.drew | apply TyOf.set)) (by decide) _) | exact HI275.out)⟩, ⟨by repeat (first | (with_reducible first | exact HB.out | apply below_alloc | apply pw_below_drewN | apply below_drew1 | refine below_set ?_ (IsS57.ge HI275.out) | refine below_set ?_ GE277.out) | exact HB.out)⟩⟩
                   ·
                    rw [if_neg c66] at H
                    have c66b0 : (t297.toList == t279.toList) = false := beq_eq_false_iff_ne.mpr c66
                    have c66b1 : (t297.toList != t279.toList) = true := bne_iff_ne.mpr c66
                    exact absurd ((Option.some.inj H).trans HT.out) (by decide)
                  ·
                   rw [if_neg c65] at H
                   have c65b0 : (t296.toList == t278.toList) = false := beq_eq_false_iff_ne.mpr c65
                   have c65b1 : (t296.toList != t278.toList) = true := bne_iff_ne.mpr c65
                   exact absurd ((Option.some.inj H).trans HT.out) (by decide)
                 ·
                  replace c64 := Bool.eq_false_iff.mpr c64
                  subst c64
                  have H1 : (some false) = some r := by rw [if_neg (show ¬ (false = true) by decide)] at H; exact H
                  clear H
                  have H := H1
                  clear H1
                  exact absurd ((Option.some.inj H).trans HT.out) (by decide)
                ·
                 replace c63 := Bool.eq_false_iff.mpr c63
                 subst c63
                 have H1 : ((table_Table_Len.f t299).bind fun bt302 => (if bt302.1 > (wrap64 (t282 + 1)) then (some false) else (nunciolaw11_TableHolds.j4 kj36 l1 x6_2 bt302.2))) = some r := by rw [if_neg (show ¬ (false = true) by decide)] at H; exact H
                 clear H
                 have H := H1
                 clear H1
                 replace H := Option.bind_eq_some_iff.mp H
                 obtain ⟨⟨t302, t303⟩, A710, H⟩ := H
                 replace H : (if t302 > (wrap64 (t282 + 1)) then (some false) else (nunciolaw11_TableHolds.j4 kj36 l1 x6_2 t303)) = some r := H
                 have A71 := Aside0.mk A710
                 clear A710
                 by_cases c72 : t302 > (wrap64 (t282 + 1))
                 ·
                  rw [if_pos c72] at H
                  have c72b0 : decide ((wrap64 (t282 + 1)) < t302) = true := decide_eq_true c72
                  clear c72
                  exact absurd ((Option.some.inj H).trans HT.out) (by decide)
                 ·
                  rw [if_neg c72] at H
                  have c72b0 : decide ((wrap64 (t282 + 1)) < t302) = false := decide_eq_false c72
                  clear c72
                  have H' := Aside0.mk H
                  clear H
                  go_wp2_with (first | ((with_reducible refine gate_callee (f := 14) rfl ?_); refine goesL_ (some 114) rfl rfl Tryd.func14 (by kernel_rfl) rfl #[.pointer (some ⟨g275, 0, none⟩), .int .i64 63] rfl (by (try simp only [List.map_toArray, List.map_cons, List.map_nil]); first | done | rfl | (simp only [List.length_drop, List.length_take]; rfl)) ?_; (with_reducible refine (table_Table_At.calls g275 x276000_36 63 t296 t297 false t299 w _ ?side1 ?side2 A62.out).mono ?_); (case side1 => repeat (first | (with_reducible first | exact HI275.out | apply IsS57.alloc | apply IsS57.drewN | apply IsS57.drew | refine IsS57.farT ?_ (by repeat (first | exact TyOf.mk BK277.out | apply TyOf.alloc | apply TyOf.drewN | apply TyOf.drew | apply TyOf.set)) (by decide) _) | exact HI275.out)); (case side2 => repeat (first | (with_reducible first | exact HB.out | apply below_alloc | apply pw_below_drewN | apply below_drew1 | refine below_set ?_ (IsS57.ge HI275.out) | refine below_set ?_ GE277.out) | exact HB.out)); rintro e w73 ⟨rfl, hi, hb, hk⟩; refine ⟨_, rfl, ?_⟩; have n0_ := Aside0.mk (KeepBut.blk hk (g' := gb277) (o := .cells #[.string ((rd_T34 l1 x6_2).f0), .string ((rd_T34 l1 x6_2).f1), .int .i64 ((rd_T34 l1 x6_2).f2)] 34 (0, 0)) (by (with_reducible repeat (first | refine blk_drewN ?_ _ | refine blk_drew ?_ | refine blk_alloc ?_ _)); exact BK277.out) NB277_275.out (by simp)); have n1_ := Aside0.mk (hb); have n2_ := Aside0.mk (hi); clear BK277; clear HB; clear HI275; have BK277 := n0_; have HB := n1_; have HI275 := n2_; clear n0_ n1_ n2_; (try clear hb); (try clear hb2); (try clear hk); (try clear hi)) | (go_at_call 19; (with_reducible refine (table_Table_Len.calls g275 t299 t302 t303 w _ ?side1 ?side2 A71.out).mono ?_); (case side1 => repeat (first | (with_reducible first | exact HI275.out | apply IsS57.alloc | apply IsS57.drewN | apply IsS57.drew | refine IsS57.farT ?_ (by repeat (first | exact TyOf.mk BK277.out | apply TyOf.alloc | apply TyOf.drewN | apply TyOf.drew | apply TyOf.set)) (by decide) _) | exact HI275.out)); (case side2 => repeat (first | (with_reducible first | exact HB.out | apply below_alloc | apply pw_below_drewN | apply below_drew1 | refine below_set ?_ (IsS57.ge HI275.out) | refine below_set ?_ GE277.out) | exact HB.out)); rintro e w74 ⟨rfl, hi, hb, hk⟩; have n0_ := Aside0.mk (KeepBut.blk hk (g' := gb277) (o := .cells #[.string ((rd_T34 l1 x6_2).f0), .string ((rd_T34 l1 x6_2).f1), .int .i64 ((rd_T34 l1 x6_2).f2)] 34 (0, 0)) (by (with_reducible repeat (first | refine blk_drewN ?_ _ | refine blk_drew ?_ | refine blk_alloc ?_ _)); exact BK277.out) NB277_275.out (by simp)); have n1_ := Aside0.mk (hb); have n2_ := Aside0.mk (hi); clear BK277; clear HB; clear HI275; have BK277 := n0_; have HB := n1_; have HI275 := n2_; clear n0_ n1_ n2_; (try clear hb); (try clear hb2); (try clear hk); (try clear hi)))
                  go_meet
                  case rel => exact ⟨_, (t303), H', ⟨by have := HJ4.out; have := HK2.out; have := HJ17.out; have := HJ36.out; first | omega | exact Nat.le_refl _⟩, ⟨by (with_reducible repeat (first | refine blk_drewN ?_ _ | refine blk_drew ?_ | refine blk_alloc ?_ _)); exact BK277.out⟩, ⟨by repeat (first | (with_reducible first | exact HI275.out | apply IsS57.alloc | apply IsS57.drewN | apply IsS57.drew | refine IsS57.farT ?_ (by repeat (first | exact TyOf.mk BK277.out | apply TyOf.alloc | apply TyOf.drewN | apply TyOf.drew | apply TyOf.set)) (by decide) _) | exact HI275.out)⟩, ⟨by repeat (first | (with_reducible first | exact HB.out | apply below_alloc | apply pw_below_drewN | apply below_drew1 | refine below_set ?_ (IsS57.ge HI275.out) | refine below_set ?_ GE277.out) | exact HB.out)⟩⟩
           case rest =>
            clear HC29
            try clear c1
            try clear c2
            try clear p2
            try clear c4
            try clear c6
            try clear p6
            try clear c7
            try clear c14
            try clear c19
            try clear c22
            try clear c46
            try clear c47
            try clear c47b0
            try clear c47b1
            try clear c61
            try clear c63
            try clear c64
            try clear p64
            try clear c65
            try clear c65b0
            try clear c65b1
            try clear c66
            try clear c66b0
            try clear c66b1
            try clear c68
            try clear c68b0
            try clear c72
            try clear c72b0
            try clear p2
            try clear p6
            obtain ⟨kq, x276000_28, HA, HJ28, BK277, HI275, HB⟩ := hcut
            cases kq with
            | zero => exact absurd HA.out (by simp [nunciolaw11_TableHolds.j4])
            | succ kj28 =>
             have H := HA.out
             clear HA
             simp only [nunciolaw11_TableHolds.j4] at H
             have H' := Aside0.mk H
             clear H
             go_wp2
             go_loopg [18, 19] kj28 (fun kq v18 v19 w' => ∃ (x18_5 : Int) (x19_5 : Int) (x276000_5 : TB), v18 = .int .i64 x18_5 ∧ v19 = .int .i64 x19_5 ∧ Aside0 (nunciolaw11_TableHolds.l1 kq l1 x6_2 x18_5 x19_5 x276000_5 = some r) ∧ Aside0 (kq ≤ kj28) ∧ Aside0 (w'.heap[gb277]? = some (.cells #[.string ((rd_T34 l1 x6_2).f0), .string ((rd_T34 l1 x6_2).f1), .int .i64 ((rd_T34 l1 x6_2).f2)] 34 (0, 0))) ∧ Aside0 (IsS57 w w' g275 x276000_5) ∧ Aside0 (Below w.heap.size w w'))
             case atStart => exact ⟨(0), (0), (x276000_28), (by first | rfl | (simp; done) | (simp [*]; done)), (by first | rfl | (simp; done) | (simp [*]; done)), H', ⟨Nat.le_refl _⟩, ⟨by (with_reducible repeat (first | refine blk_drewN ?_ _ | refine blk_drew ?_ | refine blk_alloc ?_ _)); exact BK277.out⟩, ⟨by repeat (first | (with_reducible first | exact HI275.out | apply IsS57.alloc | apply IsS57.drewN | apply IsS57.drew | refine IsS57.farT ?_ (by repeat (first | exact TyOf.mk BK277.out | apply TyOf.alloc | apply TyOf.drewN | apply TyOf.drew | apply TyOf.set)) (by decide) _) | exact HI275.out)⟩, ⟨by repeat (first | (with_reducible first | exact HB.out | apply below_alloc | apply pw_below_drewN | apply below_drew1 | refine below_set ?_ (IsS57.ge HI275.out) | refine below_set ?_ GE277.out) | exact HB.out)⟩⟩
             case round =>
              clear H'
              try clear c1
              try clear c2
              try clear p2
              try clear c4
              try clear c6
              try clear p6
              try clear c7
              try clear c14
              try clear c19
              try clear c22
              try clear c46
              try clear c47
              try clear c47b0
              try clear c47b1
              try clear c61
              try clear c63
              try clear c64
              try clear p64
              try clear c65
              try clear c65b0
              try clear c65b1
              try clear c66
              try clear c66b0
              try clear c66b1
              try clear c68
              try clear c68b0
              try clear c72
              try clear c72b0
              try clear p2
              try clear p6
              try clear p64
              obtain ⟨x18_5, x19_5, x276000_5, rfl, rfl, HA, HK5, BK277, HI275, HB⟩ := hrel
              cases gk with
              | zero => exact absurd HA.out (by simp [nunciolaw11_TableHolds.l1])
              | succ k5 =>
               have H := HA.out
               clear HA
               simp only [nunciolaw11_TableHolds.l1] at H
               replace H := Option.bind_eq_some_iff.mp H
               obtain ⟨⟨t304, t305⟩, A750, H⟩ := H
               replace H : (if x19_5 < t304 then ((table_Table_At.f t305 (wrap64 (62 + x19_5))).bind fun bt306 => (if bt306.2.2.1 = true then (nunciolaw11_TableHolds.l1 k5 l1 x6_2 (wrap64 ((wrap64 ((wrap64 (x18_5 + (bt306.1.size : Int))) + (bt306.2.1.size : Int))) + 32)) (wrap64 (x19_5 + 1)) bt306.2.2.2) else (some false))) else ((table_Table_Size.f t305).bind fun bt310 => (if x18_5 = bt310.1 then ((table_Table_Most.f bt310.2).bind fun bt312 => (if x18_5 > bt312.1 then (some false) else ((table_Table_Most.f bt312.2).bind fun bt314 => (if bt314.1 < 0 then (some false) else (nunciolaw11_TableHolds.l0 k5 l1 (wrap64 (x6_2 + 1)) bt314.2))))) else (some false)))) = some r := H
               have A75 := Aside0.mk A750
               clear A750
               by_cases c76 : x19_5 < t304
               ·
                rw [if_pos c76] at H
                have c76b0 : decide (x19_5 < t304) = true := decide_eq_true c76
                clear c76
                replace H := Option.bind_eq_some_iff.mp H
                obtain ⟨⟨t306, t307, t308, t309⟩, A770, H⟩ := H
                replace H : (if t308 = true then (nunciolaw11_TableHolds.l1 k5 l1 x6_2 (wrap64 ((wrap64 ((wrap64 (x18_5 + (t306.size : Int))) + (t307.size : Int))) + 32)) (wrap64 (x19_5 + 1)) t309) else (some false)) = some r := H
                have A77 := Aside0.mk A770
                clear A770
                by_cases c78 : t308 = true
                ·
                 subst c78
                 have H1 : (nunciolaw11_TableHolds.l1 k5 l1 x6_2 (wrap64 ((wrap64 ((wrap64 (x18_5 + (t306.size : Int))) + (t307.size : Int))) + 32)) (wrap64 (x19_5 + 1)) t309) = some r := by rw [if_pos rfl] at H; exact H
                 clear H
                 have H := H1
                 clear H1
                 have H' := Aside0.mk H
                 clear H
                 go_wp2_with (first | ((with_reducible refine gate_callee (f := 19) rfl ?_); refine goesL_ (some 142) rfl rfl Tryd.func19 (by kernel_rfl) rfl #[.pointer (some ⟨g275, 0, none⟩)] rfl (by (try simp only [List.map_toArray, List.map_cons, List.map_nil]); first | done | rfl | (simp only [List.length_drop, List.length_take]; rfl)) ?_; (with_reducible refine (table_Table_Len.calls g275 x276000_5 t304 t305 w _ ?side1 ?side2 A75.out).mono ?_); (case side1 => repeat (first | (with_reducible first | exact HI275.out | apply IsS57.alloc | apply IsS57.drewN | apply IsS57.drew | refine IsS57.farT ?_ (by repeat (first | exact TyOf.mk BK277.out | apply TyOf.alloc | apply TyOf.drewN | apply TyOf.drew | apply TyOf.set)) (by decide) _) | exact HI275.out)); (case side2 => repeat (first | (with_reducible first | exact HB.out | apply below_alloc | apply pw_below_drewN | apply below_drew1 | refine below_set ?_ (IsS57.ge HI275.out) | refine below_set ?_ GE277.out) | exact HB.out)); rintro e w79 ⟨rfl, hi, hb, hk⟩; refine ⟨_, rfl, ?_⟩; have n0_ := Aside0.mk (KeepBut.blk hk (g' := gb277) (o := .cells #[.string ((rd_T34 l1 x6_2).f0), .string ((rd_T34 l1 x6_2).f1), .int .i64 ((rd_T34 l1 x6_2).f2)] 34 (0, 0)) (by (with_reducible repeat (first | refine blk_drewN ?_ _ | refine blk_drew ?_ | refine blk_alloc ?_ _)); exact BK277.out) NB277_275.out (by simp)); have n1_ := Aside0.mk (hb); have n2_ := Aside0.mk (hi); clear BK277; clear HB; clear HI275; have BK277 := n0_; have HB := n1_; have HI275 := n2_; clear n0_ n1_ n2_; (try clear hb); (try clear hb2); (try clear hk); (try clear hi)) | ((with_reducible refine gate_callee (f := 14) rfl ?_); refine goesL_ (some 150) rfl rfl Tryd.func14 (by kernel_rfl) rfl #[.pointer (some ⟨g275, 0, none⟩), .int .i64 (wrap64 (62 + x19_5))] rfl (by (try simp only [List.map_toArray, List.map_cons, List.map_nil]); first | done | rfl | (simp only [List.length_drop, List.length_take]; rfl)) ?_; (with_reducible refine (table_Table_At.calls g275 t305 (wrap64 (62 + x19_5)) t306 t307 true t309 w _ ?side1 ?side2 A77.out).mono ?_); (case side1 => repeat (first | (with_reducible first | exact HI275.out | apply IsS57.alloc | apply IsS57.drewN | apply IsS57.drew | refine IsS57.farT ?_ (by repeat (first | exact TyOf.mk BK277.out | apply TyOf.alloc | apply TyOf.drewN | apply TyOf.drew | apply TyOf.set)) (by decide) _) | exact HI275.out)); (case side2 => repeat (first | (with_reducible first | exact HB.out | apply below_alloc | apply pw_below_drewN | apply below_drew1 | refine below_set ?_ (IsS57.ge HI275.out) | refine below_set ?_ GE277.out) | exact HB.out)); rintro e w80 ⟨rfl, hi, hb, hk⟩; refine ⟨_, rfl, ?_⟩; have n0_ := Aside0.mk (KeepBut.blk hk (g' := gb277) (o := .cells #[.string ((rd_T34 l1 x6_2).f0), .string ((rd_T34 l1 x6_2).f1), .int .i64 ((rd_T34 l1 x6_2).f2)] 34 (0, 0)) (by (with_reducible repeat (first | refine blk_drewN ?_ _ | refine blk_drew ?_ | refine blk_alloc ?_ _)); exact BK277.out) NB277_275.out (by simp)); have n1_ := Aside0.mk (hb); have n2_ := Aside0.mk (hi); clear BK277; clear HB; clear HI275; have BK277 := n0_; have HB := n1_; have HI275 := n2_; clear n0_ n1_ n2_; (try clear hb); (try clear hb2); (try clear hk); (try clear hi)))
                 go_roundg k5
                 case measure => have := HJ4.out; have := HK2.out; have := HJ17.out; have := HJ28.out; have := HK5.out; omega
                 case rel => exact ⟨(wrap64 ((wrap64 ((wrap64 (x18_5 + (t306.size : Int))) + (t307.size : Int))) + 32)), (wrap64 (x19_5 + 1)), (t309), (by first | rfl | (simp; done) | (simp [*]; done)), (by first | rfl | (simp; done) | (simp [*]; done)), H', ⟨by have := HJ4.out; have := HK2.out; have := HJ17.out; have := HJ28.out; have := HK5.out; omega⟩, ⟨by (with_reducible repeat (first | refine blk_drewN ?_ _ | refine blk_drew ?_ | refine blk_alloc ?_ _)); exact BK277.out⟩, ⟨by repeat (first | (with_reducible first | exact HI275.out | apply IsS57.alloc | apply IsS57.drewN | apply IsS57.drew | refine IsS57.farT ?_ (by repeat (first | exact TyOf.mk BK277.out | apply TyOf.alloc | apply TyOf.drewN | apply TyOf.drew | apply TyOf.set)) (by decide) _) | exact HI275.out)⟩, ⟨by repeat (first | (with_reducible first | exact HB.out | apply below_alloc | apply pw_below_drewN | apply below_drew1 | refine below_set ?_ (IsS57.ge HI275.out) | refine below_set ?_ GE277.out) | exact HB.out)⟩⟩
                ·
                 replace c78 := Bool.eq_false_iff.mpr c78
                 subst c78
                 have H1 : (some false) = some r := by rw [if_neg (show ¬ (false = true) by decide)] at H; exact H
                 clear H
                 have H := H1
                 clear H1
                 exact absurd ((Option.some.inj H).trans HT.out) (by decide)
               ·
                rw [if_neg c76] at H
                have c76b0 : decide (x19_5 < t304) = false := decide_eq_false c76
                clear c76
                replace H := Option.bind_eq_some_iff.mp H
                obtain ⟨⟨t310, t311⟩, A810, H⟩ := H
                replace H : (if x18_5 = t310 then ((table_Table_Most.f t311).bind fun bt312 => (if x18_5 > bt312.1 then (some false) else ((table_Table_Most.f bt312.2).bind fun bt314 => (if bt314.1 < 0 then (some false) else (nunciolaw11_TableHolds.l0 k5 l1 (wrap64 (x6_2 + 1)) bt314.2))))) else (some false)) = some r := H
                have A81 := Aside0.mk A810
                clear A810
                by_cases c82 : x18_5 = t310
                ·
                 rw [if_pos c82] at H
                 have c82b0 : (x18_5 == t310) = true := beq_iff_eq.mpr c82
                 have c82b1 : (x18_5 != t310) = false := bne_eq_false_iff_eq.mpr c82
                 clear c82
                 replace H := Option.bind_eq_some_iff.mp H
                 obtain ⟨⟨t312, t313⟩, A830, H⟩ := H
                 replace H : (if x18_5 > t312 then (some false) else ((table_Table_Most.f t313).bind fun bt314 => (if bt314.1 < 0 then (some false) else (nunciolaw11_TableHolds.l0 k5 l1 (wrap64 (x6_2 + 1)) bt314.2)))) = some r := H
                 have A83 := Aside0.mk A830
                 clear A830
                 by_cases c84 : x18_5 > t312
                 ·
                  rw [if_pos c84] at H
                  have c84b0 : decide (t312 < x18_5) = true := decide_eq_true c84
                  clear c84
                  exact absurd ((Option.some.inj H).trans HT.out) (by decide)
                 ·
                  rw [if_neg c84] at H
                  have c84b0 : decide (t312 < x18_5) = false := decide_eq_false c84
                  clear c84
                  replace H := Option.bind_eq_some_iff.mp H
                  obtain ⟨⟨t314, t315⟩, A850, H⟩ := H
                  replace H : (if t314 < 0 then (some false) else (nunciolaw11_TableHolds.l0 k5 l1 (wrap64 (x6_2 + 1)) t315)) = some r := H
                  have A85 := Aside0.mk A850
                  clear A850
                  by_cases c86 : t314 < 0
                  ·
                   rw [if_pos c86] at H
                   have c86b0 : decide (t314 < 0) = true := decide_eq_true c86
                   clear c86
                   exact absurd ((Option.some.inj H).trans HT.out) (by decide)
                  ·
                   rw [if_neg c86] at H
                   have c86b0 : decide (t314 < 0) = false := decide_eq_false c86
                   clear c86
                   have H' := Aside0.mk H
                   clear H
                   have tk91 : True := trivial
                   have tk92 : True := trivial
                   go_wp2_with (first | ((with_reducible refine gate_callee (f := 19) rfl ?_); refine goesL_ (some 142) rfl rfl Tryd.func19 (by kernel_rfl) rfl #[.pointer (some ⟨g275, 0, none⟩)] rfl (by (try simp only [List.map_toArray, List.map_cons, List.map_nil]); first | done | rfl | (simp only [List.length_drop, List.length_take]; rfl)) ?_; (with_reducible refine (table_Table_Len.calls g275 x276000_5 t304 t305 w _ ?side1 ?side2 A75.out).mono ?_); (case side1 => repeat (first | (with_reducible first | exact HI275.out | apply IsS57.alloc | apply IsS57.drewN | apply IsS57.drew | refine IsS57.farT ?_ (by repeat (first | exact TyOf.mk BK277.out | apply TyOf.alloc | apply TyOf.drewN | apply TyOf.drew | apply TyOf.set)) (by decide) _) | exact HI275.out)); (case side2 => repeat (first | (with_reducible first | exact HB.out | apply below_alloc | apply pw_below_drewN | apply below_drew1 | refine below_set ?_ (IsS57.ge HI275.out) | refine below_set ?_ GE277.out) | exact HB.out)); rintro e w87 ⟨rfl, hi, hb, hk⟩; refine ⟨_, rfl, ?_⟩; have n0_ := Aside0.mk (KeepBut.blk hk (g' := gb277) (o := .cells #[.string ((rd_T34 l1 x6_2).f0), .string ((rd_T34 l1 x6_2).f1), .int .i64 ((rd_T34 l1 x6_2).f2)] 34 (0, 0)) (by (with_reducible repeat (first | refine blk_drewN ?_ _ | refine blk_drew ?_ | refine blk_alloc ?_ _)); exact BK277.out) NB277_275.out (by simp)); have n1_ := Aside0.mk (hb); have n2_ := Aside0.mk (hi); clear BK277; clear HB; clear HI275; have BK277 := n0_; have HB := n1_; have HI275 := n2_; clear n0_ n1_ n2_; (try clear hb); (try clear hb2); (try clear hk); (try clear hi)) | ((with_reducible refine gate_callee (f := 23) rfl ?_); refine goesL_ (some 166) rfl rfl Tryd.func23 (by kernel_rfl) rfl #[.pointer (some ⟨g275, 0, none⟩)] rfl (by (try simp only [List.map_toArray, List.map_cons, List.map_nil]); first | done | rfl | (simp only [List.length_drop, List.length_take]; rfl)) ?_; (with_reducible refine (table_Table_Size.calls g275 t305 t310 t311 w _ ?side1 ?side2 A81.out).mono ?_); (case side1 => repeat (first | (with_reducible first | exact HI275.out | apply IsS57.alloc | apply IsS57.drewN | apply IsS57.drew | refine IsS57.farT ?_ (by repeat (first | exact TyOf.mk BK277.out | apply TyOf.alloc | apply TyOf.drewN | apply TyOf.drew | apply TyOf.set)) (by decide) _) | exact HI275.out)); (case side2 => repeat (first | (with_reducible first | exact HB.out | apply below_alloc | apply pw_below_drewN | apply below_drew1 | refine below_set ?_ (IsS57.ge HI275.out) | refine below_set ?_ GE277.out) | exact HB.out)); rintro e w88 ⟨rfl, hi, hb, hk⟩; refine ⟨_, rfl, ?_⟩; have n0_ := Aside0.mk (KeepBut.blk hk (g' := gb277) (o := .cells #[.string ((rd_T34 l1 x6_2).f0), .string ((rd_T34 l1 x6_2).f1), .int .i64 ((rd_T34 l1 x6_2).f2)] 34 (0, 0)) (by (with_reducible repeat (first | refine blk_drewN ?_ _ | refine blk_drew ?_ | refine blk_alloc ?_ _)); exact BK277.out) NB277_275.out (by simp)); have n1_ := Aside0.mk (hb); have n2_ := Aside0.mk (hi); clear BK277; clear HB; clear HI275; have BK277 := n0_; have HB := n1_; have HI275 := n2_; clear n0_ n1_ n2_; (try clear hb); (try clear hb2); (try clear hk); (try clear hi)) | (have _t : True := tk91; clear tk91 _t; go_at_call 22; (with_reducible refine (table_Table_Most.calls g275 t311 t312 t313 w _ ?side1 ?side2 A83.out).mono ?_); (case side1 => repeat (first | (with_reducible first | exact HI275.out | apply IsS57.alloc | apply IsS57.drewN | apply IsS57.drew | refine IsS57.farT ?_ (by repeat (first | exact TyOf.mk BK277.out | apply TyOf.alloc | apply TyOf.drewN | apply TyOf.drew | apply TyOf.set)) (by decide) _) | exact HI275.out)); (case side2 => repeat (first | (with_reducible first | exact HB.out | apply below_alloc | apply pw_below_drewN | apply below_drew1 | refine below_set ?_ (IsS57.ge HI275.out) | refine below_set ?_ GE277.out) | exact HB.out)); rintro e w89 ⟨rfl, hi, hb, hk⟩; have n0_ := Aside0.mk (KeepBut.blk hk (g' := gb277) (o := .cells #[.string ((rd_T34 l1 x6_2).f0), .string ((rd_T34 l1 x6_2).f1), .int .i64 ((rd_T34 l1 x6_2).f2)] 34 (0, 0)) (by (with_reducible repeat (first | refine blk_drewN ?_ _ | refine blk_drew ?_ | refine blk_alloc ?_ _)); exact BK277.out) NB277_275.out (by simp)); have n1_ := Aside0.mk (hb); have n2_ := Aside0.mk (hi); clear BK277; clear HB; clear HI275; have BK277 := n0_; have HB := n1_; have HI275 := n2_; clear n0_ n1_ n2_; (try clear hb); (try clear hb2); (try clear hk); (try clear hi)) | (have _t : True := tk92; clear tk92 _t; go_at_call 22; (with_reducible refine (table_Table_Most.calls g275 t313 t314 t315 w _ ?side1 ?side2 A85.out).mono ?_); (case side1 => repeat (first | (with_reducible first | exact HI275.out | apply IsS57.alloc | apply IsS57.drewN | apply IsS57.drew | refine IsS57.farT ?_ (by repeat (first | exact TyOf.mk BK277.out | apply TyOf.alloc | apply TyOf.drewN | apply TyOf.drew | apply TyOf.set)) (by decide) _) | exact HI275.out)); (case side2 => repeat (first | (with_reducible first | exact HB.out | apply below_alloc | apply pw_below_drewN | apply below_drew1 | refine below_set ?_ (IsS57.ge HI275.out) | refine below_set ?_ GE277.out) | exact HB.out)); rintro e w90 ⟨rfl, hi, hb, hk⟩; have n0_ := Aside0.mk (KeepBut.blk hk (g' := gb277) (o := .cells #[.string ((rd_T34 l1 x6_2).f0), .string ((rd_T34 l1 x6_2).f1), .int .i64 ((rd_T34 l1 x6_2).f2)] 34 (0, 0)) (by (with_reducible repeat (first | refine blk_drewN ?_ _ | refine blk_drew ?_ | refine blk_alloc ?_ _)); exact BK277.out) NB277_275.out (by simp)); have n1_ := Aside0.mk (hb); have n2_ := Aside0.mk (hi); clear BK277; clear HB; clear HI275; have BK277 := n0_; have HB := n1_; have HI275 := n2_; clear n0_ n1_ n2_; (try clear hb); (try clear hb2); (try clear hk); (try clear hi)))
                   go_roundg k5
                   case measure => have := HJ4.out; have := HK2.out; have := HJ17.out; have := HJ28.out; have := HK5.out; omega
                   case rel => exact ⟨(wrap64 (x6_2 + 1)), (t315), (by first | rfl | (simp; done) | (simp [*]; done)), H', ⟨by have := HJ4.out; have := HK2.out; have := HJ17.out; have := HJ28.out; have := HK5.out; omega⟩, ⟨by repeat (first | (with_reducible first | exact HI275.out | apply IsS57.alloc | apply IsS57.drewN | apply IsS57.drew | refine IsS57.farT ?_ (by repeat (first | exact TyOf.mk BK277.out | apply TyOf.alloc | apply TyOf.drewN | apply TyOf.drew | apply TyOf.set)) (by decide) _) | exact HI275.out)⟩, ⟨by repeat (first | (with_reducible first | exact HB.out | apply below_alloc | apply pw_below_drewN | apply below_drew1 | refine below_set ?_ (IsS57.ge HI275.out) | refine below_set ?_ GE277.out) | exact HB.out)⟩⟩
                ·
                 rw [if_neg c82] at H
                 have c82b0 : (x18_5 == t310) = false := beq_eq_false_iff_ne.mpr c82
                 have c82b1 : (x18_5 != t310) = true := bne_iff_ne.mpr c82
                 exact absurd ((Option.some.inj H).trans HT.out) (by decide)
        ·
         rw [if_neg c15] at H
         exact absurd H (by simp)
       ·
        rw [if_neg c14] at H
        have c14b0 : decide (x6_2 < (l1.length : Int)) = false := decide_eq_false c14
        clear c14
        obtain rfl := Option.some.inj H
        go_wp2
        go_ret
        exact ⟨by first | rfl | (simp [errW_none, errW_some] <;> rfl) | (simp [*, errW_none, errW_some] <;> rfl), by repeat (first | (with_reducible first | exact HB.out | apply below_alloc | apply pw_below_drewN | apply below_drew1 | refine below_set ?_ (IsS57.ge HI275.out)) | exact HB.out)⟩
 ·
  replace c4 := Bool.eq_false_iff.mpr c4
  subst c4
  have H1 : (some false) = some r := by rw [if_neg (show ¬ (false = true) by decide)] at H; exact H
  clear H
  have H := H1
  clear H1
  exact absurd ((Option.some.inj H).trans HT.out) (by decide)

/-- THE ONE PURE STATEMENT of nunciolaw11_TableHolds: yours. -/
def nunciolaw11_TableHolds.Pure : Prop := ∀ (a0 : Int) (l1 : List (S34)), ((Lit.int .i64 a0).wf = true) → (l1.length ≤ 9223372036854775807 ∧ l1.length * 40 ≤ 140737488351232 ∧ ∀ x_ ∈ l1, k34_wf x_) → ∃ k, nunciolaw11_TableHolds.f k a0 l1 = some true
theorem nunciolaw11_TableHolds.walk (P : nunciolaw11_TableHolds.Pure) (a0 : Int) (A1 : Option Addr) (c1 : Nat) (l1 : List (S34)) (w : World) (hE : EnvW w) (hr1 : Kd.C k34 w A1 l1.length l1) (hc1 : l1.length ≤ c1) (w0 : (Lit.int .i64 a0).wf = true) (w1 : l1.length ≤ 9223372036854775807 ∧ l1.length * 40 ≤ 140737488351232 ∧ ∀ x_ ∈ l1, k34_wf x_) :
  Calls Tryd.prog 5 #[.int .i64 a0, .slice A1 l1.length c1] w fun e w' => e = .returned (.bool true) ∧ Below w.heap.size w w' := by
 obtain ⟨k, h⟩ := P a0 l1 w0 w1
 refine (nunciolaw11_TableHolds.calls k a0 _ _ l1 true w hE hr1 hc1 h rfl).mono ?_
 rintro e w' ⟨rfl, hd⟩
 exact ⟨rfl, hd⟩

end Go.Proofs.YtjdnimgkfkpaeaaDoor.Mine
