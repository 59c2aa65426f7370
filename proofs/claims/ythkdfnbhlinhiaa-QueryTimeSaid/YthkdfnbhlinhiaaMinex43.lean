-- Written by this repo's own printer (wip/print), which builds on the kit's.
import Derived.Test.YthkdfnbhlinhiaaWf
import Derived.Test.YthkdfnbhlinhiaaMinex0
import Derived.Test.YthkdfnbhlinhiaaMinex10
import Derived.Test.YthkdfnbhlinhiaaMinex11
import Derived.Test.YthkdfnbhlinhiaaMinex15
import Derived.Test.YthkdfnbhlinhiaaMinex16
import Derived.Test.YthkdfnbhlinhiaaMinex19
import Derived.Test.YthkdfnbhlinhiaaMinex28
import Derived.Test.YthkdfnbhlinhiaaMinex42
namespace Go.Proofs.Ythkdfnbhlinhiaa.Mine
open Go.RowKit Go.Proofs.YthkdfnbhlinhiaaW.PrintWords Go.Proofs.YthkdfnbhlinhiaaW.PrintLast Go.Proofs.YthkdfnbhlinhiaaW.PrintMore
attribute [local go_sem] max2_int min2_int max_two min_two max_three min_three max_four min_four   -- for this text's walks alone
set_option linter.unusedVariables false
set_option linter.unusedSimpArgs false

/-! ### nunciolaw08_QueryTime: function 7 -/
mutual
def nunciolaw08_QueryTime.j0 : Nat → Int → Bool → Int → Int → List (S53) → List (S51) → List (S51) → List (S51) → Option (Bool)
 | 0, _, _, _, _, _, _, _, _ => none
 | k + 1, x1, x34, x475000, x475001, x475002, x475003, x475004, x475005 => if x34 = true then (some false) else ((query_Least.f x475000 x475001 x475002 x475003 x475004 x475005).bind fun t537 => ((query_Age.f k x475000 x475001 x475002 x475003 x475004 x475005 x1).bind fun bt538 => ((query_Least.f bt538.1 bt538.2.1 bt538.2.2.1 bt538.2.2.2.1 bt538.2.2.2.2.1 bt538.2.2.2.2.2).bind fun t552 => (if t552 > t537 then (nunciolaw08_QueryTime.j1 k x1 t537 t552 true x475000 x475001 x475002 x475003 x475004 x475005) else ((query_Negative.f x475000 x475001 x475002 x475003 x475004 x475005).bind fun t553 => ((query_Age.f k x475000 x475001 x475002 x475003 x475004 x475005 x1).bind fun bt554 => ((query_Negative.f bt554.1 bt554.2.1 bt554.2.2.1 bt554.2.2.2.1 bt554.2.2.2.2.1 bt554.2.2.2.2.2).bind fun t568 => (nunciolaw08_QueryTime.j1 k x1 t537 t552 (t553 != t568) x475000 x475001 x475002 x475003 x475004 x475005))))))))
def nunciolaw08_QueryTime.j1 : Nat → Int → Int → Int → Bool → Int → Int → List (S53) → List (S51) → List (S51) → List (S51) → Option (Bool)
 | 0, _, _, _, _, _, _, _, _, _, _ => none
 | k + 1, x1, x8, x9, x52, x475000, x475001, x475002, x475003, x475004, x475005 => if x52 = true then (some false) else ((query_Negative.f x475000 x475001 x475002 x475003 x475004 x475005).bind fun t569 => (if t569 = true then (some true) else (if x1 ≥ (IntKind.u64.wrap (x8)) then (some (x9 == 0)) else (some (x9 == ((x8 - x1) % 4294967296))))))
end
def nunciolaw08_QueryTime.f (k : Nat) (a0_0 : Int) (a0_1 : Int) (l0_2 : List (S53)) (l0_3 : List (S51)) (l0_4 : List (S51)) (l0_5 : List (S51)) (a1 : Int) (a2 : Int) : Option (Bool) := (nunciolaw08_awake.f k).bind fun t475 => (if t475 = true then ((nunciolaw07_Few.f k a0_0 a0_1 l0_2 l0_3 l0_4 l0_5).bind fun t476 => (if t476 = true then ((query_Age.f k a0_0 a0_1 l0_2 l0_3 l0_4 l0_5 a1).bind fun bt477 => ((query_Age.f k bt477.1 bt477.2.1 bt477.2.2.1 bt477.2.2.2.1 bt477.2.2.2.2.1 bt477.2.2.2.2.2 a2).bind fun bt491 => ((nuncioref01_Add64.f a1 a2).bind fun t506 => ((query_Age.f k a0_0 a0_1 l0_2 l0_3 l0_4 l0_5 t506).bind fun bt507 => ((nuncioref06_Same.f k bt491.1 bt491.2.1 bt491.2.2.1 bt491.2.2.2.1 bt491.2.2.2.2.1 bt491.2.2.2.2.2 bt507.1 bt507.2.1 bt507.2.2.1 bt507.2.2.2.1 bt507.2.2.2.2.1 bt507.2.2.2.2.2).bind fun t521 => (if t521 = true then ((query_Age.f k a0_0 a0_1 l0_2 l0_3 l0_4 l0_5 0).bind fun bt522 => ((nuncioref06_Same.f k bt522.1 bt522.2.1 bt522.2.2.1 bt522.2.2.2.1 bt522.2.2.2.2.1 bt522.2.2.2.2.2 a0_0 a0_1 l0_2 l0_3 l0_4 l0_5).bind fun t536 => (nunciolaw08_QueryTime.j0 k a1 (!t536) a0_0 a0_1 l0_2 l0_3 l0_4 l0_5))) else (nunciolaw08_QueryTime.j0 k a1 true a0_0 a0_1 l0_2 l0_3 l0_4 l0_5))))))) else (some true))) else (some false))
theorem nunciolaw08_QueryTime.mono_l : ∀ k, (∀ y0 y1 y2 y3 y4 y5 y6 y7, LeO (nunciolaw08_QueryTime.j0 k y0 y1 y2 y3 y4 y5 y6 y7) (nunciolaw08_QueryTime.j0 (k + 1) y0 y1 y2 y3 y4 y5 y6 y7)) ∧ (∀ y0 y1 y2 y3 y4 y5 y6 y7 y8 y9, LeO (nunciolaw08_QueryTime.j1 k y0 y1 y2 y3 y4 y5 y6 y7 y8 y9) (nunciolaw08_QueryTime.j1 (k + 1) y0 y1 y2 y3 y4 y5 y6 y7 y8 y9))
 | 0 => ⟨fun _ _ _ _ _ _ _ _ r h => by simp [nunciolaw08_QueryTime.j0] at h, fun _ _ _ _ _ _ _ _ _ _ r h => by simp [nunciolaw08_QueryTime.j1] at h⟩
 | k + 1 => by
  obtain ⟨ih0,ih1⟩:=nunciolaw08_QueryTime.mono_l k
  refine ⟨?_,?_⟩
  ·
   intro y0 y1 y2 y3 y4 y5 y6 y7
   unfold nunciolaw08_QueryTime.j0
   repeat' first
   | (with_reducible exact ih0 _ _ _ _ _ _ _ _)
   | (with_reducible exact ih1 _ _ _ _ _ _ _ _ _ _)
   | (with_reducible exact nunciolaw07_Few.mono _ _ _ _ _ _ _)
   | (with_reducible exact nunciolaw08_awake.mono _)
   | (with_reducible exact nuncioref06_Same.mono _ _ _ _ _ _ _ _ _ _ _ _ _)
   | (with_reducible exact query_Age.mono _ _ _ _ _ _ _ _)
   | (with_reducible exact LeO.refl _)
   | (with_reducible exact LeO.none _)
   | (with_reducible refine LeO.ite ?_ ?_)
   | (with_reducible refine LeO.bind ?_ (fun _ => ?_))
   | exact ih0 _ _ _ _ _ _ _ _
   | exact ih1 _ _ _ _ _ _ _ _ _ _
   | exact nunciolaw07_Few.mono _ _ _ _ _ _ _
   | exact nunciolaw08_awake.mono _
   | exact nuncioref06_Same.mono _ _ _ _ _ _ _ _ _ _ _ _ _
   | exact query_Age.mono _ _ _ _ _ _ _ _
   | exact LeO.none _
   | refine LeO.ite ?_ ?_
   | refine LeO.bind ?_ (fun _ => ?_)
  ·
   intro y0 y1 y2 y3 y4 y5 y6 y7 y8 y9
   unfold nunciolaw08_QueryTime.j1
   repeat' first
   | (with_reducible exact ih0 _ _ _ _ _ _ _ _)
   | (with_reducible exact ih1 _ _ _ _ _ _ _ _ _ _)
   | (with_reducible exact nunciolaw07_Few.mono _ _ _ _ _ _ _)
   | (with_reducible exact nunciolaw08_awake.mono _)
   | (with_reducible exact nuncioref06_Same.mono _ _ _ _ _ _ _ _ _ _ _ _ _)
   | (with_reducible exact query_Age.mono _ _ _ _ _ _ _ _)
   | (with_reducible exact LeO.refl _)
   | (with_reducible exact LeO.none _)
   | (with_reducible refine LeO.ite ?_ ?_)
   | (with_reducible refine LeO.bind ?_ (fun _ => ?_))
   | exact ih0 _ _ _ _ _ _ _ _
   | exact ih1 _ _ _ _ _ _ _ _ _ _
   | exact nunciolaw07_Few.mono _ _ _ _ _ _ _
   | exact nunciolaw08_awake.mono _
   | exact nuncioref06_Same.mono _ _ _ _ _ _ _ _ _ _ _ _ _
   | exact query_Age.mono _ _ _ _ _ _ _ _
   | exact LeO.none _
   | refine LeO.ite ?_ ?_
   | refine LeO.bind ?_ (fun _ => ?_)
theorem nunciolaw08_QueryTime.mono : ∀ a0 a1 a2 a3 a4 a5 a6 a7 k, LeO (nunciolaw08_QueryTime.f k a0 a1 a2 a3 a4 a5 a6 a7) (nunciolaw08_QueryTime.f (k + 1) a0 a1 a2 a3 a4 a5 a6 a7) := by
 intro a0 a1 a2 a3 a4 a5 a6 a7 k
 obtain ⟨ih0,ih1⟩:=nunciolaw08_QueryTime.mono_l k
 unfold nunciolaw08_QueryTime.f
 repeat' first
   | (with_reducible exact ih0 _ _ _ _ _ _ _ _)
   | (with_reducible exact ih1 _ _ _ _ _ _ _ _ _ _)
   | (with_reducible exact nunciolaw07_Few.mono _ _ _ _ _ _ _)
   | (with_reducible exact nunciolaw08_awake.mono _)
   | (with_reducible exact nuncioref06_Same.mono _ _ _ _ _ _ _ _ _ _ _ _ _)
   | (with_reducible exact query_Age.mono _ _ _ _ _ _ _ _)
   | (with_reducible exact LeO.refl _)
   | (with_reducible exact LeO.none _)
   | (with_reducible refine LeO.ite ?_ ?_)
   | (with_reducible refine LeO.bind ?_ (fun _ => ?_))
   | exact ih0 _ _ _ _ _ _ _ _
   | exact ih1 _ _ _ _ _ _ _ _ _ _
   | exact nunciolaw07_Few.mono _ _ _ _ _ _ _
   | exact nunciolaw08_awake.mono _
   | exact nuncioref06_Same.mono _ _ _ _ _ _ _ _ _ _ _ _ _
   | exact query_Age.mono _ _ _ _ _ _ _ _
   | exact LeO.none _
   | refine LeO.ite ?_ ?_
   | refine LeO.bind ?_ (fun _ => ?_)
def nunciolaw08_QueryTime.T6 : Bool × List (List Nat × List Nat) := (true, [([], []), ([], []), ([], []), ([], []), ([2, 3], [2, 3]), ([1, 4, 4], [1, 4]), ([0, 5, 5], [0, 5]), ([6], [6]), ([7, 6], [7]), ([8], [8]), ([9, 8, 8], [8, 9]), ([8], [8]), ([10, 11, 10, 8], [8, 10, 11]), ([12, 8], [8, 12]), ([8, 13], [8, 13])])
def nunciolaw08_QueryTime.B6 : List Nat := [0, 0, 0, 0, 12, 30, 63, 127, 255, 511, 1023, 511, 4095, 8191, 16383]
theorem nunciolaw08_QueryTime.tab6 : rtab .any (opsOf Try.f7 6) = nunciolaw08_QueryTime.T6 := by kernel_rfl
theorem nunciolaw08_QueryTime.bits6 : waitsOk nunciolaw08_QueryTime.T6.2 nunciolaw08_QueryTime.B6 = true := by kernel_rfl
def nunciolaw08_QueryTime.T8 : Bool × List (List Nat × List Nat) := (true, [([], []), ([0], [0]), ([], []), ([], []), ([2, 3, 1], [2, 3]), ([4, 4], [4]), ([1, 5, 0, 1], [1]), ([5, 6, 0, 1, 2, 3, 4, 5, 6], [5])])
def nunciolaw08_QueryTime.B8 : List Nat := [0, 1, 0, 0, 15, 31, 63, 127]
theorem nunciolaw08_QueryTime.tab8 : rtab .any (opsOf Try.f7 8) = nunciolaw08_QueryTime.T8 := by kernel_rfl
theorem nunciolaw08_QueryTime.bits8 : waitsOk nunciolaw08_QueryTime.T8.2 nunciolaw08_QueryTime.B8 = true := by kernel_rfl
def nunciolaw08_QueryTime.T9 : Bool × List (List Nat × List Nat) := (true, [([], []), ([], []), ([0, 1], [0, 1]), ([2], [2]), ([3], [3]), ([4, 3, 3], [3, 4]), ([3], [3]), ([3], [3]), ([6, 7, 5, 3], [3, 6, 7]), ([8, 8, 3], [3, 8]), ([5, 9, 3], [3, 5, 9]), ([3, 10], [3, 10])])
def nunciolaw08_QueryTime.B9 : List Nat := [0, 0, 3, 7, 15, 31, 15, 15, 255, 511, 1023, 2047]
theorem nunciolaw08_QueryTime.tab9 : rtab .any (opsOf Try.f7 9) = nunciolaw08_QueryTime.T9 := by kernel_rfl
theorem nunciolaw08_QueryTime.bits9 : waitsOk nunciolaw08_QueryTime.T9.2 nunciolaw08_QueryTime.B9 = true := by kernel_rfl
set_option maxHeartbeats 8000000 in
set_option maxRecDepth 100000 in
theorem nunciolaw08_QueryTime.calls (k : Nat) (a0_0 : Int) (a0_1 : Int) (A0_2 : Option Addr) (c0_2 : Nat) (l0_2 : List (S53)) (A0_3 : Option Addr) (c0_3 : Nat) (l0_3 : List (S51)) (A0_4 : Option Addr) (c0_4 : Nat) (l0_4 : List (S51)) (A0_5 : Option Addr) (c0_5 : Nat) (l0_5 : List (S51)) (a1 : Int) (a2 : Int) (r : Bool) (w : World) (hr0_2 : Kd.C k53 w A0_2 l0_2.length l0_2) (hc0_2 : l0_2.length ≤ c0_2) (hr0_3 : Kd.C k51 w A0_3 l0_3.length l0_3) (hc0_3 : l0_3.length ≤ c0_3) (hr0_4 : Kd.C k51 w A0_4 l0_4.length l0_4) (hc0_4 : l0_4.length ≤ c0_4) (hr0_5 : Kd.C k51 w A0_5 l0_5.length l0_5) (hc0_5 : l0_5.length ≤ c0_5) (h : nunciolaw08_QueryTime.f k a0_0 a0_1 l0_2 l0_3 l0_4 l0_5 a1 a2 = some r) (hT : r = true) :
  Calls Try.prog 7 #[.agg #[.int .u16 a0_0,.int .u16 a0_1,.slice A0_2 l0_2.length c0_2,.slice A0_3 l0_3.length c0_3,.slice A0_4 l0_4.length c0_4,.slice A0_5 l0_5.length c0_5],.int .u64 a1,.int .u64 a2] w fun e w' => e = .returned (.bool r)∧Below w.heap.size w w':=by
 have hu26:=Try.underlying26
 have HR0_2:=Aside0.mk hr0_2
 have HC0_2:=Aside0.mk hc0_2
 clear hr0_2 hc0_2
 have HR0_3:=Aside0.mk hr0_3
 have HC0_3:=Aside0.mk hc0_3
 clear hr0_3 hc0_3
 have HR0_4:=Aside0.mk hr0_4
 have HC0_4:=Aside0.mk hc0_4
 clear hr0_4 hc0_4
 have HR0_5:=Aside0.mk hr0_5
 have HC0_5:=Aside0.mk hc0_5
 clear hr0_5 hc0_5
 have HB:=Aside0.mk (Below.refl w.heap.size w)
 have HT:=Aside0.mk hT
 clear hT
 have H : ((nunciolaw08_awake.f k).bind fun t475 => (if t475 = true then ((nunciolaw07_Few.f k a0_0 a0_1 l0_2 l0_3 l0_4 l0_5).bind fun t476 => (if t476 = true then ((query_Age.f k a0_0 a0_1 l0_2 l0_3 l0_4 l0_5 a1).bind fun bt477 => ((query_Age.f k bt477.1 bt477.2.1 bt477.2.2.1 bt477.2.2.2.1 bt477.2.2.2.2.1 bt477.2.2.2.2.2 a2).bind fun bt491 => ((nuncioref01_Add64.f a1 a2).bind fun t506 => ((query_Age.f k a0_0 a0_1 l0_2 l0_3 l0_4 l0_5 t506).bind fun bt507 => ((nuncioref06_Same.f k bt491.1 bt491.2.1 bt491.2.2.1 bt491.2.2.2.1 bt491.2.2.2.2.1 bt491.2.2.2.2.2 bt507.1 bt507.2.1 bt507.2.2.1 bt507.2.2.2.1 bt507.2.2.2.2.1 bt507.2.2.2.2.2).bind fun t521 => (if t521 = true then ((query_Age.f k a0_0 a0_1 l0_2 l0_3 l0_4 l0_5 0).bind fun bt522 => ((nuncioref06_Same.f k bt522.1 bt522.2.1 bt522.2.2.1 bt522.2.2.2.1 bt522.2.2.2.2.1 bt522.2.2.2.2.2 a0_0 a0_1 l0_2 l0_3 l0_4 l0_5).bind fun t536 => (nunciolaw08_QueryTime.j0 k a1 (!t536) a0_0 a0_1 l0_2 l0_3 l0_4 l0_5))) else (nunciolaw08_QueryTime.j0 k a1 true a0_0 a0_1 l0_2 l0_3 l0_4 l0_5))))))) else (some true))) else (some false))) = some r:=h
 clear h
 replace H:=Option.bind_eq_some_iff.mp H
 obtain ⟨t475,A40,H⟩:=H
 replace H : (if t475 = true then ((nunciolaw07_Few.f k a0_0 a0_1 l0_2 l0_3 l0_4 l0_5).bind fun t476 => (if t476 = true then ((query_Age.f k a0_0 a0_1 l0_2 l0_3 l0_4 l0_5 a1).bind fun bt477 => ((query_Age.f k bt477.1 bt477.2.1 bt477.2.2.1 bt477.2.2.2.1 bt477.2.2.2.2.1 bt477.2.2.2.2.2 a2).bind fun bt491 => ((nuncioref01_Add64.f a1 a2).bind fun t506 => ((query_Age.f k a0_0 a0_1 l0_2 l0_3 l0_4 l0_5 t506).bind fun bt507 => ((nuncioref06_Same.f k bt491.1 bt491.2.1 bt491.2.2.1 bt491.2.2.2.1 bt491.2.2.2.2.1 bt491.2.2.2.2.2 bt507.1 bt507.2.1 bt507.2.2.1 bt507.2.2.2.1 bt507.2.2.2.2.1 bt507.2.2.2.2.2).bind fun t521 => (if t521 = true then ((query_Age.f k a0_0 a0_1 l0_2 l0_3 l0_4 l0_5 0).bind fun bt522 => ((nuncioref06_Same.f k bt522.1 bt522.2.1 bt522.2.2.1 bt522.2.2.2.1 bt522.2.2.2.2.1 bt522.2.2.2.2.2 a0_0 a0_1 l0_2 l0_3 l0_4 l0_5).bind fun t536 => (nunciolaw08_QueryTime.j0 k a1 (!t536) a0_0 a0_1 l0_2 l0_3 l0_4 l0_5))) else (nunciolaw08_QueryTime.j0 k a1 true a0_0 a0_1 l0_2 l0_3 l0_4 l0_5))))))) else (some true))) else (some false)) = some r:=H
 have A4:=Aside0.mk A40
 clear A40
 by_cases c5 : t475 = true
 rotate_left
 ·
  replace c5:=Bool.eq_false_iff.mpr c5
  subst c5
  have H1 : (some false) = some r:=by rw [if_neg (show ¬ (false = true) by decide)] at H;exact H
  clear H
  have H:=H1
  clear H1
  exact absurd ((Option.some.inj H).trans HT.out) (by decide)
 subst c5
 have H1 : ((nunciolaw07_Few.f k a0_0 a0_1 l0_2 l0_3 l0_4 l0_5).bind fun t476 => (if t476 = true then ((query_Age.f k a0_0 a0_1 l0_2 l0_3 l0_4 l0_5 a1).bind fun bt477 => ((query_Age.f k bt477.1 bt477.2.1 bt477.2.2.1 bt477.2.2.2.1 bt477.2.2.2.2.1 bt477.2.2.2.2.2 a2).bind fun bt491 => ((nuncioref01_Add64.f a1 a2).bind fun t506 => ((query_Age.f k a0_0 a0_1 l0_2 l0_3 l0_4 l0_5 t506).bind fun bt507 => ((nuncioref06_Same.f k bt491.1 bt491.2.1 bt491.2.2.1 bt491.2.2.2.1 bt491.2.2.2.2.1 bt491.2.2.2.2.2 bt507.1 bt507.2.1 bt507.2.2.1 bt507.2.2.2.1 bt507.2.2.2.2.1 bt507.2.2.2.2.2).bind fun t521 => (if t521 = true then ((query_Age.f k a0_0 a0_1 l0_2 l0_3 l0_4 l0_5 0).bind fun bt522 => ((nuncioref06_Same.f k bt522.1 bt522.2.1 bt522.2.2.1 bt522.2.2.2.1 bt522.2.2.2.2.1 bt522.2.2.2.2.2 a0_0 a0_1 l0_2 l0_3 l0_4 l0_5).bind fun t536 => (nunciolaw08_QueryTime.j0 k a1 (!t536) a0_0 a0_1 l0_2 l0_3 l0_4 l0_5))) else (nunciolaw08_QueryTime.j0 k a1 true a0_0 a0_1 l0_2 l0_3 l0_4 l0_5))))))) else (some true))) = some r:=by rw [if_pos rfl] at H;exact H
 clear H
 have H:=H1
 clear H1
 replace H:=Option.bind_eq_some_iff.mp H
 obtain ⟨t476,A60,H⟩:=H
 replace H : (if t476 = true then ((query_Age.f k a0_0 a0_1 l0_2 l0_3 l0_4 l0_5 a1).bind fun bt477 => ((query_Age.f k bt477.1 bt477.2.1 bt477.2.2.1 bt477.2.2.2.1 bt477.2.2.2.2.1 bt477.2.2.2.2.2 a2).bind fun bt491 => ((nuncioref01_Add64.f a1 a2).bind fun t506 => ((query_Age.f k a0_0 a0_1 l0_2 l0_3 l0_4 l0_5 t506).bind fun bt507 => ((nuncioref06_Same.f k bt491.1 bt491.2.1 bt491.2.2.1 bt491.2.2.2.1 bt491.2.2.2.2.1 bt491.2.2.2.2.2 bt507.1 bt507.2.1 bt507.2.2.1 bt507.2.2.2.1 bt507.2.2.2.2.1 bt507.2.2.2.2.2).bind fun t521 => (if t521 = true then ((query_Age.f k a0_0 a0_1 l0_2 l0_3 l0_4 l0_5 0).bind fun bt522 => ((nuncioref06_Same.f k bt522.1 bt522.2.1 bt522.2.2.1 bt522.2.2.2.1 bt522.2.2.2.2.1 bt522.2.2.2.2.2 a0_0 a0_1 l0_2 l0_3 l0_4 l0_5).bind fun t536 => (nunciolaw08_QueryTime.j0 k a1 (!t536) a0_0 a0_1 l0_2 l0_3 l0_4 l0_5))) else (nunciolaw08_QueryTime.j0 k a1 true a0_0 a0_1 l0_2 l0_3 l0_4 l0_5))))))) else (some true)) = some r:=H
 have A6:=Aside0.mk A60
 clear A60
 by_cases c7 : t476 = true
 rotate_left
 ·
  replace c7:=Bool.eq_false_iff.mpr c7
  subst c7
  have H1 : (some true) = some r:=by rw [if_neg (show ¬ (false = true) by decide)] at H;exact H
  clear H
  have H:=H1
  clear H1
  obtain rfl:=Option.some.inj H
  go_enter Try.func7,Try.ntmps7
  go_wp2_with (first|((with_reducible refine gate_dst (N:=3) rfl ?_);refine box_event ?hg (N:=3) ?hd (cs:=#[.int .u16 a0_0,.int .u16 a0_1,.slice A0_2 l0_2.length c0_2,.slice A0_3 l0_3.length c0_3,.slice A0_4 l0_4.length c0_4,.slice A0_5 l0_5.length c0_5]) (t:=26) ?hr ?_;(case hd => rfl);(case hg => rfl);(case hr => first|(go_simp;done)|(go_simp;rfl));intro gb474 hg w96 hbox hb;have n0_:=Aside0.mk (below_step (by repeat (first|(with_reducible first|exact HB.out|apply qqf|apply qqd|apply qqe)|exact HB.out)) hb);have n1_:=Aside0.mk (hbox);have n2_:=Aside0.mk ((by rw [hg];exact (below_size (by repeat (first|(with_reducible first|exact HB.out|apply qqf|apply qqd|apply qqe)|exact HB.out))) : w.heap.size ≤ gb474));have n3_:=Aside0.mk ((by rw [hg];exact (below_size (by repeat (first|(with_reducible first|exact HB.out|apply qqf|apply qqd|apply qqe)|exact HB.out))) : w.heap.size ≤ gb474));clear HB;have HB:=n0_;have BK474:=n1_;have GW474:=n2_;have GE474:=n3_;clear n0_ n1_ n2_ n3_;clear hb hbox hg)|((with_reducible refine gate_callee (f:=9) rfl ?_);refine goesL_ (some 10) rfl rfl Try.func9 (by kernel_rfl) rfl #[] rfl (by (try simp only [List.map_toArray,List.map_cons,List.map_nil]);first|done|rfl|(simp only [List.length_drop,List.length_take];rfl)) ?_;(with_reducible refine (nunciolaw08_awake.calls k  true _ A4.out).mono ?_);rintro e w97 ⟨rfl,hb⟩;refine ⟨_,rfl,?_⟩;have n0_:=Aside0.mk (blk_below (g:=gb474) (o:=.cells #[.int .u16 a0_0,.int .u16 a0_1,.slice A0_2 l0_2.length c0_2,.slice A0_3 l0_3.length c0_3,.slice A0_4 l0_4.length c0_4,.slice A0_5 l0_5.length c0_5] 26 (0,0)) (by (with_reducible repeat first|apply qqa|apply qqb|apply qqc);exact BK474.out) hb);have n1_:=Aside0.mk (below_step (by repeat (first|(with_reducible first|exact HB.out|apply qqf|apply qqd|apply qqe|refine qqg ?_ GE474.out)|exact HB.out)) hb);clear BK474;clear HB;have BK474:=n0_;have HB:=n1_;clear n0_ n1_;(try clear hb);(try clear hb2);(try clear hk);(try clear hi);have hcz98_0 : w97.cell? ⟨gb474,0,none⟩ = some (.int .u16 a0_0):=(qqh BK474.out 0).trans rfl;have hcz98_1 : w97.cell? ⟨gb474,1,none⟩ = some (.int .u16 a0_1):=(qqh BK474.out 1).trans rfl;have hcz98_2 : w97.cell? ⟨gb474,2,none⟩ = some (.slice A0_2 l0_2.length c0_2):=(qqh BK474.out 2).trans rfl;have hcz98_3 : w97.cell? ⟨gb474,3,none⟩ = some (.slice A0_3 l0_3.length c0_3):=(qqh BK474.out 3).trans rfl;have hcz98_4 : w97.cell? ⟨gb474,4,none⟩ = some (.slice A0_4 l0_4.length c0_4):=(qqh BK474.out 4).trans rfl;have hcz98_5 : w97.cell? ⟨gb474,5,none⟩ = some (.slice A0_5 l0_5.length c0_5):=(qqh BK474.out 5).trans rfl;have hfz98_0:=qqi BK474.out 0;have hfz98_1:=qqi BK474.out 1;have hfz98_2:=qqi BK474.out 2;have hfz98_3:=qqi BK474.out 3;have hfz98_4:=qqi BK474.out 4;have hfz98_5:=qqi BK474.out 5)|((with_reducible refine gate_callee (f:=10) rfl ?_);refine goesL_ (some 13) rfl rfl Try.func10 (by kernel_rfl) rfl #[.agg #[.int .u16 a0_0,.int .u16 a0_1,.slice A0_2 l0_2.length c0_2,.slice A0_3 l0_3.length c0_3,.slice A0_4 l0_4.length c0_4,.slice A0_5 l0_5.length c0_5]] rfl (by (try simp only [List.map_toArray,List.map_cons,List.map_nil]);first|done|rfl|(simp only [List.length_drop,List.length_take];rfl)) ?_;(with_reducible refine (nunciolaw07_Few.calls k a0_0 a0_1 _ _ l0_2 _ _ l0_3 _ _ l0_4 _ _ l0_5 false _ ?side1 ?side2 ?side3 ?side4 ?side5 ?side6 ?side7 ?side8 A6.out).mono ?_);(case side1 => repeat (first|exact (Kd.C_below HR0_2.out HB.out)|(with_reducible refine Kd.C_alloc ?_ _)|(with_reducible refine Kd.C_drewN ?_ _)|(with_reducible refine Kd.C_drew ?_)));(case side2 => exact HC0_2.out);(case side3 => repeat (first|exact (Kd.C_below HR0_3.out HB.out)|(with_reducible refine Kd.C_alloc ?_ _)|(with_reducible refine Kd.C_drewN ?_ _)|(with_reducible refine Kd.C_drew ?_)));(case side4 => exact HC0_3.out);(case side5 => repeat (first|exact (Kd.C_below HR0_4.out HB.out)|(with_reducible refine Kd.C_alloc ?_ _)|(with_reducible refine Kd.C_drewN ?_ _)|(with_reducible refine Kd.C_drew ?_)));(case side6 => exact HC0_4.out);(case side7 => repeat (first|exact (Kd.C_below HR0_5.out HB.out)|(with_reducible refine Kd.C_alloc ?_ _)|(with_reducible refine Kd.C_drewN ?_ _)|(with_reducible refine Kd.C_drew ?_)));(case side8 => exact HC0_5.out);rintro e w99 ⟨rfl,hb⟩;refine ⟨_,rfl,?_⟩;have n0_:=Aside0.mk (blk_below (g:=gb474) (o:=.cells #[.int .u16 a0_0,.int .u16 a0_1,.slice A0_2 l0_2.length c0_2,.slice A0_3 l0_3.length c0_3,.slice A0_4 l0_4.length c0_4,.slice A0_5 l0_5.length c0_5] 26 (0,0)) (by (with_reducible repeat first|apply qqa|apply qqb|apply qqc);exact BK474.out) hb);have n1_:=Aside0.mk (below_step (by repeat (first|(with_reducible first|exact HB.out|apply qqf|apply qqd|apply qqe|refine qqg ?_ GE474.out)|exact HB.out)) hb);clear BK474;clear HB;have BK474:=n0_;have HB:=n1_;clear n0_ n1_;(try clear hb);(try clear hb2);(try clear hk);(try clear hi)))
  go_ret
  exact ⟨by first|rfl|(simp [errW_none,errW_some] <;> rfl)|(simp [*,errW_none,errW_some] <;> rfl),by repeat (first|(with_reducible first|exact HB.out|apply qqf|apply qqd|apply qqe|refine qqg ?_ GE474.out)|exact HB.out)⟩
 subst c7
 have H1 : ((query_Age.f k a0_0 a0_1 l0_2 l0_3 l0_4 l0_5 a1).bind fun bt477 => ((query_Age.f k bt477.1 bt477.2.1 bt477.2.2.1 bt477.2.2.2.1 bt477.2.2.2.2.1 bt477.2.2.2.2.2 a2).bind fun bt491 => ((nuncioref01_Add64.f a1 a2).bind fun t506 => ((query_Age.f k a0_0 a0_1 l0_2 l0_3 l0_4 l0_5 t506).bind fun bt507 => ((nuncioref06_Same.f k bt491.1 bt491.2.1 bt491.2.2.1 bt491.2.2.2.1 bt491.2.2.2.2.1 bt491.2.2.2.2.2 bt507.1 bt507.2.1 bt507.2.2.1 bt507.2.2.2.1 bt507.2.2.2.2.1 bt507.2.2.2.2.2).bind fun t521 => (if t521 = true then ((query_Age.f k a0_0 a0_1 l0_2 l0_3 l0_4 l0_5 0).bind fun bt522 => ((nuncioref06_Same.f k bt522.1 bt522.2.1 bt522.2.2.1 bt522.2.2.2.1 bt522.2.2.2.2.1 bt522.2.2.2.2.2 a0_0 a0_1 l0_2 l0_3 l0_4 l0_5).bind fun t536 => (nunciolaw08_QueryTime.j0 k a1 (!t536) a0_0 a0_1 l0_2 l0_3 l0_4 l0_5))) else (nunciolaw08_QueryTime.j0 k a1 true a0_0 a0_1 l0_2 l0_3 l0_4 l0_5))))))) = some r:=by rw [if_pos rfl] at H;exact H
 clear H
 have H:=H1
 clear H1
 replace H:=Option.bind_eq_some_iff.mp H
 obtain ⟨⟨t477,t478,t479,t482,t485,t488⟩,A80,H⟩:=H
 replace H : ((query_Age.f k t477 t478 t479 t482 t485 t488 a2).bind fun bt491 => ((nuncioref01_Add64.f a1 a2).bind fun t506 => ((query_Age.f k a0_0 a0_1 l0_2 l0_3 l0_4 l0_5 t506).bind fun bt507 => ((nuncioref06_Same.f k bt491.1 bt491.2.1 bt491.2.2.1 bt491.2.2.2.1 bt491.2.2.2.2.1 bt491.2.2.2.2.2 bt507.1 bt507.2.1 bt507.2.2.1 bt507.2.2.2.1 bt507.2.2.2.2.1 bt507.2.2.2.2.2).bind fun t521 => (if t521 = true then ((query_Age.f k a0_0 a0_1 l0_2 l0_3 l0_4 l0_5 0).bind fun bt522 => ((nuncioref06_Same.f k bt522.1 bt522.2.1 bt522.2.2.1 bt522.2.2.2.1 bt522.2.2.2.2.1 bt522.2.2.2.2.2 a0_0 a0_1 l0_2 l0_3 l0_4 l0_5).bind fun t536 => (nunciolaw08_QueryTime.j0 k a1 (!t536) a0_0 a0_1 l0_2 l0_3 l0_4 l0_5))) else (nunciolaw08_QueryTime.j0 k a1 true a0_0 a0_1 l0_2 l0_3 l0_4 l0_5)))))) = some r:=H
 have A8:=Aside0.mk A80
 clear A80
 replace H:=Option.bind_eq_some_iff.mp H
 obtain ⟨⟨t491,t492,t493,t496,t499,t502⟩,A90,H⟩:=H
 replace H : ((nuncioref01_Add64.f a1 a2).bind fun t506 => ((query_Age.f k a0_0 a0_1 l0_2 l0_3 l0_4 l0_5 t506).bind fun bt507 => ((nuncioref06_Same.f k t491 t492 t493 t496 t499 t502 bt507.1 bt507.2.1 bt507.2.2.1 bt507.2.2.2.1 bt507.2.2.2.2.1 bt507.2.2.2.2.2).bind fun t521 => (if t521 = true then ((query_Age.f k a0_0 a0_1 l0_2 l0_3 l0_4 l0_5 0).bind fun bt522 => ((nuncioref06_Same.f k bt522.1 bt522.2.1 bt522.2.2.1 bt522.2.2.2.1 bt522.2.2.2.2.1 bt522.2.2.2.2.2 a0_0 a0_1 l0_2 l0_3 l0_4 l0_5).bind fun t536 => (nunciolaw08_QueryTime.j0 k a1 (!t536) a0_0 a0_1 l0_2 l0_3 l0_4 l0_5))) else (nunciolaw08_QueryTime.j0 k a1 true a0_0 a0_1 l0_2 l0_3 l0_4 l0_5))))) = some r:=H
 have A9:=Aside0.mk A90
 clear A90
 have HC10:=Aside0.mk H
 clear H
 go_enter Try.func7,Try.ntmps7
 go_upto_region 6 with (first|((with_reducible refine gate_dst (N:=3) rfl ?_);refine box_event ?hg (N:=3) ?hd (cs:=#[.int .u16 a0_0,.int .u16 a0_1,.slice A0_2 l0_2.length c0_2,.slice A0_3 l0_3.length c0_3,.slice A0_4 l0_4.length c0_4,.slice A0_5 l0_5.length c0_5]) (t:=26) ?hr ?_;(case hd => rfl);(case hg => rfl);(case hr => first|(go_simp;done)|(go_simp;rfl));intro gb474 hg w11 hbox hb;have n0_:=Aside0.mk (below_step (by repeat (first|(with_reducible first|exact HB.out|apply qqf|apply qqd|apply qqe)|exact HB.out)) hb);have n1_:=Aside0.mk (hbox);have n2_:=Aside0.mk ((by rw [hg];exact (below_size (by repeat (first|(with_reducible first|exact HB.out|apply qqf|apply qqd|apply qqe)|exact HB.out))) : w.heap.size ≤ gb474));have n3_:=Aside0.mk ((by rw [hg];exact (below_size (by repeat (first|(with_reducible first|exact HB.out|apply qqf|apply qqd|apply qqe)|exact HB.out))) : w.heap.size ≤ gb474));clear HB;have HB:=n0_;have BK474:=n1_;have GW474:=n2_;have GE474:=n3_;clear n0_ n1_ n2_ n3_;clear hb hbox hg)|((with_reducible refine gate_callee (f:=9) rfl ?_);refine goesL_ (some 10) rfl rfl Try.func9 (by kernel_rfl) rfl #[] rfl (by (try simp only [List.map_toArray,List.map_cons,List.map_nil]);first|done|rfl|(simp only [List.length_drop,List.length_take];rfl)) ?_;(with_reducible refine (nunciolaw08_awake.calls k  true _ A4.out).mono ?_);rintro e w12 ⟨rfl,hb⟩;refine ⟨_,rfl,?_⟩;have n0_:=Aside0.mk (blk_below (g:=gb474) (o:=.cells #[.int .u16 a0_0,.int .u16 a0_1,.slice A0_2 l0_2.length c0_2,.slice A0_3 l0_3.length c0_3,.slice A0_4 l0_4.length c0_4,.slice A0_5 l0_5.length c0_5] 26 (0,0)) (by (with_reducible repeat first|apply qqa|apply qqb|apply qqc);exact BK474.out) hb);have n1_:=Aside0.mk (below_step (by repeat (first|(with_reducible first|exact HB.out|apply qqf|apply qqd|apply qqe|refine qqg ?_ GE474.out)|exact HB.out)) hb);clear BK474;clear HB;have BK474:=n0_;have HB:=n1_;clear n0_ n1_;(try clear hb);(try clear hb2);(try clear hk);(try clear hi);have hcz13_0 : w12.cell? ⟨gb474,0,none⟩ = some (.int .u16 a0_0):=(qqh BK474.out 0).trans rfl;have hcz13_1 : w12.cell? ⟨gb474,1,none⟩ = some (.int .u16 a0_1):=(qqh BK474.out 1).trans rfl;have hcz13_2 : w12.cell? ⟨gb474,2,none⟩ = some (.slice A0_2 l0_2.length c0_2):=(qqh BK474.out 2).trans rfl;have hcz13_3 : w12.cell? ⟨gb474,3,none⟩ = some (.slice A0_3 l0_3.length c0_3):=(qqh BK474.out 3).trans rfl;have hcz13_4 : w12.cell? ⟨gb474,4,none⟩ = some (.slice A0_4 l0_4.length c0_4):=(qqh BK474.out 4).trans rfl;have hcz13_5 : w12.cell? ⟨gb474,5,none⟩ = some (.slice A0_5 l0_5.length c0_5):=(qqh BK474.out 5).trans rfl;have hfz13_0:=qqi BK474.out 0;have hfz13_1:=qqi BK474.out 1;have hfz13_2:=qqi BK474.out 2;have hfz13_3:=qqi BK474.out 3;have hfz13_4:=qqi BK474.out 4;have hfz13_5:=qqi BK474.out 5)|((with_reducible refine gate_callee (f:=10) rfl ?_);refine goesL_ (some 13) rfl rfl Try.func10 (by kernel_rfl) rfl #[.agg #[.int .u16 a0_0,.int .u16 a0_1,.slice A0_2 l0_2.length c0_2,.slice A0_3 l0_3.length c0_3,.slice A0_4 l0_4.length c0_4,.slice A0_5 l0_5.length c0_5]] rfl (by (try simp only [List.map_toArray,List.map_cons,List.map_nil]);first|done|rfl|(simp only [List.length_drop,List.length_take];rfl)) ?_;(with_reducible refine (nunciolaw07_Few.calls k a0_0 a0_1 _ _ l0_2 _ _ l0_3 _ _ l0_4 _ _ l0_5 true _ ?side1 ?side2 ?side3 ?side4 ?side5 ?side6 ?side7 ?side8 A6.out).mono ?_);(case side1 => repeat (first|exact (Kd.C_below HR0_2.out HB.out)|(with_reducible refine Kd.C_alloc ?_ _)|(with_reducible refine Kd.C_drewN ?_ _)|(with_reducible refine Kd.C_drew ?_)));(case side2 => exact HC0_2.out);(case side3 => repeat (first|exact (Kd.C_below HR0_3.out HB.out)|(with_reducible refine Kd.C_alloc ?_ _)|(with_reducible refine Kd.C_drewN ?_ _)|(with_reducible refine Kd.C_drew ?_)));(case side4 => exact HC0_3.out);(case side5 => repeat (first|exact (Kd.C_below HR0_4.out HB.out)|(with_reducible refine Kd.C_alloc ?_ _)|(with_reducible refine Kd.C_drewN ?_ _)|(with_reducible refine Kd.C_drew ?_)));(case side6 => exact HC0_4.out);(case side7 => repeat (first|exact (Kd.C_below HR0_5.out HB.out)|(with_reducible refine Kd.C_alloc ?_ _)|(with_reducible refine Kd.C_drewN ?_ _)|(with_reducible refine Kd.C_drew ?_)));(case side8 => exact HC0_5.out);rintro e w14 ⟨rfl,hb⟩;refine ⟨_,rfl,?_⟩;have n0_:=Aside0.mk (blk_below (g:=gb474) (o:=.cells #[.int .u16 a0_0,.int .u16 a0_1,.slice A0_2 l0_2.length c0_2,.slice A0_3 l0_3.length c0_3,.slice A0_4 l0_4.length c0_4,.slice A0_5 l0_5.length c0_5] 26 (0,0)) (by (with_reducible repeat first|apply qqa|apply qqb|apply qqc);exact BK474.out) hb);have n1_:=Aside0.mk (below_step (by repeat (first|(with_reducible first|exact HB.out|apply qqf|apply qqd|apply qqe|refine qqg ?_ GE474.out)|exact HB.out)) hb);clear BK474;clear HB;have BK474:=n0_;have HB:=n1_;clear n0_ n1_;(try clear hb);(try clear hb2);(try clear hk);(try clear hi);have hcz15_0 : w14.cell? ⟨gb474,0,none⟩ = some (.int .u16 a0_0):=(qqh BK474.out 0).trans rfl;have hcz15_1 : w14.cell? ⟨gb474,1,none⟩ = some (.int .u16 a0_1):=(qqh BK474.out 1).trans rfl;have hcz15_2 : w14.cell? ⟨gb474,2,none⟩ = some (.slice A0_2 l0_2.length c0_2):=(qqh BK474.out 2).trans rfl;have hcz15_3 : w14.cell? ⟨gb474,3,none⟩ = some (.slice A0_3 l0_3.length c0_3):=(qqh BK474.out 3).trans rfl;have hcz15_4 : w14.cell? ⟨gb474,4,none⟩ = some (.slice A0_4 l0_4.length c0_4):=(qqh BK474.out 4).trans rfl;have hcz15_5 : w14.cell? ⟨gb474,5,none⟩ = some (.slice A0_5 l0_5.length c0_5):=(qqh BK474.out 5).trans rfl;have hfz15_0:=qqi BK474.out 0;have hfz15_1:=qqi BK474.out 1;have hfz15_2:=qqi BK474.out 2;have hfz15_3:=qqi BK474.out 3;have hfz15_4:=qqi BK474.out 4;have hfz15_5:=qqi BK474.out 5)|((with_reducible refine gate_callee (f:=23) rfl ?_);refine goesL_ (some 17) rfl rfl Try.func23 (by kernel_rfl) rfl #[.agg #[.int .u16 a0_0,.int .u16 a0_1,.slice A0_2 l0_2.length c0_2,.slice A0_3 l0_3.length c0_3,.slice A0_4 l0_4.length c0_4,.slice A0_5 l0_5.length c0_5],.int .u64 a1] rfl (by (try simp only [List.map_toArray,List.map_cons,List.map_nil]);first|done|rfl|(simp only [List.length_drop,List.length_take];rfl)) ?_;(with_reducible refine (query_Age.calls k a0_0 a0_1 _ _ l0_2 _ _ l0_3 _ _ l0_4 _ _ l0_5 a1 t477 t478 t479 t482 t485 t488 _ ?side1 ?side2 ?side3 ?side4 ?side5 ?side6 ?side7 ?side8 A8.out).mono ?_);(case side1 => repeat (first|exact (Kd.C_below HR0_2.out HB.out)|(with_reducible refine Kd.C_alloc ?_ _)|(with_reducible refine Kd.C_drewN ?_ _)|(with_reducible refine Kd.C_drew ?_)));(case side2 => exact HC0_2.out);(case side3 => repeat (first|exact (Kd.C_below HR0_3.out HB.out)|(with_reducible refine Kd.C_alloc ?_ _)|(with_reducible refine Kd.C_drewN ?_ _)|(with_reducible refine Kd.C_drew ?_)));(case side4 => exact HC0_3.out);(case side5 => repeat (first|exact (Kd.C_below HR0_4.out HB.out)|(with_reducible refine Kd.C_alloc ?_ _)|(with_reducible refine Kd.C_drewN ?_ _)|(with_reducible refine Kd.C_drew ?_)));(case side6 => exact HC0_4.out);(case side7 => repeat (first|exact (Kd.C_below HR0_5.out HB.out)|(with_reducible refine Kd.C_alloc ?_ _)|(with_reducible refine Kd.C_drewN ?_ _)|(with_reducible refine Kd.C_drew ?_)));(case side8 => exact HC0_5.out);rintro e w16 ⟨v480,v483,v486,v489,rfl,ho0,ho1,ho2,ho3,hb⟩;refine ⟨_,rfl,?_⟩;have n0_:=Aside0.mk (Kd.R_lower ho0 (below_size (by repeat (first|(with_reducible first|exact HB.out|apply qqf|apply qqd|apply qqe|refine qqg ?_ GE474.out)|exact HB.out))));have n1_:=Aside0.mk (Kd.S_lower ho1 (below_size (by repeat (first|(with_reducible first|exact HB.out|apply qqf|apply qqd|apply qqe|refine qqg ?_ GE474.out)|exact HB.out))));have n2_:=Aside0.mk (Kd.S_lower ho2 (below_size (by repeat (first|(with_reducible first|exact HB.out|apply qqf|apply qqd|apply qqe|refine qqg ?_ GE474.out)|exact HB.out))));have n3_:=Aside0.mk (Kd.S_lower ho3 (below_size (by repeat (first|(with_reducible first|exact HB.out|apply qqf|apply qqd|apply qqe|refine qqg ?_ GE474.out)|exact HB.out))));have n4_:=Aside0.mk (blk_below (g:=gb474) (o:=.cells #[.int .u16 a0_0,.int .u16 a0_1,.slice A0_2 l0_2.length c0_2,.slice A0_3 l0_3.length c0_3,.slice A0_4 l0_4.length c0_4,.slice A0_5 l0_5.length c0_5] 26 (0,0)) (by (with_reducible repeat first|apply qqa|apply qqb|apply qqc);exact BK474.out) hb);have n5_:=Aside0.mk (below_step (by repeat (first|(with_reducible first|exact HB.out|apply qqf|apply qqd|apply qqe|refine qqg ?_ GE474.out)|exact HB.out)) hb);clear BK474;clear HB;have HO481:=n0_;have HO484:=n1_;have HO487:=n2_;have HO490:=n3_;have BK474:=n4_;have HB:=n5_;clear n0_ n1_ n2_ n3_ n4_ n5_;(try clear hb);(try clear hb2);(try clear hk);(try clear hi);(try clear ho0);(try clear ho1);(try clear ho2);(try clear ho3);obtain ⟨Ao17,co17,eo17⟩:=Kd.R_slice HO481.out;subst eo17;obtain ⟨Ao18,co18,eo18⟩:=Kd.S_slice HO484.out;subst eo18;obtain ⟨Ao19,co19,eo19⟩:=Kd.S_slice HO487.out;subst eo19;obtain ⟨Ao20,co20,eo20⟩:=Kd.S_slice HO490.out;subst eo20)|((with_reducible refine gate_callee (f:=23) rfl ?_);refine goesL_ (some 19) rfl rfl Try.func23 (by kernel_rfl) rfl #[.agg #[.int .u16 t477,.int .u16 t478,.slice Ao17 t479.length co17,.slice Ao18 t482.length co18,.slice Ao19 t485.length co19,.slice Ao20 t488.length co20],.int .u64 a2] rfl (by (try simp only [List.map_toArray,List.map_cons,List.map_nil]);first|done|rfl|(simp only [List.length_drop,List.length_take];rfl)) ?_;(with_reducible refine (query_Age.calls k t477 t478 _ _ t479 _ _ t482 _ _ t485 _ _ t488 a2 t491 t492 t493 t496 t499 t502 _ ?side1 ?side2 ?side3 ?side4 ?side5 ?side6 ?side7 ?side8 A9.out).mono ?_);(case side1 => repeat (first|exact (Kd.R_reads' HO481.out).2.2|(with_reducible refine Kd.C_alloc ?_ _)|(with_reducible refine Kd.C_drewN ?_ _)|(with_reducible refine Kd.C_drew ?_)));(case side2 => exact (Kd.R_reads' HO481.out).2.1);(case side3 => repeat (first|exact (Kd.S_reads' HO484.out).2.2|(with_reducible refine Kd.C_alloc ?_ _)|(with_reducible refine Kd.C_drewN ?_ _)|(with_reducible refine Kd.C_drew ?_)));(case side4 => exact (Kd.S_reads' HO484.out).2.1);(case side5 => repeat (first|exact (Kd.S_reads' HO487.out).2.2|(with_reducible refine Kd.C_alloc ?_ _)|(with_reducible refine Kd.C_drewN ?_ _)|(with_reducible refine Kd.C_drew ?_)));(case side6 => exact (Kd.S_reads' HO487.out).2.1);(case side7 => repeat (first|exact (Kd.S_reads' HO490.out).2.2|(with_reducible refine Kd.C_alloc ?_ _)|(with_reducible refine Kd.C_drewN ?_ _)|(with_reducible refine Kd.C_drew ?_)));(case side8 => exact (Kd.S_reads' HO490.out).2.1);rintro e w21 ⟨v494,v497,v500,v503,rfl,ho0,ho1,ho2,ho3,hb⟩;refine ⟨_,rfl,?_⟩;have n0_:=Aside0.mk (Kd.R_elder' (by (with_reducible repeat (first|apply Kd.R_alloc|apply Kd.R_drewN|apply Kd.R_drew));exact HO481.out) (Kd.R_base ho0) hb);have n1_:=Aside0.mk (Kd.S_mono (Kd.S_told (Kd.S_told (Kd.S_told (Kd.S_old (by (with_reducible repeat (first|apply Kd.S_alloc|apply Kd.S_drewN|apply Kd.S_drew));exact HO484.out) hb) (Kd.S_base ho1)) (Kd.S_base ho2)) (Kd.S_base ho3)) (fun _ h_ => h_.1));have n2_:=Aside0.mk (Kd.S_mono (Kd.S_told (Kd.S_told (Kd.S_told (Kd.S_old (by (with_reducible repeat (first|apply Kd.S_alloc|apply Kd.S_drewN|apply Kd.S_drew));exact HO487.out) hb) (Kd.S_base ho1)) (Kd.S_base ho2)) (Kd.S_base ho3)) (fun _ h_ => h_.1));have n3_:=Aside0.mk (Kd.S_mono (Kd.S_told (Kd.S_told (Kd.S_told (Kd.S_old (by (with_reducible repeat (first|apply Kd.S_alloc|apply Kd.S_drewN|apply Kd.S_drew));exact HO490.out) hb) (Kd.S_base ho1)) (Kd.S_base ho2)) (Kd.S_base ho3)) (fun _ h_ => h_.1));have n4_:=Aside0.mk (Kd.R_lower (Kd.R_new' ho0 (Kd.R_lt (by (with_reducible repeat (first|apply Kd.R_alloc|apply Kd.R_drewN|apply Kd.R_drew));exact HO481.out))) (below_size (by repeat (first|(with_reducible first|exact HB.out|apply qqf|apply qqd|apply qqe|refine qqg ?_ GE474.out)|exact HB.out))));have n5_:=Aside0.mk (Kd.S_lower (Kd.S_new' (Kd.S_new' (Kd.S_new' ho1 (Kd.S_lt (by (with_reducible repeat (first|apply Kd.S_alloc|apply Kd.S_drewN|apply Kd.S_drew));exact HO484.out))) (Kd.S_lt (by (with_reducible repeat (first|apply Kd.S_alloc|apply Kd.S_drewN|apply Kd.S_drew));exact HO487.out))) (Kd.S_lt (by (with_reducible repeat (first|apply Kd.S_alloc|apply Kd.S_drewN|apply Kd.S_drew));exact HO490.out))) (below_size (by repeat (first|(with_reducible first|exact HB.out|apply qqf|apply qqd|apply qqe|refine qqg ?_ GE474.out)|exact HB.out))));have n6_:=Aside0.mk (Kd.S_lower (Kd.S_new' (Kd.S_new' (Kd.S_new' ho2 (Kd.S_lt (by (with_reducible repeat (first|apply Kd.S_alloc|apply Kd.S_drewN|apply Kd.S_drew));exact HO484.out))) (Kd.S_lt (by (with_reducible repeat (first|apply Kd.S_alloc|apply Kd.S_drewN|apply Kd.S_drew));exact HO487.out))) (Kd.S_lt (by (with_reducible repeat (first|apply Kd.S_alloc|apply Kd.S_drewN|apply Kd.S_drew));exact HO490.out))) (below_size (by repeat (first|(with_reducible first|exact HB.out|apply qqf|apply qqd|apply qqe|refine qqg ?_ GE474.out)|exact HB.out))));have n7_:=Aside0.mk (Kd.S_lower (Kd.S_new' (Kd.S_new' (Kd.S_new' ho3 (Kd.S_lt (by (with_reducible repeat (first|apply Kd.S_alloc|apply Kd.S_drewN|apply Kd.S_drew));exact HO484.out))) (Kd.S_lt (by (with_reducible repeat (first|apply Kd.S_alloc|apply Kd.S_drewN|apply Kd.S_drew));exact HO487.out))) (Kd.S_lt (by (with_reducible repeat (first|apply Kd.S_alloc|apply Kd.S_drewN|apply Kd.S_drew));exact HO490.out))) (below_size (by repeat (first|(with_reducible first|exact HB.out|apply qqf|apply qqd|apply qqe|refine qqg ?_ GE474.out)|exact HB.out))));have n8_:=Aside0.mk (blk_below (g:=gb474) (o:=.cells #[.int .u16 a0_0,.int .u16 a0_1,.slice A0_2 l0_2.length c0_2,.slice A0_3 l0_3.length c0_3,.slice A0_4 l0_4.length c0_4,.slice A0_5 l0_5.length c0_5] 26 (0,0)) (by (with_reducible repeat first|apply qqa|apply qqb|apply qqc);exact BK474.out) hb);have n9_:=Aside0.mk (below_step (by repeat (first|(with_reducible first|exact HB.out|apply qqf|apply qqd|apply qqe|refine qqg ?_ GE474.out)|exact HB.out)) hb);clear HO481;clear HO484;clear HO487;clear HO490;clear BK474;clear HB;have HO481:=n0_;have HO484:=n1_;have HO487:=n2_;have HO490:=n3_;have HO495:=n4_;have HO498:=n5_;have HO501:=n6_;have HO504:=n7_;have BK474:=n8_;have HB:=n9_;clear n0_ n1_ n2_ n3_ n4_ n5_ n6_ n7_ n8_ n9_;(try clear hb);(try clear hb2);(try clear hk);(try clear hi);(try clear ho0);(try clear ho1);(try clear ho2);(try clear ho3))|((with_reducible refine gate_dst (N:=7) rfl ?_);refine box_event ?hg (N:=7) ?hd (cs:=#[.int .u16 0,.int .u16 0,.slice none 0 0,.slice none 0 0,.slice none 0 0,.slice none 0 0]) (t:=26) ?hr ?_;(case hd => rfl);(case hg => rfl);(case hr => first|(go_simp;done)|(go_simp;rfl));intro gb505 hg w22 hbox hb;have n0_:=Aside0.mk (Kd.R_below (by (with_reducible repeat (first|apply Kd.R_alloc|apply Kd.R_drewN|apply Kd.R_drew));exact HO481.out) hb);have n1_:=Aside0.mk (Kd.S_below (by (with_reducible repeat (first|apply Kd.S_alloc|apply Kd.S_drewN|apply Kd.S_drew));exact HO484.out) hb);have n2_:=Aside0.mk (Kd.S_below (by (with_reducible repeat (first|apply Kd.S_alloc|apply Kd.S_drewN|apply Kd.S_drew));exact HO487.out) hb);have n3_:=Aside0.mk (Kd.S_below (by (with_reducible repeat (first|apply Kd.S_alloc|apply Kd.S_drewN|apply Kd.S_drew));exact HO490.out) hb);have n4_:=Aside0.mk (Kd.R_below (by (with_reducible repeat (first|apply Kd.R_alloc|apply Kd.R_drewN|apply Kd.R_drew));exact HO495.out) hb);have n5_:=Aside0.mk (Kd.S_below (by (with_reducible repeat (first|apply Kd.S_alloc|apply Kd.S_drewN|apply Kd.S_drew));exact HO498.out) hb);have n6_:=Aside0.mk (Kd.S_below (by (with_reducible repeat (first|apply Kd.S_alloc|apply Kd.S_drewN|apply Kd.S_drew));exact HO501.out) hb);have n7_:=Aside0.mk (Kd.S_below (by (with_reducible repeat (first|apply Kd.S_alloc|apply Kd.S_drewN|apply Kd.S_drew));exact HO504.out) hb);have n8_:=Aside0.mk (blk_below (g:=gb474) (o:=.cells #[.int .u16 a0_0,.int .u16 a0_1,.slice A0_2 l0_2.length c0_2,.slice A0_3 l0_3.length c0_3,.slice A0_4 l0_4.length c0_4,.slice A0_5 l0_5.length c0_5] 26 (0,0)) (by (with_reducible repeat first|apply qqa|apply qqb|apply qqc);exact BK474.out) hb);have n9_:=Aside0.mk (below_step (by repeat (first|(with_reducible first|exact HB.out|apply qqf|apply qqd|apply qqe|refine qqg ?_ GE474.out)|exact HB.out)) hb);have n10_:=Aside0.mk (hbox);have n11_:=Aside0.mk ((by rw [hg];exact (below_size (by repeat (first|(with_reducible first|exact HB.out|apply qqf|apply qqd|apply qqe|refine qqg ?_ GE474.out)|exact HB.out))) : w.heap.size ≤ gb505));have n12_:=Aside0.mk ((by rw [hg];exact (below_size (by repeat (first|(with_reducible first|exact HB.out|apply qqf|apply qqd|apply qqe|refine qqg ?_ GE474.out)|exact HB.out))) : w.heap.size ≤ gb505));have n13_:=Aside0.mk ((by rw [hg];exact Nat.ne_of_lt (blk_lt (g:=gb474) (o:=.cells #[.int .u16 a0_0,.int .u16 a0_1,.slice A0_2 l0_2.length c0_2,.slice A0_3 l0_3.length c0_3,.slice A0_4 l0_4.length c0_4,.slice A0_5 l0_5.length c0_5] 26 (0,0)) (by (with_reducible repeat first|apply qqa|apply qqb|apply qqc);exact BK474.out)) : gb474 ≠ gb505));have n14_:=Aside0.mk ((by rw [hg];exact Nat.ne_of_gt (blk_lt (g:=gb474) (o:=.cells #[.int .u16 a0_0,.int .u16 a0_1,.slice A0_2 l0_2.length c0_2,.slice A0_3 l0_3.length c0_3,.slice A0_4 l0_4.length c0_4,.slice A0_5 l0_5.length c0_5] 26 (0,0)) (by (with_reducible repeat first|apply qqa|apply qqb|apply qqc);exact BK474.out)) : gb505 ≠ gb474));clear HO481;clear HO484;clear HO487;clear HO490;clear HO495;clear HO498;clear HO501;clear HO504;clear BK474;clear HB;have HO481:=n0_;have HO484:=n1_;have HO487:=n2_;have HO490:=n3_;have HO495:=n4_;have HO498:=n5_;have HO501:=n6_;have HO504:=n7_;have BK474:=n8_;have HB:=n9_;have BK505:=n10_;have GW505:=n11_;have GE505:=n12_;have NB474_505:=n13_;have NB505_474:=n14_;clear n0_ n1_ n2_ n3_ n4_ n5_ n6_ n7_ n8_ n9_ n10_ n11_ n12_ n13_ n14_;clear hb hbox hg;have hnb23:=NB505_474.out;have hnc23:=NB474_505.out;have hcz24_0 : w22.cell? ⟨gb505,0,none⟩ = some (.int .u16 0):=(qqh BK505.out 0).trans rfl;have hcz24_1 : w22.cell? ⟨gb505,1,none⟩ = some (.int .u16 0):=(qqh BK505.out 1).trans rfl;have hcz24_2 : w22.cell? ⟨gb505,2,none⟩ = some (.slice none 0 0):=(qqh BK505.out 2).trans rfl;have hcz24_3 : w22.cell? ⟨gb505,3,none⟩ = some (.slice none 0 0):=(qqh BK505.out 3).trans rfl;have hcz24_4 : w22.cell? ⟨gb505,4,none⟩ = some (.slice none 0 0):=(qqh BK505.out 4).trans rfl;have hcz24_5 : w22.cell? ⟨gb505,5,none⟩ = some (.slice none 0 0):=(qqh BK505.out 5).trans rfl;have hfz24_0:=qqi BK505.out 0;have hfz24_1:=qqi BK505.out 1;have hfz24_2:=qqi BK505.out 2;have hfz24_3:=qqi BK505.out 3;have hfz24_4:=qqi BK505.out 4;have hfz24_5:=qqi BK505.out 5;obtain ⟨Ao25,co25,eo25⟩:=Kd.R_slice HO495.out;subst eo25;obtain ⟨Ao26,co26,eo26⟩:=Kd.S_slice HO498.out;subst eo26;obtain ⟨Ao27,co27,eo27⟩:=Kd.S_slice HO501.out;subst eo27;obtain ⟨Ao28,co28,eo28⟩:=Kd.S_slice HO504.out;subst eo28))
 (try simp only [Act.put,qqj,qqk,qql])
 go_cut [34] (fun v34 wc => ∃ (kq : Nat) (x34_9 : Bool),v34 = .bool x34_9∧Aside0 (nunciolaw08_QueryTime.j0 kq a1 x34_9 a0_0 a0_1 l0_2 l0_3 l0_4 l0_5 = some r)∧Aside0 (kq ≤ k)∧Aside0 (Kd.R k53 53 wc w.heap.size (fun _ => True) (.slice Ao25 t493.length co25) t493)∧Aside0 (Kd.S k51 51 wc w.heap.size (fun k_ => some k_ ≠ ((.slice Ao27 t499.length co27) : Value).ownBlock∧some k_ ≠ ((.slice Ao28 t502.length co28) : Value).ownBlock) (.slice Ao26 t496.length co26) t496)∧Aside0 (Kd.S k51 51 wc w.heap.size (fun k_ => some k_ ≠ ((.slice Ao26 t496.length co26) : Value).ownBlock∧some k_ ≠ ((.slice Ao28 t502.length co28) : Value).ownBlock) (.slice Ao27 t499.length co27) t499)∧Aside0 (Kd.S k51 51 wc w.heap.size (fun k_ => some k_ ≠ ((.slice Ao26 t496.length co26) : Value).ownBlock∧some k_ ≠ ((.slice Ao27 t499.length co27) : Value).ownBlock) (.slice Ao28 t502.length co28) t502)∧Aside0 (wc.heap[gb474]? = some (.cells #[.int .u16 a0_0,.int .u16 a0_1,(.slice A0_2 l0_2.length c0_2),(.slice A0_3 l0_3.length c0_3),(.slice A0_4 l0_4.length c0_4),(.slice A0_5 l0_5.length c0_5)] 26 (0,0)))∧Aside0 (wc.heap[gb505]? = some (.cells #[.int .u16 t491,.int .u16 t492,(.slice Ao25 t493.length co25),(.slice Ao26 t496.length co26),(.slice Ao27 t499.length co27),(.slice Ao28 t502.length co28)] 26 (0,0)))∧Aside0 (Below w.heap.size w wc))
 case first =>
  have H:=HC10.out
  clear HC10
  replace H:=Option.bind_eq_some_iff.mp H
  obtain ⟨t506,A290,H⟩:=H
  replace H : ((query_Age.f k a0_0 a0_1 l0_2 l0_3 l0_4 l0_5 t506).bind fun bt507 => ((nuncioref06_Same.f k t491 t492 t493 t496 t499 t502 bt507.1 bt507.2.1 bt507.2.2.1 bt507.2.2.2.1 bt507.2.2.2.2.1 bt507.2.2.2.2.2).bind fun t521 => (if t521 = true then ((query_Age.f k a0_0 a0_1 l0_2 l0_3 l0_4 l0_5 0).bind fun bt522 => ((nuncioref06_Same.f k bt522.1 bt522.2.1 bt522.2.2.1 bt522.2.2.2.1 bt522.2.2.2.2.1 bt522.2.2.2.2.2 a0_0 a0_1 l0_2 l0_3 l0_4 l0_5).bind fun t536 => (nunciolaw08_QueryTime.j0 k a1 (!t536) a0_0 a0_1 l0_2 l0_3 l0_4 l0_5))) else (nunciolaw08_QueryTime.j0 k a1 true a0_0 a0_1 l0_2 l0_3 l0_4 l0_5)))) = some r:=H
  have A29:=Aside0.mk A290
  clear A290
  replace H:=Option.bind_eq_some_iff.mp H
  obtain ⟨⟨t507,t508,t509,t512,t515,t518⟩,A300,H⟩:=H
  replace H : ((nuncioref06_Same.f k t491 t492 t493 t496 t499 t502 t507 t508 t509 t512 t515 t518).bind fun t521 => (if t521 = true then ((query_Age.f k a0_0 a0_1 l0_2 l0_3 l0_4 l0_5 0).bind fun bt522 => ((nuncioref06_Same.f k bt522.1 bt522.2.1 bt522.2.2.1 bt522.2.2.2.1 bt522.2.2.2.2.1 bt522.2.2.2.2.2 a0_0 a0_1 l0_2 l0_3 l0_4 l0_5).bind fun t536 => (nunciolaw08_QueryTime.j0 k a1 (!t536) a0_0 a0_1 l0_2 l0_3 l0_4 l0_5))) else (nunciolaw08_QueryTime.j0 k a1 true a0_0 a0_1 l0_2 l0_3 l0_4 l0_5))) = some r:=H
  have A30:=Aside0.mk A300
  clear A300
  replace H:=Option.bind_eq_some_iff.mp H
  obtain ⟨t521,A310,H⟩:=H
  replace H : (if t521 = true then ((query_Age.f k a0_0 a0_1 l0_2 l0_3 l0_4 l0_5 0).bind fun bt522 => ((nuncioref06_Same.f k bt522.1 bt522.2.1 bt522.2.2.1 bt522.2.2.2.1 bt522.2.2.2.2.1 bt522.2.2.2.2.2 a0_0 a0_1 l0_2 l0_3 l0_4 l0_5).bind fun t536 => (nunciolaw08_QueryTime.j0 k a1 (!t536) a0_0 a0_1 l0_2 l0_3 l0_4 l0_5))) else (nunciolaw08_QueryTime.j0 k a1 true a0_0 a0_1 l0_2 l0_3 l0_4 l0_5)) = some r:=H
  have A31:=Aside0.mk A310
  clear A310
  by_cases c32 : t521 = true
  ·
   subst c32
   have H1 : ((query_Age.f k a0_0 a0_1 l0_2 l0_3 l0_4 l0_5 0).bind fun bt522 => ((nuncioref06_Same.f k bt522.1 bt522.2.1 bt522.2.2.1 bt522.2.2.2.1 bt522.2.2.2.2.1 bt522.2.2.2.2.2 a0_0 a0_1 l0_2 l0_3 l0_4 l0_5).bind fun t536 => (nunciolaw08_QueryTime.j0 k a1 (!t536) a0_0 a0_1 l0_2 l0_3 l0_4 l0_5))) = some r:=by rw [if_pos rfl] at H;exact H
   clear H
   have H:=H1
   clear H1
   replace H:=Option.bind_eq_some_iff.mp H
   obtain ⟨⟨t522,t523,t524,t527,t530,t533⟩,A330,H⟩:=H
   replace H : ((nuncioref06_Same.f k t522 t523 t524 t527 t530 t533 a0_0 a0_1 l0_2 l0_3 l0_4 l0_5).bind fun t536 => (nunciolaw08_QueryTime.j0 k a1 (!t536) a0_0 a0_1 l0_2 l0_3 l0_4 l0_5)) = some r:=H
   have A33:=Aside0.mk A330
   clear A330
   replace H:=Option.bind_eq_some_iff.mp H
   obtain ⟨t536,A340,H⟩:=H
   replace H : (nunciolaw08_QueryTime.j0 k a1 (!t536) a0_0 a0_1 l0_2 l0_3 l0_4 l0_5) = some r:=H
   have A34:=Aside0.mk A340
   clear A340
   have H':=Aside0.mk H
   clear H
   try go_wp2
   have n0_ : Aside0 (Kd.R k53 53 ((((((w22.setCell ⟨gb505,0,none⟩ (.int .u16 t491)).setCell ⟨gb505,1,none⟩ (.int .u16 t492)).setCell ⟨gb505,2,none⟩ (.slice Ao25 t493.length co25)).setCell ⟨gb505,3,none⟩ (.slice Ao26 t496.length co26)).setCell ⟨gb505,4,none⟩ (.slice Ao27 t499.length co27)).setCell ⟨gb505,5,none⟩ (.slice Ao28 t502.length co28)) w.heap.size (fun k_ => some k_ ≠ (.slice Ao25 t493.length co25 : Value).ownBlock) (.slice Ao17 t479.length co17) t479):=⟨by (with_reducible repeat (first|apply Kd.R_alloc|apply Kd.R_drewN|apply Kd.R_drew));exact Kd.R_mono (Kd.R_far (p:=⟨gb505,5,none⟩) (Kd.R_far (p:=⟨gb505,4,none⟩) (Kd.R_far (p:=⟨gb505,3,none⟩) (Kd.R_far (p:=⟨gb505,2,none⟩) (Kd.R_far (p:=⟨gb505,1,none⟩) (Kd.R_far (p:=⟨gb505,0,none⟩) (Kd.R_types HO481.out BK505.out (by decide)) (fun _ hk => hk.2) (.int .u16 t491)) (fun _ hk => hk.2) (.int .u16 t492)) (fun _ hk => hk.2) (.slice Ao25 t493.length co25)) (fun _ hk => hk.2) (.slice Ao26 t496.length co26)) (fun _ hk => hk.2) (.slice Ao27 t499.length co27)) (fun _ hk => hk.2) (.slice Ao28 t502.length co28)) (fun _ hk => hk.1.2)⟩
   have n1_ : Aside0 (Kd.S k51 51 ((((((w22.setCell ⟨gb505,0,none⟩ (.int .u16 t491)).setCell ⟨gb505,1,none⟩ (.int .u16 t492)).setCell ⟨gb505,2,none⟩ (.slice Ao25 t493.length co25)).setCell ⟨gb505,3,none⟩ (.slice Ao26 t496.length co26)).setCell ⟨gb505,4,none⟩ (.slice Ao27 t499.length co27)).setCell ⟨gb505,5,none⟩ (.slice Ao28 t502.length co28)) w.heap.size (fun k_ => some k_ ≠ (.slice Ao19 t485.length co19 : Value).ownBlock∧some k_ ≠ (.slice Ao20 t488.length co20 : Value).ownBlock∧some k_ ≠ (.slice Ao26 t496.length co26 : Value).ownBlock∧some k_ ≠ (.slice Ao27 t499.length co27 : Value).ownBlock∧some k_ ≠ (.slice Ao28 t502.length co28 : Value).ownBlock) (.slice Ao18 t482.length co18) t482):=⟨by (with_reducible repeat (first|apply Kd.S_alloc|apply Kd.S_drewN|apply Kd.S_drew));exact Kd.S_mono (Kd.S_far (p:=⟨gb505,5,none⟩) (Kd.S_far (p:=⟨gb505,4,none⟩) (Kd.S_far (p:=⟨gb505,3,none⟩) (Kd.S_far (p:=⟨gb505,2,none⟩) (Kd.S_far (p:=⟨gb505,1,none⟩) (Kd.S_far (p:=⟨gb505,0,none⟩) (Kd.S_types HO484.out BK505.out (by decide)) (fun _ hk => hk.2) (.int .u16 t491)) (fun _ hk => hk.2) (.int .u16 t492)) (fun _ hk => hk.2) (.slice Ao25 t493.length co25)) (fun _ hk => hk.2) (.slice Ao26 t496.length co26)) (fun _ hk => hk.2) (.slice Ao27 t499.length co27)) (fun _ hk => hk.2) (.slice Ao28 t502.length co28)) (fun _ hk => ⟨hk.1.1.1.1.1,⟨hk.1.1.1.1.2,⟨hk.1.1.1.2,⟨hk.1.1.2,hk.1.2⟩⟩⟩⟩)⟩
   have n2_ : Aside0 (Kd.S k51 51 ((((((w22.setCell ⟨gb505,0,none⟩ (.int .u16 t491)).setCell ⟨gb505,1,none⟩ (.int .u16 t492)).setCell ⟨gb505,2,none⟩ (.slice Ao25 t493.length co25)).setCell ⟨gb505,3,none⟩ (.slice Ao26 t496.length co26)).setCell ⟨gb505,4,none⟩ (.slice Ao27 t499.length co27)).setCell ⟨gb505,5,none⟩ (.slice Ao28 t502.length co28)) w.heap.size (fun k_ => some k_ ≠ (.slice Ao18 t482.length co18 : Value).ownBlock∧some k_ ≠ (.slice Ao20 t488.length co20 : Value).ownBlock∧some k_ ≠ (.slice Ao26 t496.length co26 : Value).ownBlock∧some k_ ≠ (.slice Ao27 t499.length co27 : Value).ownBlock∧some k_ ≠ (.slice Ao28 t502.length co28 : Value).ownBlock) (.slice Ao19 t485.length co19) t485):=⟨by (with_reducible repeat (first|apply Kd.S_alloc|apply Kd.S_drewN|apply Kd.S_drew));exact Kd.S_mono (Kd.S_far (p:=⟨gb505,5,none⟩) (Kd.S_far (p:=⟨gb505,4,none⟩) (Kd.S_far (p:=⟨gb505,3,none⟩) (Kd.S_far (p:=⟨gb505,2,none⟩) (Kd.S_far (p:=⟨gb505,1,none⟩) (Kd.S_far (p:=⟨gb505,0,none⟩) (Kd.S_types HO487.out BK505.out (by decide)) (fun _ hk => hk.2) (.int .u16 t491)) (fun _ hk => hk.2) (.int .u16 t492)) (fun _ hk => hk.2) (.slice Ao25 t493.length co25)) (fun _ hk => hk.2) (.slice Ao26 t496.length co26)) (fun _ hk => hk.2) (.slice Ao27 t499.length co27)) (fun _ hk => hk.2) (.slice Ao28 t502.length co28)) (fun _ hk => ⟨hk.1.1.1.1.1,⟨hk.1.1.1.1.2,⟨hk.1.1.1.2,⟨hk.1.1.2,hk.1.2⟩⟩⟩⟩)⟩
   have n3_ : Aside0 (Kd.S k51 51 ((((((w22.setCell ⟨gb505,0,none⟩ (.int .u16 t491)).setCell ⟨gb505,1,none⟩ (.int .u16 t492)).setCell ⟨gb505,2,none⟩ (.slice Ao25 t493.length co25)).setCell ⟨gb505,3,none⟩ (.slice Ao26 t496.length co26)).setCell ⟨gb505,4,none⟩ (.slice Ao27 t499.length co27)).setCell ⟨gb505,5,none⟩ (.slice Ao28 t502.length co28)) w.heap.size (fun k_ => some k_ ≠ (.slice Ao18 t482.length co18 : Value).ownBlock∧some k_ ≠ (.slice Ao19 t485.length co19 : Value).ownBlock∧some k_ ≠ (.slice Ao26 t496.length co26 : Value).ownBlock∧some k_ ≠ (.slice Ao27 t499.length co27 : Value).ownBlock∧some k_ ≠ (.slice Ao28 t502.length co28 : Value).ownBlock) (.slice Ao20 t488.length co20) t488):=⟨by (with_reducible repeat (first|apply Kd.S_alloc|apply Kd.S_drewN|apply Kd.S_drew));exact Kd.S_mono (Kd.S_far (p:=⟨gb505,5,none⟩) (Kd.S_far (p:=⟨gb505,4,none⟩) (Kd.S_far (p:=⟨gb505,3,none⟩) (Kd.S_far (p:=⟨gb505,2,none⟩) (Kd.S_far (p:=⟨gb505,1,none⟩) (Kd.S_far (p:=⟨gb505,0,none⟩) (Kd.S_types HO490.out BK505.out (by decide)) (fun _ hk => hk.2) (.int .u16 t491)) (fun _ hk => hk.2) (.int .u16 t492)) (fun _ hk => hk.2) (.slice Ao25 t493.length co25)) (fun _ hk => hk.2) (.slice Ao26 t496.length co26)) (fun _ hk => hk.2) (.slice Ao27 t499.length co27)) (fun _ hk => hk.2) (.slice Ao28 t502.length co28)) (fun _ hk => ⟨hk.1.1.1.1.1,⟨hk.1.1.1.1.2,⟨hk.1.1.1.2,⟨hk.1.1.2,hk.1.2⟩⟩⟩⟩)⟩
   have n4_ : Aside0 (Kd.R k53 53 ((((((w22.setCell ⟨gb505,0,none⟩ (.int .u16 t491)).setCell ⟨gb505,1,none⟩ (.int .u16 t492)).setCell ⟨gb505,2,none⟩ (.slice Ao25 t493.length co25)).setCell ⟨gb505,3,none⟩ (.slice Ao26 t496.length co26)).setCell ⟨gb505,4,none⟩ (.slice Ao27 t499.length co27)).setCell ⟨gb505,5,none⟩ (.slice Ao28 t502.length co28)) w.heap.size (fun k_ => some k_ ≠ (.slice Ao17 t479.length co17 : Value).ownBlock) (.slice Ao25 t493.length co25) t493):=⟨by (with_reducible repeat (first|apply Kd.R_alloc|apply Kd.R_drewN|apply Kd.R_drew));exact Kd.R_mono (Kd.R_far (p:=⟨gb505,5,none⟩) (Kd.R_far (p:=⟨gb505,4,none⟩) (Kd.R_far (p:=⟨gb505,3,none⟩) (Kd.R_far (p:=⟨gb505,2,none⟩) (Kd.R_far (p:=⟨gb505,1,none⟩) (Kd.R_far (p:=⟨gb505,0,none⟩) (Kd.R_types HO495.out BK505.out (by decide)) (fun _ hk => hk.2) (.int .u16 t491)) (fun _ hk => hk.2) (.int .u16 t492)) (fun _ hk => hk.2) (.slice Ao25 t493.length co25)) (fun _ hk => hk.2) (.slice Ao26 t496.length co26)) (fun _ hk => hk.2) (.slice Ao27 t499.length co27)) (fun _ hk => hk.2) (.slice Ao28 t502.length co28)) (fun _ hk => hk.1.2)⟩
   have n5_ : Aside0 (Kd.S k51 51 ((((((w22.setCell ⟨gb505,0,none⟩ (.int .u16 t491)).setCell ⟨gb505,1,none⟩ (.int .u16 t492)).setCell ⟨gb505,2,none⟩ (.slice Ao25 t493.length co25)).setCell ⟨gb505,3,none⟩ (.slice Ao26 t496.length co26)).setCell ⟨gb505,4,none⟩ (.slice Ao27 t499.length co27)).setCell ⟨gb505,5,none⟩ (.slice Ao28 t502.length co28)) w.heap.size (fun k_ => some k_ ≠ (.slice Ao18 t482.length co18 : Value).ownBlock∧some k_ ≠ (.slice Ao19 t485.length co19 : Value).ownBlock∧some k_ ≠ (.slice Ao20 t488.length co20 : Value).ownBlock∧some k_ ≠ (.slice Ao27 t499.length co27 : Value).ownBlock∧some k_ ≠ (.slice Ao28 t502.length co28 : Value).ownBlock) (.slice Ao26 t496.length co26) t496):=⟨by (with_reducible repeat (first|apply Kd.S_alloc|apply Kd.S_drewN|apply Kd.S_drew));exact Kd.S_mono (Kd.S_far (p:=⟨gb505,5,none⟩) (Kd.S_far (p:=⟨gb505,4,none⟩) (Kd.S_far (p:=⟨gb505,3,none⟩) (Kd.S_far (p:=⟨gb505,2,none⟩) (Kd.S_far (p:=⟨gb505,1,none⟩) (Kd.S_far (p:=⟨gb505,0,none⟩) (Kd.S_types HO498.out BK505.out (by decide)) (fun _ hk => hk.2) (.int .u16 t491)) (fun _ hk => hk.2) (.int .u16 t492)) (fun _ hk => hk.2) (.slice Ao25 t493.length co25)) (fun _ hk => hk.2) (.slice Ao26 t496.length co26)) (fun _ hk => hk.2) (.slice Ao27 t499.length co27)) (fun _ hk => hk.2) (.slice Ao28 t502.length co28)) (fun _ hk => ⟨hk.1.1.1.2,⟨hk.1.1.2,⟨hk.1.2,⟨hk.1.1.1.1.1,hk.1.1.1.1.2⟩⟩⟩⟩)⟩
   have n6_ : Aside0 (Kd.S k51 51 ((((((w22.setCell ⟨gb505,0,none⟩ (.int .u16 t491)).setCell ⟨gb505,1,none⟩ (.int .u16 t492)).setCell ⟨gb505,2,none⟩ (.slice Ao25 t493.length co25)).setCell ⟨gb505,3,none⟩ (.slice Ao26 t496.length co26)).setCell ⟨gb505,4,none⟩ (.slice Ao27 t499.length co27)).setCell ⟨gb505,5,none⟩ (.slice Ao28 t502.length co28)) w.heap.size (fun k_ => some k_ ≠ (.slice Ao18 t482.length co18 : Value).ownBlock∧some k_ ≠ (.slice Ao19 t485.length co19 : Value).ownBlock∧some k_ ≠ (.slice Ao20 t488.length co20 : Value).ownBlock∧some k_ ≠ (.slice Ao26 t496.length co26 : Value).ownBlock∧some k_ ≠ (.slice Ao28 t502.length co28 : Value).ownBlock) (.slice Ao27 t499.length co27) t499):=⟨by (with_reducible repeat (first|apply Kd.S_alloc|apply Kd.S_drewN|apply Kd.S_drew));exact Kd.S_mono (Kd.S_far (p:=⟨gb505,5,none⟩) (Kd.S_far (p:=⟨gb505,4,none⟩) (Kd.S_far (p:=⟨gb505,3,none⟩) (Kd.S_far (p:=⟨gb505,2,none⟩) (Kd.S_far (p:=⟨gb505,1,none⟩) (Kd.S_far (p:=⟨gb505,0,none⟩) (Kd.S_types HO501.out BK505.out (by decide)) (fun _ hk => hk.2) (.int .u16 t491)) (fun _ hk => hk.2) (.int .u16 t492)) (fun _ hk => hk.2) (.slice Ao25 t493.length co25)) (fun _ hk => hk.2) (.slice Ao26 t496.length co26)) (fun _ hk => hk.2) (.slice Ao27 t499.length co27)) (fun _ hk => hk.2) (.slice Ao28 t502.length co28)) (fun _ hk => ⟨hk.1.1.1.2,⟨hk.1.1.2,⟨hk.1.2,⟨hk.1.1.1.1.1,hk.1.1.1.1.2⟩⟩⟩⟩)⟩
   have n7_ : Aside0 (Kd.S k51 51 ((((((w22.setCell ⟨gb505,0,none⟩ (.int .u16 t491)).setCell ⟨gb505,1,none⟩ (.int .u16 t492)).setCell ⟨gb505,2,none⟩ (.slice Ao25 t493.length co25)).setCell ⟨gb505,3,none⟩ (.slice Ao26 t496.length co26)).setCell ⟨gb505,4,none⟩ (.slice Ao27 t499.length co27)).setCell ⟨gb505,5,none⟩ (.slice Ao28 t502.length co28)) w.heap.size (fun k_ => some k_ ≠ (.slice Ao18 t482.length co18 : Value).ownBlock∧some k_ ≠ (.slice Ao19 t485.length co19 : Value).ownBlock∧some k_ ≠ (.slice Ao20 t488.length co20 : Value).ownBlock∧some k_ ≠ (.slice Ao26 t496.length co26 : Value).ownBlock∧some k_ ≠ (.slice Ao27 t499.length co27 : Value).ownBlock) (.slice Ao28 t502.length co28) t502):=⟨by (with_reducible repeat (first|apply Kd.S_alloc|apply Kd.S_drewN|apply Kd.S_drew));exact Kd.S_mono (Kd.S_far (p:=⟨gb505,5,none⟩) (Kd.S_far (p:=⟨gb505,4,none⟩) (Kd.S_far (p:=⟨gb505,3,none⟩) (Kd.S_far (p:=⟨gb505,2,none⟩) (Kd.S_far (p:=⟨gb505,1,none⟩) (Kd.S_far (p:=⟨gb505,0,none⟩) (Kd.S_types HO504.out BK505.out (by decide)) (fun _ hk => hk.2) (.int .u16 t491)) (fun _ hk => hk.2) (.int .u16 t492)) (fun _ hk => hk.2) (.slice Ao25 t493.length co25)) (fun _ hk => hk.2) (.slice Ao26 t496.length co26)) (fun _ hk => hk.2) (.slice Ao27 t499.length co27)) (fun _ hk => hk.2) (.slice Ao28 t502.length co28)) (fun _ hk => ⟨hk.1.1.1.2,⟨hk.1.1.2,⟨hk.1.2,⟨hk.1.1.1.1.1,hk.1.1.1.1.2⟩⟩⟩⟩)⟩
   have n8_ : Aside0 (((((((w22.setCell ⟨gb505,0,none⟩ (.int .u16 t491)).setCell ⟨gb505,1,none⟩ (.int .u16 t492)).setCell ⟨gb505,2,none⟩ (.slice Ao25 t493.length co25)).setCell ⟨gb505,3,none⟩ (.slice Ao26 t496.length co26)).setCell ⟨gb505,4,none⟩ (.slice Ao27 t499.length co27)).setCell ⟨gb505,5,none⟩ (.slice Ao28 t502.length co28)).heap[gb474]? = some (.cells #[.int .u16 a0_0,.int .u16 a0_1,.slice A0_2 l0_2.length c0_2,.slice A0_3 l0_3.length c0_3,.slice A0_4 l0_4.length c0_4,.slice A0_5 l0_5.length c0_5] 26 (0,0))):=⟨by (with_reducible repeat first|apply qqa|apply qqb|apply qqc);refine blk_far ?_ NB474_505.out _;(with_reducible repeat first|apply qqa|apply qqb|apply qqc);refine blk_far ?_ NB474_505.out _;(with_reducible repeat first|apply qqa|apply qqb|apply qqc);refine blk_far ?_ NB474_505.out _;(with_reducible repeat first|apply qqa|apply qqb|apply qqc);refine blk_far ?_ NB474_505.out _;(with_reducible repeat first|apply qqa|apply qqb|apply qqc);refine blk_far ?_ NB474_505.out _;(with_reducible repeat first|apply qqa|apply qqb|apply qqc);refine blk_far ?_ NB474_505.out _;(with_reducible repeat first|apply qqa|apply qqb|apply qqc);exact BK474.out⟩
   have n9_ : Aside0 (((((((w22.setCell ⟨gb505,0,none⟩ (.int .u16 t491)).setCell ⟨gb505,1,none⟩ (.int .u16 t492)).setCell ⟨gb505,2,none⟩ (.slice Ao25 t493.length co25)).setCell ⟨gb505,3,none⟩ (.slice Ao26 t496.length co26)).setCell ⟨gb505,4,none⟩ (.slice Ao27 t499.length co27)).setCell ⟨gb505,5,none⟩ (.slice Ao28 t502.length co28)).heap[gb505]? = some (.cells #[.int .u16 t491,.int .u16 t492,.slice Ao25 t493.length co25,.slice Ao26 t496.length co26,.slice Ao27 t499.length co27,.slice Ao28 t502.length co28] 26 (0,0))):=⟨by (with_reducible repeat first|apply qqa|apply qqb|apply qqc);refine blk_put (cs:=#[.int .u16 t491,.int .u16 t492,.slice Ao25 t493.length co25,.slice Ao26 t496.length co26,.slice Ao27 t499.length co27,.slice none 0 0]) ?_ 5 _ rfl;(with_reducible repeat first|apply qqa|apply qqb|apply qqc);refine blk_put (cs:=#[.int .u16 t491,.int .u16 t492,.slice Ao25 t493.length co25,.slice Ao26 t496.length co26,.slice none 0 0,.slice none 0 0]) ?_ 4 _ rfl;(with_reducible repeat first|apply qqa|apply qqb|apply qqc);refine blk_put (cs:=#[.int .u16 t491,.int .u16 t492,.slice Ao25 t493.length co25,.slice none 0 0,.slice none 0 0,.slice none 0 0]) ?_ 3 _ rfl;(with_reducible repeat first|apply qqa|apply qqb|apply qqc);refine blk_put (cs:=#[.int .u16 t491,.int .u16 t492,.slice none 0 0,.slice none 0 0,.slice none 0 0,.slice none 0 0]) ?_ 2 _ rfl;(with_reducible repeat first|apply qqa|apply qqb|apply qqc);refine blk_put (cs:=#[.int .u16 t491,.int .u16 0,.slice none 0 0,.slice none 0 0,.slice none 0 0,.slice none 0 0]) ?_ 1 _ rfl;(with_reducible repeat first|apply qqa|apply qqb|apply qqc);refine blk_put (cs:=#[.int .u16 0,.int .u16 0,.slice none 0 0,.slice none 0 0,.slice none 0 0,.slice none 0 0]) ?_ 0 _ rfl;(with_reducible repeat first|apply qqa|apply qqb|apply qqc);exact BK505.out⟩
   have n10_ : Aside0 (Below w.heap.size w ((((((w22.setCell ⟨gb505,0,none⟩ (.int .u16 t491)).setCell ⟨gb505,1,none⟩ (.int .u16 t492)).setCell ⟨gb505,2,none⟩ (.slice Ao25 t493.length co25)).setCell ⟨gb505,3,none⟩ (.slice Ao26 t496.length co26)).setCell ⟨gb505,4,none⟩ (.slice Ao27 t499.length co27)).setCell ⟨gb505,5,none⟩ (.slice Ao28 t502.length co28))):=⟨by repeat (first|(with_reducible first|exact HB.out|apply qqf|apply qqd|apply qqe|refine qqg ?_ GE474.out|refine qqg ?_ GE505.out)|exact HB.out)⟩
   (try clear HO481)
   (try clear HO484)
   (try clear HO487)
   (try clear HO490)
   (try clear HO495)
   (try clear HO498)
   (try clear HO501)
   (try clear HO504)
   (try clear BK474)
   (try clear BK505)
   (try clear HB)
   generalize ((((((w22.setCell ⟨gb505,0,none⟩ (.int .u16 t491)).setCell ⟨gb505,1,none⟩ (.int .u16 t492)).setCell ⟨gb505,2,none⟩ (.slice Ao25 t493.length co25)).setCell ⟨gb505,3,none⟩ (.slice Ao26 t496.length co26)).setCell ⟨gb505,4,none⟩ (.slice Ao27 t499.length co27)).setCell ⟨gb505,5,none⟩ (.slice Ao28 t502.length co28)) = w35 at n0_ n1_ n2_ n3_ n4_ n5_ n6_ n7_ n8_ n9_ n10_ ⊢
   have HO481:=n0_
   have HO484:=n1_
   have HO487:=n2_
   have HO490:=n3_
   have HO495:=n4_
   have HO498:=n5_
   have HO501:=n6_
   have HO504:=n7_
   have BK474:=n8_
   have BK505:=n9_
   have HB:=n10_
   clear n0_ n1_ n2_ n3_ n4_ n5_ n6_ n7_ n8_ n9_ n10_
   have n0_:=Aside0.mk (Kd.R_drew HO481.out)
   have n1_:=Aside0.mk (Kd.S_drew HO484.out)
   have n2_:=Aside0.mk (Kd.S_drew HO487.out)
   have n3_:=Aside0.mk (Kd.S_drew HO490.out)
   have n4_:=Aside0.mk (Kd.R_drew HO495.out)
   have n5_:=Aside0.mk (Kd.S_drew HO498.out)
   have n6_:=Aside0.mk (Kd.S_drew HO501.out)
   have n7_:=Aside0.mk (Kd.S_drew HO504.out)
   have n8_:=Aside0.mk (qqb BK474.out)
   have n9_:=Aside0.mk (qqb BK505.out)
   have n10_:=Aside0.mk (qqe HB.out)
   clear HO481
   clear HO484
   clear HO487
   clear HO490
   clear HO495
   clear HO498
   clear HO501
   clear HO504
   clear BK474
   clear BK505
   clear HB
   have HO481:=n0_
   have HO484:=n1_
   have HO487:=n2_
   have HO490:=n3_
   have HO495:=n4_
   have HO498:=n5_
   have HO501:=n6_
   have HO504:=n7_
   have BK474:=n8_
   have BK505:=n9_
   have HB:=n10_
   clear n0_ n1_ n2_ n3_ n4_ n5_ n6_ n7_ n8_ n9_ n10_
   refine start_ (n:=15) (S:=fun w' => w'.cell? ⟨gb505,0,none⟩ = some (.int .u16 t491)∧w'.cell? ⟨gb505,1,none⟩ = some (.int .u16 t492)∧w'.cell? ⟨gb505,2,none⟩ = some (.slice Ao25 t493.length co25)∧w'.cell? ⟨gb505,3,none⟩ = some (.slice Ao26 t496.length co26)∧w'.cell? ⟨gb505,4,none⟩ = some (.slice Ao27 t499.length co27)∧w'.cell? ⟨gb505,5,none⟩ = some (.slice Ao28 t502.length co28)∧w'.cell? ⟨gb474,0,none⟩ = some (.int .u16 a0_0)∧w'.cell? ⟨gb474,1,none⟩ = some (.int .u16 a0_1)∧w'.cell? ⟨gb474,2,none⟩ = some (.slice A0_2 l0_2.length c0_2)∧w'.cell? ⟨gb474,3,none⟩ = some (.slice A0_3 l0_3.length c0_3)∧w'.cell? ⟨gb474,4,none⟩ = some (.slice A0_4 l0_4.length c0_4)∧w'.cell? ⟨gb474,5,none⟩ = some (.slice A0_5 l0_5.length c0_5)) (ds:=[]) #[false,false,false,false,false,false,false,false,false,false,false,false,false,false,false] (by kernel_rfl) rfl rfl ⟨(qqh BK505.out 0).trans rfl,(qqh BK505.out 1).trans rfl,(qqh BK505.out 2).trans rfl,(qqh BK505.out 3).trans rfl,(qqh BK505.out 4).trans rfl,(qqh BK505.out 5).trans rfl,(qqh BK474.out 0).trans rfl,(qqh BK474.out 1).trans rfl,(qqh BK474.out 2).trans rfl,(qqh BK474.out 3).trans rfl,(qqh BK474.out 4).trans rfl,(qqh BK474.out 5).trans rfl⟩ (fun hHeld => ?_);refine with_tabW nunciolaw08_QueryTime.tab6 nunciolaw08_QueryTime.bits6 (fun HT_ HW_ => ?_)
   generalize w35.drew = w36 at HO481 HO484 HO487 HO490 HO495 HO498 HO501 HO504 BK474 BK505 HB hHeld ⊢
   refine pure_ (i:=2) (N:=some 22) (v:=?_) (a':=?_) #[false,false,true,false,false,false,false,false,false,false,false,false,false,false,false] rfl rfl (any_of HT_.out (by kernel_rfl)) (fun _ _ _ h => h) (Or.inl ⟨by rfl,?_⟩) ?_ ?_
   rotate_left
   ·
    intro w'
    go_simp
    with_reducible rfl
   rotate_left
   ·
    simp only [Act.put,qqj,qqk,qql,i64_w,i32_w]
    rfl
   refine pure_ (i:=3) (N:=some 23) (v:=?_) (a':=?_) #[false,false,true,true,false,false,false,false,false,false,false,false,false,false,false] rfl rfl (any_of HT_.out (by kernel_rfl)) (fun _ _ _ h => h) (Or.inl ⟨by rfl,?_⟩) ?_ ?_
   rotate_left
   ·
    intro w'
    go_simp
    with_reducible rfl
   rotate_left
   ·
    simp only [Act.put,qqj,qqk,qql,i64_w,i32_w]
    rfl
   refine take_ (i:=0) (N:=some 20) (v:=?_) (a':=?_) #[true,false,true,true,false,false,false,false,false,false,false,false,false,false,false] rfl rfl (take_ofW HT_.out HW_.out (by kernel_rfl)) (fun _ _ _ h => h) (Or.inl ⟨by rfl,?_⟩) hHeld ?_ ?_
   rotate_left
   ·
    rintro w' ⟨s0,s1,s2,s3,s4,s5,s6,s7,s8,s9,s10,s11⟩
    go_simp
    with_reducible rfl
   rotate_left
   ·
    simp only [Act.put,qqj,qqk,qql,i64_w,i32_w]
    rfl
   refine take_ (i:=1) (N:=some 21) (v:=?_) (a':=?_) #[true,true,true,true,false,false,false,false,false,false,false,false,false,false,false] rfl rfl (take_ofW HT_.out HW_.out (by kernel_rfl)) (fun _ _ _ h => h) (Or.inl ⟨by rfl,?_⟩) hHeld ?_ ?_
   rotate_left
   ·
    rintro w' ⟨s0,s1,s2,s3,s4,s5,s6,s7,s8,s9,s10,s11⟩
    go_simp
    with_reducible rfl
   rotate_left
   ·
    simp only [Act.put,qqj,qqk,qql,i64_w,i32_w]
    rfl
   refine one_ (i:=4) (N:=some 24) #[true,true,true,true,true,false,false,false,false,false,false,false,false,false,false] rfl rfl (one_of HT_.out (by kernel_rfl)) (by decide) (fun K hK => ?_)
   refine goes_ Try.func31 (by kernel_rfl) rfl #[.int .u64 a1,.int .u64 a2] (by rfl) rfl rfl (by (try simp only [List.map_toArray,List.map_cons,List.map_nil]);first|done|rfl|(simp only [List.length_drop,List.length_take];rfl)) ?_
   with_reducible refine (nuncioref01_Add64.calls a1 a2 t506 _ A29.out).mono ?_
   rintro e w' ⟨rfl,⟨nd,rfl⟩⟩
   refine ⟨_,rfl,?_⟩
   refine hK.out _ _ ⟨(qqh BK505.out 0).trans rfl,(qqh BK505.out 1).trans rfl,(qqh BK505.out 2).trans rfl,(qqh BK505.out 3).trans rfl,(qqh BK505.out 4).trans rfl,(qqh BK505.out 5).trans rfl,(qqh BK474.out 0).trans rfl,(qqh BK474.out 1).trans rfl,(qqh BK474.out 2).trans rfl,(qqh BK474.out 3).trans rfl,(qqh BK474.out 4).trans rfl,(qqh BK474.out 5).trans rfl⟩ (fun hHeld => ?_)
   clear hK K
   refine norm_ (a':=?_) ?_ ?_
   rotate_left
   ·
    show Act.put _ (some 24) _ = _
    simp only [Act.put,qqj,qqk,qql,i64_w,i32_w]
    rfl
   refine one_ (i:=5) (N:=some 25) #[true,true,true,true,true,true,false,false,false,false,false,false,false,false,false] rfl rfl (one_of HT_.out (by kernel_rfl)) (by decide) (fun K hK => ?_)
   refine goes_ Try.func23 (by kernel_rfl) rfl #[.agg #[.int .u16 a0_0,.int .u16 a0_1,.slice A0_2 l0_2.length c0_2,.slice A0_3 l0_3.length c0_3,.slice A0_4 l0_4.length c0_4,.slice A0_5 l0_5.length c0_5],.int .u64 t506] (by rfl) rfl rfl (by (try simp only [List.map_toArray,List.map_cons,List.map_nil]);first|done|rfl|(simp only [List.length_drop,List.length_take];rfl)) ?_
   with_reducible refine (query_Age.calls k a0_0 a0_1 _ _ l0_2 _ _ l0_3 _ _ l0_4 _ _ l0_5 t506 t507 t508 t509 t512 t515 t518 _ ?side1 ?side2 ?side3 ?side4 ?side5 ?side6 ?side7 ?side8 A30.out).mono ?_
   (case side1 => repeat (first|exact (Kd.C_below HR0_2.out (by repeat (first|(with_reducible first|exact HB.out|apply qqf|apply qqd|apply qqe|refine qqg ?_ GE474.out|refine qqg ?_ GE505.out)|exact HB.out)))|(with_reducible refine Kd.C_alloc ?_ _)|(with_reducible refine Kd.C_drewN ?_ _)|(with_reducible refine Kd.C_drew ?_)))
   (case side2 => exact HC0_2.out)
   (case side3 => repeat (first|exact (Kd.C_below HR0_3.out (by repeat (first|(with_reducible first|exact HB.out|apply qqf|apply qqd|apply qqe|refine qqg ?_ GE474.out|refine qqg ?_ GE505.out)|exact HB.out)))|(with_reducible refine Kd.C_alloc ?_ _)|(with_reducible refine Kd.C_drewN ?_ _)|(with_reducible refine Kd.C_drew ?_)))
   (case side4 => exact HC0_3.out)
   (case side5 => repeat (first|exact (Kd.C_below HR0_4.out (by repeat (first|(with_reducible first|exact HB.out|apply qqf|apply qqd|apply qqe|refine qqg ?_ GE474.out|refine qqg ?_ GE505.out)|exact HB.out)))|(with_reducible refine Kd.C_alloc ?_ _)|(with_reducible refine Kd.C_drewN ?_ _)|(with_reducible refine Kd.C_drew ?_)))
   (case side6 => exact HC0_4.out)
   (case side7 => repeat (first|exact (Kd.C_below HR0_5.out (by repeat (first|(with_reducible first|exact HB.out|apply qqf|apply qqd|apply qqe|refine qqg ?_ GE474.out|refine qqg ?_ GE505.out)|exact HB.out)))|(with_reducible refine Kd.C_alloc ?_ _)|(with_reducible refine Kd.C_drewN ?_ _)|(with_reducible refine Kd.C_drew ?_)))
   (case side8 => exact HC0_5.out)
   rintro e w37 ⟨v510,v513,v516,v519,rfl,ho0,ho1,ho2,ho3,hb⟩
   refine ⟨_,rfl,?_⟩
   have n0_:=Aside0.mk (Kd.R_elder' (by (with_reducible repeat (first|apply Kd.R_alloc|apply Kd.R_drewN|apply Kd.R_drew));exact HO481.out) (Kd.R_base ho0) hb)
   have n1_:=Aside0.mk (Kd.S_mono (Kd.S_told (Kd.S_told (Kd.S_told (Kd.S_old (by (with_reducible repeat (first|apply Kd.S_alloc|apply Kd.S_drewN|apply Kd.S_drew));exact HO484.out) hb) (Kd.S_base ho1)) (Kd.S_base ho2)) (Kd.S_base ho3)) (fun _ h_ => h_.1))
   have n2_:=Aside0.mk (Kd.S_mono (Kd.S_told (Kd.S_told (Kd.S_told (Kd.S_old (by (with_reducible repeat (first|apply Kd.S_alloc|apply Kd.S_drewN|apply Kd.S_drew));exact HO487.out) hb) (Kd.S_base ho1)) (Kd.S_base ho2)) (Kd.S_base ho3)) (fun _ h_ => h_.1))
   have n3_:=Aside0.mk (Kd.S_mono (Kd.S_told (Kd.S_told (Kd.S_told (Kd.S_old (by (with_reducible repeat (first|apply Kd.S_alloc|apply Kd.S_drewN|apply Kd.S_drew));exact HO490.out) hb) (Kd.S_base ho1)) (Kd.S_base ho2)) (Kd.S_base ho3)) (fun _ h_ => h_.1))
   have n4_:=Aside0.mk (Kd.R_elder' (by (with_reducible repeat (first|apply Kd.R_alloc|apply Kd.R_drewN|apply Kd.R_drew));exact HO495.out) (Kd.R_base ho0) hb)
   have n5_:=Aside0.mk (Kd.S_mono (Kd.S_told (Kd.S_told (Kd.S_told (Kd.S_old (by (with_reducible repeat (first|apply Kd.S_alloc|apply Kd.S_drewN|apply Kd.S_drew));exact HO498.out) hb) (Kd.S_base ho1)) (Kd.S_base ho2)) (Kd.S_base ho3)) (fun _ h_ => h_.1))
   have n6_:=Aside0.mk (Kd.S_mono (Kd.S_told (Kd.S_told (Kd.S_told (Kd.S_old (by (with_reducible repeat (first|apply Kd.S_alloc|apply Kd.S_drewN|apply Kd.S_drew));exact HO501.out) hb) (Kd.S_base ho1)) (Kd.S_base ho2)) (Kd.S_base ho3)) (fun _ h_ => h_.1))
   have n7_:=Aside0.mk (Kd.S_mono (Kd.S_told (Kd.S_told (Kd.S_told (Kd.S_old (by (with_reducible repeat (first|apply Kd.S_alloc|apply Kd.S_drewN|apply Kd.S_drew));exact HO504.out) hb) (Kd.S_base ho1)) (Kd.S_base ho2)) (Kd.S_base ho3)) (fun _ h_ => h_.1))
   have n8_:=Aside0.mk (Kd.R_lower (Kd.R_new' (Kd.R_new' ho0 (Kd.R_lt (by (with_reducible repeat (first|apply Kd.R_alloc|apply Kd.R_drewN|apply Kd.R_drew));exact HO481.out))) (Kd.R_lt (by (with_reducible repeat (first|apply Kd.R_alloc|apply Kd.R_drewN|apply Kd.R_drew));exact HO495.out))) (below_size (by repeat (first|(with_reducible first|exact HB.out|apply qqf|apply qqd|apply qqe|refine qqg ?_ GE474.out|refine qqg ?_ GE505.out)|exact HB.out))))
   have n9_:=Aside0.mk (Kd.S_lower (Kd.S_new' (Kd.S_new' (Kd.S_new' (Kd.S_new' (Kd.S_new' (Kd.S_new' ho1 (Kd.S_lt (by (with_reducible repeat (first|apply Kd.S_alloc|apply Kd.S_drewN|apply Kd.S_drew));exact HO484.out))) (Kd.S_lt (by (with_reducible repeat (first|apply Kd.S_alloc|apply Kd.S_drewN|apply Kd.S_drew));exact HO487.out))) (Kd.S_lt (by (with_reducible repeat (first|apply Kd.S_alloc|apply Kd.S_drewN|apply Kd.S_drew));exact HO490.out))) (Kd.S_lt (by (with_reducible repeat (first|apply Kd.S_alloc|apply Kd.S_drewN|apply Kd.S_drew));exact HO498.out))) (Kd.S_lt (by (with_reducible repeat (first|apply Kd.S_alloc|apply Kd.S_drewN|apply Kd.S_drew));exact HO501.out))) (Kd.S_lt (by (with_reducible repeat (first|apply Kd.S_alloc|apply Kd.S_drewN|apply Kd.S_drew));exact HO504.out))) (below_size (by repeat (first|(with_reducible first|exact HB.out|apply qqf|apply qqd|apply qqe|refine qqg ?_ GE474.out|refine qqg ?_ GE505.out)|exact HB.out))))
   have n10_:=Aside0.mk (Kd.S_lower (Kd.S_new' (Kd.S_new' (Kd.S_new' (Kd.S_new' (Kd.S_new' (Kd.S_new' ho2 (Kd.S_lt (by (with_reducible repeat (first|apply Kd.S_alloc|apply Kd.S_drewN|apply Kd.S_drew));exact HO484.out))) (Kd.S_lt (by (with_reducible repeat (first|apply Kd.S_alloc|apply Kd.S_drewN|apply Kd.S_drew));exact HO487.out))) (Kd.S_lt (by (with_reducible repeat (first|apply Kd.S_alloc|apply Kd.S_drewN|apply Kd.S_drew));exact HO490.out))) (Kd.S_lt (by (with_reducible repeat (first|apply Kd.S_alloc|apply Kd.S_drewN|apply Kd.S_drew));exact HO498.out))) (Kd.S_lt (by (with_reducible repeat (first|apply Kd.S_alloc|apply Kd.S_drewN|apply Kd.S_drew));exact HO501.out))) (Kd.S_lt (by (with_reducible repeat (first|apply Kd.S_alloc|apply Kd.S_drewN|apply Kd.S_drew));exact HO504.out))) (below_size (by repeat (first|(with_reducible first|exact HB.out|apply qqf|apply qqd|apply qqe|refine qqg ?_ GE474.out|refine qqg ?_ GE505.out)|exact HB.out))))
   have n11_:=Aside0.mk (Kd.S_lower (Kd.S_new' (Kd.S_new' (Kd.S_new' (Kd.S_new' (Kd.S_new' (Kd.S_new' ho3 (Kd.S_lt (by (with_reducible repeat (first|apply Kd.S_alloc|apply Kd.S_drewN|apply Kd.S_drew));exact HO484.out))) (Kd.S_lt (by (with_reducible repeat (first|apply Kd.S_alloc|apply Kd.S_drewN|apply Kd.S_drew));exact HO487.out))) (Kd.S_lt (by (with_reducible repeat (first|apply Kd.S_alloc|apply Kd.S_drewN|apply Kd.S_drew));exact HO490.out))) (Kd.S_lt (by (with_reducible repeat (first|apply Kd.S_alloc|apply Kd.S_drewN|apply Kd.S_drew));exact HO498.out))) (Kd.S_lt (by (with_reducible repeat (first|apply Kd.S_alloc|apply Kd.S_drewN|apply Kd.S_drew));exact HO501.out))) (Kd.S_lt (by (with_reducible repeat (first|apply Kd.S_alloc|apply Kd.S_drewN|apply Kd.S_drew));exact HO504.out))) (below_size (by repeat (first|(with_reducible first|exact HB.out|apply qqf|apply qqd|apply qqe|refine qqg ?_ GE474.out|refine qqg ?_ GE505.out)|exact HB.out))))
   have n12_:=Aside0.mk (blk_below (g:=gb474) (o:=.cells #[.int .u16 a0_0,.int .u16 a0_1,.slice A0_2 l0_2.length c0_2,.slice A0_3 l0_3.length c0_3,.slice A0_4 l0_4.length c0_4,.slice A0_5 l0_5.length c0_5] 26 (0,0)) (by (with_reducible repeat first|apply qqa|apply qqb|apply qqc);exact BK474.out) hb)
   have n13_:=Aside0.mk (blk_below (g:=gb505) (o:=.cells #[.int .u16 t491,.int .u16 t492,.slice Ao25 t493.length co25,.slice Ao26 t496.length co26,.slice Ao27 t499.length co27,.slice Ao28 t502.length co28] 26 (0,0)) (by (with_reducible repeat first|apply qqa|apply qqb|apply qqc);exact BK505.out) hb)
   have n14_:=Aside0.mk (below_step (by repeat (first|(with_reducible first|exact HB.out|apply qqf|apply qqd|apply qqe|refine qqg ?_ GE474.out|refine qqg ?_ GE505.out)|exact HB.out)) hb)
   clear HO481
   clear HO484
   clear HO487
   clear HO490
   clear HO495
   clear HO498
   clear HO501
   clear HO504
   clear BK474
   clear BK505
   clear HB
   have HO481:=n0_
   have HO484:=n1_
   have HO487:=n2_
   have HO490:=n3_
   have HO495:=n4_
   have HO498:=n5_
   have HO501:=n6_
   have HO504:=n7_
   have HO511:=n8_
   have HO514:=n9_
   have HO517:=n10_
   have HO520:=n11_
   have BK474:=n12_
   have BK505:=n13_
   have HB:=n14_
   clear n0_ n1_ n2_ n3_ n4_ n5_ n6_ n7_ n8_ n9_ n10_ n11_ n12_ n13_ n14_
   (try clear hb)
   (try clear hb2)
   (try clear hk)
   (try clear hi)
   (try clear ho0)
   (try clear ho1)
   (try clear ho2)
   (try clear ho3)
   obtain ⟨Ao38,co38,eo38⟩:=Kd.R_slice HO511.out
   (first|subst eo38|(injection eo38 with f1_ f2_ f3_;have f4_:=f1_.symm;have f5_:=f3_.symm;clear f1_ f2_ f3_;subst f4_;subst f5_))
   obtain ⟨Ao39,co39,eo39⟩:=Kd.S_slice HO514.out
   (first|subst eo39|(injection eo39 with f1_ f2_ f3_;have f4_:=f1_.symm;have f5_:=f3_.symm;clear f1_ f2_ f3_;subst f4_;subst f5_))
   obtain ⟨Ao40,co40,eo40⟩:=Kd.S_slice HO517.out
   (first|subst eo40|(injection eo40 with f1_ f2_ f3_;have f4_:=f1_.symm;have f5_:=f3_.symm;clear f1_ f2_ f3_;subst f4_;subst f5_))
   obtain ⟨Ao41,co41,eo41⟩:=Kd.S_slice HO520.out
   (first|subst eo41|(injection eo41 with f1_ f2_ f3_;have f4_:=f1_.symm;have f5_:=f3_.symm;clear f1_ f2_ f3_;subst f4_;subst f5_))
   refine hK.out _ _ ⟨(qqh BK505.out 0).trans rfl,(qqh BK505.out 1).trans rfl,(qqh BK505.out 2).trans rfl,(qqh BK505.out 3).trans rfl,(qqh BK505.out 4).trans rfl,(qqh BK505.out 5).trans rfl,(qqh BK474.out 0).trans rfl,(qqh BK474.out 1).trans rfl,(qqh BK474.out 2).trans rfl,(qqh BK474.out 3).trans rfl,(qqh BK474.out 4).trans rfl,(qqh BK474.out 5).trans rfl⟩ (fun hHeld => ?_)
   clear hK K
   refine norm_ (a':=?_) ?_ ?_
   rotate_left
   ·
    show Act.put _ (some 25) _ = _
    simp only [Act.put,qqj,qqk,qql,i64_w,i32_w]
    rfl
   refine one_ (i:=6) (N:=some 26) #[true,true,true,true,true,true,true,false,false,false,false,false,false,false,false] rfl rfl (one_of HT_.out (by kernel_rfl)) (by decide) (fun K hK => ?_)
   refine goes_ Try.func13 (by kernel_rfl) rfl #[.agg #[.int .u16 t491,.int .u16 t492,.slice Ao25 t493.length co25,.slice Ao26 t496.length co26,.slice Ao27 t499.length co27,.slice Ao28 t502.length co28],.agg #[.int .u16 t507,.int .u16 t508,.slice Ao38 t509.length co38,.slice Ao39 t512.length co39,.slice Ao40 t515.length co40,.slice Ao41 t518.length co41]] (by rfl) rfl rfl (by (try simp only [List.map_toArray,List.map_cons,List.map_nil]);first|done|rfl|(simp only [List.length_drop,List.length_take];rfl)) ?_
   with_reducible refine (nuncioref06_Same.calls k t491 t492 _ _ t493 _ _ t496 _ _ t499 _ _ t502 t507 t508 _ _ t509 _ _ t512 _ _ t515 _ _ t518 true _ ?side1 ?side2 ?side3 ?side4 ?side5 ?side6 ?side7 ?side8 ?side9 ?side10 ?side11 ?side12 ?side13 ?side14 ?side15 ?side16 A31.out).mono ?_
   (case side1 => repeat (first|exact (Kd.R_reads' HO495.out).2.2|(with_reducible refine Kd.C_alloc ?_ _)|(with_reducible refine Kd.C_drewN ?_ _)|(with_reducible refine Kd.C_drew ?_)))
   (case side2 => exact (Kd.R_reads' HO495.out).2.1)
   (case side3 => repeat (first|exact (Kd.S_reads' HO498.out).2.2|(with_reducible refine Kd.C_alloc ?_ _)|(with_reducible refine Kd.C_drewN ?_ _)|(with_reducible refine Kd.C_drew ?_)))
   (case side4 => exact (Kd.S_reads' HO498.out).2.1)
   (case side5 => repeat (first|exact (Kd.S_reads' HO501.out).2.2|(with_reducible refine Kd.C_alloc ?_ _)|(with_reducible refine Kd.C_drewN ?_ _)|(with_reducible refine Kd.C_drew ?_)))
   (case side6 => exact (Kd.S_reads' HO501.out).2.1)
   (case side7 => repeat (first|exact (Kd.S_reads' HO504.out).2.2|(with_reducible refine Kd.C_alloc ?_ _)|(with_reducible refine Kd.C_drewN ?_ _)|(with_reducible refine Kd.C_drew ?_)))
   (case side8 => exact (Kd.S_reads' HO504.out).2.1)
   (case side9 => repeat (first|exact (Kd.R_reads' HO511.out).2.2|(with_reducible refine Kd.C_alloc ?_ _)|(with_reducible refine Kd.C_drewN ?_ _)|(with_reducible refine Kd.C_drew ?_)))
   (case side10 => exact (Kd.R_reads' HO511.out).2.1)
   (case side11 => repeat (first|exact (Kd.S_reads' HO514.out).2.2|(with_reducible refine Kd.C_alloc ?_ _)|(with_reducible refine Kd.C_drewN ?_ _)|(with_reducible refine Kd.C_drew ?_)))
   (case side12 => exact (Kd.S_reads' HO514.out).2.1)
   (case side13 => repeat (first|exact (Kd.S_reads' HO517.out).2.2|(with_reducible refine Kd.C_alloc ?_ _)|(with_reducible refine Kd.C_drewN ?_ _)|(with_reducible refine Kd.C_drew ?_)))
   (case side14 => exact (Kd.S_reads' HO517.out).2.1)
   (case side15 => repeat (first|exact (Kd.S_reads' HO520.out).2.2|(with_reducible refine Kd.C_alloc ?_ _)|(with_reducible refine Kd.C_drewN ?_ _)|(with_reducible refine Kd.C_drew ?_)))
   (case side16 => exact (Kd.S_reads' HO520.out).2.1)
   rintro e w42 ⟨rfl,hb⟩
   refine ⟨_,rfl,?_⟩
   have n0_:=Aside0.mk (Kd.R_below (by (with_reducible repeat (first|apply Kd.R_alloc|apply Kd.R_drewN|apply Kd.R_drew));exact HO481.out) hb)
   have n1_:=Aside0.mk (Kd.S_below (by (with_reducible repeat (first|apply Kd.S_alloc|apply Kd.S_drewN|apply Kd.S_drew));exact HO484.out) hb)
   have n2_:=Aside0.mk (Kd.S_below (by (with_reducible repeat (first|apply Kd.S_alloc|apply Kd.S_drewN|apply Kd.S_drew));exact HO487.out) hb)
   have n3_:=Aside0.mk (Kd.S_below (by (with_reducible repeat (first|apply Kd.S_alloc|apply Kd.S_drewN|apply Kd.S_drew));exact HO490.out) hb)
   have n4_:=Aside0.mk (Kd.R_below (by (with_reducible repeat (first|apply Kd.R_alloc|apply Kd.R_drewN|apply Kd.R_drew));exact HO495.out) hb)
   have n5_:=Aside0.mk (Kd.S_below (by (with_reducible repeat (first|apply Kd.S_alloc|apply Kd.S_drewN|apply Kd.S_drew));exact HO498.out) hb)
   have n6_:=Aside0.mk (Kd.S_below (by (with_reducible repeat (first|apply Kd.S_alloc|apply Kd.S_drewN|apply Kd.S_drew));exact HO501.out) hb)
   have n7_:=Aside0.mk (Kd.S_below (by (with_reducible repeat (first|apply Kd.S_alloc|apply Kd.S_drewN|apply Kd.S_drew));exact HO504.out) hb)
   have n8_:=Aside0.mk (Kd.R_below (by (with_reducible repeat (first|apply Kd.R_alloc|apply Kd.R_drewN|apply Kd.R_drew));exact HO511.out) hb)
   have n9_:=Aside0.mk (Kd.S_below (by (with_reducible repeat (first|apply Kd.S_alloc|apply Kd.S_drewN|apply Kd.S_drew));exact HO514.out) hb)
   have n10_:=Aside0.mk (Kd.S_below (by (with_reducible repeat (first|apply Kd.S_alloc|apply Kd.S_drewN|apply Kd.S_drew));exact HO517.out) hb)
   have n11_:=Aside0.mk (Kd.S_below (by (with_reducible repeat (first|apply Kd.S_alloc|apply Kd.S_drewN|apply Kd.S_drew));exact HO520.out) hb)
   have n12_:=Aside0.mk (blk_below (g:=gb474) (o:=.cells #[.int .u16 a0_0,.int .u16 a0_1,.slice A0_2 l0_2.length c0_2,.slice A0_3 l0_3.length c0_3,.slice A0_4 l0_4.length c0_4,.slice A0_5 l0_5.length c0_5] 26 (0,0)) (by (with_reducible repeat first|apply qqa|apply qqb|apply qqc);exact BK474.out) hb)
   have n13_:=Aside0.mk (blk_below (g:=gb505) (o:=.cells #[.int .u16 t491,.int .u16 t492,.slice Ao25 t493.length co25,.slice Ao26 t496.length co26,.slice Ao27 t499.length co27,.slice Ao28 t502.length co28] 26 (0,0)) (by (with_reducible repeat first|apply qqa|apply qqb|apply qqc);exact BK505.out) hb)
   have n14_:=Aside0.mk (below_step (by repeat (first|(with_reducible first|exact HB.out|apply qqf|apply qqd|apply qqe|refine qqg ?_ GE474.out|refine qqg ?_ GE505.out)|exact HB.out)) hb)
   clear HO481
   clear HO484
   clear HO487
   clear HO490
   clear HO495
   clear HO498
   clear HO501
   clear HO504
   clear HO511
   clear HO514
   clear HO517
   clear HO520
   clear BK474
   clear BK505
   clear HB
   have HO481:=n0_
   have HO484:=n1_
   have HO487:=n2_
   have HO490:=n3_
   have HO495:=n4_
   have HO498:=n5_
   have HO501:=n6_
   have HO504:=n7_
   have HO511:=n8_
   have HO514:=n9_
   have HO517:=n10_
   have HO520:=n11_
   have BK474:=n12_
   have BK505:=n13_
   have HB:=n14_
   clear n0_ n1_ n2_ n3_ n4_ n5_ n6_ n7_ n8_ n9_ n10_ n11_ n12_ n13_ n14_
   (try clear hb)
   (try clear hb2)
   (try clear hk)
   (try clear hi)
   refine hK.out _ _ ⟨(qqh BK505.out 0).trans rfl,(qqh BK505.out 1).trans rfl,(qqh BK505.out 2).trans rfl,(qqh BK505.out 3).trans rfl,(qqh BK505.out 4).trans rfl,(qqh BK505.out 5).trans rfl,(qqh BK474.out 0).trans rfl,(qqh BK474.out 1).trans rfl,(qqh BK474.out 2).trans rfl,(qqh BK474.out 3).trans rfl,(qqh BK474.out 4).trans rfl,(qqh BK474.out 5).trans rfl⟩ (fun hHeld => ?_)
   clear hK K
   refine norm_ (a':=?_) ?_ ?_
   rotate_left
   ·
    show Act.put _ (some 26) _ = _
    simp only [Act.put,qqj,qqk,qql,i64_w,i32_w]
    rfl
   refine pure_ (i:=7) (N:=some 27) (v:=?_) (a':=?_) #[true,true,true,true,true,true,true,true,false,false,false,false,false,false,false] rfl rfl (any_of HT_.out (by kernel_rfl)) (fun _ _ _ h => h) (Or.inl ⟨by rfl,?_⟩) ?_ ?_
   rotate_left
   ·
    intro w'
    go_simp
    with_reducible rfl
   rotate_left
   ·
    simp only [Act.put,qqj,qqk,qql,i64_w,i32_w]
    rfl
   refine pure_ (i:=8) (N:=some 28) (v:=?_) (a':=?_) #[true,true,true,true,true,true,true,true,true,false,false,false,false,false,false] rfl rfl (any_of HT_.out (by kernel_rfl)) (fun _ _ _ h => h) (Or.inl ⟨by rfl,?_⟩) ?_ ?_
   rotate_left
   ·
    intro w'
    go_simp
    with_reducible rfl
   rotate_left
   ·
    simp only [Act.put,qqj,qqk,qql,i64_w,i32_w]
    rfl
   refine take_ (i:=9) (N:=some 29) (v:=?_) (a':=?_) #[true,true,true,true,true,true,true,true,true,true,false,false,false,false,false] rfl rfl (take_ofW HT_.out HW_.out (by kernel_rfl)) (fun _ _ _ h => h) (Or.inl ⟨by rfl,?_⟩) hHeld ?_ ?_
   rotate_left
   ·
    rintro w' ⟨s0,s1,s2,s3,s4,s5,s6,s7,s8,s9,s10,s11⟩
    go_simp
    with_reducible rfl
   rotate_left
   ·
    simp only [Act.put,qqj,qqk,qql,i64_w,i32_w]
    rfl
   refine take_ (i:=11) (N:=some 31) (v:=?_) (a':=?_) #[true,true,true,true,true,true,true,true,true,true,false,true,false,false,false] rfl rfl (take_ofW HT_.out HW_.out (by kernel_rfl)) (fun _ _ _ h => h) (Or.inl ⟨by rfl,?_⟩) hHeld ?_ ?_
   rotate_left
   ·
    rintro w' ⟨s0,s1,s2,s3,s4,s5,s6,s7,s8,s9,s10,s11⟩
    go_simp
    with_reducible rfl
   rotate_left
   ·
    simp only [Act.put,qqj,qqk,qql,i64_w,i32_w]
    rfl
   refine one_ (i:=10) (N:=some 30) #[true,true,true,true,true,true,true,true,true,true,true,true,false,false,false] rfl rfl (one_of HT_.out (by kernel_rfl)) (by decide) (fun K hK => ?_)
   refine goes_ Try.func23 (by kernel_rfl) rfl #[.agg #[.int .u16 a0_0,.int .u16 a0_1,.slice A0_2 l0_2.length c0_2,.slice A0_3 l0_3.length c0_3,.slice A0_4 l0_4.length c0_4,.slice A0_5 l0_5.length c0_5],.int .u64 0] (by rfl) rfl rfl (by (try simp only [List.map_toArray,List.map_cons,List.map_nil]);first|done|rfl|(simp only [List.length_drop,List.length_take];rfl)) ?_
   with_reducible refine (query_Age.calls k a0_0 a0_1 _ _ l0_2 _ _ l0_3 _ _ l0_4 _ _ l0_5 0 t522 t523 t524 t527 t530 t533 _ ?side1 ?side2 ?side3 ?side4 ?side5 ?side6 ?side7 ?side8 A33.out).mono ?_
   (case side1 => repeat (first|exact (Kd.C_below HR0_2.out HB.out)|(with_reducible refine Kd.C_alloc ?_ _)|(with_reducible refine Kd.C_drewN ?_ _)|(with_reducible refine Kd.C_drew ?_)))
   (case side2 => exact HC0_2.out)
   (case side3 => repeat (first|exact (Kd.C_below HR0_3.out HB.out)|(with_reducible refine Kd.C_alloc ?_ _)|(with_reducible refine Kd.C_drewN ?_ _)|(with_reducible refine Kd.C_drew ?_)))
   (case side4 => exact HC0_3.out)
   (case side5 => repeat (first|exact (Kd.C_below HR0_4.out HB.out)|(with_reducible refine Kd.C_alloc ?_ _)|(with_reducible refine Kd.C_drewN ?_ _)|(with_reducible refine Kd.C_drew ?_)))
   (case side6 => exact HC0_4.out)
   (case side7 => repeat (first|exact (Kd.C_below HR0_5.out HB.out)|(with_reducible refine Kd.C_alloc ?_ _)|(with_reducible refine Kd.C_drewN ?_ _)|(with_reducible refine Kd.C_drew ?_)))
   (case side8 => exact HC0_5.out)
   rintro e w43 ⟨v525,v528,v531,v534,rfl,ho0,ho1,ho2,ho3,hb⟩
   refine ⟨_,rfl,?_⟩
   have n0_:=Aside0.mk (Kd.R_elder' (by (with_reducible repeat (first|apply Kd.R_alloc|apply Kd.R_drewN|apply Kd.R_drew));exact HO481.out) (Kd.R_base ho0) hb)
   have n1_:=Aside0.mk (Kd.S_mono (Kd.S_told (Kd.S_told (Kd.S_told (Kd.S_old (by (with_reducible repeat (first|apply Kd.S_alloc|apply Kd.S_drewN|apply Kd.S_drew));exact HO484.out) hb) (Kd.S_base ho1)) (Kd.S_base ho2)) (Kd.S_base ho3)) (fun _ h_ => h_.1))
   have n2_:=Aside0.mk (Kd.S_mono (Kd.S_told (Kd.S_told (Kd.S_told (Kd.S_old (by (with_reducible repeat (first|apply Kd.S_alloc|apply Kd.S_drewN|apply Kd.S_drew));exact HO487.out) hb) (Kd.S_base ho1)) (Kd.S_base ho2)) (Kd.S_base ho3)) (fun _ h_ => h_.1))
   have n3_:=Aside0.mk (Kd.S_mono (Kd.S_told (Kd.S_told (Kd.S_told (Kd.S_old (by (with_reducible repeat (first|apply Kd.S_alloc|apply Kd.S_drewN|apply Kd.S_drew));exact HO490.out) hb) (Kd.S_base ho1)) (Kd.S_base ho2)) (Kd.S_base ho3)) (fun _ h_ => h_.1))
   have n4_:=Aside0.mk (Kd.R_elder' (by (with_reducible repeat (first|apply Kd.R_alloc|apply Kd.R_drewN|apply Kd.R_drew));exact HO495.out) (Kd.R_base ho0) hb)
   have n5_:=Aside0.mk (Kd.S_mono (Kd.S_told (Kd.S_told (Kd.S_told (Kd.S_old (by (with_reducible repeat (first|apply Kd.S_alloc|apply Kd.S_drewN|apply Kd.S_drew));exact HO498.out) hb) (Kd.S_base ho1)) (Kd.S_base ho2)) (Kd.S_base ho3)) (fun _ h_ => h_.1))
   have n6_:=Aside0.mk (Kd.S_mono (Kd.S_told (Kd.S_told (Kd.S_told (Kd.S_old (by (with_reducible repeat (first|apply Kd.S_alloc|apply Kd.S_drewN|apply Kd.S_drew));exact HO501.out) hb) (Kd.S_base ho1)) (Kd.S_base ho2)) (Kd.S_base ho3)) (fun _ h_ => h_.1))
   have n7_:=Aside0.mk (Kd.S_mono (Kd.S_told (Kd.S_told (Kd.S_told (Kd.S_old (by (with_reducible repeat (first|apply Kd.S_alloc|apply Kd.S_drewN|apply Kd.S_drew));exact HO504.out) hb) (Kd.S_base ho1)) (Kd.S_base ho2)) (Kd.S_base ho3)) (fun _ h_ => h_.1))
   have n8_:=Aside0.mk (Kd.R_elder' (by (with_reducible repeat (first|apply Kd.R_alloc|apply Kd.R_drewN|apply Kd.R_drew));exact HO511.out) (Kd.R_base ho0) hb)
   have n9_:=Aside0.mk (Kd.S_mono (Kd.S_told (Kd.S_told (Kd.S_told (Kd.S_old (by (with_reducible repeat (first|apply Kd.S_alloc|apply Kd.S_drewN|apply Kd.S_drew));exact HO514.out) hb) (Kd.S_base ho1)) (Kd.S_base ho2)) (Kd.S_base ho3)) (fun _ h_ => h_.1))
   have n10_:=Aside0.mk (Kd.S_mono (Kd.S_told (Kd.S_told (Kd.S_told (Kd.S_old (by (with_reducible repeat (first|apply Kd.S_alloc|apply Kd.S_drewN|apply Kd.S_drew));exact HO517.out) hb) (Kd.S_base ho1)) (Kd.S_base ho2)) (Kd.S_base ho3)) (fun _ h_ => h_.1))
   have n11_:=Aside0.mk (Kd.S_mono (Kd.S_told (Kd.S_told (Kd.S_told (Kd.S_old (by (with_reducible repeat (first|apply Kd.S_alloc|apply Kd.S_drewN|apply Kd.S_drew));exact HO520.out) hb) (Kd.S_base ho1)) (Kd.S_base ho2)) (Kd.S_base ho3)) (fun _ h_ => h_.1))
   have n12_:=Aside0.mk (Kd.R_lower (Kd.R_new' (Kd.R_new' (Kd.R_new' ho0 (Kd.R_lt (by (with_reducible repeat (first|apply Kd.R_alloc|apply Kd.R_drewN|apply Kd.R_drew));exact HO481.out))) (Kd.R_lt (by (with_reducible repeat (first|apply Kd.R_alloc|apply Kd.R_drewN|apply Kd.R_drew));exact HO495.out))) (Kd.R_lt (by (with_reducible repeat (first|apply Kd.R_alloc|apply Kd.R_drewN|apply Kd.R_drew));exact HO511.out))) (below_size (by repeat (first|(with_reducible first|exact HB.out|apply qqf|apply qqd|apply qqe|refine qqg ?_ GE474.out|refine qqg ?_ GE505.out)|exact HB.out))))
   have n13_:=Aside0.mk (Kd.S_lower (Kd.S_new' (Kd.S_new' (Kd.S_new' (Kd.S_new' (Kd.S_new' (Kd.S_new' (Kd.S_new' (Kd.S_new' (Kd.S_new' ho1 (Kd.S_lt (by (with_reducible repeat (first|apply Kd.S_alloc|apply Kd.S_drewN|apply Kd.S_drew));exact HO484.out))) (Kd.S_lt (by (with_reducible repeat (first|apply Kd.S_alloc|apply Kd.S_drewN|apply Kd.S_drew));exact HO487.out))) (Kd.S_lt (by (with_reducible repeat (first|apply Kd.S_alloc|apply Kd.S_drewN|apply Kd.S_drew));exact HO490.out))) (Kd.S_lt (by (with_reducible repeat (first|apply Kd.S_alloc|apply Kd.S_drewN|apply Kd.S_drew));exact HO498.out))) (Kd.S_lt (by (with_reducible repeat (first|apply Kd.S_alloc|apply Kd.S_drewN|apply Kd.S_drew));exact HO501.out))) (Kd.S_lt (by (with_reducible repeat (first|apply Kd.S_alloc|apply Kd.S_drewN|apply Kd.S_drew));exact HO504.out))) (Kd.S_lt (by (with_reducible repeat (first|apply Kd.S_alloc|apply Kd.S_drewN|apply Kd.S_drew));exact HO514.out))) (Kd.S_lt (by (with_reducible repeat (first|apply Kd.S_alloc|apply Kd.S_drewN|apply Kd.S_drew));exact HO517.out))) (Kd.S_lt (by (with_reducible repeat (first|apply Kd.S_alloc|apply Kd.S_drewN|apply Kd.S_drew));exact HO520.out))) (below_size (by repeat (first|(with_reducible first|exact HB.out|apply qqf|apply qqd|apply qqe|refine qqg ?_ GE474.out|refine qqg ?_ GE505.out)|exact HB.out))))
   have n14_:=Aside0.mk (Kd.S_lower (Kd.S_new' (Kd.S_new' (Kd.S_new' (Kd.S_new' (Kd.S_new' (Kd.S_new' (Kd.S_new' (Kd.S_new' (Kd.S_new' ho2 (Kd.S_lt (by (with_reducible repeat (first|apply Kd.S_alloc|apply Kd.S_drewN|apply Kd.S_drew));exact HO484.out))) (Kd.S_lt (by (with_reducible repeat (first|apply Kd.S_alloc|apply Kd.S_drewN|apply Kd.S_drew));exact HO487.out))) (Kd.S_lt (by (with_reducible repeat (first|apply Kd.S_alloc|apply Kd.S_drewN|apply Kd.S_drew));exact HO490.out))) (Kd.S_lt (by (with_reducible repeat (first|apply Kd.S_alloc|apply Kd.S_drewN|apply Kd.S_drew));exact HO498.out))) (Kd.S_lt (by (with_reducible repeat (first|apply Kd.S_alloc|apply Kd.S_drewN|apply Kd.S_drew));exact HO501.out))) (Kd.S_lt (by (with_reducible repeat (first|apply Kd.S_alloc|apply Kd.S_drewN|apply Kd.S_drew));exact HO504.out))) (Kd.S_lt (by (with_reducible repeat (first|apply Kd.S_alloc|apply Kd.S_drewN|apply Kd.S_drew));exact HO514.out))) (Kd.S_lt (by (with_reducible repeat (first|apply Kd.S_alloc|apply Kd.S_drewN|apply Kd.S_drew));exact HO517.out))) (Kd.S_lt (by (with_reducible repeat (first|apply Kd.S_alloc|apply Kd.S_drewN|apply Kd.S_drew));exact HO520.out))) (below_size (by repeat (first|(with_reducible first|exact HB.out|apply qqf|apply qqd|apply qqe|refine qqg ?_ GE474.out|refine qqg ?_ GE505.out)|exact HB.out))))
   have n15_:=Aside0.mk (Kd.S_lower (Kd.S_new' (Kd.S_new' (Kd.S_new' (Kd.S_new' (Kd.S_new' (Kd.S_new' (Kd.S_new' (Kd.S_new' (Kd.S_new' ho3 (Kd.S_lt (by (with_reducible repeat (first|apply Kd.S_alloc|apply Kd.S_drewN|apply Kd.S_drew));exact HO484.out))) (Kd.S_lt (by (with_reducible repeat (first|apply Kd.S_alloc|apply Kd.S_drewN|apply Kd.S_drew));exact HO487.out))) (Kd.S_lt (by (with_reducible repeat (first|apply Kd.S_alloc|apply Kd.S_drewN|apply Kd.S_drew));exact HO490.out))) (Kd.S_lt (by (with_reducible repeat (first|apply Kd.S_alloc|apply Kd.S_drewN|apply Kd.S_drew));exact HO498.out))) (Kd.S_lt (by (with_reducible repeat (first|apply Kd.S_alloc|apply Kd.S_drewN|apply Kd.S_drew));exact HO501.out))) (Kd.S_lt (by (with_reducible repeat (first|apply Kd.S_alloc|apply Kd.S_drewN|apply Kd.S_drew));exact HO504.out))) (Kd.S_lt (by (with_reducible repeat (first|apply Kd.S_alloc|apply Kd.S_drewN|apply Kd.S_drew));exact HO514.out))) (Kd.S_lt (by (with_reducible repeat (first|apply Kd.S_alloc|apply Kd.S_drewN|apply Kd.S_drew));exact HO517.out))) (Kd.S_lt (by (with_reducible repeat (first|apply Kd.S_alloc|apply Kd.S_drewN|apply Kd.S_drew));exact HO520.out))) (below_size (by repeat (first|(with_reducible first|exact HB.out|apply qqf|apply qqd|apply qqe|refine qqg ?_ GE474.out|refine qqg ?_ GE505.out)|exact HB.out))))
   have n16_:=Aside0.mk (blk_below (g:=gb474) (o:=.cells #[.int .u16 a0_0,.int .u16 a0_1,.slice A0_2 l0_2.length c0_2,.slice A0_3 l0_3.length c0_3,.slice A0_4 l0_4.length c0_4,.slice A0_5 l0_5.length c0_5] 26 (0,0)) (by (with_reducible repeat first|apply qqa|apply qqb|apply qqc);exact BK474.out) hb)
   have n17_:=Aside0.mk (blk_below (g:=gb505) (o:=.cells #[.int .u16 t491,.int .u16 t492,.slice Ao25 t493.length co25,.slice Ao26 t496.length co26,.slice Ao27 t499.length co27,.slice Ao28 t502.length co28] 26 (0,0)) (by (with_reducible repeat first|apply qqa|apply qqb|apply qqc);exact BK505.out) hb)
   have n18_:=Aside0.mk (below_step (by repeat (first|(with_reducible first|exact HB.out|apply qqf|apply qqd|apply qqe|refine qqg ?_ GE474.out|refine qqg ?_ GE505.out)|exact HB.out)) hb)
   clear HO481
   clear HO484
   clear HO487
   clear HO490
   clear HO495
   clear HO498
   clear HO501
   clear HO504
   clear HO511
   clear HO514
   clear HO517
   clear HO520
   clear BK474
   clear BK505
   clear HB
   have HO481:=n0_
   have HO484:=n1_
   have HO487:=n2_
   have HO490:=n3_
   have HO495:=n4_
   have HO498:=n5_
   have HO501:=n6_
   have HO504:=n7_
   have HO511:=n8_
   have HO514:=n9_
   have HO517:=n10_
   have HO520:=n11_
   have HO526:=n12_
   have HO529:=n13_
   have HO532:=n14_
   have HO535:=n15_
   have BK474:=n16_
   have BK505:=n17_
   have HB:=n18_
   clear n0_ n1_ n2_ n3_ n4_ n5_ n6_ n7_ n8_ n9_ n10_ n11_ n12_ n13_ n14_ n15_ n16_ n17_ n18_
   (try clear hb)
   (try clear hb2)
   (try clear hk)
   (try clear hi)
   (try clear ho0)
   (try clear ho1)
   (try clear ho2)
   (try clear ho3)
   obtain ⟨Ao44,co44,eo44⟩:=Kd.R_slice HO526.out
   (first|subst eo44|(injection eo44 with f1_ f2_ f3_;have f4_:=f1_.symm;have f5_:=f3_.symm;clear f1_ f2_ f3_;subst f4_;subst f5_))
   obtain ⟨Ao45,co45,eo45⟩:=Kd.S_slice HO529.out
   (first|subst eo45|(injection eo45 with f1_ f2_ f3_;have f4_:=f1_.symm;have f5_:=f3_.symm;clear f1_ f2_ f3_;subst f4_;subst f5_))
   obtain ⟨Ao46,co46,eo46⟩:=Kd.S_slice HO532.out
   (first|subst eo46|(injection eo46 with f1_ f2_ f3_;have f4_:=f1_.symm;have f5_:=f3_.symm;clear f1_ f2_ f3_;subst f4_;subst f5_))
   obtain ⟨Ao47,co47,eo47⟩:=Kd.S_slice HO535.out
   (first|subst eo47|(injection eo47 with f1_ f2_ f3_;have f4_:=f1_.symm;have f5_:=f3_.symm;clear f1_ f2_ f3_;subst f4_;subst f5_))
   refine hK.out _ _ ⟨(qqh BK505.out 0).trans rfl,(qqh BK505.out 1).trans rfl,(qqh BK505.out 2).trans rfl,(qqh BK505.out 3).trans rfl,(qqh BK505.out 4).trans rfl,(qqh BK505.out 5).trans rfl,(qqh BK474.out 0).trans rfl,(qqh BK474.out 1).trans rfl,(qqh BK474.out 2).trans rfl,(qqh BK474.out 3).trans rfl,(qqh BK474.out 4).trans rfl,(qqh BK474.out 5).trans rfl⟩ (fun hHeld => ?_)
   clear hK K
   refine norm_ (a':=?_) ?_ ?_
   rotate_left
   ·
    show Act.put _ (some 30) _ = _
    simp only [Act.put,qqj,qqk,qql,i64_w,i32_w]
    rfl
   refine one_ (i:=12) (N:=some 32) #[true,true,true,true,true,true,true,true,true,true,true,true,true,false,false] rfl rfl (one_of HT_.out (by kernel_rfl)) (by decide) (fun K hK => ?_)
   refine goes_ Try.func13 (by kernel_rfl) rfl #[.agg #[.int .u16 t522,.int .u16 t523,.slice Ao44 t524.length co44,.slice Ao45 t527.length co45,.slice Ao46 t530.length co46,.slice Ao47 t533.length co47],.agg #[.int .u16 a0_0,.int .u16 a0_1,.slice A0_2 l0_2.length c0_2,.slice A0_3 l0_3.length c0_3,.slice A0_4 l0_4.length c0_4,.slice A0_5 l0_5.length c0_5]] (by rfl) rfl rfl (by (try simp only [List.map_toArray,List.map_cons,List.map_nil]);first|done|rfl|(simp only [List.length_drop,List.length_take];rfl)) ?_
   with_reducible refine (nuncioref06_Same.calls k t522 t523 _ _ t524 _ _ t527 _ _ t530 _ _ t533 a0_0 a0_1 _ _ l0_2 _ _ l0_3 _ _ l0_4 _ _ l0_5 t536 _ ?side1 ?side2 ?side3 ?side4 ?side5 ?side6 ?side7 ?side8 ?side9 ?side10 ?side11 ?side12 ?side13 ?side14 ?side15 ?side16 A34.out).mono ?_
   (case side1 => repeat (first|exact (Kd.R_reads' HO526.out).2.2|(with_reducible refine Kd.C_alloc ?_ _)|(with_reducible refine Kd.C_drewN ?_ _)|(with_reducible refine Kd.C_drew ?_)))
   (case side2 => exact (Kd.R_reads' HO526.out).2.1)
   (case side3 => repeat (first|exact (Kd.S_reads' HO529.out).2.2|(with_reducible refine Kd.C_alloc ?_ _)|(with_reducible refine Kd.C_drewN ?_ _)|(with_reducible refine Kd.C_drew ?_)))
   (case side4 => exact (Kd.S_reads' HO529.out).2.1)
   (case side5 => repeat (first|exact (Kd.S_reads' HO532.out).2.2|(with_reducible refine Kd.C_alloc ?_ _)|(with_reducible refine Kd.C_drewN ?_ _)|(with_reducible refine Kd.C_drew ?_)))
   (case side6 => exact (Kd.S_reads' HO532.out).2.1)
   (case side7 => repeat (first|exact (Kd.S_reads' HO535.out).2.2|(with_reducible refine Kd.C_alloc ?_ _)|(with_reducible refine Kd.C_drewN ?_ _)|(with_reducible refine Kd.C_drew ?_)))
   (case side8 => exact (Kd.S_reads' HO535.out).2.1)
   (case side9 => repeat (first|exact (Kd.C_below HR0_2.out HB.out)|(with_reducible refine Kd.C_alloc ?_ _)|(with_reducible refine Kd.C_drewN ?_ _)|(with_reducible refine Kd.C_drew ?_)))
   (case side10 => exact HC0_2.out)
   (case side11 => repeat (first|exact (Kd.C_below HR0_3.out HB.out)|(with_reducible refine Kd.C_alloc ?_ _)|(with_reducible refine Kd.C_drewN ?_ _)|(with_reducible refine Kd.C_drew ?_)))
   (case side12 => exact HC0_3.out)
   (case side13 => repeat (first|exact (Kd.C_below HR0_4.out HB.out)|(with_reducible refine Kd.C_alloc ?_ _)|(with_reducible refine Kd.C_drewN ?_ _)|(with_reducible refine Kd.C_drew ?_)))
   (case side14 => exact HC0_4.out)
   (case side15 => repeat (first|exact (Kd.C_below HR0_5.out HB.out)|(with_reducible refine Kd.C_alloc ?_ _)|(with_reducible refine Kd.C_drewN ?_ _)|(with_reducible refine Kd.C_drew ?_)))
   (case side16 => exact HC0_5.out)
   rintro e w48 ⟨rfl,hb⟩
   refine ⟨_,rfl,?_⟩
   have n0_:=Aside0.mk (Kd.R_below (by (with_reducible repeat (first|apply Kd.R_alloc|apply Kd.R_drewN|apply Kd.R_drew));exact HO481.out) hb)
   have n1_:=Aside0.mk (Kd.S_below (by (with_reducible repeat (first|apply Kd.S_alloc|apply Kd.S_drewN|apply Kd.S_drew));exact HO484.out) hb)
   have n2_:=Aside0.mk (Kd.S_below (by (with_reducible repeat (first|apply Kd.S_alloc|apply Kd.S_drewN|apply Kd.S_drew));exact HO487.out) hb)
   have n3_:=Aside0.mk (Kd.S_below (by (with_reducible repeat (first|apply Kd.S_alloc|apply Kd.S_drewN|apply Kd.S_drew));exact HO490.out) hb)
   have n4_:=Aside0.mk (Kd.R_below (by (with_reducible repeat (first|apply Kd.R_alloc|apply Kd.R_drewN|apply Kd.R_drew));exact HO495.out) hb)
   have n5_:=Aside0.mk (Kd.S_below (by (with_reducible repeat (first|apply Kd.S_alloc|apply Kd.S_drewN|apply Kd.S_drew));exact HO498.out) hb)
   have n6_:=Aside0.mk (Kd.S_below (by (with_reducible repeat (first|apply Kd.S_alloc|apply Kd.S_drewN|apply Kd.S_drew));exact HO501.out) hb)
   have n7_:=Aside0.mk (Kd.S_below (by (with_reducible repeat (first|apply Kd.S_alloc|apply Kd.S_drewN|apply Kd.S_drew));exact HO504.out) hb)
   have n8_:=Aside0.mk (Kd.R_below (by (with_reducible repeat (first|apply Kd.R_alloc|apply Kd.R_drewN|apply Kd.R_drew));exact HO511.out) hb)
   have n9_:=Aside0.mk (Kd.S_below (by (with_reducible repeat (first|apply Kd.S_alloc|apply Kd.S_drewN|apply Kd.S_drew));exact HO514.out) hb)
   have n10_:=Aside0.mk (Kd.S_below (by (with_reducible repeat (first|apply Kd.S_alloc|apply Kd.S_drewN|apply Kd.S_drew));exact HO517.out) hb)
   have n11_:=Aside0.mk (Kd.S_below (by (with_reducible repeat (first|apply Kd.S_alloc|apply Kd.S_drewN|apply Kd.S_drew));exact HO520.out) hb)
   have n12_:=Aside0.mk (Kd.R_below (by (with_reducible repeat (first|apply Kd.R_alloc|apply Kd.R_drewN|apply Kd.R_drew));exact HO526.out) hb)
   have n13_:=Aside0.mk (Kd.S_below (by (with_reducible repeat (first|apply Kd.S_alloc|apply Kd.S_drewN|apply Kd.S_drew));exact HO529.out) hb)
   have n14_:=Aside0.mk (Kd.S_below (by (with_reducible repeat (first|apply Kd.S_alloc|apply Kd.S_drewN|apply Kd.S_drew));exact HO532.out) hb)
   have n15_:=Aside0.mk (Kd.S_below (by (with_reducible repeat (first|apply Kd.S_alloc|apply Kd.S_drewN|apply Kd.S_drew));exact HO535.out) hb)
   have n16_:=Aside0.mk (blk_below (g:=gb474) (o:=.cells #[.int .u16 a0_0,.int .u16 a0_1,.slice A0_2 l0_2.length c0_2,.slice A0_3 l0_3.length c0_3,.slice A0_4 l0_4.length c0_4,.slice A0_5 l0_5.length c0_5] 26 (0,0)) (by (with_reducible repeat first|apply qqa|apply qqb|apply qqc);exact BK474.out) hb)
   have n17_:=Aside0.mk (blk_below (g:=gb505) (o:=.cells #[.int .u16 t491,.int .u16 t492,.slice Ao25 t493.length co25,.slice Ao26 t496.length co26,.slice Ao27 t499.length co27,.slice Ao28 t502.length co28] 26 (0,0)) (by (with_reducible repeat first|apply qqa|apply qqb|apply qqc);exact BK505.out) hb)
   have n18_:=Aside0.mk (below_step (by repeat (first|(with_reducible first|exact HB.out|apply qqf|apply qqd|apply qqe|refine qqg ?_ GE474.out|refine qqg ?_ GE505.out)|exact HB.out)) hb)
   clear HO481
   clear HO484
   clear HO487
   clear HO490
   clear HO495
   clear HO498
   clear HO501
   clear HO504
   clear HO511
   clear HO514
   clear HO517
   clear HO520
   clear HO526
   clear HO529
   clear HO532
   clear HO535
   clear BK474
   clear BK505
   clear HB
   have HO481:=n0_
   have HO484:=n1_
   have HO487:=n2_
   have HO490:=n3_
   have HO495:=n4_
   have HO498:=n5_
   have HO501:=n6_
   have HO504:=n7_
   have HO511:=n8_
   have HO514:=n9_
   have HO517:=n10_
   have HO520:=n11_
   have HO526:=n12_
   have HO529:=n13_
   have HO532:=n14_
   have HO535:=n15_
   have BK474:=n16_
   have BK505:=n17_
   have HB:=n18_
   clear n0_ n1_ n2_ n3_ n4_ n5_ n6_ n7_ n8_ n9_ n10_ n11_ n12_ n13_ n14_ n15_ n16_ n17_ n18_
   (try clear hb)
   (try clear hb2)
   (try clear hk)
   (try clear hi)
   refine hK.out _ _ ⟨(qqh BK505.out 0).trans rfl,(qqh BK505.out 1).trans rfl,(qqh BK505.out 2).trans rfl,(qqh BK505.out 3).trans rfl,(qqh BK505.out 4).trans rfl,(qqh BK505.out 5).trans rfl,(qqh BK474.out 0).trans rfl,(qqh BK474.out 1).trans rfl,(qqh BK474.out 2).trans rfl,(qqh BK474.out 3).trans rfl,(qqh BK474.out 4).trans rfl,(qqh BK474.out 5).trans rfl⟩ (fun hHeld => ?_)
   clear hK K
   refine norm_ (a':=?_) ?_ ?_
   rotate_left
   ·
    show Act.put _ (some 32) _ = _
    simp only [Act.put,qqj,qqk,qql,i64_w,i32_w]
    rfl
   refine pure_ (i:=13) (N:=some 33) (v:=?_) (a':=?_) #[true,true,true,true,true,true,true,true,true,true,true,true,true,true,false] rfl rfl (any_of HT_.out (by kernel_rfl)) (fun _ _ _ h => h) (Or.inl ⟨by rfl,?_⟩) ?_ ?_
   rotate_left
   ·
    intro w'
    go_simp
    with_reducible rfl
   rotate_left
   ·
    simp only [Act.put,qqj,qqk,qql,i64_w,i32_w]
    rfl
   refine pure_ (i:=14) (N:=some 34) (v:=?_) (a':=?_) #[true,true,true,true,true,true,true,true,true,true,true,true,true,true,true] rfl rfl (any_of HT_.out (by kernel_rfl)) (fun _ _ _ h => h) (Or.inl ⟨by rfl,?_⟩) ?_ ?_
   rotate_left
   ·
    intro w'
    go_simp
    with_reducible rfl
   rotate_left
   ·
    simp only [Act.put,qqj,qqk,qql,i64_w,i32_w]
    rfl
   refine done_ (done_of HT_.out (by kernel_rfl)) ?_
   try go_wp2
   go_meet
   case rel => exact ⟨_,(!t536),(by first|rfl|(simp;done)|(simp [*];done)),H',⟨by first|omega|exact Nat.le_refl _⟩,⟨by (with_reducible repeat (first|apply Kd.R_alloc|apply Kd.R_drewN|apply Kd.R_drew));exact Kd.R_mono HO495.out (fun _ hk => trivial)⟩,⟨by (with_reducible repeat (first|apply Kd.S_alloc|apply Kd.S_drewN|apply Kd.S_drew));exact Kd.S_mono HO498.out (fun _ hk => ⟨hk.1.1.1.1.1.1.2.2.2.1,hk.1.1.1.1.1.1.2.2.2.2⟩)⟩,⟨by (with_reducible repeat (first|apply Kd.S_alloc|apply Kd.S_drewN|apply Kd.S_drew));exact Kd.S_mono HO501.out (fun _ hk => ⟨hk.1.1.1.1.1.1.2.2.2.1,hk.1.1.1.1.1.1.2.2.2.2⟩)⟩,⟨by (with_reducible repeat (first|apply Kd.S_alloc|apply Kd.S_drewN|apply Kd.S_drew));exact Kd.S_mono HO504.out (fun _ hk => ⟨hk.1.1.1.1.1.1.2.2.2.1,hk.1.1.1.1.1.1.2.2.2.2⟩)⟩,⟨by (with_reducible repeat first|apply qqa|apply qqb|apply qqc);exact BK474.out⟩,⟨by (with_reducible repeat first|apply qqa|apply qqb|apply qqc);exact BK505.out⟩,⟨by repeat (first|(with_reducible first|exact HB.out|apply qqf|apply qqd|apply qqe|refine qqg ?_ GE474.out|refine qqg ?_ GE505.out)|exact HB.out)⟩⟩
  ·
   replace c32:=Bool.eq_false_iff.mpr c32
   subst c32
   have H1 : (nunciolaw08_QueryTime.j0 k a1 true a0_0 a0_1 l0_2 l0_3 l0_4 l0_5) = some r:=by rw [if_neg (show ¬ (false = true) by decide)] at H;exact H
   clear H
   have H:=H1
   clear H1
   have H':=Aside0.mk H
   clear H
   try go_wp2
   have n0_ : Aside0 (Kd.R k53 53 ((((((w22.setCell ⟨gb505,0,none⟩ (.int .u16 t491)).setCell ⟨gb505,1,none⟩ (.int .u16 t492)).setCell ⟨gb505,2,none⟩ (.slice Ao25 t493.length co25)).setCell ⟨gb505,3,none⟩ (.slice Ao26 t496.length co26)).setCell ⟨gb505,4,none⟩ (.slice Ao27 t499.length co27)).setCell ⟨gb505,5,none⟩ (.slice Ao28 t502.length co28)) w.heap.size (fun k_ => some k_ ≠ (.slice Ao25 t493.length co25 : Value).ownBlock) (.slice Ao17 t479.length co17) t479):=⟨by (with_reducible repeat (first|apply Kd.R_alloc|apply Kd.R_drewN|apply Kd.R_drew));exact Kd.R_mono (Kd.R_far (p:=⟨gb505,5,none⟩) (Kd.R_far (p:=⟨gb505,4,none⟩) (Kd.R_far (p:=⟨gb505,3,none⟩) (Kd.R_far (p:=⟨gb505,2,none⟩) (Kd.R_far (p:=⟨gb505,1,none⟩) (Kd.R_far (p:=⟨gb505,0,none⟩) (Kd.R_types HO481.out BK505.out (by decide)) (fun _ hk => hk.2) (.int .u16 t491)) (fun _ hk => hk.2) (.int .u16 t492)) (fun _ hk => hk.2) (.slice Ao25 t493.length co25)) (fun _ hk => hk.2) (.slice Ao26 t496.length co26)) (fun _ hk => hk.2) (.slice Ao27 t499.length co27)) (fun _ hk => hk.2) (.slice Ao28 t502.length co28)) (fun _ hk => hk.1.2)⟩
   have n1_ : Aside0 (Kd.S k51 51 ((((((w22.setCell ⟨gb505,0,none⟩ (.int .u16 t491)).setCell ⟨gb505,1,none⟩ (.int .u16 t492)).setCell ⟨gb505,2,none⟩ (.slice Ao25 t493.length co25)).setCell ⟨gb505,3,none⟩ (.slice Ao26 t496.length co26)).setCell ⟨gb505,4,none⟩ (.slice Ao27 t499.length co27)).setCell ⟨gb505,5,none⟩ (.slice Ao28 t502.length co28)) w.heap.size (fun k_ => some k_ ≠ (.slice Ao19 t485.length co19 : Value).ownBlock∧some k_ ≠ (.slice Ao20 t488.length co20 : Value).ownBlock∧some k_ ≠ (.slice Ao26 t496.length co26 : Value).ownBlock∧some k_ ≠ (.slice Ao27 t499.length co27 : Value).ownBlock∧some k_ ≠ (.slice Ao28 t502.length co28 : Value).ownBlock) (.slice Ao18 t482.length co18) t482):=⟨by (with_reducible repeat (first|apply Kd.S_alloc|apply Kd.S_drewN|apply Kd.S_drew));exact Kd.S_mono (Kd.S_far (p:=⟨gb505,5,none⟩) (Kd.S_far (p:=⟨gb505,4,none⟩) (Kd.S_far (p:=⟨gb505,3,none⟩) (Kd.S_far (p:=⟨gb505,2,none⟩) (Kd.S_far (p:=⟨gb505,1,none⟩) (Kd.S_far (p:=⟨gb505,0,none⟩) (Kd.S_types HO484.out BK505.out (by decide)) (fun _ hk => hk.2) (.int .u16 t491)) (fun _ hk => hk.2) (.int .u16 t492)) (fun _ hk => hk.2) (.slice Ao25 t493.length co25)) (fun _ hk => hk.2) (.slice Ao26 t496.length co26)) (fun _ hk => hk.2) (.slice Ao27 t499.length co27)) (fun _ hk => hk.2) (.slice Ao28 t502.length co28)) (fun _ hk => ⟨hk.1.1.1.1.1,⟨hk.1.1.1.1.2,⟨hk.1.1.1.2,⟨hk.1.1.2,hk.1.2⟩⟩⟩⟩)⟩
   have n2_ : Aside0 (Kd.S k51 51 ((((((w22.setCell ⟨gb505,0,none⟩ (.int .u16 t491)).setCell ⟨gb505,1,none⟩ (.int .u16 t492)).setCell ⟨gb505,2,none⟩ (.slice Ao25 t493.length co25)).setCell ⟨gb505,3,none⟩ (.slice Ao26 t496.length co26)).setCell ⟨gb505,4,none⟩ (.slice Ao27 t499.length co27)).setCell ⟨gb505,5,none⟩ (.slice Ao28 t502.length co28)) w.heap.size (fun k_ => some k_ ≠ (.slice Ao18 t482.length co18 : Value).ownBlock∧some k_ ≠ (.slice Ao20 t488.length co20 : Value).ownBlock∧some k_ ≠ (.slice Ao26 t496.length co26 : Value).ownBlock∧some k_ ≠ (.slice Ao27 t499.length co27 : Value).ownBlock∧some k_ ≠ (.slice Ao28 t502.length co28 : Value).ownBlock) (.slice Ao19 t485.length co19) t485):=⟨by (with_reducible repeat (first|apply Kd.S_alloc|apply Kd.S_drewN|apply Kd.S_drew));exact Kd.S_mono (Kd.S_far (p:=⟨gb505,5,none⟩) (Kd.S_far (p:=⟨gb505,4,none⟩) (Kd.S_far (p:=⟨gb505,3,none⟩) (Kd.S_far (p:=⟨gb505,2,none⟩) (Kd.S_far (p:=⟨gb505,1,none⟩) (Kd.S_far (p:=⟨gb505,0,none⟩) (Kd.S_types HO487.out BK505.out (by decide)) (fun _ hk => hk.2) (.int .u16 t491)) (fun _ hk => hk.2) (.int .u16 t492)) (fun _ hk => hk.2) (.slice Ao25 t493.length co25)) (fun _ hk => hk.2) (.slice Ao26 t496.length co26)) (fun _ hk => hk.2) (.slice Ao27 t499.length co27)) (fun _ hk => hk.2) (.slice Ao28 t502.length co28)) (fun _ hk => ⟨hk.1.1.1.1.1,⟨hk.1.1.1.1.2,⟨hk.1.1.1.2,⟨hk.1.1.2,hk.1.2⟩⟩⟩⟩)⟩
   have n3_ : Aside0 (Kd.S k51 51 ((((((w22.setCell ⟨gb505,0,none⟩ (.int .u16 t491)).setCell ⟨gb505,1,none⟩ (.int .u16 t492)).setCell ⟨gb505,2,none⟩ (.slice Ao25 t493.length co25)).setCell ⟨gb505,3,none⟩ (.slice Ao26 t496.length co26)).setCell ⟨gb505,4,none⟩ (.slice Ao27 t499.length co27)).setCell ⟨gb505,5,none⟩ (.slice Ao28 t502.length co28)) w.heap.size (fun k_ => some k_ ≠ (.slice Ao18 t482.length co18 : Value).ownBlock∧some k_ ≠ (.slice Ao19 t485.length co19 : Value).ownBlock∧some k_ ≠ (.slice Ao26 t496.length co26 : Value).ownBlock∧some k_ ≠ (.slice Ao27 t499.length co27 : Value).ownBlock∧some k_ ≠ (.slice Ao28 t502.length co28 : Value).ownBlock) (.slice Ao20 t488.length co20) t488):=⟨by (with_reducible repeat (first|apply Kd.S_alloc|apply Kd.S_drewN|apply Kd.S_drew));exact Kd.S_mono (Kd.S_far (p:=⟨gb505,5,none⟩) (Kd.S_far (p:=⟨gb505,4,none⟩) (Kd.S_far (p:=⟨gb505,3,none⟩) (Kd.S_far (p:=⟨gb505,2,none⟩) (Kd.S_far (p:=⟨gb505,1,none⟩) (Kd.S_far (p:=⟨gb505,0,none⟩) (Kd.S_types HO490.out BK505.out (by decide)) (fun _ hk => hk.2) (.int .u16 t491)) (fun _ hk => hk.2) (.int .u16 t492)) (fun _ hk => hk.2) (.slice Ao25 t493.length co25)) (fun _ hk => hk.2) (.slice Ao26 t496.length co26)) (fun _ hk => hk.2) (.slice Ao27 t499.length co27)) (fun _ hk => hk.2) (.slice Ao28 t502.length co28)) (fun _ hk => ⟨hk.1.1.1.1.1,⟨hk.1.1.1.1.2,⟨hk.1.1.1.2,⟨hk.1.1.2,hk.1.2⟩⟩⟩⟩)⟩
   have n4_ : Aside0 (Kd.R k53 53 ((((((w22.setCell ⟨gb505,0,none⟩ (.int .u16 t491)).setCell ⟨gb505,1,none⟩ (.int .u16 t492)).setCell ⟨gb505,2,none⟩ (.slice Ao25 t493.length co25)).setCell ⟨gb505,3,none⟩ (.slice Ao26 t496.length co26)).setCell ⟨gb505,4,none⟩ (.slice Ao27 t499.length co27)).setCell ⟨gb505,5,none⟩ (.slice Ao28 t502.length co28)) w.heap.size (fun k_ => some k_ ≠ (.slice Ao17 t479.length co17 : Value).ownBlock) (.slice Ao25 t493.length co25) t493):=⟨by (with_reducible repeat (first|apply Kd.R_alloc|apply Kd.R_drewN|apply Kd.R_drew));exact Kd.R_mono (Kd.R_far (p:=⟨gb505,5,none⟩) (Kd.R_far (p:=⟨gb505,4,none⟩) (Kd.R_far (p:=⟨gb505,3,none⟩) (Kd.R_far (p:=⟨gb505,2,none⟩) (Kd.R_far (p:=⟨gb505,1,none⟩) (Kd.R_far (p:=⟨gb505,0,none⟩) (Kd.R_types HO495.out BK505.out (by decide)) (fun _ hk => hk.2) (.int .u16 t491)) (fun _ hk => hk.2) (.int .u16 t492)) (fun _ hk => hk.2) (.slice Ao25 t493.length co25)) (fun _ hk => hk.2) (.slice Ao26 t496.length co26)) (fun _ hk => hk.2) (.slice Ao27 t499.length co27)) (fun _ hk => hk.2) (.slice Ao28 t502.length co28)) (fun _ hk => hk.1.2)⟩
   have n5_ : Aside0 (Kd.S k51 51 ((((((w22.setCell ⟨gb505,0,none⟩ (.int .u16 t491)).setCell ⟨gb505,1,none⟩ (.int .u16 t492)).setCell ⟨gb505,2,none⟩ (.slice Ao25 t493.length co25)).setCell ⟨gb505,3,none⟩ (.slice Ao26 t496.length co26)).setCell ⟨gb505,4,none⟩ (.slice Ao27 t499.length co27)).setCell ⟨gb505,5,none⟩ (.slice Ao28 t502.length co28)) w.heap.size (fun k_ => some k_ ≠ (.slice Ao18 t482.length co18 : Value).ownBlock∧some k_ ≠ (.slice Ao19 t485.length co19 : Value).ownBlock∧some k_ ≠ (.slice Ao20 t488.length co20 : Value).ownBlock∧some k_ ≠ (.slice Ao27 t499.length co27 : Value).ownBlock∧some k_ ≠ (.slice Ao28 t502.length co28 : Value).ownBlock) (.slice Ao26 t496.length co26) t496):=⟨by (with_reducible repeat (first|apply Kd.S_alloc|apply Kd.S_drewN|apply Kd.S_drew));exact Kd.S_mono (Kd.S_far (p:=⟨gb505,5,none⟩) (Kd.S_far (p:=⟨gb505,4,none⟩) (Kd.S_far (p:=⟨gb505,3,none⟩) (Kd.S_far (p:=⟨gb505,2,none⟩) (Kd.S_far (p:=⟨gb505,1,none⟩) (Kd.S_far (p:=⟨gb505,0,none⟩) (Kd.S_types HO498.out BK505.out (by decide)) (fun _ hk => hk.2) (.int .u16 t491)) (fun _ hk => hk.2) (.int .u16 t492)) (fun _ hk => hk.2) (.slice Ao25 t493.length co25)) (fun _ hk => hk.2) (.slice Ao26 t496.length co26)) (fun _ hk => hk.2) (.slice Ao27 t499.length co27)) (fun _ hk => hk.2) (.slice Ao28 t502.length co28)) (fun _ hk => ⟨hk.1.1.1.2,⟨hk.1.1.2,⟨hk.1.2,⟨hk.1.1.1.1.1,hk.1.1.1.1.2⟩⟩⟩⟩)⟩
   have n6_ : Aside0 (Kd.S k51 51 ((((((w22.setCell ⟨gb505,0,none⟩ (.int .u16 t491)).setCell ⟨gb505,1,none⟩ (.int .u16 t492)).setCell ⟨gb505,2,none⟩ (.slice Ao25 t493.length co25)).setCell ⟨gb505,3,none⟩ (.slice Ao26 t496.length co26)).setCell ⟨gb505,4,none⟩ (.slice Ao27 t499.length co27)).setCell ⟨gb505,5,none⟩ (.slice Ao28 t502.length co28)) w.heap.size (fun k_ => some k_ ≠ (.slice Ao18 t482.length co18 : Value).ownBlock∧some k_ ≠ (.slice Ao19 t485.length co19 : Value).ownBlock∧some k_ ≠ (.slice Ao20 t488.length co20 : Value).ownBlock∧some k_ ≠ (.slice Ao26 t496.length co26 : Value).ownBlock∧some k_ ≠ (.slice Ao28 t502.length co28 : Value).ownBlock) (.slice Ao27 t499.length co27) t499):=⟨by (with_reducible repeat (first|apply Kd.S_alloc|apply Kd.S_drewN|apply Kd.S_drew));exact Kd.S_mono (Kd.S_far (p:=⟨gb505,5,none⟩) (Kd.S_far (p:=⟨gb505,4,none⟩) (Kd.S_far (p:=⟨gb505,3,none⟩) (Kd.S_far (p:=⟨gb505,2,none⟩) (Kd.S_far (p:=⟨gb505,1,none⟩) (Kd.S_far (p:=⟨gb505,0,none⟩) (Kd.S_types HO501.out BK505.out (by decide)) (fun _ hk => hk.2) (.int .u16 t491)) (fun _ hk => hk.2) (.int .u16 t492)) (fun _ hk => hk.2) (.slice Ao25 t493.length co25)) (fun _ hk => hk.2) (.slice Ao26 t496.length co26)) (fun _ hk => hk.2) (.slice Ao27 t499.length co27)) (fun _ hk => hk.2) (.slice Ao28 t502.length co28)) (fun _ hk => ⟨hk.1.1.1.2,⟨hk.1.1.2,⟨hk.1.2,⟨hk.1.1.1.1.1,hk.1.1.1.1.2⟩⟩⟩⟩)⟩
   have n7_ : Aside0 (Kd.S k51 51 ((((((w22.setCell ⟨gb505,0,none⟩ (.int .u16 t491)).setCell ⟨gb505,1,none⟩ (.int .u16 t492)).setCell ⟨gb505,2,none⟩ (.slice Ao25 t493.length co25)).setCell ⟨gb505,3,none⟩ (.slice Ao26 t496.length co26)).setCell ⟨gb505,4,none⟩ (.slice Ao27 t499.length co27)).setCell ⟨gb505,5,none⟩ (.slice Ao28 t502.length co28)) w.heap.size (fun k_ => some k_ ≠ (.slice Ao18 t482.length co18 : Value).ownBlock∧some k_ ≠ (.slice Ao19 t485.length co19 : Value).ownBlock∧some k_ ≠ (.slice Ao20 t488.length co20 : Value).ownBlock∧some k_ ≠ (.slice Ao26 t496.length co26 : Value).ownBlock∧some k_ ≠ (.slice Ao27 t499.length co27 : Value).ownBlock) (.slice Ao28 t502.length co28) t502):=⟨by (with_reducible repeat (first|apply Kd.S_alloc|apply Kd.S_drewN|apply Kd.S_drew));exact Kd.S_mono (Kd.S_far (p:=⟨gb505,5,none⟩) (Kd.S_far (p:=⟨gb505,4,none⟩) (Kd.S_far (p:=⟨gb505,3,none⟩) (Kd.S_far (p:=⟨gb505,2,none⟩) (Kd.S_far (p:=⟨gb505,1,none⟩) (Kd.S_far (p:=⟨gb505,0,none⟩) (Kd.S_types HO504.out BK505.out (by decide)) (fun _ hk => hk.2) (.int .u16 t491)) (fun _ hk => hk.2) (.int .u16 t492)) (fun _ hk => hk.2) (.slice Ao25 t493.length co25)) (fun _ hk => hk.2) (.slice Ao26 t496.length co26)) (fun _ hk => hk.2) (.slice Ao27 t499.length co27)) (fun _ hk => hk.2) (.slice Ao28 t502.length co28)) (fun _ hk => ⟨hk.1.1.1.2,⟨hk.1.1.2,⟨hk.1.2,⟨hk.1.1.1.1.1,hk.1.1.1.1.2⟩⟩⟩⟩)⟩
   have n8_ : Aside0 (((((((w22.setCell ⟨gb505,0,none⟩ (.int .u16 t491)).setCell ⟨gb505,1,none⟩ (.int .u16 t492)).setCell ⟨gb505,2,none⟩ (.slice Ao25 t493.length co25)).setCell ⟨gb505,3,none⟩ (.slice Ao26 t496.length co26)).setCell ⟨gb505,4,none⟩ (.slice Ao27 t499.length co27)).setCell ⟨gb505,5,none⟩ (.slice Ao28 t502.length co28)).heap[gb474]? = some (.cells #[.int .u16 a0_0,.int .u16 a0_1,.slice A0_2 l0_2.length c0_2,.slice A0_3 l0_3.length c0_3,.slice A0_4 l0_4.length c0_4,.slice A0_5 l0_5.length c0_5] 26 (0,0))):=⟨by (with_reducible repeat first|apply qqa|apply qqb|apply qqc);refine blk_far ?_ NB474_505.out _;(with_reducible repeat first|apply qqa|apply qqb|apply qqc);refine blk_far ?_ NB474_505.out _;(with_reducible repeat first|apply qqa|apply qqb|apply qqc);refine blk_far ?_ NB474_505.out _;(with_reducible repeat first|apply qqa|apply qqb|apply qqc);refine blk_far ?_ NB474_505.out _;(with_reducible repeat first|apply qqa|apply qqb|apply qqc);refine blk_far ?_ NB474_505.out _;(with_reducible repeat first|apply qqa|apply qqb|apply qqc);refine blk_far ?_ NB474_505.out _;(with_reducible repeat first|apply qqa|apply qqb|apply qqc);exact BK474.out⟩
   have n9_ : Aside0 (((((((w22.setCell ⟨gb505,0,none⟩ (.int .u16 t491)).setCell ⟨gb505,1,none⟩ (.int .u16 t492)).setCell ⟨gb505,2,none⟩ (.slice Ao25 t493.length co25)).setCell ⟨gb505,3,none⟩ (.slice Ao26 t496.length co26)).setCell ⟨gb505,4,none⟩ (.slice Ao27 t499.length co27)).setCell ⟨gb505,5,none⟩ (.slice Ao28 t502.length co28)).heap[gb505]? = some (.cells #[.int .u16 t491,.int .u16 t492,.slice Ao25 t493.length co25,.slice Ao26 t496.length co26,.slice Ao27 t499.length co27,.slice Ao28 t502.length co28] 26 (0,0))):=⟨by (with_reducible repeat first|apply qqa|apply qqb|apply qqc);refine blk_put (cs:=#[.int .u16 t491,.int .u16 t492,.slice Ao25 t493.length co25,.slice Ao26 t496.length co26,.slice Ao27 t499.length co27,.slice none 0 0]) ?_ 5 _ rfl;(with_reducible repeat first|apply qqa|apply qqb|apply qqc);refine blk_put (cs:=#[.int .u16 t491,.int .u16 t492,.slice Ao25 t493.length co25,.slice Ao26 t496.length co26,.slice none 0 0,.slice none 0 0]) ?_ 4 _ rfl;(with_reducible repeat first|apply qqa|apply qqb|apply qqc);refine blk_put (cs:=#[.int .u16 t491,.int .u16 t492,.slice Ao25 t493.length co25,.slice none 0 0,.slice none 0 0,.slice none 0 0]) ?_ 3 _ rfl;(with_reducible repeat first|apply qqa|apply qqb|apply qqc);refine blk_put (cs:=#[.int .u16 t491,.int .u16 t492,.slice none 0 0,.slice none 0 0,.slice none 0 0,.slice none 0 0]) ?_ 2 _ rfl;(with_reducible repeat first|apply qqa|apply qqb|apply qqc);refine blk_put (cs:=#[.int .u16 t491,.int .u16 0,.slice none 0 0,.slice none 0 0,.slice none 0 0,.slice none 0 0]) ?_ 1 _ rfl;(with_reducible repeat first|apply qqa|apply qqb|apply qqc);refine blk_put (cs:=#[.int .u16 0,.int .u16 0,.slice none 0 0,.slice none 0 0,.slice none 0 0,.slice none 0 0]) ?_ 0 _ rfl;(with_reducible repeat first|apply qqa|apply qqb|apply qqc);exact BK505.out⟩
   have n10_ : Aside0 (Below w.heap.size w ((((((w22.setCell ⟨gb505,0,none⟩ (.int .u16 t491)).setCell ⟨gb505,1,none⟩ (.int .u16 t492)).setCell ⟨gb505,2,none⟩ (.slice Ao25 t493.length co25)).setCell ⟨gb505,3,none⟩ (.slice Ao26 t496.length co26)).setCell ⟨gb505,4,none⟩ (.slice Ao27 t499.length co27)).setCell ⟨gb505,5,none⟩ (.slice Ao28 t502.length co28))):=⟨by repeat (first|(with_reducible first|exact HB.out|apply qqf|apply qqd|apply qqe|refine qqg ?_ GE474.out|refine qqg ?_ GE505.out)|exact HB.out)⟩
   (try clear HO481)
   (try clear HO484)
   (try clear HO487)
   (try clear HO490)
   (try clear HO495)
   (try clear HO498)
   (try clear HO501)
   (try clear HO504)
   (try clear BK474)
   (try clear BK505)
   (try clear HB)
   generalize ((((((w22.setCell ⟨gb505,0,none⟩ (.int .u16 t491)).setCell ⟨gb505,1,none⟩ (.int .u16 t492)).setCell ⟨gb505,2,none⟩ (.slice Ao25 t493.length co25)).setCell ⟨gb505,3,none⟩ (.slice Ao26 t496.length co26)).setCell ⟨gb505,4,none⟩ (.slice Ao27 t499.length co27)).setCell ⟨gb505,5,none⟩ (.slice Ao28 t502.length co28)) = w49 at n0_ n1_ n2_ n3_ n4_ n5_ n6_ n7_ n8_ n9_ n10_ ⊢
   have HO481:=n0_
   have HO484:=n1_
   have HO487:=n2_
   have HO490:=n3_
   have HO495:=n4_
   have HO498:=n5_
   have HO501:=n6_
   have HO504:=n7_
   have BK474:=n8_
   have BK505:=n9_
   have HB:=n10_
   clear n0_ n1_ n2_ n3_ n4_ n5_ n6_ n7_ n8_ n9_ n10_
   have n0_:=Aside0.mk (Kd.R_drew HO481.out)
   have n1_:=Aside0.mk (Kd.S_drew HO484.out)
   have n2_:=Aside0.mk (Kd.S_drew HO487.out)
   have n3_:=Aside0.mk (Kd.S_drew HO490.out)
   have n4_:=Aside0.mk (Kd.R_drew HO495.out)
   have n5_:=Aside0.mk (Kd.S_drew HO498.out)
   have n6_:=Aside0.mk (Kd.S_drew HO501.out)
   have n7_:=Aside0.mk (Kd.S_drew HO504.out)
   have n8_:=Aside0.mk (qqb BK474.out)
   have n9_:=Aside0.mk (qqb BK505.out)
   have n10_:=Aside0.mk (qqe HB.out)
   clear HO481
   clear HO484
   clear HO487
   clear HO490
   clear HO495
   clear HO498
   clear HO501
   clear HO504
   clear BK474
   clear BK505
   clear HB
   have HO481:=n0_
   have HO484:=n1_
   have HO487:=n2_
   have HO490:=n3_
   have HO495:=n4_
   have HO498:=n5_
   have HO501:=n6_
   have HO504:=n7_
   have BK474:=n8_
   have BK505:=n9_
   have HB:=n10_
   clear n0_ n1_ n2_ n3_ n4_ n5_ n6_ n7_ n8_ n9_ n10_
   refine start_ (n:=15) (S:=fun w' => w'.cell? ⟨gb505,0,none⟩ = some (.int .u16 t491)∧w'.cell? ⟨gb505,1,none⟩ = some (.int .u16 t492)∧w'.cell? ⟨gb505,2,none⟩ = some (.slice Ao25 t493.length co25)∧w'.cell? ⟨gb505,3,none⟩ = some (.slice Ao26 t496.length co26)∧w'.cell? ⟨gb505,4,none⟩ = some (.slice Ao27 t499.length co27)∧w'.cell? ⟨gb505,5,none⟩ = some (.slice Ao28 t502.length co28)∧w'.cell? ⟨gb474,0,none⟩ = some (.int .u16 a0_0)∧w'.cell? ⟨gb474,1,none⟩ = some (.int .u16 a0_1)∧w'.cell? ⟨gb474,2,none⟩ = some (.slice A0_2 l0_2.length c0_2)∧w'.cell? ⟨gb474,3,none⟩ = some (.slice A0_3 l0_3.length c0_3)∧w'.cell? ⟨gb474,4,none⟩ = some (.slice A0_4 l0_4.length c0_4)∧w'.cell? ⟨gb474,5,none⟩ = some (.slice A0_5 l0_5.length c0_5)) (ds:=[]) #[false,false,false,false,false,false,false,false,false,false,false,false,false,false,false] (by kernel_rfl) rfl rfl ⟨(qqh BK505.out 0).trans rfl,(qqh BK505.out 1).trans rfl,(qqh BK505.out 2).trans rfl,(qqh BK505.out 3).trans rfl,(qqh BK505.out 4).trans rfl,(qqh BK505.out 5).trans rfl,(qqh BK474.out 0).trans rfl,(qqh BK474.out 1).trans rfl,(qqh BK474.out 2).trans rfl,(qqh BK474.out 3).trans rfl,(qqh BK474.out 4).trans rfl,(qqh BK474.out 5).trans rfl⟩ (fun hHeld => ?_);refine with_tabW nunciolaw08_QueryTime.tab6 nunciolaw08_QueryTime.bits6 (fun HT_ HW_ => ?_)
   generalize w49.drew = w50 at HO481 HO484 HO487 HO490 HO495 HO498 HO501 HO504 BK474 BK505 HB hHeld ⊢
   refine pure_ (i:=2) (N:=some 22) (v:=?_) (a':=?_) #[false,false,true,false,false,false,false,false,false,false,false,false,false,false,false] rfl rfl (any_of HT_.out (by kernel_rfl)) (fun _ _ _ h => h) (Or.inl ⟨by rfl,?_⟩) ?_ ?_
   rotate_left
   ·
    intro w'
    go_simp
    with_reducible rfl
   rotate_left
   ·
    simp only [Act.put,qqj,qqk,qql,i64_w,i32_w]
    rfl
   refine pure_ (i:=3) (N:=some 23) (v:=?_) (a':=?_) #[false,false,true,true,false,false,false,false,false,false,false,false,false,false,false] rfl rfl (any_of HT_.out (by kernel_rfl)) (fun _ _ _ h => h) (Or.inl ⟨by rfl,?_⟩) ?_ ?_
   rotate_left
   ·
    intro w'
    go_simp
    with_reducible rfl
   rotate_left
   ·
    simp only [Act.put,qqj,qqk,qql,i64_w,i32_w]
    rfl
   refine take_ (i:=0) (N:=some 20) (v:=?_) (a':=?_) #[true,false,true,true,false,false,false,false,false,false,false,false,false,false,false] rfl rfl (take_ofW HT_.out HW_.out (by kernel_rfl)) (fun _ _ _ h => h) (Or.inl ⟨by rfl,?_⟩) hHeld ?_ ?_
   rotate_left
   ·
    rintro w' ⟨s0,s1,s2,s3,s4,s5,s6,s7,s8,s9,s10,s11⟩
    go_simp
    with_reducible rfl
   rotate_left
   ·
    simp only [Act.put,qqj,qqk,qql,i64_w,i32_w]
    rfl
   refine take_ (i:=1) (N:=some 21) (v:=?_) (a':=?_) #[true,true,true,true,false,false,false,false,false,false,false,false,false,false,false] rfl rfl (take_ofW HT_.out HW_.out (by kernel_rfl)) (fun _ _ _ h => h) (Or.inl ⟨by rfl,?_⟩) hHeld ?_ ?_
   rotate_left
   ·
    rintro w' ⟨s0,s1,s2,s3,s4,s5,s6,s7,s8,s9,s10,s11⟩
    go_simp
    with_reducible rfl
   rotate_left
   ·
    simp only [Act.put,qqj,qqk,qql,i64_w,i32_w]
    rfl
   refine one_ (i:=4) (N:=some 24) #[true,true,true,true,true,false,false,false,false,false,false,false,false,false,false] rfl rfl (one_of HT_.out (by kernel_rfl)) (by decide) (fun K hK => ?_)
   refine goes_ Try.func31 (by kernel_rfl) rfl #[.int .u64 a1,.int .u64 a2] (by rfl) rfl rfl (by (try simp only [List.map_toArray,List.map_cons,List.map_nil]);first|done|rfl|(simp only [List.length_drop,List.length_take];rfl)) ?_
   with_reducible refine (nuncioref01_Add64.calls a1 a2 t506 _ A29.out).mono ?_
   rintro e w' ⟨rfl,⟨nd,rfl⟩⟩
   refine ⟨_,rfl,?_⟩
   refine hK.out _ _ ⟨(qqh BK505.out 0).trans rfl,(qqh BK505.out 1).trans rfl,(qqh BK505.out 2).trans rfl,(qqh BK505.out 3).trans rfl,(qqh BK505.out 4).trans rfl,(qqh BK505.out 5).trans rfl,(qqh BK474.out 0).trans rfl,(qqh BK474.out 1).trans rfl,(qqh BK474.out 2).trans rfl,(qqh BK474.out 3).trans rfl,(qqh BK474.out 4).trans rfl,(qqh BK474.out 5).trans rfl⟩ (fun hHeld => ?_)
   clear hK K
   refine norm_ (a':=?_) ?_ ?_
   rotate_left
   ·
    show Act.put _ (some 24) _ = _
    simp only [Act.put,qqj,qqk,qql,i64_w,i32_w]
    rfl
   refine one_ (i:=5) (N:=some 25) #[true,true,true,true,true,true,false,false,false,false,false,false,false,false,false] rfl rfl (one_of HT_.out (by kernel_rfl)) (by decide) (fun K hK => ?_)
   refine goes_ Try.func23 (by kernel_rfl) rfl #[.agg #[.int .u16 a0_0,.int .u16 a0_1,.slice A0_2 l0_2.length c0_2,.slice A0_3 l0_3.length c0_3,.slice A0_4 l0_4.length c0_4,.slice A0_5 l0_5.length c0_5],.int .u64 t506] (by rfl) rfl rfl (by (try simp only [List.map_toArray,List.map_cons,List.map_nil]);first|done|rfl|(simp only [List.length_drop,List.length_take];rfl)) ?_
   with_reducible refine (query_Age.calls k a0_0 a0_1 _ _ l0_2 _ _ l0_3 _ _ l0_4 _ _ l0_5 t506 t507 t508 t509 t512 t515 t518 _ ?side1 ?side2 ?side3 ?side4 ?side5 ?side6 ?side7 ?side8 A30.out).mono ?_
   (case side1 => repeat (first|exact (Kd.C_below HR0_2.out (by repeat (first|(with_reducible first|exact HB.out|apply qqf|apply qqd|apply qqe|refine qqg ?_ GE474.out|refine qqg ?_ GE505.out)|exact HB.out)))|(with_reducible refine Kd.C_alloc ?_ _)|(with_reducible refine Kd.C_drewN ?_ _)|(with_reducible refine Kd.C_drew ?_)))
   (case side2 => exact HC0_2.out)
   (case side3 => repeat (first|exact (Kd.C_below HR0_3.out (by repeat (first|(with_reducible first|exact HB.out|apply qqf|apply qqd|apply qqe|refine qqg ?_ GE474.out|refine qqg ?_ GE505.out)|exact HB.out)))|(with_reducible refine Kd.C_alloc ?_ _)|(with_reducible refine Kd.C_drewN ?_ _)|(with_reducible refine Kd.C_drew ?_)))
   (case side4 => exact HC0_3.out)
   (case side5 => repeat (first|exact (Kd.C_below HR0_4.out (by repeat (first|(with_reducible first|exact HB.out|apply qqf|apply qqd|apply qqe|refine qqg ?_ GE474.out|refine qqg ?_ GE505.out)|exact HB.out)))|(with_reducible refine Kd.C_alloc ?_ _)|(with_reducible refine Kd.C_drewN ?_ _)|(with_reducible refine Kd.C_drew ?_)))
   (case side6 => exact HC0_4.out)
   (case side7 => repeat (first|exact (Kd.C_below HR0_5.out (by repeat (first|(with_reducible first|exact HB.out|apply qqf|apply qqd|apply qqe|refine qqg ?_ GE474.out|refine qqg ?_ GE505.out)|exact HB.out)))|(with_reducible refine Kd.C_alloc ?_ _)|(with_reducible refine Kd.C_drewN ?_ _)|(with_reducible refine Kd.C_drew ?_)))
   (case side8 => exact HC0_5.out)
   rintro e w51 ⟨v510,v513,v516,v519,rfl,ho0,ho1,ho2,ho3,hb⟩
   refine ⟨_,rfl,?_⟩
   have n0_:=Aside0.mk (Kd.R_elder' (by (with_reducible repeat (first|apply Kd.R_alloc|apply Kd.R_drewN|apply Kd.R_drew));exact HO481.out) (Kd.R_base ho0) hb)
   have n1_:=Aside0.mk (Kd.S_mono (Kd.S_told (Kd.S_told (Kd.S_told (Kd.S_old (by (with_reducible repeat (first|apply Kd.S_alloc|apply Kd.S_drewN|apply Kd.S_drew));exact HO484.out) hb) (Kd.S_base ho1)) (Kd.S_base ho2)) (Kd.S_base ho3)) (fun _ h_ => h_.1))
   have n2_:=Aside0.mk (Kd.S_mono (Kd.S_told (Kd.S_told (Kd.S_told (Kd.S_old (by (with_reducible repeat (first|apply Kd.S_alloc|apply Kd.S_drewN|apply Kd.S_drew));exact HO487.out) hb) (Kd.S_base ho1)) (Kd.S_base ho2)) (Kd.S_base ho3)) (fun _ h_ => h_.1))
   have n3_:=Aside0.mk (Kd.S_mono (Kd.S_told (Kd.S_told (Kd.S_told (Kd.S_old (by (with_reducible repeat (first|apply Kd.S_alloc|apply Kd.S_drewN|apply Kd.S_drew));exact HO490.out) hb) (Kd.S_base ho1)) (Kd.S_base ho2)) (Kd.S_base ho3)) (fun _ h_ => h_.1))
   have n4_:=Aside0.mk (Kd.R_elder' (by (with_reducible repeat (first|apply Kd.R_alloc|apply Kd.R_drewN|apply Kd.R_drew));exact HO495.out) (Kd.R_base ho0) hb)
   have n5_:=Aside0.mk (Kd.S_mono (Kd.S_told (Kd.S_told (Kd.S_told (Kd.S_old (by (with_reducible repeat (first|apply Kd.S_alloc|apply Kd.S_drewN|apply Kd.S_drew));exact HO498.out) hb) (Kd.S_base ho1)) (Kd.S_base ho2)) (Kd.S_base ho3)) (fun _ h_ => h_.1))
   have n6_:=Aside0.mk (Kd.S_mono (Kd.S_told (Kd.S_told (Kd.S_told (Kd.S_old (by (with_reducible repeat (first|apply Kd.S_alloc|apply Kd.S_drewN|apply Kd.S_drew));exact HO501.out) hb) (Kd.S_base ho1)) (Kd.S_base ho2)) (Kd.S_base ho3)) (fun _ h_ => h_.1))
   have n7_:=Aside0.mk (Kd.S_mono (Kd.S_told (Kd.S_told (Kd.S_told (Kd.S_old (by (with_reducible repeat (first|apply Kd.S_alloc|apply Kd.S_drewN|apply Kd.S_drew));exact HO504.out) hb) (Kd.S_base ho1)) (Kd.S_base ho2)) (Kd.S_base ho3)) (fun _ h_ => h_.1))
   have n8_:=Aside0.mk (Kd.R_lower (Kd.R_new' (Kd.R_new' ho0 (Kd.R_lt (by (with_reducible repeat (first|apply Kd.R_alloc|apply Kd.R_drewN|apply Kd.R_drew));exact HO481.out))) (Kd.R_lt (by (with_reducible repeat (first|apply Kd.R_alloc|apply Kd.R_drewN|apply Kd.R_drew));exact HO495.out))) (below_size (by repeat (first|(with_reducible first|exact HB.out|apply qqf|apply qqd|apply qqe|refine qqg ?_ GE474.out|refine qqg ?_ GE505.out)|exact HB.out))))
   have n9_:=Aside0.mk (Kd.S_lower (Kd.S_new' (Kd.S_new' (Kd.S_new' (Kd.S_new' (Kd.S_new' (Kd.S_new' ho1 (Kd.S_lt (by (with_reducible repeat (first|apply Kd.S_alloc|apply Kd.S_drewN|apply Kd.S_drew));exact HO484.out))) (Kd.S_lt (by (with_reducible repeat (first|apply Kd.S_alloc|apply Kd.S_drewN|apply Kd.S_drew));exact HO487.out))) (Kd.S_lt (by (with_reducible repeat (first|apply Kd.S_alloc|apply Kd.S_drewN|apply Kd.S_drew));exact HO490.out))) (Kd.S_lt (by (with_reducible repeat (first|apply Kd.S_alloc|apply Kd.S_drewN|apply Kd.S_drew));exact HO498.out))) (Kd.S_lt (by (with_reducible repeat (first|apply Kd.S_alloc|apply Kd.S_drewN|apply Kd.S_drew));exact HO501.out))) (Kd.S_lt (by (with_reducible repeat (first|apply Kd.S_alloc|apply Kd.S_drewN|apply Kd.S_drew));exact HO504.out))) (below_size (by repeat (first|(with_reducible first|exact HB.out|apply qqf|apply qqd|apply qqe|refine qqg ?_ GE474.out|refine qqg ?_ GE505.out)|exact HB.out))))
   have n10_:=Aside0.mk (Kd.S_lower (Kd.S_new' (Kd.S_new' (Kd.S_new' (Kd.S_new' (Kd.S_new' (Kd.S_new' ho2 (Kd.S_lt (by (with_reducible repeat (first|apply Kd.S_alloc|apply Kd.S_drewN|apply Kd.S_drew));exact HO484.out))) (Kd.S_lt (by (with_reducible repeat (first|apply Kd.S_alloc|apply Kd.S_drewN|apply Kd.S_drew));exact HO487.out))) (Kd.S_lt (by (with_reducible repeat (first|apply Kd.S_alloc|apply Kd.S_drewN|apply Kd.S_drew));exact HO490.out))) (Kd.S_lt (by (with_reducible repeat (first|apply Kd.S_alloc|apply Kd.S_drewN|apply Kd.S_drew));exact HO498.out))) (Kd.S_lt (by (with_reducible repeat (first|apply Kd.S_alloc|apply Kd.S_drewN|apply Kd.S_drew));exact HO501.out))) (Kd.S_lt (by (with_reducible repeat (first|apply Kd.S_alloc|apply Kd.S_drewN|apply Kd.S_drew));exact HO504.out))) (below_size (by repeat (first|(with_reducible first|exact HB.out|apply qqf|apply qqd|apply qqe|refine qqg ?_ GE474.out|refine qqg ?_ GE505.out)|exact HB.out))))
   have n11_:=Aside0.mk (Kd.S_lower (Kd.S_new' (Kd.S_new' (Kd.S_new' (Kd.S_new' (Kd.S_new' (Kd.S_new' ho3 (Kd.S_lt (by (with_reducible repeat (first|apply Kd.S_alloc|apply Kd.S_drewN|apply Kd.S_drew));exact HO484.out))) (Kd.S_lt (by (with_reducible repeat (first|apply Kd.S_alloc|apply Kd.S_drewN|apply Kd.S_drew));exact HO487.out))) (Kd.S_lt (by (with_reducible repeat (first|apply Kd.S_alloc|apply Kd.S_drewN|apply Kd.S_drew));exact HO490.out))) (Kd.S_lt (by (with_reducible repeat (first|apply Kd.S_alloc|apply Kd.S_drewN|apply Kd.S_drew));exact HO498.out))) (Kd.S_lt (by (with_reducible repeat (first|apply Kd.S_alloc|apply Kd.S_drewN|apply Kd.S_drew));exact HO501.out))) (Kd.S_lt (by (with_reducible repeat (first|apply Kd.S_alloc|apply Kd.S_drewN|apply Kd.S_drew));exact HO504.out))) (below_size (by repeat (first|(with_reducible first|exact HB.out|apply qqf|apply qqd|apply qqe|refine qqg ?_ GE474.out|refine qqg ?_ GE505.out)|exact HB.out))))
   have n12_:=Aside0.mk (blk_below (g:=gb474) (o:=.cells #[.int .u16 a0_0,.int .u16 a0_1,.slice A0_2 l0_2.length c0_2,.slice A0_3 l0_3.length c0_3,.slice A0_4 l0_4.length c0_4,.slice A0_5 l0_5.length c0_5] 26 (0,0)) (by (with_reducible repeat first|apply qqa|apply qqb|apply qqc);exact BK474.out) hb)
   have n13_:=Aside0.mk (blk_below (g:=gb505) (o:=.cells #[.int .u16 t491,.int .u16 t492,.slice Ao25 t493.length co25,.slice Ao26 t496.length co26,.slice Ao27 t499.length co27,.slice Ao28 t502.length co28] 26 (0,0)) (by (with_reducible repeat first|apply qqa|apply qqb|apply qqc);exact BK505.out) hb)
   have n14_:=Aside0.mk (below_step (by repeat (first|(with_reducible first|exact HB.out|apply qqf|apply qqd|apply qqe|refine qqg ?_ GE474.out|refine qqg ?_ GE505.out)|exact HB.out)) hb)
   clear HO481
   clear HO484
   clear HO487
   clear HO490
   clear HO495
   clear HO498
   clear HO501
   clear HO504
   clear BK474
   clear BK505
   clear HB
   have HO481:=n0_
   have HO484:=n1_
   have HO487:=n2_
   have HO490:=n3_
   have HO495:=n4_
   have HO498:=n5_
   have HO501:=n6_
   have HO504:=n7_
   have HO511:=n8_
   have HO514:=n9_
   have HO517:=n10_
   have HO520:=n11_
   have BK474:=n12_
   have BK505:=n13_
   have HB:=n14_
   clear n0_ n1_ n2_ n3_ n4_ n5_ n6_ n7_ n8_ n9_ n10_ n11_ n12_ n13_ n14_
   (try clear hb)
   (try clear hb2)
   (try clear hk)
   (try clear hi)
   (try clear ho0)
   (try clear ho1)
   (try clear ho2)
   (try clear ho3)
   obtain ⟨Ao52,co52,eo52⟩:=Kd.R_slice HO511.out
   (first|subst eo52|(injection eo52 with f1_ f2_ f3_;have f4_:=f1_.symm;have f5_:=f3_.symm;clear f1_ f2_ f3_;subst f4_;subst f5_))
   obtain ⟨Ao53,co53,eo53⟩:=Kd.S_slice HO514.out
   (first|subst eo53|(injection eo53 with f1_ f2_ f3_;have f4_:=f1_.symm;have f5_:=f3_.symm;clear f1_ f2_ f3_;subst f4_;subst f5_))
   obtain ⟨Ao54,co54,eo54⟩:=Kd.S_slice HO517.out
   (first|subst eo54|(injection eo54 with f1_ f2_ f3_;have f4_:=f1_.symm;have f5_:=f3_.symm;clear f1_ f2_ f3_;subst f4_;subst f5_))
   obtain ⟨Ao55,co55,eo55⟩:=Kd.S_slice HO520.out
   (first|subst eo55|(injection eo55 with f1_ f2_ f3_;have f4_:=f1_.symm;have f5_:=f3_.symm;clear f1_ f2_ f3_;subst f4_;subst f5_))
   refine hK.out _ _ ⟨(qqh BK505.out 0).trans rfl,(qqh BK505.out 1).trans rfl,(qqh BK505.out 2).trans rfl,(qqh BK505.out 3).trans rfl,(qqh BK505.out 4).trans rfl,(qqh BK505.out 5).trans rfl,(qqh BK474.out 0).trans rfl,(qqh BK474.out 1).trans rfl,(qqh BK474.out 2).trans rfl,(qqh BK474.out 3).trans rfl,(qqh BK474.out 4).trans rfl,(qqh BK474.out 5).trans rfl⟩ (fun hHeld => ?_)
   clear hK K
   refine norm_ (a':=?_) ?_ ?_
   rotate_left
   ·
    show Act.put _ (some 25) _ = _
    simp only [Act.put,qqj,qqk,qql,i64_w,i32_w]
    rfl
   refine one_ (i:=6) (N:=some 26) #[true,true,true,true,true,true,true,false,false,false,false,false,false,false,false] rfl rfl (one_of HT_.out (by kernel_rfl)) (by decide) (fun K hK => ?_)
   refine goes_ Try.func13 (by kernel_rfl) rfl #[.agg #[.int .u16 t491,.int .u16 t492,.slice Ao25 t493.length co25,.slice Ao26 t496.length co26,.slice Ao27 t499.length co27,.slice Ao28 t502.length co28],.agg #[.int .u16 t507,.int .u16 t508,.slice Ao52 t509.length co52,.slice Ao53 t512.length co53,.slice Ao54 t515.length co54,.slice Ao55 t518.length co55]] (by rfl) rfl rfl (by (try simp only [List.map_toArray,List.map_cons,List.map_nil]);first|done|rfl|(simp only [List.length_drop,List.length_take];rfl)) ?_
   with_reducible refine (nuncioref06_Same.calls k t491 t492 _ _ t493 _ _ t496 _ _ t499 _ _ t502 t507 t508 _ _ t509 _ _ t512 _ _ t515 _ _ t518 false _ ?side1 ?side2 ?side3 ?side4 ?side5 ?side6 ?side7 ?side8 ?side9 ?side10 ?side11 ?side12 ?side13 ?side14 ?side15 ?side16 A31.out).mono ?_
   (case side1 => repeat (first|exact (Kd.R_reads' HO495.out).2.2|(with_reducible refine Kd.C_alloc ?_ _)|(with_reducible refine Kd.C_drewN ?_ _)|(with_reducible refine Kd.C_drew ?_)))
   (case side2 => exact (Kd.R_reads' HO495.out).2.1)
   (case side3 => repeat (first|exact (Kd.S_reads' HO498.out).2.2|(with_reducible refine Kd.C_alloc ?_ _)|(with_reducible refine Kd.C_drewN ?_ _)|(with_reducible refine Kd.C_drew ?_)))
   (case side4 => exact (Kd.S_reads' HO498.out).2.1)
   (case side5 => repeat (first|exact (Kd.S_reads' HO501.out).2.2|(with_reducible refine Kd.C_alloc ?_ _)|(with_reducible refine Kd.C_drewN ?_ _)|(with_reducible refine Kd.C_drew ?_)))
   (case side6 => exact (Kd.S_reads' HO501.out).2.1)
   (case side7 => repeat (first|exact (Kd.S_reads' HO504.out).2.2|(with_reducible refine Kd.C_alloc ?_ _)|(with_reducible refine Kd.C_drewN ?_ _)|(with_reducible refine Kd.C_drew ?_)))
   (case side8 => exact (Kd.S_reads' HO504.out).2.1)
   (case side9 => repeat (first|exact (Kd.R_reads' HO511.out).2.2|(with_reducible refine Kd.C_alloc ?_ _)|(with_reducible refine Kd.C_drewN ?_ _)|(with_reducible refine Kd.C_drew ?_)))
   (case side10 => exact (Kd.R_reads' HO511.out).2.1)
   (case side11 => repeat (first|exact (Kd.S_reads' HO514.out).2.2|(with_reducible refine Kd.C_alloc ?_ _)|(with_reducible refine Kd.C_drewN ?_ _)|(with_reducible refine Kd.C_drew ?_)))
   (case side12 => exact (Kd.S_reads' HO514.out).2.1)
   (case side13 => repeat (first|exact (Kd.S_reads' HO517.out).2.2|(with_reducible refine Kd.C_alloc ?_ _)|(with_reducible refine Kd.C_drewN ?_ _)|(with_reducible refine Kd.C_drew ?_)))
   (case side14 => exact (Kd.S_reads' HO517.out).2.1)
   (case side15 => repeat (first|exact (Kd.S_reads' HO520.out).2.2|(with_reducible refine Kd.C_alloc ?_ _)|(with_reducible refine Kd.C_drewN ?_ _)|(with_reducible refine Kd.C_drew ?_)))
   (case side16 => exact (Kd.S_reads' HO520.out).2.1)
   rintro e w56 ⟨rfl,hb⟩
   refine ⟨_,rfl,?_⟩
   have n0_:=Aside0.mk (Kd.R_below (by (with_reducible repeat (first|apply Kd.R_alloc|apply Kd.R_drewN|apply Kd.R_drew));exact HO481.out) hb)
   have n1_:=Aside0.mk (Kd.S_below (by (with_reducible repeat (first|apply Kd.S_alloc|apply Kd.S_drewN|apply Kd.S_drew));exact HO484.out) hb)
   have n2_:=Aside0.mk (Kd.S_below (by (with_reducible repeat (first|apply Kd.S_alloc|apply Kd.S_drewN|apply Kd.S_drew));exact HO487.out) hb)
   have n3_:=Aside0.mk (Kd.S_below (by (with_reducible repeat (first|apply Kd.S_alloc|apply Kd.S_drewN|apply Kd.S_drew));exact HO490.out) hb)
   have n4_:=Aside0.mk (Kd.R_below (by (with_reducible repeat (first|apply Kd.R_alloc|apply Kd.R_drewN|apply Kd.R_drew));exact HO495.out) hb)
   have n5_:=Aside0.mk (Kd.S_below (by (with_reducible repeat (first|apply Kd.S_alloc|apply Kd.S_drewN|apply Kd.S_drew));exact HO498.out) hb)
   have n6_:=Aside0.mk (Kd.S_below (by (with_reducible repeat (first|apply Kd.S_alloc|apply Kd.S_drewN|apply Kd.S_drew));exact HO501.out) hb)
   have n7_:=Aside0.mk (Kd.S_below (by (with_reducible repeat (first|apply Kd.S_alloc|apply Kd.S_drewN|apply Kd.S_drew));exact HO504.out) hb)
   have n8_:=Aside0.mk (Kd.R_below (by (with_reducible repeat (first|apply Kd.R_alloc|apply Kd.R_drewN|apply Kd.R_drew));exact HO511.out) hb)
   have n9_:=Aside0.mk (Kd.S_below (by (with_reducible repeat (first|apply Kd.S_alloc|apply Kd.S_drewN|apply Kd.S_drew));exact HO514.out) hb)
   have n10_:=Aside0.mk (Kd.S_below (by (with_reducible repeat (first|apply Kd.S_alloc|apply Kd.S_drewN|apply Kd.S_drew));exact HO517.out) hb)
   have n11_:=Aside0.mk (Kd.S_below (by (with_reducible repeat (first|apply Kd.S_alloc|apply Kd.S_drewN|apply Kd.S_drew));exact HO520.out) hb)
   have n12_:=Aside0.mk (blk_below (g:=gb474) (o:=.cells #[.int .u16 a0_0,.int .u16 a0_1,.slice A0_2 l0_2.length c0_2,.slice A0_3 l0_3.length c0_3,.slice A0_4 l0_4.length c0_4,.slice A0_5 l0_5.length c0_5] 26 (0,0)) (by (with_reducible repeat first|apply qqa|apply qqb|apply qqc);exact BK474.out) hb)
   have n13_:=Aside0.mk (blk_below (g:=gb505) (o:=.cells #[.int .u16 t491,.int .u16 t492,.slice Ao25 t493.length co25,.slice Ao26 t496.length co26,.slice Ao27 t499.length co27,.slice Ao28 t502.length co28] 26 (0,0)) (by (with_reducible repeat first|apply qqa|apply qqb|apply qqc);exact BK505.out) hb)
   have n14_:=Aside0.mk (below_step (by repeat (first|(with_reducible first|exact HB.out|apply qqf|apply qqd|apply qqe|refine qqg ?_ GE474.out|refine qqg ?_ GE505.out)|exact HB.out)) hb)
   clear HO481
   clear HO484
   clear HO487
   clear HO490
   clear HO495
   clear HO498
   clear HO501
   clear HO504
   clear HO511
   clear HO514
   clear HO517
   clear HO520
   clear BK474
   clear BK505
   clear HB
   have HO481:=n0_
   have HO484:=n1_
   have HO487:=n2_
   have HO490:=n3_
   have HO495:=n4_
   have HO498:=n5_
   have HO501:=n6_
   have HO504:=n7_
   have HO511:=n8_
   have HO514:=n9_
   have HO517:=n10_
   have HO520:=n11_
   have BK474:=n12_
   have BK505:=n13_
   have HB:=n14_
   clear n0_ n1_ n2_ n3_ n4_ n5_ n6_ n7_ n8_ n9_ n10_ n11_ n12_ n13_ n14_
   (try clear hb)
   (try clear hb2)
   (try clear hk)
   (try clear hi)
   refine hK.out _ _ ⟨(qqh BK505.out 0).trans rfl,(qqh BK505.out 1).trans rfl,(qqh BK505.out 2).trans rfl,(qqh BK505.out 3).trans rfl,(qqh BK505.out 4).trans rfl,(qqh BK505.out 5).trans rfl,(qqh BK474.out 0).trans rfl,(qqh BK474.out 1).trans rfl,(qqh BK474.out 2).trans rfl,(qqh BK474.out 3).trans rfl,(qqh BK474.out 4).trans rfl,(qqh BK474.out 5).trans rfl⟩ (fun hHeld => ?_)
   clear hK K
   refine norm_ (a':=?_) ?_ ?_
   rotate_left
   ·
    show Act.put _ (some 26) _ = _
    simp only [Act.put,qqj,qqk,qql,i64_w,i32_w]
    rfl
   refine pure_ (i:=7) (N:=some 27) (v:=?_) (a':=?_) #[true,true,true,true,true,true,true,true,false,false,false,false,false,false,false] rfl rfl (any_of HT_.out (by kernel_rfl)) (fun _ _ _ h => h) (Or.inl ⟨by rfl,?_⟩) ?_ ?_
   rotate_left
   ·
    intro w'
    go_simp
    with_reducible rfl
   rotate_left
   ·
    simp only [Act.put,qqj,qqk,qql,i64_w,i32_w]
    rfl
   refine pure_ (i:=8) (N:=some 28) (v:=?_) (a':=?_) #[true,true,true,true,true,true,true,true,true,false,false,false,false,false,false] rfl rfl (any_of HT_.out (by kernel_rfl)) (fun _ _ _ h => h) (Or.inl ⟨by rfl,?_⟩) ?_ ?_
   rotate_left
   ·
    intro w'
    go_simp
    with_reducible rfl
   rotate_left
   ·
    simp only [Act.put,qqj,qqk,qql,i64_w,i32_w]
    rfl
   refine pure_ (i:=9) (N:=some 29) (v:=undef) (a':=?_) #[true,true,true,true,true,true,true,true,true,true,false,false,false,false,false] rfl rfl (any_of HT_.out (by kernel_rfl)) (fun _ _ _ h => h) (Or.inr ⟨by rfl,rfl⟩) ?_ ?_
   rotate_left
   ·
    simp only [Act.put,qqj,qqk,qql,i64_w,i32_w]
    rfl
   refine pure_ (i:=10) (N:=some 30) (v:=undef) (a':=?_) #[true,true,true,true,true,true,true,true,true,true,true,false,false,false,false] rfl rfl (any_of HT_.out (by kernel_rfl)) (fun _ _ _ h => h) (Or.inr ⟨by rfl,rfl⟩) ?_ ?_
   rotate_left
   ·
    simp only [Act.put,qqj,qqk,qql,i64_w,i32_w]
    rfl
   refine pure_ (i:=11) (N:=some 31) (v:=undef) (a':=?_) #[true,true,true,true,true,true,true,true,true,true,true,true,false,false,false] rfl rfl (any_of HT_.out (by kernel_rfl)) (fun _ _ _ h => h) (Or.inr ⟨by rfl,rfl⟩) ?_ ?_
   rotate_left
   ·
    simp only [Act.put,qqj,qqk,qql,i64_w,i32_w]
    rfl
   refine pure_ (i:=12) (N:=some 32) (v:=undef) (a':=?_) #[true,true,true,true,true,true,true,true,true,true,true,true,true,false,false] rfl rfl (any_of HT_.out (by kernel_rfl)) (fun _ _ _ h => h) (Or.inr ⟨by rfl,rfl⟩) ?_ ?_
   rotate_left
   ·
    simp only [Act.put,qqj,qqk,qql,i64_w,i32_w]
    rfl
   refine pure_ (i:=13) (N:=some 33) (v:=undef) (a':=?_) #[true,true,true,true,true,true,true,true,true,true,true,true,true,true,false] rfl rfl (any_of HT_.out (by kernel_rfl)) (fun _ _ _ h => h) (Or.inr ⟨by rfl,rfl⟩) ?_ ?_
   rotate_left
   ·
    simp only [Act.put,qqj,qqk,qql,i64_w,i32_w]
    rfl
   refine pure_ (i:=14) (N:=some 34) (v:=?_) (a':=?_) #[true,true,true,true,true,true,true,true,true,true,true,true,true,true,true] rfl rfl (any_of HT_.out (by kernel_rfl)) (fun _ _ _ h => h) (Or.inl ⟨by rfl,?_⟩) ?_ ?_
   rotate_left
   ·
    intro w'
    go_simp
    with_reducible rfl
   rotate_left
   ·
    simp only [Act.put,qqj,qqk,qql,i64_w,i32_w]
    rfl
   refine done_ (done_of HT_.out (by kernel_rfl)) ?_
   try go_wp2
   go_meet
   case rel => exact ⟨_,(true),(by first|rfl|(simp;done)|(simp [*];done)),H',⟨by first|omega|exact Nat.le_refl _⟩,⟨by (with_reducible repeat (first|apply Kd.R_alloc|apply Kd.R_drewN|apply Kd.R_drew));exact Kd.R_mono HO495.out (fun _ hk => trivial)⟩,⟨by (with_reducible repeat (first|apply Kd.S_alloc|apply Kd.S_drewN|apply Kd.S_drew));exact Kd.S_mono HO498.out (fun _ hk => ⟨hk.1.1.1.2.2.2.1,hk.1.1.1.2.2.2.2⟩)⟩,⟨by (with_reducible repeat (first|apply Kd.S_alloc|apply Kd.S_drewN|apply Kd.S_drew));exact Kd.S_mono HO501.out (fun _ hk => ⟨hk.1.1.1.2.2.2.1,hk.1.1.1.2.2.2.2⟩)⟩,⟨by (with_reducible repeat (first|apply Kd.S_alloc|apply Kd.S_drewN|apply Kd.S_drew));exact Kd.S_mono HO504.out (fun _ hk => ⟨hk.1.1.1.2.2.2.1,hk.1.1.1.2.2.2.2⟩)⟩,⟨by (with_reducible repeat first|apply qqa|apply qqb|apply qqc);exact BK474.out⟩,⟨by (with_reducible repeat first|apply qqa|apply qqb|apply qqc);exact BK505.out⟩,⟨by repeat (first|(with_reducible first|exact HB.out|apply qqf|apply qqd|apply qqe|refine qqg ?_ GE474.out|refine qqg ?_ GE505.out)|exact HB.out)⟩⟩
 case rest =>
  clear HC10
  try clear c1
  try clear c2
  try clear p2
  try clear c3
  try clear c13
  try clear c23
  try clear c31
  try clear c32
  obtain ⟨kq,x34_9,rfl,HA,HJ9,HO_506002,HO_506003,HO_506004,HO_506005,BK474,BK505,HB⟩:=hcut
  cases kq with
  | zero => exact absurd HA.out (by simp [nunciolaw08_QueryTime.j0])
  | succ kj9 =>
   have H:=HA.out
   clear HA
   simp only [nunciolaw08_QueryTime.j0] at H
   by_cases c57 : x34_9 = true
   ·
    subst c57
    have H1 : (some false) = some r:=by rw [if_pos rfl] at H;exact H
    clear H
    have H:=H1
    clear H1
    exact absurd ((Option.some.inj H).trans HT.out) (by decide)
   ·
    replace c57:=Bool.eq_false_iff.mpr c57
    subst c57
    have H1 : ((query_Least.f a0_0 a0_1 l0_2 l0_3 l0_4 l0_5).bind fun t537 => ((query_Age.f kj9 a0_0 a0_1 l0_2 l0_3 l0_4 l0_5 a1).bind fun bt538 => ((query_Least.f bt538.1 bt538.2.1 bt538.2.2.1 bt538.2.2.2.1 bt538.2.2.2.2.1 bt538.2.2.2.2.2).bind fun t552 => (if t552 > t537 then (nunciolaw08_QueryTime.j1 kj9 a1 t537 t552 true a0_0 a0_1 l0_2 l0_3 l0_4 l0_5) else ((query_Negative.f a0_0 a0_1 l0_2 l0_3 l0_4 l0_5).bind fun t553 => ((query_Age.f kj9 a0_0 a0_1 l0_2 l0_3 l0_4 l0_5 a1).bind fun bt554 => ((query_Negative.f bt554.1 bt554.2.1 bt554.2.2.1 bt554.2.2.2.1 bt554.2.2.2.2.1 bt554.2.2.2.2.2).bind fun t568 => (nunciolaw08_QueryTime.j1 kj9 a1 t537 t552 (t553 != t568) a0_0 a0_1 l0_2 l0_3 l0_4 l0_5)))))))) = some r:=by rw [if_neg (show ¬ (false = true) by decide)] at H;exact H
    clear H
    have H:=H1
    clear H1
    replace H:=Option.bind_eq_some_iff.mp H
    obtain ⟨t537,A580,H⟩:=H
    replace H : ((query_Age.f kj9 a0_0 a0_1 l0_2 l0_3 l0_4 l0_5 a1).bind fun bt538 => ((query_Least.f bt538.1 bt538.2.1 bt538.2.2.1 bt538.2.2.2.1 bt538.2.2.2.2.1 bt538.2.2.2.2.2).bind fun t552 => (if t552 > t537 then (nunciolaw08_QueryTime.j1 kj9 a1 t537 t552 true a0_0 a0_1 l0_2 l0_3 l0_4 l0_5) else ((query_Negative.f a0_0 a0_1 l0_2 l0_3 l0_4 l0_5).bind fun t553 => ((query_Age.f kj9 a0_0 a0_1 l0_2 l0_3 l0_4 l0_5 a1).bind fun bt554 => ((query_Negative.f bt554.1 bt554.2.1 bt554.2.2.1 bt554.2.2.2.1 bt554.2.2.2.2.1 bt554.2.2.2.2.2).bind fun t568 => (nunciolaw08_QueryTime.j1 kj9 a1 t537 t552 (t553 != t568) a0_0 a0_1 l0_2 l0_3 l0_4 l0_5))))))) = some r:=H
    have A58:=Aside0.mk A580
    clear A580
    replace H:=Option.bind_eq_some_iff.mp H
    obtain ⟨⟨t538,t539,t540,t543,t546,t549⟩,A590,H⟩:=H
    replace H : ((query_Least.f t538 t539 t540 t543 t546 t549).bind fun t552 => (if t552 > t537 then (nunciolaw08_QueryTime.j1 kj9 a1 t537 t552 true a0_0 a0_1 l0_2 l0_3 l0_4 l0_5) else ((query_Negative.f a0_0 a0_1 l0_2 l0_3 l0_4 l0_5).bind fun t553 => ((query_Age.f kj9 a0_0 a0_1 l0_2 l0_3 l0_4 l0_5 a1).bind fun bt554 => ((query_Negative.f bt554.1 bt554.2.1 bt554.2.2.1 bt554.2.2.2.1 bt554.2.2.2.2.1 bt554.2.2.2.2.2).bind fun t568 => (nunciolaw08_QueryTime.j1 kj9 a1 t537 t552 (t553 != t568) a0_0 a0_1 l0_2 l0_3 l0_4 l0_5)))))) = some r:=H
    have A59:=Aside0.mk A590
    clear A590
    replace H:=Option.bind_eq_some_iff.mp H
    obtain ⟨t552,A600,H⟩:=H
    replace H : (if t552 > t537 then (nunciolaw08_QueryTime.j1 kj9 a1 t537 t552 true a0_0 a0_1 l0_2 l0_3 l0_4 l0_5) else ((query_Negative.f a0_0 a0_1 l0_2 l0_3 l0_4 l0_5).bind fun t553 => ((query_Age.f kj9 a0_0 a0_1 l0_2 l0_3 l0_4 l0_5 a1).bind fun bt554 => ((query_Negative.f bt554.1 bt554.2.1 bt554.2.2.1 bt554.2.2.2.1 bt554.2.2.2.2.1 bt554.2.2.2.2.2).bind fun t568 => (nunciolaw08_QueryTime.j1 kj9 a1 t537 t552 (t553 != t568) a0_0 a0_1 l0_2 l0_3 l0_4 l0_5))))) = some r:=H
    have A60:=Aside0.mk A600
    clear A600
    have HC61:=Aside0.mk H
    clear H
    try go_wp2
    have n0_:=Aside0.mk (Kd.R_drew HO_506002.out)
    have n1_:=Aside0.mk (Kd.S_drew HO_506003.out)
    have n2_:=Aside0.mk (Kd.S_drew HO_506004.out)
    have n3_:=Aside0.mk (Kd.S_drew HO_506005.out)
    have n4_:=Aside0.mk (qqb BK474.out)
    have n5_:=Aside0.mk (qqb BK505.out)
    have n6_:=Aside0.mk (qqe HB.out)
    clear HO_506002
    clear HO_506003
    clear HO_506004
    clear HO_506005
    clear BK474
    clear BK505
    clear HB
    have HO_506002:=n0_
    have HO_506003:=n1_
    have HO_506004:=n2_
    have HO_506005:=n3_
    have BK474:=n4_
    have BK505:=n5_
    have HB:=n6_
    clear n0_ n1_ n2_ n3_ n4_ n5_ n6_
    refine start_ (n:=8) (S:=fun w' => w'.cell? ⟨gb474,0,none⟩ = some (.int .u16 a0_0)∧w'.cell? ⟨gb474,1,none⟩ = some (.int .u16 a0_1)∧w'.cell? ⟨gb474,2,none⟩ = some (.slice A0_2 l0_2.length c0_2)∧w'.cell? ⟨gb474,3,none⟩ = some (.slice A0_3 l0_3.length c0_3)∧w'.cell? ⟨gb474,4,none⟩ = some (.slice A0_4 l0_4.length c0_4)∧w'.cell? ⟨gb474,5,none⟩ = some (.slice A0_5 l0_5.length c0_5)) (ds:=[]) #[false,false,false,false,false,false,false,false] (by kernel_rfl) rfl rfl ⟨(qqh BK474.out 0).trans rfl,(qqh BK474.out 1).trans rfl,(qqh BK474.out 2).trans rfl,(qqh BK474.out 3).trans rfl,(qqh BK474.out 4).trans rfl,(qqh BK474.out 5).trans rfl⟩ (fun hHeld => ?_);refine with_tabW nunciolaw08_QueryTime.tab8 nunciolaw08_QueryTime.bits8 (fun HT_ HW_ => ?_)
    generalize wc.drew = w62 at HO_506002 HO_506003 HO_506004 HO_506005 BK474 BK505 HB hHeld ⊢
    refine pure_ (i:=3) (N:=some 38) (v:=?_) (a':=?_) #[false,false,false,true,false,false,false,false] rfl rfl (any_of HT_.out (by kernel_rfl)) (fun _ _ _ h => h) (Or.inl ⟨by rfl,?_⟩) ?_ ?_
    rotate_left
    ·
     intro w'
     go_simp
     with_reducible rfl
    rotate_left
    ·
     simp only [Act.put,qqj,qqk,qql,i64_w,i32_w]
     rfl
    refine take_ (i:=0) (N:=some 35) (v:=?_) (a':=?_) #[true,false,false,true,false,false,false,false] rfl rfl (take_ofW HT_.out HW_.out (by kernel_rfl)) (fun _ _ _ h => h) (Or.inl ⟨by rfl,?_⟩) hHeld ?_ ?_
    rotate_left
    ·
     rintro w' ⟨s0,s1,s2,s3,s4,s5⟩
     go_simp
     with_reducible rfl
    rotate_left
    ·
     simp only [Act.put,qqj,qqk,qql,i64_w,i32_w]
     rfl
    refine take_ (i:=2) (N:=some 37) (v:=?_) (a':=?_) #[true,false,true,true,false,false,false,false] rfl rfl (take_ofW HT_.out HW_.out (by kernel_rfl)) (fun _ _ _ h => h) (Or.inl ⟨by rfl,?_⟩) hHeld ?_ ?_
    rotate_left
    ·
     rintro w' ⟨s0,s1,s2,s3,s4,s5⟩
     go_simp
     with_reducible rfl
    rotate_left
    ·
     simp only [Act.put,qqj,qqk,qql,i64_w,i32_w]
     rfl
    refine one_ (i:=1) (N:=some 36) #[true,true,true,true,false,false,false,false] rfl rfl (one_of HT_.out (by kernel_rfl)) (by decide) (fun K hK => ?_)
    refine goes_ Try.func20 (by kernel_rfl) rfl #[.agg #[.int .u16 a0_0,.int .u16 a0_1,.slice A0_2 l0_2.length c0_2,.slice A0_3 l0_3.length c0_3,.slice A0_4 l0_4.length c0_4,.slice A0_5 l0_5.length c0_5]] (by rfl) rfl rfl (by (try simp only [List.map_toArray,List.map_cons,List.map_nil]);first|done|rfl|(simp only [List.length_drop,List.length_take];rfl)) ?_
    with_reducible refine (query_Least.calls a0_0 a0_1 _ _ l0_2 _ _ l0_3 _ _ l0_4 _ _ l0_5 t537 _ ?side1 ?side2 ?side3 ?side4 ?side5 ?side6 ?side7 ?side8 A58.out).mono ?_
    (case side1 => repeat (first|exact (Kd.C_below HR0_2.out HB.out)|(with_reducible refine Kd.C_alloc ?_ _)|(with_reducible refine Kd.C_drewN ?_ _)|(with_reducible refine Kd.C_drew ?_)))
    (case side2 => exact HC0_2.out)
    (case side3 => repeat (first|exact (Kd.C_below HR0_3.out HB.out)|(with_reducible refine Kd.C_alloc ?_ _)|(with_reducible refine Kd.C_drewN ?_ _)|(with_reducible refine Kd.C_drew ?_)))
    (case side4 => exact HC0_3.out)
    (case side5 => repeat (first|exact (Kd.C_below HR0_4.out HB.out)|(with_reducible refine Kd.C_alloc ?_ _)|(with_reducible refine Kd.C_drewN ?_ _)|(with_reducible refine Kd.C_drew ?_)))
    (case side6 => exact HC0_4.out)
    (case side7 => repeat (first|exact (Kd.C_below HR0_5.out HB.out)|(with_reducible refine Kd.C_alloc ?_ _)|(with_reducible refine Kd.C_drewN ?_ _)|(with_reducible refine Kd.C_drew ?_)))
    (case side8 => exact HC0_5.out)
    rintro e w63 ⟨rfl,hb⟩
    refine ⟨_,rfl,?_⟩
    have n0_:=Aside0.mk (Kd.R_below (by (with_reducible repeat (first|apply Kd.R_alloc|apply Kd.R_drewN|apply Kd.R_drew));exact HO_506002.out) hb)
    have n1_:=Aside0.mk (Kd.S_below (by (with_reducible repeat (first|apply Kd.S_alloc|apply Kd.S_drewN|apply Kd.S_drew));exact HO_506003.out) hb)
    have n2_:=Aside0.mk (Kd.S_below (by (with_reducible repeat (first|apply Kd.S_alloc|apply Kd.S_drewN|apply Kd.S_drew));exact HO_506004.out) hb)
    have n3_:=Aside0.mk (Kd.S_below (by (with_reducible repeat (first|apply Kd.S_alloc|apply Kd.S_drewN|apply Kd.S_drew));exact HO_506005.out) hb)
    have n4_:=Aside0.mk (blk_below (g:=gb474) (o:=.cells #[.int .u16 a0_0,.int .u16 a0_1,.slice A0_2 l0_2.length c0_2,.slice A0_3 l0_3.length c0_3,.slice A0_4 l0_4.length c0_4,.slice A0_5 l0_5.length c0_5] 26 (0,0)) (by (with_reducible repeat first|apply qqa|apply qqb|apply qqc);exact BK474.out) hb)
    have n5_:=Aside0.mk (blk_below (g:=gb505) (o:=.cells #[.int .u16 t491,.int .u16 t492,.slice Ao25 t493.length co25,.slice Ao26 t496.length co26,.slice Ao27 t499.length co27,.slice Ao28 t502.length co28] 26 (0,0)) (by (with_reducible repeat first|apply qqa|apply qqb|apply qqc);exact BK505.out) hb)
    have n6_:=Aside0.mk (below_step (by repeat (first|(with_reducible first|exact HB.out|apply qqf|apply qqd|apply qqe|refine qqg ?_ GE474.out|refine qqg ?_ GE505.out)|exact HB.out)) hb)
    clear HO_506002
    clear HO_506003
    clear HO_506004
    clear HO_506005
    clear BK474
    clear BK505
    clear HB
    have HO_506002:=n0_
    have HO_506003:=n1_
    have HO_506004:=n2_
    have HO_506005:=n3_
    have BK474:=n4_
    have BK505:=n5_
    have HB:=n6_
    clear n0_ n1_ n2_ n3_ n4_ n5_ n6_
    (try clear hb)
    (try clear hb2)
    (try clear hk)
    (try clear hi)
    refine hK.out _ _ ⟨(qqh BK474.out 0).trans rfl,(qqh BK474.out 1).trans rfl,(qqh BK474.out 2).trans rfl,(qqh BK474.out 3).trans rfl,(qqh BK474.out 4).trans rfl,(qqh BK474.out 5).trans rfl⟩ (fun hHeld => ?_)
    clear hK K
    refine norm_ (a':=?_) ?_ ?_
    rotate_left
    ·
     show Act.put _ (some 36) _ = _
     simp only [Act.put,qqj,qqk,qql,i64_w,i32_w]
     rfl
    refine one_ (i:=4) (N:=some 39) #[true,true,true,true,true,false,false,false] rfl rfl (one_of HT_.out (by kernel_rfl)) (by decide) (fun K hK => ?_)
    refine goes_ Try.func23 (by kernel_rfl) rfl #[.agg #[.int .u16 a0_0,.int .u16 a0_1,.slice A0_2 l0_2.length c0_2,.slice A0_3 l0_3.length c0_3,.slice A0_4 l0_4.length c0_4,.slice A0_5 l0_5.length c0_5],.int .u64 a1] (by rfl) rfl rfl (by (try simp only [List.map_toArray,List.map_cons,List.map_nil]);first|done|rfl|(simp only [List.length_drop,List.length_take];rfl)) ?_
    with_reducible refine (query_Age.calls kj9 a0_0 a0_1 _ _ l0_2 _ _ l0_3 _ _ l0_4 _ _ l0_5 a1 t538 t539 t540 t543 t546 t549 _ ?side1 ?side2 ?side3 ?side4 ?side5 ?side6 ?side7 ?side8 A59.out).mono ?_
    (case side1 => repeat (first|exact (Kd.C_below HR0_2.out HB.out)|(with_reducible refine Kd.C_alloc ?_ _)|(with_reducible refine Kd.C_drewN ?_ _)|(with_reducible refine Kd.C_drew ?_)))
    (case side2 => exact HC0_2.out)
    (case side3 => repeat (first|exact (Kd.C_below HR0_3.out HB.out)|(with_reducible refine Kd.C_alloc ?_ _)|(with_reducible refine Kd.C_drewN ?_ _)|(with_reducible refine Kd.C_drew ?_)))
    (case side4 => exact HC0_3.out)
    (case side5 => repeat (first|exact (Kd.C_below HR0_4.out HB.out)|(with_reducible refine Kd.C_alloc ?_ _)|(with_reducible refine Kd.C_drewN ?_ _)|(with_reducible refine Kd.C_drew ?_)))
    (case side6 => exact HC0_4.out)
    (case side7 => repeat (first|exact (Kd.C_below HR0_5.out HB.out)|(with_reducible refine Kd.C_alloc ?_ _)|(with_reducible refine Kd.C_drewN ?_ _)|(with_reducible refine Kd.C_drew ?_)))
    (case side8 => exact HC0_5.out)
    rintro e w64 ⟨v541,v544,v547,v550,rfl,ho0,ho1,ho2,ho3,hb⟩
    refine ⟨_,rfl,?_⟩
    have n0_:=Aside0.mk (Kd.R_elder' (by (with_reducible repeat (first|apply Kd.R_alloc|apply Kd.R_drewN|apply Kd.R_drew));exact HO_506002.out) (Kd.R_base ho0) hb)
    have n1_:=Aside0.mk (Kd.S_mono (Kd.S_told (Kd.S_told (Kd.S_told (Kd.S_old (by (with_reducible repeat (first|apply Kd.S_alloc|apply Kd.S_drewN|apply Kd.S_drew));exact HO_506003.out) hb) (Kd.S_base ho1)) (Kd.S_base ho2)) (Kd.S_base ho3)) (fun _ h_ => h_.1))
    have n2_:=Aside0.mk (Kd.S_mono (Kd.S_told (Kd.S_told (Kd.S_told (Kd.S_old (by (with_reducible repeat (first|apply Kd.S_alloc|apply Kd.S_drewN|apply Kd.S_drew));exact HO_506004.out) hb) (Kd.S_base ho1)) (Kd.S_base ho2)) (Kd.S_base ho3)) (fun _ h_ => h_.1))
    have n3_:=Aside0.mk (Kd.S_mono (Kd.S_told (Kd.S_told (Kd.S_told (Kd.S_old (by (with_reducible repeat (first|apply Kd.S_alloc|apply Kd.S_drewN|apply Kd.S_drew));exact HO_506005.out) hb) (Kd.S_base ho1)) (Kd.S_base ho2)) (Kd.S_base ho3)) (fun _ h_ => h_.1))
    have n4_:=Aside0.mk (Kd.R_lower (Kd.R_new' ho0 (Kd.R_lt (by (with_reducible repeat (first|apply Kd.R_alloc|apply Kd.R_drewN|apply Kd.R_drew));exact HO_506002.out))) (below_size (by repeat (first|(with_reducible first|exact HB.out|apply qqf|apply qqd|apply qqe|refine qqg ?_ GE474.out|refine qqg ?_ GE505.out)|exact HB.out))))
    have n5_:=Aside0.mk (Kd.S_lower (Kd.S_new' (Kd.S_new' (Kd.S_new' ho1 (Kd.S_lt (by (with_reducible repeat (first|apply Kd.S_alloc|apply Kd.S_drewN|apply Kd.S_drew));exact HO_506003.out))) (Kd.S_lt (by (with_reducible repeat (first|apply Kd.S_alloc|apply Kd.S_drewN|apply Kd.S_drew));exact HO_506004.out))) (Kd.S_lt (by (with_reducible repeat (first|apply Kd.S_alloc|apply Kd.S_drewN|apply Kd.S_drew));exact HO_506005.out))) (below_size (by repeat (first|(with_reducible first|exact HB.out|apply qqf|apply qqd|apply qqe|refine qqg ?_ GE474.out|refine qqg ?_ GE505.out)|exact HB.out))))
    have n6_:=Aside0.mk (Kd.S_lower (Kd.S_new' (Kd.S_new' (Kd.S_new' ho2 (Kd.S_lt (by (with_reducible repeat (first|apply Kd.S_alloc|apply Kd.S_drewN|apply Kd.S_drew));exact HO_506003.out))) (Kd.S_lt (by (with_reducible repeat (first|apply Kd.S_alloc|apply Kd.S_drewN|apply Kd.S_drew));exact HO_506004.out))) (Kd.S_lt (by (with_reducible repeat (first|apply Kd.S_alloc|apply Kd.S_drewN|apply Kd.S_drew));exact HO_506005.out))) (below_size (by repeat (first|(with_reducible first|exact HB.out|apply qqf|apply qqd|apply qqe|refine qqg ?_ GE474.out|refine qqg ?_ GE505.out)|exact HB.out))))
    have n7_:=Aside0.mk (Kd.S_lower (Kd.S_new' (Kd.S_new' (Kd.S_new' ho3 (Kd.S_lt (by (with_reducible repeat (first|apply Kd.S_alloc|apply Kd.S_drewN|apply Kd.S_drew));exact HO_506003.out))) (Kd.S_lt (by (with_reducible repeat (first|apply Kd.S_alloc|apply Kd.S_drewN|apply Kd.S_drew));exact HO_506004.out))) (Kd.S_lt (by (with_reducible repeat (first|apply Kd.S_alloc|apply Kd.S_drewN|apply Kd.S_drew));exact HO_506005.out))) (below_size (by repeat (first|(with_reducible first|exact HB.out|apply qqf|apply qqd|apply qqe|refine qqg ?_ GE474.out|refine qqg ?_ GE505.out)|exact HB.out))))
    have n8_:=Aside0.mk (blk_below (g:=gb474) (o:=.cells #[.int .u16 a0_0,.int .u16 a0_1,.slice A0_2 l0_2.length c0_2,.slice A0_3 l0_3.length c0_3,.slice A0_4 l0_4.length c0_4,.slice A0_5 l0_5.length c0_5] 26 (0,0)) (by (with_reducible repeat first|apply qqa|apply qqb|apply qqc);exact BK474.out) hb)
    have n9_:=Aside0.mk (blk_below (g:=gb505) (o:=.cells #[.int .u16 t491,.int .u16 t492,.slice Ao25 t493.length co25,.slice Ao26 t496.length co26,.slice Ao27 t499.length co27,.slice Ao28 t502.length co28] 26 (0,0)) (by (with_reducible repeat first|apply qqa|apply qqb|apply qqc);exact BK505.out) hb)
    have n10_:=Aside0.mk (below_step (by repeat (first|(with_reducible first|exact HB.out|apply qqf|apply qqd|apply qqe|refine qqg ?_ GE474.out|refine qqg ?_ GE505.out)|exact HB.out)) hb)
    clear HO_506002
    clear HO_506003
    clear HO_506004
    clear HO_506005
    clear BK474
    clear BK505
    clear HB
    have HO_506002:=n0_
    have HO_506003:=n1_
    have HO_506004:=n2_
    have HO_506005:=n3_
    have HO542:=n4_
    have HO545:=n5_
    have HO548:=n6_
    have HO551:=n7_
    have BK474:=n8_
    have BK505:=n9_
    have HB:=n10_
    clear n0_ n1_ n2_ n3_ n4_ n5_ n6_ n7_ n8_ n9_ n10_
    (try clear hb)
    (try clear hb2)
    (try clear hk)
    (try clear hi)
    (try clear ho0)
    (try clear ho1)
    (try clear ho2)
    (try clear ho3)
    obtain ⟨Ao65,co65,eo65⟩:=Kd.R_slice HO542.out
    (first|subst eo65|(injection eo65 with f1_ f2_ f3_;have f4_:=f1_.symm;have f5_:=f3_.symm;clear f1_ f2_ f3_;subst f4_;subst f5_))
    obtain ⟨Ao66,co66,eo66⟩:=Kd.S_slice HO545.out
    (first|subst eo66|(injection eo66 with f1_ f2_ f3_;have f4_:=f1_.symm;have f5_:=f3_.symm;clear f1_ f2_ f3_;subst f4_;subst f5_))
    obtain ⟨Ao67,co67,eo67⟩:=Kd.S_slice HO548.out
    (first|subst eo67|(injection eo67 with f1_ f2_ f3_;have f4_:=f1_.symm;have f5_:=f3_.symm;clear f1_ f2_ f3_;subst f4_;subst f5_))
    obtain ⟨Ao68,co68,eo68⟩:=Kd.S_slice HO551.out
    (first|subst eo68|(injection eo68 with f1_ f2_ f3_;have f4_:=f1_.symm;have f5_:=f3_.symm;clear f1_ f2_ f3_;subst f4_;subst f5_))
    refine hK.out _ _ ⟨(qqh BK474.out 0).trans rfl,(qqh BK474.out 1).trans rfl,(qqh BK474.out 2).trans rfl,(qqh BK474.out 3).trans rfl,(qqh BK474.out 4).trans rfl,(qqh BK474.out 5).trans rfl⟩ (fun hHeld => ?_)
    clear hK K
    refine norm_ (a':=?_) ?_ ?_
    rotate_left
    ·
     show Act.put _ (some 39) _ = _
     simp only [Act.put,qqj,qqk,qql,i64_w,i32_w]
     rfl
    refine one_ (i:=5) (N:=some 40) #[true,true,true,true,true,true,false,false] rfl rfl (one_of HT_.out (by kernel_rfl)) (by decide) (fun K hK => ?_)
    refine goes_ Try.func20 (by kernel_rfl) rfl #[.agg #[.int .u16 t538,.int .u16 t539,.slice Ao65 t540.length co65,.slice Ao66 t543.length co66,.slice Ao67 t546.length co67,.slice Ao68 t549.length co68]] (by rfl) rfl rfl (by (try simp only [List.map_toArray,List.map_cons,List.map_nil]);first|done|rfl|(simp only [List.length_drop,List.length_take];rfl)) ?_
    with_reducible refine (query_Least.calls t538 t539 _ _ t540 _ _ t543 _ _ t546 _ _ t549 t552 _ ?side1 ?side2 ?side3 ?side4 ?side5 ?side6 ?side7 ?side8 A60.out).mono ?_
    (case side1 => repeat (first|exact (Kd.R_reads' HO542.out).2.2|(with_reducible refine Kd.C_alloc ?_ _)|(with_reducible refine Kd.C_drewN ?_ _)|(with_reducible refine Kd.C_drew ?_)))
    (case side2 => exact (Kd.R_reads' HO542.out).2.1)
    (case side3 => repeat (first|exact (Kd.S_reads' HO545.out).2.2|(with_reducible refine Kd.C_alloc ?_ _)|(with_reducible refine Kd.C_drewN ?_ _)|(with_reducible refine Kd.C_drew ?_)))
    (case side4 => exact (Kd.S_reads' HO545.out).2.1)
    (case side5 => repeat (first|exact (Kd.S_reads' HO548.out).2.2|(with_reducible refine Kd.C_alloc ?_ _)|(with_reducible refine Kd.C_drewN ?_ _)|(with_reducible refine Kd.C_drew ?_)))
    (case side6 => exact (Kd.S_reads' HO548.out).2.1)
    (case side7 => repeat (first|exact (Kd.S_reads' HO551.out).2.2|(with_reducible refine Kd.C_alloc ?_ _)|(with_reducible refine Kd.C_drewN ?_ _)|(with_reducible refine Kd.C_drew ?_)))
    (case side8 => exact (Kd.S_reads' HO551.out).2.1)
    rintro e w69 ⟨rfl,hb⟩
    refine ⟨_,rfl,?_⟩
    have n0_:=Aside0.mk (Kd.R_below (by (with_reducible repeat (first|apply Kd.R_alloc|apply Kd.R_drewN|apply Kd.R_drew));exact HO_506002.out) hb)
    have n1_:=Aside0.mk (Kd.S_below (by (with_reducible repeat (first|apply Kd.S_alloc|apply Kd.S_drewN|apply Kd.S_drew));exact HO_506003.out) hb)
    have n2_:=Aside0.mk (Kd.S_below (by (with_reducible repeat (first|apply Kd.S_alloc|apply Kd.S_drewN|apply Kd.S_drew));exact HO_506004.out) hb)
    have n3_:=Aside0.mk (Kd.S_below (by (with_reducible repeat (first|apply Kd.S_alloc|apply Kd.S_drewN|apply Kd.S_drew));exact HO_506005.out) hb)
    have n4_:=Aside0.mk (Kd.R_below (by (with_reducible repeat (first|apply Kd.R_alloc|apply Kd.R_drewN|apply Kd.R_drew));exact HO542.out) hb)
    have n5_:=Aside0.mk (Kd.S_below (by (with_reducible repeat (first|apply Kd.S_alloc|apply Kd.S_drewN|apply Kd.S_drew));exact HO545.out) hb)
    have n6_:=Aside0.mk (Kd.S_below (by (with_reducible repeat (first|apply Kd.S_alloc|apply Kd.S_drewN|apply Kd.S_drew));exact HO548.out) hb)
    have n7_:=Aside0.mk (Kd.S_below (by (with_reducible repeat (first|apply Kd.S_alloc|apply Kd.S_drewN|apply Kd.S_drew));exact HO551.out) hb)
    have n8_:=Aside0.mk (blk_below (g:=gb474) (o:=.cells #[.int .u16 a0_0,.int .u16 a0_1,.slice A0_2 l0_2.length c0_2,.slice A0_3 l0_3.length c0_3,.slice A0_4 l0_4.length c0_4,.slice A0_5 l0_5.length c0_5] 26 (0,0)) (by (with_reducible repeat first|apply qqa|apply qqb|apply qqc);exact BK474.out) hb)
    have n9_:=Aside0.mk (blk_below (g:=gb505) (o:=.cells #[.int .u16 t491,.int .u16 t492,.slice Ao25 t493.length co25,.slice Ao26 t496.length co26,.slice Ao27 t499.length co27,.slice Ao28 t502.length co28] 26 (0,0)) (by (with_reducible repeat first|apply qqa|apply qqb|apply qqc);exact BK505.out) hb)
    have n10_:=Aside0.mk (below_step (by repeat (first|(with_reducible first|exact HB.out|apply qqf|apply qqd|apply qqe|refine qqg ?_ GE474.out|refine qqg ?_ GE505.out)|exact HB.out)) hb)
    clear HO_506002
    clear HO_506003
    clear HO_506004
    clear HO_506005
    clear HO542
    clear HO545
    clear HO548
    clear HO551
    clear BK474
    clear BK505
    clear HB
    have HO_506002:=n0_
    have HO_506003:=n1_
    have HO_506004:=n2_
    have HO_506005:=n3_
    have HO542:=n4_
    have HO545:=n5_
    have HO548:=n6_
    have HO551:=n7_
    have BK474:=n8_
    have BK505:=n9_
    have HB:=n10_
    clear n0_ n1_ n2_ n3_ n4_ n5_ n6_ n7_ n8_ n9_ n10_
    (try clear hb)
    (try clear hb2)
    (try clear hk)
    (try clear hi)
    refine hK.out _ _ ⟨(qqh BK474.out 0).trans rfl,(qqh BK474.out 1).trans rfl,(qqh BK474.out 2).trans rfl,(qqh BK474.out 3).trans rfl,(qqh BK474.out 4).trans rfl,(qqh BK474.out 5).trans rfl⟩ (fun hHeld => ?_)
    clear hK K
    refine norm_ (a':=?_) ?_ ?_
    rotate_left
    ·
     show Act.put _ (some 40) _ = _
     simp only [Act.put,qqj,qqk,qql,i64_w,i32_w]
     rfl
    refine pure_ (i:=6) (N:=some 8) (v:=?_) (a':=?_) #[true,true,true,true,true,true,true,false] rfl rfl (any_of HT_.out (by kernel_rfl)) (fun _ _ _ h => h) (Or.inl ⟨by rfl,?_⟩) ?_ ?_
    rotate_left
    ·
     intro w'
     go_simp
     with_reducible rfl
    rotate_left
    ·
     simp only [Act.put,qqj,qqk,qql,i64_w,i32_w]
     rfl
    refine pure_ (i:=7) (N:=some 9) (v:=?_) (a':=?_) #[true,true,true,true,true,true,true,true] rfl rfl (any_of HT_.out (by kernel_rfl)) (fun _ _ _ h => h) (Or.inl ⟨by rfl,?_⟩) ?_ ?_
    rotate_left
    ·
     intro w'
     go_simp
     with_reducible rfl
    rotate_left
    ·
     simp only [Act.put,qqj,qqk,qql,i64_w,i32_w]
     rfl
    refine done_ (done_of HT_.out (by kernel_rfl)) ?_
    go_upto_region 9 with (fail)
    go_cut [52] (fun v52 wc => ∃ (kq : Nat) (x52_60 : Bool),v52 = .bool x52_60∧Aside0 (nunciolaw08_QueryTime.j1 kq a1 t537 t552 x52_60 a0_0 a0_1 l0_2 l0_3 l0_4 l0_5 = some r)∧Aside0 (kq ≤ kj9)∧Aside0 (Kd.R k53 53 wc w.heap.size (fun _ => True) (.slice Ao25 t493.length co25) t493)∧Aside0 (Kd.S k51 51 wc w.heap.size (fun k_ => some k_ ≠ ((.slice Ao27 t499.length co27) : Value).ownBlock∧some k_ ≠ ((.slice Ao28 t502.length co28) : Value).ownBlock) (.slice Ao26 t496.length co26) t496)∧Aside0 (Kd.S k51 51 wc w.heap.size (fun k_ => some k_ ≠ ((.slice Ao26 t496.length co26) : Value).ownBlock∧some k_ ≠ ((.slice Ao28 t502.length co28) : Value).ownBlock) (.slice Ao27 t499.length co27) t499)∧Aside0 (Kd.S k51 51 wc w.heap.size (fun k_ => some k_ ≠ ((.slice Ao26 t496.length co26) : Value).ownBlock∧some k_ ≠ ((.slice Ao27 t499.length co27) : Value).ownBlock) (.slice Ao28 t502.length co28) t502)∧Aside0 (wc.heap[gb474]? = some (.cells #[.int .u16 a0_0,.int .u16 a0_1,(.slice A0_2 l0_2.length c0_2),(.slice A0_3 l0_3.length c0_3),(.slice A0_4 l0_4.length c0_4),(.slice A0_5 l0_5.length c0_5)] 26 (0,0)))∧Aside0 (wc.heap[gb505]? = some (.cells #[.int .u16 t491,.int .u16 t492,(.slice Ao25 t493.length co25),(.slice Ao26 t496.length co26),(.slice Ao27 t499.length co27),(.slice Ao28 t502.length co28)] 26 (0,0)))∧Aside0 (Below w.heap.size w wc))
    case first =>
     have H:=HC61.out
     clear HC61
     by_cases c70 : t552 > t537
     ·
      rw [if_pos c70] at H
      have c70b0 : decide (t537 < t552) = true:=decide_eq_true c70
      clear c70
      (first|rw [c70b0]|rw [c70b1]|(simp only [i64_w,i32_w];rw [c70b0])|skip)
      have H':=Aside0.mk H
      clear H
      try go_wp2
      have n0_:=Aside0.mk (Kd.R_drew HO_506002.out)
      have n1_:=Aside0.mk (Kd.S_drew HO_506003.out)
      have n2_:=Aside0.mk (Kd.S_drew HO_506004.out)
      have n3_:=Aside0.mk (Kd.S_drew HO_506005.out)
      have n4_:=Aside0.mk (Kd.R_drew HO542.out)
      have n5_:=Aside0.mk (Kd.S_drew HO545.out)
      have n6_:=Aside0.mk (Kd.S_drew HO548.out)
      have n7_:=Aside0.mk (Kd.S_drew HO551.out)
      have n8_:=Aside0.mk (qqb BK474.out)
      have n9_:=Aside0.mk (qqb BK505.out)
      have n10_:=Aside0.mk (qqe HB.out)
      clear HO_506002
      clear HO_506003
      clear HO_506004
      clear HO_506005
      clear HO542
      clear HO545
      clear HO548
      clear HO551
      clear BK474
      clear BK505
      clear HB
      have HO_506002:=n0_
      have HO_506003:=n1_
      have HO_506004:=n2_
      have HO_506005:=n3_
      have HO542:=n4_
      have HO545:=n5_
      have HO548:=n6_
      have HO551:=n7_
      have BK474:=n8_
      have BK505:=n9_
      have HB:=n10_
      clear n0_ n1_ n2_ n3_ n4_ n5_ n6_ n7_ n8_ n9_ n10_
      refine start_ (n:=12) (S:=fun w' => True) (ds:=[]) #[false,false,false,false,false,false,false,false,false,false,false,false] (by kernel_rfl) rfl rfl trivial (fun hHeld => ?_);refine with_tabW nunciolaw08_QueryTime.tab9 nunciolaw08_QueryTime.bits9 (fun HT_ HW_ => ?_)
      generalize w69.drew = w71 at HO_506002 HO_506003 HO_506004 HO_506005 HO542 HO545 HO548 HO551 BK474 BK505 HB hHeld ⊢
      refine pure_ (i:=0) (N:=some 41) (v:=?_) (a':=?_) #[true,false,false,false,false,false,false,false,false,false,false,false] rfl rfl (any_of HT_.out (by kernel_rfl)) (fun _ _ _ h => h) (Or.inl ⟨by rfl,?_⟩) ?_ ?_
      rotate_left
      ·
       intro w'
       go_simp
       with_reducible rfl
      rotate_left
      ·
       simp only [Act.put,qqj,qqk,qql,i64_w,i32_w]
       rfl
      refine pure_ (i:=1) (N:=some 42) (v:=?_) (a':=?_) #[true,true,false,false,false,false,false,false,false,false,false,false] rfl rfl (any_of HT_.out (by kernel_rfl)) (fun _ _ _ h => h) (Or.inl ⟨by rfl,?_⟩) ?_ ?_
      rotate_left
      ·
       intro w'
       go_simp
       with_reducible rfl
      rotate_left
      ·
       simp only [Act.put,qqj,qqk,qql,i64_w,i32_w]
       rfl
      refine pure_ (i:=2) (N:=some 43) (v:=?_) (a':=?_) #[true,true,true,false,false,false,false,false,false,false,false,false] rfl rfl (any_of HT_.out (by kernel_rfl)) (fun _ _ _ h => h) (Or.inl ⟨by rfl,?_⟩) ?_ ?_
      rotate_left
      ·
       intro w'
       go_simp
       with_reducible rfl
      rotate_left
      ·
       simp only [Act.put,qqj,qqk,qql,i64_w,i32_w]
       rfl
      refine pure_ (i:=3) (N:=some 44) (v:=?_) (a':=?_) #[true,true,true,true,false,false,false,false,false,false,false,false] rfl rfl (any_of HT_.out (by kernel_rfl)) (fun _ _ _ h => h) (Or.inl ⟨by rfl,?_⟩) ?_ ?_
      rotate_left
      ·
       intro w'
       go_simp
       with_reducible rfl
      rotate_left
      ·
       simp only [Act.put,qqj,qqk,qql,i64_w,i32_w]
       rfl
      refine pure_ (i:=4) (N:=some 45) (v:=undef) (a':=?_) #[true,true,true,true,true,false,false,false,false,false,false,false] rfl rfl (any_of HT_.out (by kernel_rfl)) (fun _ _ _ h => h) (Or.inr ⟨by rfl,rfl⟩) ?_ ?_
      rotate_left
      ·
       simp only [Act.put,qqj,qqk,qql,i64_w,i32_w]
       rfl
      refine pure_ (i:=5) (N:=some 46) (v:=undef) (a':=?_) #[true,true,true,true,true,true,false,false,false,false,false,false] rfl rfl (any_of HT_.out (by kernel_rfl)) (fun _ _ _ h => h) (Or.inr ⟨by rfl,rfl⟩) ?_ ?_
      rotate_left
      ·
       simp only [Act.put,qqj,qqk,qql,i64_w,i32_w]
       rfl
      refine pure_ (i:=6) (N:=some 47) (v:=undef) (a':=?_) #[true,true,true,true,true,true,true,false,false,false,false,false] rfl rfl (any_of HT_.out (by kernel_rfl)) (fun _ _ _ h => h) (Or.inr ⟨by rfl,rfl⟩) ?_ ?_
      rotate_left
      ·
       simp only [Act.put,qqj,qqk,qql,i64_w,i32_w]
       rfl
      refine pure_ (i:=7) (N:=some 48) (v:=undef) (a':=?_) #[true,true,true,true,true,true,true,true,false,false,false,false] rfl rfl (any_of HT_.out (by kernel_rfl)) (fun _ _ _ h => h) (Or.inr ⟨by rfl,rfl⟩) ?_ ?_
      rotate_left
      ·
       simp only [Act.put,qqj,qqk,qql,i64_w,i32_w]
       rfl
      refine pure_ (i:=8) (N:=some 49) (v:=undef) (a':=?_) #[true,true,true,true,true,true,true,true,true,false,false,false] rfl rfl (any_of HT_.out (by kernel_rfl)) (fun _ _ _ h => h) (Or.inr ⟨by rfl,rfl⟩) ?_ ?_
      rotate_left
      ·
       simp only [Act.put,qqj,qqk,qql,i64_w,i32_w]
       rfl
      refine pure_ (i:=9) (N:=some 50) (v:=undef) (a':=?_) #[true,true,true,true,true,true,true,true,true,true,false,false] rfl rfl (any_of HT_.out (by kernel_rfl)) (fun _ _ _ h => h) (Or.inr ⟨by rfl,rfl⟩) ?_ ?_
      rotate_left
      ·
       simp only [Act.put,qqj,qqk,qql,i64_w,i32_w]
       rfl
      refine pure_ (i:=10) (N:=some 51) (v:=undef) (a':=?_) #[true,true,true,true,true,true,true,true,true,true,true,false] rfl rfl (any_of HT_.out (by kernel_rfl)) (fun _ _ _ h => h) (Or.inr ⟨by rfl,rfl⟩) ?_ ?_
      rotate_left
      ·
       simp only [Act.put,qqj,qqk,qql,i64_w,i32_w]
       rfl
      refine pure_ (i:=11) (N:=some 52) (v:=?_) (a':=?_) #[true,true,true,true,true,true,true,true,true,true,true,true] rfl rfl (any_of HT_.out (by kernel_rfl)) (fun _ _ _ h => h) (Or.inl ⟨by rfl,?_⟩) ?_ ?_
      rotate_left
      ·
       intro w'
       go_simp
       with_reducible rfl
      rotate_left
      ·
       simp only [Act.put,qqj,qqk,qql,i64_w,i32_w]
       rfl
      refine done_ (done_of HT_.out (by kernel_rfl)) ?_
      try go_wp2
      go_meet
      case rel => exact ⟨_,(true),(by first|rfl|(simp;done)|(simp [*];done)),H',⟨by have:=HJ9.out;first|omega|exact Nat.le_refl _⟩,⟨by (with_reducible repeat (first|apply Kd.R_alloc|apply Kd.R_drewN|apply Kd.R_drew));exact Kd.R_mono HO_506002.out (fun _ hk => trivial)⟩,⟨by (with_reducible repeat (first|apply Kd.S_alloc|apply Kd.S_drewN|apply Kd.S_drew));exact Kd.S_mono HO_506003.out (fun _ hk => ⟨hk.1.1.1.1,hk.1.1.1.2⟩)⟩,⟨by (with_reducible repeat (first|apply Kd.S_alloc|apply Kd.S_drewN|apply Kd.S_drew));exact Kd.S_mono HO_506004.out (fun _ hk => ⟨hk.1.1.1.1,hk.1.1.1.2⟩)⟩,⟨by (with_reducible repeat (first|apply Kd.S_alloc|apply Kd.S_drewN|apply Kd.S_drew));exact Kd.S_mono HO_506005.out (fun _ hk => ⟨hk.1.1.1.1,hk.1.1.1.2⟩)⟩,⟨by (with_reducible repeat first|apply qqa|apply qqb|apply qqc);exact BK474.out⟩,⟨by (with_reducible repeat first|apply qqa|apply qqb|apply qqc);exact BK505.out⟩,⟨by repeat (first|(with_reducible first|exact HB.out|apply qqf|apply qqd|apply qqe|refine qqg ?_ GE474.out|refine qqg ?_ GE505.out)|exact HB.out)⟩⟩
     ·
      rw [if_neg c70] at H
      have c70b0 : decide (t537 < t552) = false:=decide_eq_false c70
      clear c70
      (first|rw [c70b0]|rw [c70b1]|(simp only [i64_w,i32_w];rw [c70b0])|skip)
      replace H:=Option.bind_eq_some_iff.mp H
      obtain ⟨t553,A720,H⟩:=H
      replace H : ((query_Age.f kj9 a0_0 a0_1 l0_2 l0_3 l0_4 l0_5 a1).bind fun bt554 => ((query_Negative.f bt554.1 bt554.2.1 bt554.2.2.1 bt554.2.2.2.1 bt554.2.2.2.2.1 bt554.2.2.2.2.2).bind fun t568 => (nunciolaw08_QueryTime.j1 kj9 a1 t537 t552 (t553 != t568) a0_0 a0_1 l0_2 l0_3 l0_4 l0_5))) = some r:=H
      have A72:=Aside0.mk A720
      clear A720
      replace H:=Option.bind_eq_some_iff.mp H
      obtain ⟨⟨t554,t555,t556,t559,t562,t565⟩,A730,H⟩:=H
      replace H : ((query_Negative.f t554 t555 t556 t559 t562 t565).bind fun t568 => (nunciolaw08_QueryTime.j1 kj9 a1 t537 t552 (t553 != t568) a0_0 a0_1 l0_2 l0_3 l0_4 l0_5)) = some r:=H
      have A73:=Aside0.mk A730
      clear A730
      replace H:=Option.bind_eq_some_iff.mp H
      obtain ⟨t568,A740,H⟩:=H
      replace H : (nunciolaw08_QueryTime.j1 kj9 a1 t537 t552 (t553 != t568) a0_0 a0_1 l0_2 l0_3 l0_4 l0_5) = some r:=H
      have A74:=Aside0.mk A740
      clear A740
      have H':=Aside0.mk H
      clear H
      try go_wp2
      have n0_:=Aside0.mk (Kd.R_drew HO_506002.out)
      have n1_:=Aside0.mk (Kd.S_drew HO_506003.out)
      have n2_:=Aside0.mk (Kd.S_drew HO_506004.out)
      have n3_:=Aside0.mk (Kd.S_drew HO_506005.out)
      have n4_:=Aside0.mk (Kd.R_drew HO542.out)
      have n5_:=Aside0.mk (Kd.S_drew HO545.out)
      have n6_:=Aside0.mk (Kd.S_drew HO548.out)
      have n7_:=Aside0.mk (Kd.S_drew HO551.out)
      have n8_:=Aside0.mk (qqb BK474.out)
      have n9_:=Aside0.mk (qqb BK505.out)
      have n10_:=Aside0.mk (qqe HB.out)
      clear HO_506002
      clear HO_506003
      clear HO_506004
      clear HO_506005
      clear HO542
      clear HO545
      clear HO548
      clear HO551
      clear BK474
      clear BK505
      clear HB
      have HO_506002:=n0_
      have HO_506003:=n1_
      have HO_506004:=n2_
      have HO_506005:=n3_
      have HO542:=n4_
      have HO545:=n5_
      have HO548:=n6_
      have HO551:=n7_
      have BK474:=n8_
      have BK505:=n9_
      have HB:=n10_
      clear n0_ n1_ n2_ n3_ n4_ n5_ n6_ n7_ n8_ n9_ n10_
      refine start_ (n:=12) (S:=fun w' => w'.cell? ⟨gb474,0,none⟩ = some (.int .u16 a0_0)∧w'.cell? ⟨gb474,1,none⟩ = some (.int .u16 a0_1)∧w'.cell? ⟨gb474,2,none⟩ = some (.slice A0_2 l0_2.length c0_2)∧w'.cell? ⟨gb474,3,none⟩ = some (.slice A0_3 l0_3.length c0_3)∧w'.cell? ⟨gb474,4,none⟩ = some (.slice A0_4 l0_4.length c0_4)∧w'.cell? ⟨gb474,5,none⟩ = some (.slice A0_5 l0_5.length c0_5)) (ds:=[]) #[false,false,false,false,false,false,false,false,false,false,false,false] (by kernel_rfl) rfl rfl ⟨(qqh BK474.out 0).trans rfl,(qqh BK474.out 1).trans rfl,(qqh BK474.out 2).trans rfl,(qqh BK474.out 3).trans rfl,(qqh BK474.out 4).trans rfl,(qqh BK474.out 5).trans rfl⟩ (fun hHeld => ?_);refine with_tabW nunciolaw08_QueryTime.tab9 nunciolaw08_QueryTime.bits9 (fun HT_ HW_ => ?_)
      generalize w69.drew = w75 at HO_506002 HO_506003 HO_506004 HO_506005 HO542 HO545 HO548 HO551 BK474 BK505 HB hHeld ⊢
      refine pure_ (i:=0) (N:=some 41) (v:=?_) (a':=?_) #[true,false,false,false,false,false,false,false,false,false,false,false] rfl rfl (any_of HT_.out (by kernel_rfl)) (fun _ _ _ h => h) (Or.inl ⟨by rfl,?_⟩) ?_ ?_
      rotate_left
      ·
       intro w'
       go_simp
       with_reducible rfl
      rotate_left
      ·
       simp only [Act.put,qqj,qqk,qql,i64_w,i32_w]
       rfl
      refine pure_ (i:=1) (N:=some 42) (v:=?_) (a':=?_) #[true,true,false,false,false,false,false,false,false,false,false,false] rfl rfl (any_of HT_.out (by kernel_rfl)) (fun _ _ _ h => h) (Or.inl ⟨by rfl,?_⟩) ?_ ?_
      rotate_left
      ·
       intro w'
       go_simp
       with_reducible rfl
      rotate_left
      ·
       simp only [Act.put,qqj,qqk,qql,i64_w,i32_w]
       rfl
      refine pure_ (i:=2) (N:=some 43) (v:=?_) (a':=?_) #[true,true,true,false,false,false,false,false,false,false,false,false] rfl rfl (any_of HT_.out (by kernel_rfl)) (fun _ _ _ h => h) (Or.inl ⟨by rfl,?_⟩) ?_ ?_
      rotate_left
      ·
       intro w'
       go_simp
       with_reducible rfl
      rotate_left
      ·
       simp only [Act.put,qqj,qqk,qql,i64_w,i32_w]
       rfl
      refine pure_ (i:=3) (N:=some 44) (v:=?_) (a':=?_) #[true,true,true,true,false,false,false,false,false,false,false,false] rfl rfl (any_of HT_.out (by kernel_rfl)) (fun _ _ _ h => h) (Or.inl ⟨by rfl,?_⟩) ?_ ?_
      rotate_left
      ·
       intro w'
       go_simp
       with_reducible rfl
      rotate_left
      ·
       simp only [Act.put,qqj,qqk,qql,i64_w,i32_w]
       rfl
      refine pure_ (i:=7) (N:=some 48) (v:=?_) (a':=?_) #[true,true,true,true,false,false,false,true,false,false,false,false] rfl rfl (any_of HT_.out (by kernel_rfl)) (fun _ _ _ h => h) (Or.inl ⟨by rfl,?_⟩) ?_ ?_
      rotate_left
      ·
       intro w'
       go_simp
       with_reducible rfl
      rotate_left
      ·
       simp only [Act.put,qqj,qqk,qql,i64_w,i32_w]
       rfl
      refine take_ (i:=4) (N:=some 45) (v:=?_) (a':=?_) #[true,true,true,true,true,false,false,true,false,false,false,false] rfl rfl (take_ofW HT_.out HW_.out (by kernel_rfl)) (fun _ _ _ h => h) (Or.inl ⟨by rfl,?_⟩) hHeld ?_ ?_
      rotate_left
      ·
       rintro w' ⟨s0,s1,s2,s3,s4,s5⟩
       go_simp
       with_reducible rfl
      rotate_left
      ·
       simp only [Act.put,qqj,qqk,qql,i64_w,i32_w]
       rfl
      refine take_ (i:=6) (N:=some 47) (v:=?_) (a':=?_) #[true,true,true,true,true,false,true,true,false,false,false,false] rfl rfl (take_ofW HT_.out HW_.out (by kernel_rfl)) (fun _ _ _ h => h) (Or.inl ⟨by rfl,?_⟩) hHeld ?_ ?_
      rotate_left
      ·
       rintro w' ⟨s0,s1,s2,s3,s4,s5⟩
       go_simp
       with_reducible rfl
      rotate_left
      ·
       simp only [Act.put,qqj,qqk,qql,i64_w,i32_w]
       rfl
      refine one_ (i:=5) (N:=some 46) #[true,true,true,true,true,true,true,true,false,false,false,false] rfl rfl (one_of HT_.out (by kernel_rfl)) (by decide) (fun K hK => ?_)
      refine goes_ Try.func18 (by kernel_rfl) rfl #[.agg #[.int .u16 a0_0,.int .u16 a0_1,.slice A0_2 l0_2.length c0_2,.slice A0_3 l0_3.length c0_3,.slice A0_4 l0_4.length c0_4,.slice A0_5 l0_5.length c0_5]] (by rfl) rfl rfl (by (try simp only [List.map_toArray,List.map_cons,List.map_nil]);first|done|rfl|(simp only [List.length_drop,List.length_take];rfl)) ?_
      with_reducible refine (query_Negative.calls a0_0 a0_1 _ _ l0_2 _ _ l0_3 _ _ l0_4 _ _ l0_5 t553 _ ?side1 ?side2 ?side3 ?side4 ?side5 ?side6 ?side7 ?side8 A72.out).mono ?_
      (case side1 => repeat (first|exact (Kd.C_below HR0_2.out HB.out)|(with_reducible refine Kd.C_alloc ?_ _)|(with_reducible refine Kd.C_drewN ?_ _)|(with_reducible refine Kd.C_drew ?_)))
      (case side2 => exact HC0_2.out)
      (case side3 => repeat (first|exact (Kd.C_below HR0_3.out HB.out)|(with_reducible refine Kd.C_alloc ?_ _)|(with_reducible refine Kd.C_drewN ?_ _)|(with_reducible refine Kd.C_drew ?_)))
      (case side4 => exact HC0_3.out)
      (case side5 => repeat (first|exact (Kd.C_below HR0_4.out HB.out)|(with_reducible refine Kd.C_alloc ?_ _)|(with_reducible refine Kd.C_drewN ?_ _)|(with_reducible refine Kd.C_drew ?_)))
      (case side6 => exact HC0_4.out)
      (case side7 => repeat (first|exact (Kd.C_below HR0_5.out HB.out)|(with_reducible refine Kd.C_alloc ?_ _)|(with_reducible refine Kd.C_drewN ?_ _)|(with_reducible refine Kd.C_drew ?_)))
      (case side8 => exact HC0_5.out)
      rintro e w76 ⟨rfl,hb⟩
      refine ⟨_,rfl,?_⟩
      have n0_:=Aside0.mk (Kd.R_below (by (with_reducible repeat (first|apply Kd.R_alloc|apply Kd.R_drewN|apply Kd.R_drew));exact HO_506002.out) hb)
      have n1_:=Aside0.mk (Kd.S_below (by (with_reducible repeat (first|apply Kd.S_alloc|apply Kd.S_drewN|apply Kd.S_drew));exact HO_506003.out) hb)
      have n2_:=Aside0.mk (Kd.S_below (by (with_reducible repeat (first|apply Kd.S_alloc|apply Kd.S_drewN|apply Kd.S_drew));exact HO_506004.out) hb)
      have n3_:=Aside0.mk (Kd.S_below (by (with_reducible repeat (first|apply Kd.S_alloc|apply Kd.S_drewN|apply Kd.S_drew));exact HO_506005.out) hb)
      have n4_:=Aside0.mk (Kd.R_below (by (with_reducible repeat (first|apply Kd.R_alloc|apply Kd.R_drewN|apply Kd.R_drew));exact HO542.out) hb)
      have n5_:=Aside0.mk (Kd.S_below (by (with_reducible repeat (first|apply Kd.S_alloc|apply Kd.S_drewN|apply Kd.S_drew));exact HO545.out) hb)
      have n6_:=Aside0.mk (Kd.S_below (by (with_reducible repeat (first|apply Kd.S_alloc|apply Kd.S_drewN|apply Kd.S_drew));exact HO548.out) hb)
      have n7_:=Aside0.mk (Kd.S_below (by (with_reducible repeat (first|apply Kd.S_alloc|apply Kd.S_drewN|apply Kd.S_drew));exact HO551.out) hb)
      have n8_:=Aside0.mk (blk_below (g:=gb474) (o:=.cells #[.int .u16 a0_0,.int .u16 a0_1,.slice A0_2 l0_2.length c0_2,.slice A0_3 l0_3.length c0_3,.slice A0_4 l0_4.length c0_4,.slice A0_5 l0_5.length c0_5] 26 (0,0)) (by (with_reducible repeat first|apply qqa|apply qqb|apply qqc);exact BK474.out) hb)
      have n9_:=Aside0.mk (blk_below (g:=gb505) (o:=.cells #[.int .u16 t491,.int .u16 t492,.slice Ao25 t493.length co25,.slice Ao26 t496.length co26,.slice Ao27 t499.length co27,.slice Ao28 t502.length co28] 26 (0,0)) (by (with_reducible repeat first|apply qqa|apply qqb|apply qqc);exact BK505.out) hb)
      have n10_:=Aside0.mk (below_step (by repeat (first|(with_reducible first|exact HB.out|apply qqf|apply qqd|apply qqe|refine qqg ?_ GE474.out|refine qqg ?_ GE505.out)|exact HB.out)) hb)
      clear HO_506002
      clear HO_506003
      clear HO_506004
      clear HO_506005
      clear HO542
      clear HO545
      clear HO548
      clear HO551
      clear BK474
      clear BK505
      clear HB
      have HO_506002:=n0_
      have HO_506003:=n1_
      have HO_506004:=n2_
      have HO_506005:=n3_
      have HO542:=n4_
      have HO545:=n5_
      have HO548:=n6_
      have HO551:=n7_
      have BK474:=n8_
      have BK505:=n9_
      have HB:=n10_
      clear n0_ n1_ n2_ n3_ n4_ n5_ n6_ n7_ n8_ n9_ n10_
      (try clear hb)
      (try clear hb2)
      (try clear hk)
      (try clear hi)
      refine hK.out _ _ ⟨(qqh BK474.out 0).trans rfl,(qqh BK474.out 1).trans rfl,(qqh BK474.out 2).trans rfl,(qqh BK474.out 3).trans rfl,(qqh BK474.out 4).trans rfl,(qqh BK474.out 5).trans rfl⟩ (fun hHeld => ?_)
      clear hK K
      refine norm_ (a':=?_) ?_ ?_
      rotate_left
      ·
       show Act.put _ (some 46) _ = _
       simp only [Act.put,qqj,qqk,qql,i64_w,i32_w]
       rfl
      refine one_ (i:=8) (N:=some 49) #[true,true,true,true,true,true,true,true,true,false,false,false] rfl rfl (one_of HT_.out (by kernel_rfl)) (by decide) (fun K hK => ?_)
      refine goes_ Try.func23 (by kernel_rfl) rfl #[.agg #[.int .u16 a0_0,.int .u16 a0_1,.slice A0_2 l0_2.length c0_2,.slice A0_3 l0_3.length c0_3,.slice A0_4 l0_4.length c0_4,.slice A0_5 l0_5.length c0_5],.int .u64 a1] (by rfl) rfl rfl (by (try simp only [List.map_toArray,List.map_cons,List.map_nil]);first|done|rfl|(simp only [List.length_drop,List.length_take];rfl)) ?_
      with_reducible refine (query_Age.calls kj9 a0_0 a0_1 _ _ l0_2 _ _ l0_3 _ _ l0_4 _ _ l0_5 a1 t554 t555 t556 t559 t562 t565 _ ?side1 ?side2 ?side3 ?side4 ?side5 ?side6 ?side7 ?side8 A73.out).mono ?_
      (case side1 => repeat (first|exact (Kd.C_below HR0_2.out HB.out)|(with_reducible refine Kd.C_alloc ?_ _)|(with_reducible refine Kd.C_drewN ?_ _)|(with_reducible refine Kd.C_drew ?_)))
      (case side2 => exact HC0_2.out)
      (case side3 => repeat (first|exact (Kd.C_below HR0_3.out HB.out)|(with_reducible refine Kd.C_alloc ?_ _)|(with_reducible refine Kd.C_drewN ?_ _)|(with_reducible refine Kd.C_drew ?_)))
      (case side4 => exact HC0_3.out)
      (case side5 => repeat (first|exact (Kd.C_below HR0_4.out HB.out)|(with_reducible refine Kd.C_alloc ?_ _)|(with_reducible refine Kd.C_drewN ?_ _)|(with_reducible refine Kd.C_drew ?_)))
      (case side6 => exact HC0_4.out)
      (case side7 => repeat (first|exact (Kd.C_below HR0_5.out HB.out)|(with_reducible refine Kd.C_alloc ?_ _)|(with_reducible refine Kd.C_drewN ?_ _)|(with_reducible refine Kd.C_drew ?_)))
      (case side8 => exact HC0_5.out)
      rintro e w77 ⟨v557,v560,v563,v566,rfl,ho0,ho1,ho2,ho3,hb⟩
      refine ⟨_,rfl,?_⟩
      have n0_:=Aside0.mk (Kd.R_elder' (by (with_reducible repeat (first|apply Kd.R_alloc|apply Kd.R_drewN|apply Kd.R_drew));exact HO_506002.out) (Kd.R_base ho0) hb)
      have n1_:=Aside0.mk (Kd.S_mono (Kd.S_told (Kd.S_told (Kd.S_told (Kd.S_old (by (with_reducible repeat (first|apply Kd.S_alloc|apply Kd.S_drewN|apply Kd.S_drew));exact HO_506003.out) hb) (Kd.S_base ho1)) (Kd.S_base ho2)) (Kd.S_base ho3)) (fun _ h_ => h_.1))
      have n2_:=Aside0.mk (Kd.S_mono (Kd.S_told (Kd.S_told (Kd.S_told (Kd.S_old (by (with_reducible repeat (first|apply Kd.S_alloc|apply Kd.S_drewN|apply Kd.S_drew));exact HO_506004.out) hb) (Kd.S_base ho1)) (Kd.S_base ho2)) (Kd.S_base ho3)) (fun _ h_ => h_.1))
      have n3_:=Aside0.mk (Kd.S_mono (Kd.S_told (Kd.S_told (Kd.S_told (Kd.S_old (by (with_reducible repeat (first|apply Kd.S_alloc|apply Kd.S_drewN|apply Kd.S_drew));exact HO_506005.out) hb) (Kd.S_base ho1)) (Kd.S_base ho2)) (Kd.S_base ho3)) (fun _ h_ => h_.1))
      have n4_:=Aside0.mk (Kd.R_elder' (by (with_reducible repeat (first|apply Kd.R_alloc|apply Kd.R_drewN|apply Kd.R_drew));exact HO542.out) (Kd.R_base ho0) hb)
      have n5_:=Aside0.mk (Kd.S_mono (Kd.S_told (Kd.S_told (Kd.S_told (Kd.S_old (by (with_reducible repeat (first|apply Kd.S_alloc|apply Kd.S_drewN|apply Kd.S_drew));exact HO545.out) hb) (Kd.S_base ho1)) (Kd.S_base ho2)) (Kd.S_base ho3)) (fun _ h_ => h_.1))
      have n6_:=Aside0.mk (Kd.S_mono (Kd.S_told (Kd.S_told (Kd.S_told (Kd.S_old (by (with_reducible repeat (first|apply Kd.S_alloc|apply Kd.S_drewN|apply Kd.S_drew));exact HO548.out) hb) (Kd.S_base ho1)) (Kd.S_base ho2)) (Kd.S_base ho3)) (fun _ h_ => h_.1))
      have n7_:=Aside0.mk (Kd.S_mono (Kd.S_told (Kd.S_told (Kd.S_told (Kd.S_old (by (with_reducible repeat (first|apply Kd.S_alloc|apply Kd.S_drewN|apply Kd.S_drew));exact HO551.out) hb) (Kd.S_base ho1)) (Kd.S_base ho2)) (Kd.S_base ho3)) (fun _ h_ => h_.1))
      have n8_:=Aside0.mk (Kd.R_lower (Kd.R_new' (Kd.R_new' ho0 (Kd.R_lt (by (with_reducible repeat (first|apply Kd.R_alloc|apply Kd.R_drewN|apply Kd.R_drew));exact HO_506002.out))) (Kd.R_lt (by (with_reducible repeat (first|apply Kd.R_alloc|apply Kd.R_drewN|apply Kd.R_drew));exact HO542.out))) (below_size (by repeat (first|(with_reducible first|exact HB.out|apply qqf|apply qqd|apply qqe|refine qqg ?_ GE474.out|refine qqg ?_ GE505.out)|exact HB.out))))
      have n9_:=Aside0.mk (Kd.S_lower (Kd.S_new' (Kd.S_new' (Kd.S_new' (Kd.S_new' (Kd.S_new' (Kd.S_new' ho1 (Kd.S_lt (by (with_reducible repeat (first|apply Kd.S_alloc|apply Kd.S_drewN|apply Kd.S_drew));exact HO_506003.out))) (Kd.S_lt (by (with_reducible repeat (first|apply Kd.S_alloc|apply Kd.S_drewN|apply Kd.S_drew));exact HO_506004.out))) (Kd.S_lt (by (with_reducible repeat (first|apply Kd.S_alloc|apply Kd.S_drewN|apply Kd.S_drew));exact HO_506005.out))) (Kd.S_lt (by (with_reducible repeat (first|apply Kd.S_alloc|apply Kd.S_drewN|apply Kd.S_drew));exact HO545.out))) (Kd.S_lt (by (with_reducible repeat (first|apply Kd.S_alloc|apply Kd.S_drewN|apply Kd.S_drew));exact HO548.out))) (Kd.S_lt (by (with_reducible repeat (first|apply Kd.S_alloc|apply Kd.S_drewN|apply Kd.S_drew));exact HO551.out))) (below_size (by repeat (first|(with_reducible first|exact HB.out|apply qqf|apply qqd|apply qqe|refine qqg ?_ GE474.out|refine qqg ?_ GE505.out)|exact HB.out))))
      have n10_:=Aside0.mk (Kd.S_lower (Kd.S_new' (Kd.S_new' (Kd.S_new' (Kd.S_new' (Kd.S_new' (Kd.S_new' ho2 (Kd.S_lt (by (with_reducible repeat (first|apply Kd.S_alloc|apply Kd.S_drewN|apply Kd.S_drew));exact HO_506003.out))) (Kd.S_lt (by (with_reducible repeat (first|apply Kd.S_alloc|apply Kd.S_drewN|apply Kd.S_drew));exact HO_506004.out))) (Kd.S_lt (by (with_reducible repeat (first|apply Kd.S_alloc|apply Kd.S_drewN|apply Kd.S_drew));exact HO_506005.out))) (Kd.S_lt (by (with_reducible repeat (first|apply Kd.S_alloc|apply Kd.S_drewN|apply Kd.S_drew));exact HO545.out))) (Kd.S_lt (by (with_reducible repeat (first|apply Kd.S_alloc|apply Kd.S_drewN|apply Kd.S_drew));exact HO548.out))) (Kd.S_lt (by (with_reducible repeat (first|apply Kd.S_alloc|apply Kd.S_drewN|apply Kd.S_drew));exact HO551.out))) (below_size (by repeat (first|(with_reducible first|exact HB.out|apply qqf|apply qqd|apply qqe|refine qqg ?_ GE474.out|refine qqg ?_ GE505.out)|exact HB.out))))
      have n11_:=Aside0.mk (Kd.S_lower (Kd.S_new' (Kd.S_new' (Kd.S_new' (Kd.S_new' (Kd.S_new' (Kd.S_new' ho3 (Kd.S_lt (by (with_reducible repeat (first|apply Kd.S_alloc|apply Kd.S_drewN|apply Kd.S_drew));exact HO_506003.out))) (Kd.S_lt (by (with_reducible repeat (first|apply Kd.S_alloc|apply Kd.S_drewN|apply Kd.S_drew));exact HO_506004.out))) (Kd.S_lt (by (with_reducible repeat (first|apply Kd.S_alloc|apply Kd.S_drewN|apply Kd.S_drew));exact HO_506005.out))) (Kd.S_lt (by (with_reducible repeat (first|apply Kd.S_alloc|apply Kd.S_drewN|apply Kd.S_drew));exact HO545.out))) (Kd.S_lt (by (with_reducible repeat (first|apply Kd.S_alloc|apply Kd.S_drewN|apply Kd.S_drew));exact HO548.out))) (Kd.S_lt (by (with_reducible repeat (first|apply Kd.S_alloc|apply Kd.S_drewN|apply Kd.S_drew));exact HO551.out))) (below_size (by repeat (first|(with_reducible first|exact HB.out|apply qqf|apply qqd|apply qqe|refine qqg ?_ GE474.out|refine qqg ?_ GE505.out)|exact HB.out))))
      have n12_:=Aside0.mk (blk_below (g:=gb474) (o:=.cells #[.int .u16 a0_0,.int .u16 a0_1,.slice A0_2 l0_2.length c0_2,.slice A0_3 l0_3.length c0_3,.slice A0_4 l0_4.length c0_4,.slice A0_5 l0_5.length c0_5] 26 (0,0)) (by (with_reducible repeat first|apply qqa|apply qqb|apply qqc);exact BK474.out) hb)
      have n13_:=Aside0.mk (blk_below (g:=gb505) (o:=.cells #[.int .u16 t491,.int .u16 t492,.slice Ao25 t493.length co25,.slice Ao26 t496.length co26,.slice Ao27 t499.length co27,.slice Ao28 t502.length co28] 26 (0,0)) (by (with_reducible repeat first|apply qqa|apply qqb|apply qqc);exact BK505.out) hb)
      have n14_:=Aside0.mk (below_step (by repeat (first|(with_reducible first|exact HB.out|apply qqf|apply qqd|apply qqe|refine qqg ?_ GE474.out|refine qqg ?_ GE505.out)|exact HB.out)) hb)
      clear HO_506002
      clear HO_506003
      clear HO_506004
      clear HO_506005
      clear HO542
      clear HO545
      clear HO548
      clear HO551
      clear BK474
      clear BK505
      clear HB
      have HO_506002:=n0_
      have HO_506003:=n1_
      have HO_506004:=n2_
      have HO_506005:=n3_
      have HO542:=n4_
      have HO545:=n5_
      have HO548:=n6_
      have HO551:=n7_
      have HO558:=n8_
      have HO561:=n9_
      have HO564:=n10_
      have HO567:=n11_
      have BK474:=n12_
      have BK505:=n13_
      have HB:=n14_
      clear n0_ n1_ n2_ n3_ n4_ n5_ n6_ n7_ n8_ n9_ n10_ n11_ n12_ n13_ n14_
      (try clear hb)
      (try clear hb2)
      (try clear hk)
      (try clear hi)
      (try clear ho0)
      (try clear ho1)
      (try clear ho2)
      (try clear ho3)
      obtain ⟨Ao78,co78,eo78⟩:=Kd.R_slice HO558.out
      (first|subst eo78|(injection eo78 with f1_ f2_ f3_;have f4_:=f1_.symm;have f5_:=f3_.symm;clear f1_ f2_ f3_;subst f4_;subst f5_))
      obtain ⟨Ao79,co79,eo79⟩:=Kd.S_slice HO561.out
      (first|subst eo79|(injection eo79 with f1_ f2_ f3_;have f4_:=f1_.symm;have f5_:=f3_.symm;clear f1_ f2_ f3_;subst f4_;subst f5_))
      obtain ⟨Ao80,co80,eo80⟩:=Kd.S_slice HO564.out
      (first|subst eo80|(injection eo80 with f1_ f2_ f3_;have f4_:=f1_.symm;have f5_:=f3_.symm;clear f1_ f2_ f3_;subst f4_;subst f5_))
      obtain ⟨Ao81,co81,eo81⟩:=Kd.S_slice HO567.out
      (first|subst eo81|(injection eo81 with f1_ f2_ f3_;have f4_:=f1_.symm;have f5_:=f3_.symm;clear f1_ f2_ f3_;subst f4_;subst f5_))
      refine hK.out _ _ ⟨(qqh BK474.out 0).trans rfl,(qqh BK474.out 1).trans rfl,(qqh BK474.out 2).trans rfl,(qqh BK474.out 3).trans rfl,(qqh BK474.out 4).trans rfl,(qqh BK474.out 5).trans rfl⟩ (fun hHeld => ?_)
      clear hK K
      refine norm_ (a':=?_) ?_ ?_
      rotate_left
      ·
       show Act.put _ (some 49) _ = _
       simp only [Act.put,qqj,qqk,qql,i64_w,i32_w]
       rfl
      refine one_ (i:=9) (N:=some 50) #[true,true,true,true,true,true,true,true,true,true,false,false] rfl rfl (one_of HT_.out (by kernel_rfl)) (by decide) (fun K hK => ?_)
      refine goes_ Try.func18 (by kernel_rfl) rfl #[.agg #[.int .u16 t554,.int .u16 t555,.slice Ao78 t556.length co78,.slice Ao79 t559.length co79,.slice Ao80 t562.length co80,.slice Ao81 t565.length co81]] (by rfl) rfl rfl (by (try simp only [List.map_toArray,List.map_cons,List.map_nil]);first|done|rfl|(simp only [List.length_drop,List.length_take];rfl)) ?_
      with_reducible refine (query_Negative.calls t554 t555 _ _ t556 _ _ t559 _ _ t562 _ _ t565 t568 _ ?side1 ?side2 ?side3 ?side4 ?side5 ?side6 ?side7 ?side8 A74.out).mono ?_
      (case side1 => repeat (first|exact (Kd.R_reads' HO558.out).2.2|(with_reducible refine Kd.C_alloc ?_ _)|(with_reducible refine Kd.C_drewN ?_ _)|(with_reducible refine Kd.C_drew ?_)))
      (case side2 => exact (Kd.R_reads' HO558.out).2.1)
      (case side3 => repeat (first|exact (Kd.S_reads' HO561.out).2.2|(with_reducible refine Kd.C_alloc ?_ _)|(with_reducible refine Kd.C_drewN ?_ _)|(with_reducible refine Kd.C_drew ?_)))
      (case side4 => exact (Kd.S_reads' HO561.out).2.1)
      (case side5 => repeat (first|exact (Kd.S_reads' HO564.out).2.2|(with_reducible refine Kd.C_alloc ?_ _)|(with_reducible refine Kd.C_drewN ?_ _)|(with_reducible refine Kd.C_drew ?_)))
      (case side6 => exact (Kd.S_reads' HO564.out).2.1)
      (case side7 => repeat (first|exact (Kd.S_reads' HO567.out).2.2|(with_reducible refine Kd.C_alloc ?_ _)|(with_reducible refine Kd.C_drewN ?_ _)|(with_reducible refine Kd.C_drew ?_)))
      (case side8 => exact (Kd.S_reads' HO567.out).2.1)
      rintro e w82 ⟨rfl,hb⟩
      refine ⟨_,rfl,?_⟩
      have n0_:=Aside0.mk (Kd.R_below (by (with_reducible repeat (first|apply Kd.R_alloc|apply Kd.R_drewN|apply Kd.R_drew));exact HO_506002.out) hb)
      have n1_:=Aside0.mk (Kd.S_below (by (with_reducible repeat (first|apply Kd.S_alloc|apply Kd.S_drewN|apply Kd.S_drew));exact HO_506003.out) hb)
      have n2_:=Aside0.mk (Kd.S_below (by (with_reducible repeat (first|apply Kd.S_alloc|apply Kd.S_drewN|apply Kd.S_drew));exact HO_506004.out) hb)
      have n3_:=Aside0.mk (Kd.S_below (by (with_reducible repeat (first|apply Kd.S_alloc|apply Kd.S_drewN|apply Kd.S_drew));exact HO_506005.out) hb)
      have n4_:=Aside0.mk (Kd.R_below (by (with_reducible repeat (first|apply Kd.R_alloc|apply Kd.R_drewN|apply Kd.R_drew));exact HO542.out) hb)
      have n5_:=Aside0.mk (Kd.S_below (by (with_reducible repeat (first|apply Kd.S_alloc|apply Kd.S_drewN|apply Kd.S_drew));exact HO545.out) hb)
      have n6_:=Aside0.mk (Kd.S_below (by (with_reducible repeat (first|apply Kd.S_alloc|apply Kd.S_drewN|apply Kd.S_drew));exact HO548.out) hb)
      have n7_:=Aside0.mk (Kd.S_below (by (with_reducible repeat (first|apply Kd.S_alloc|apply Kd.S_drewN|apply Kd.S_drew));exact HO551.out) hb)
      have n8_:=Aside0.mk (Kd.R_below (by (with_reducible repeat (first|apply Kd.R_alloc|apply Kd.R_drewN|apply Kd.R_drew));exact HO558.out) hb)
      have n9_:=Aside0.mk (Kd.S_below (by (with_reducible repeat (first|apply Kd.S_alloc|apply Kd.S_drewN|apply Kd.S_drew));exact HO561.out) hb)
      have n10_:=Aside0.mk (Kd.S_below (by (with_reducible repeat (first|apply Kd.S_alloc|apply Kd.S_drewN|apply Kd.S_drew));exact HO564.out) hb)
      have n11_:=Aside0.mk (Kd.S_below (by (with_reducible repeat (first|apply Kd.S_alloc|apply Kd.S_drewN|apply Kd.S_drew));exact HO567.out) hb)
      have n12_:=Aside0.mk (blk_below (g:=gb474) (o:=.cells #[.int .u16 a0_0,.int .u16 a0_1,.slice A0_2 l0_2.length c0_2,.slice A0_3 l0_3.length c0_3,.slice A0_4 l0_4.length c0_4,.slice A0_5 l0_5.length c0_5] 26 (0,0)) (by (with_reducible repeat first|apply qqa|apply qqb|apply qqc);exact BK474.out) hb)
      have n13_:=Aside0.mk (blk_below (g:=gb505) (o:=.cells #[.int .u16 t491,.int .u16 t492,.slice Ao25 t493.length co25,.slice Ao26 t496.length co26,.slice Ao27 t499.length co27,.slice Ao28 t502.length co28] 26 (0,0)) (by (with_reducible repeat first|apply qqa|apply qqb|apply qqc);exact BK505.out) hb)
      have n14_:=Aside0.mk (below_step (by repeat (first|(with_reducible first|exact HB.out|apply qqf|apply qqd|apply qqe|refine qqg ?_ GE474.out|refine qqg ?_ GE505.out)|exact HB.out)) hb)
      clear HO_506002
      clear HO_506003
      clear HO_506004
      clear HO_506005
      clear HO542
      clear HO545
      clear HO548
      clear HO551
      clear HO558
      clear HO561
      clear HO564
      clear HO567
      clear BK474
      clear BK505
      clear HB
      have HO_506002:=n0_
      have HO_506003:=n1_
      have HO_506004:=n2_
      have HO_506005:=n3_
      have HO542:=n4_
      have HO545:=n5_
      have HO548:=n6_
      have HO551:=n7_
      have HO558:=n8_
      have HO561:=n9_
      have HO564:=n10_
      have HO567:=n11_
      have BK474:=n12_
      have BK505:=n13_
      have HB:=n14_
      clear n0_ n1_ n2_ n3_ n4_ n5_ n6_ n7_ n8_ n9_ n10_ n11_ n12_ n13_ n14_
      (try clear hb)
      (try clear hb2)
      (try clear hk)
      (try clear hi)
      refine hK.out _ _ ⟨(qqh BK474.out 0).trans rfl,(qqh BK474.out 1).trans rfl,(qqh BK474.out 2).trans rfl,(qqh BK474.out 3).trans rfl,(qqh BK474.out 4).trans rfl,(qqh BK474.out 5).trans rfl⟩ (fun hHeld => ?_)
      clear hK K
      refine norm_ (a':=?_) ?_ ?_
      rotate_left
      ·
       show Act.put _ (some 50) _ = _
       simp only [Act.put,qqj,qqk,qql,i64_w,i32_w]
       rfl
      refine pure_ (i:=10) (N:=some 51) (v:=?_) (a':=?_) #[true,true,true,true,true,true,true,true,true,true,true,false] rfl rfl (any_of HT_.out (by kernel_rfl)) (fun _ _ _ h => h) (Or.inl ⟨by rfl,?_⟩) ?_ ?_
      rotate_left
      ·
       intro w'
       go_simp
       with_reducible rfl
      rotate_left
      ·
       simp only [Act.put,qqj,qqk,qql,i64_w,i32_w]
       rfl
      refine pure_ (i:=11) (N:=some 52) (v:=?_) (a':=?_) #[true,true,true,true,true,true,true,true,true,true,true,true] rfl rfl (any_of HT_.out (by kernel_rfl)) (fun _ _ _ h => h) (Or.inl ⟨by rfl,?_⟩) ?_ ?_
      rotate_left
      ·
       intro w'
       go_simp
       with_reducible rfl
      rotate_left
      ·
       simp only [Act.put,qqj,qqk,qql,i64_w,i32_w]
       rfl
      refine done_ (done_of HT_.out (by kernel_rfl)) ?_
      try go_wp2
      go_meet
      case rel => exact ⟨_,((t553 != t568)),(by first|rfl|(simp;done)|(simp [*];done)),H',⟨by have:=HJ9.out;first|omega|exact Nat.le_refl _⟩,⟨by (with_reducible repeat (first|apply Kd.R_alloc|apply Kd.R_drewN|apply Kd.R_drew));exact Kd.R_mono HO_506002.out (fun _ hk => trivial)⟩,⟨by (with_reducible repeat (first|apply Kd.S_alloc|apply Kd.S_drewN|apply Kd.S_drew));exact Kd.S_mono HO_506003.out (fun _ hk => ⟨hk.1.1.1.1.1.1.1,hk.1.1.1.1.1.1.2⟩)⟩,⟨by (with_reducible repeat (first|apply Kd.S_alloc|apply Kd.S_drewN|apply Kd.S_drew));exact Kd.S_mono HO_506004.out (fun _ hk => ⟨hk.1.1.1.1.1.1.1,hk.1.1.1.1.1.1.2⟩)⟩,⟨by (with_reducible repeat (first|apply Kd.S_alloc|apply Kd.S_drewN|apply Kd.S_drew));exact Kd.S_mono HO_506005.out (fun _ hk => ⟨hk.1.1.1.1.1.1.1,hk.1.1.1.1.1.1.2⟩)⟩,⟨by (with_reducible repeat first|apply qqa|apply qqb|apply qqc);exact BK474.out⟩,⟨by (with_reducible repeat first|apply qqa|apply qqb|apply qqc);exact BK505.out⟩,⟨by repeat (first|(with_reducible first|exact HB.out|apply qqf|apply qqd|apply qqe|refine qqg ?_ GE474.out|refine qqg ?_ GE505.out)|exact HB.out)⟩⟩
    case rest =>
     clear HC61
     try clear c1
     try clear c2
     try clear p2
     try clear c7
     try clear c18
     try clear c20
     try clear c23
     try clear c70
     try clear c70b0
     try clear c70b1
     obtain ⟨kq,x52_60,rfl,HA,HJ60,HO_506002,HO_506003,HO_506004,HO_506005,BK474,BK505,HB⟩:=hcut
     cases kq with
     | zero => exact absurd HA.out (by simp [nunciolaw08_QueryTime.j1])
     | succ kj60 =>
      have H:=HA.out
      clear HA
      simp only [nunciolaw08_QueryTime.j1] at H
      by_cases c83 : x52_60 = true
      ·
       subst c83
       have H1 : (some false) = some r:=by rw [if_pos rfl] at H;exact H
       clear H
       have H:=H1
       clear H1
       exact absurd ((Option.some.inj H).trans HT.out) (by decide)
      ·
       replace c83:=Bool.eq_false_iff.mpr c83
       subst c83
       have H1 : ((query_Negative.f a0_0 a0_1 l0_2 l0_3 l0_4 l0_5).bind fun t569 => (if t569 = true then (some true) else (if a1 ≥ (IntKind.u64.wrap (t537)) then (some (t552 == 0)) else (some (t552 == ((t537 - a1) % 4294967296)))))) = some r:=by rw [if_neg (show ¬ (false = true) by decide)] at H;exact H
       clear H
       have H:=H1
       clear H1
       replace H:=Option.bind_eq_some_iff.mp H
       obtain ⟨t569,A840,H⟩:=H
       replace H : (if t569 = true then (some true) else (if a1 ≥ (IntKind.u64.wrap (t537)) then (some (t552 == 0)) else (some (t552 == ((t537 - a1) % 4294967296))))) = some r:=H
       have A84:=Aside0.mk A840
       clear A840
       by_cases c85 : t569 = true
       ·
        subst c85
        have H1 : (some true) = some r:=by rw [if_pos rfl] at H;exact H
        clear H
        have H:=H1
        clear H1
        obtain rfl:=Option.some.inj H
        have hnb86:=NB474_505.out
        have hnc86:=NB505_474.out
        have hcz87_0 : wc.cell? ⟨gb474,0,none⟩ = some (.int .u16 a0_0):=(qqh BK474.out 0).trans rfl
        have hcz87_1 : wc.cell? ⟨gb474,1,none⟩ = some (.int .u16 a0_1):=(qqh BK474.out 1).trans rfl
        have hcz87_2 : wc.cell? ⟨gb474,2,none⟩ = some (.slice A0_2 l0_2.length c0_2):=(qqh BK474.out 2).trans rfl
        have hcz87_3 : wc.cell? ⟨gb474,3,none⟩ = some (.slice A0_3 l0_3.length c0_3):=(qqh BK474.out 3).trans rfl
        have hcz87_4 : wc.cell? ⟨gb474,4,none⟩ = some (.slice A0_4 l0_4.length c0_4):=(qqh BK474.out 4).trans rfl
        have hcz87_5 : wc.cell? ⟨gb474,5,none⟩ = some (.slice A0_5 l0_5.length c0_5):=(qqh BK474.out 5).trans rfl
        have hfz87_0:=qqi BK474.out 0
        have hfz87_1:=qqi BK474.out 1
        have hfz87_2:=qqi BK474.out 2
        have hfz87_3:=qqi BK474.out 3
        have hfz87_4:=qqi BK474.out 4
        have hfz87_5:=qqi BK474.out 5
        go_wp2_with (first|((with_reducible refine gate_callee (f:=18) rfl ?_);refine goesL_ (some 54) rfl rfl Try.func18 (by kernel_rfl) rfl #[.agg #[.int .u16 a0_0,.int .u16 a0_1,.slice A0_2 l0_2.length c0_2,.slice A0_3 l0_3.length c0_3,.slice A0_4 l0_4.length c0_4,.slice A0_5 l0_5.length c0_5]] rfl (by (try simp only [List.map_toArray,List.map_cons,List.map_nil]);first|done|rfl|(simp only [List.length_drop,List.length_take];rfl)) ?_;(with_reducible refine (query_Negative.calls a0_0 a0_1 _ _ l0_2 _ _ l0_3 _ _ l0_4 _ _ l0_5 true _ ?side1 ?side2 ?side3 ?side4 ?side5 ?side6 ?side7 ?side8 A84.out).mono ?_);(case side1 => repeat (first|exact (Kd.C_below HR0_2.out HB.out)|(with_reducible refine Kd.C_alloc ?_ _)|(with_reducible refine Kd.C_drewN ?_ _)|(with_reducible refine Kd.C_drew ?_)));(case side2 => exact HC0_2.out);(case side3 => repeat (first|exact (Kd.C_below HR0_3.out HB.out)|(with_reducible refine Kd.C_alloc ?_ _)|(with_reducible refine Kd.C_drewN ?_ _)|(with_reducible refine Kd.C_drew ?_)));(case side4 => exact HC0_3.out);(case side5 => repeat (first|exact (Kd.C_below HR0_4.out HB.out)|(with_reducible refine Kd.C_alloc ?_ _)|(with_reducible refine Kd.C_drewN ?_ _)|(with_reducible refine Kd.C_drew ?_)));(case side6 => exact HC0_4.out);(case side7 => repeat (first|exact (Kd.C_below HR0_5.out HB.out)|(with_reducible refine Kd.C_alloc ?_ _)|(with_reducible refine Kd.C_drewN ?_ _)|(with_reducible refine Kd.C_drew ?_)));(case side8 => exact HC0_5.out);rintro e w88 ⟨rfl,hb⟩;refine ⟨_,rfl,?_⟩;have n0_:=Aside0.mk (Kd.R_below (by (with_reducible repeat (first|apply Kd.R_alloc|apply Kd.R_drewN|apply Kd.R_drew));exact HO_506002.out) hb);have n1_:=Aside0.mk (Kd.S_below (by (with_reducible repeat (first|apply Kd.S_alloc|apply Kd.S_drewN|apply Kd.S_drew));exact HO_506003.out) hb);have n2_:=Aside0.mk (Kd.S_below (by (with_reducible repeat (first|apply Kd.S_alloc|apply Kd.S_drewN|apply Kd.S_drew));exact HO_506004.out) hb);have n3_:=Aside0.mk (Kd.S_below (by (with_reducible repeat (first|apply Kd.S_alloc|apply Kd.S_drewN|apply Kd.S_drew));exact HO_506005.out) hb);have n4_:=Aside0.mk (blk_below (g:=gb474) (o:=.cells #[.int .u16 a0_0,.int .u16 a0_1,.slice A0_2 l0_2.length c0_2,.slice A0_3 l0_3.length c0_3,.slice A0_4 l0_4.length c0_4,.slice A0_5 l0_5.length c0_5] 26 (0,0)) (by (with_reducible repeat first|apply qqa|apply qqb|apply qqc);exact BK474.out) hb);have n5_:=Aside0.mk (blk_below (g:=gb505) (o:=.cells #[.int .u16 t491,.int .u16 t492,.slice Ao25 t493.length co25,.slice Ao26 t496.length co26,.slice Ao27 t499.length co27,.slice Ao28 t502.length co28] 26 (0,0)) (by (with_reducible repeat first|apply qqa|apply qqb|apply qqc);exact BK505.out) hb);have n6_:=Aside0.mk (below_step (by repeat (first|(with_reducible first|exact HB.out|apply qqf|apply qqd|apply qqe|refine qqg ?_ GE474.out|refine qqg ?_ GE505.out)|exact HB.out)) hb);clear HO_506002;clear HO_506003;clear HO_506004;clear HO_506005;clear BK474;clear BK505;clear HB;have HO_506002:=n0_;have HO_506003:=n1_;have HO_506004:=n2_;have HO_506005:=n3_;have BK474:=n4_;have BK505:=n5_;have HB:=n6_;clear n0_ n1_ n2_ n3_ n4_ n5_ n6_;(try clear hb);(try clear hb2);(try clear hk);(try clear hi)))
        go_ret
        exact ⟨by first|rfl|(simp [errW_none,errW_some] <;> rfl)|(simp [*,errW_none,errW_some] <;> rfl),by repeat (first|(with_reducible first|exact HB.out|apply qqf|apply qqd|apply qqe|refine qqg ?_ GE474.out|refine qqg ?_ GE505.out)|exact HB.out)⟩
       ·
        replace c85:=Bool.eq_false_iff.mpr c85
        subst c85
        have H1 : (if a1 ≥ (IntKind.u64.wrap (t537)) then (some (t552 == 0)) else (some (t552 == ((t537 - a1) % 4294967296)))) = some r:=by rw [if_neg (show ¬ (false = true) by decide)] at H;exact H
        clear H
        have H:=H1
        clear H1
        by_cases c89 : a1 ≥ (IntKind.u64.wrap (t537))
        ·
         rw [if_pos c89] at H
         have c89b0 : decide ((IntKind.u64.wrap (t537)) ≤ a1) = true:=decide_eq_true c89
         clear c89
         obtain rfl:=Option.some.inj H
         have hnb90:=NB474_505.out
         have hnc90:=NB505_474.out
         have hcz91_0 : wc.cell? ⟨gb474,0,none⟩ = some (.int .u16 a0_0):=(qqh BK474.out 0).trans rfl
         have hcz91_1 : wc.cell? ⟨gb474,1,none⟩ = some (.int .u16 a0_1):=(qqh BK474.out 1).trans rfl
         have hcz91_2 : wc.cell? ⟨gb474,2,none⟩ = some (.slice A0_2 l0_2.length c0_2):=(qqh BK474.out 2).trans rfl
         have hcz91_3 : wc.cell? ⟨gb474,3,none⟩ = some (.slice A0_3 l0_3.length c0_3):=(qqh BK474.out 3).trans rfl
         have hcz91_4 : wc.cell? ⟨gb474,4,none⟩ = some (.slice A0_4 l0_4.length c0_4):=(qqh BK474.out 4).trans rfl
         have hcz91_5 : wc.cell? ⟨gb474,5,none⟩ = some (.slice A0_5 l0_5.length c0_5):=(qqh BK474.out 5).trans rfl
         have hfz91_0:=qqi BK474.out 0
         have hfz91_1:=qqi BK474.out 1
         have hfz91_2:=qqi BK474.out 2
         have hfz91_3:=qqi BK474.out 3
         have hfz91_4:=qqi BK474.out 4
         have hfz91_5:=qqi BK474.out 5
         go_wp2_with (first|((with_reducible refine gate_callee (f:=18) rfl ?_);refine goesL_ (some 54) rfl rfl Try.func18 (by kernel_rfl) rfl #[.agg #[.int .u16 a0_0,.int .u16 a0_1,.slice A0_2 l0_2.length c0_2,.slice A0_3 l0_3.length c0_3,.slice A0_4 l0_4.length c0_4,.slice A0_5 l0_5.length c0_5]] rfl (by (try simp only [List.map_toArray,List.map_cons,List.map_nil]);first|done|rfl|(simp only [List.length_drop,List.length_take];rfl)) ?_;(with_reducible refine (query_Negative.calls a0_0 a0_1 _ _ l0_2 _ _ l0_3 _ _ l0_4 _ _ l0_5 false _ ?side1 ?side2 ?side3 ?side4 ?side5 ?side6 ?side7 ?side8 A84.out).mono ?_);(case side1 => repeat (first|exact (Kd.C_below HR0_2.out HB.out)|(with_reducible refine Kd.C_alloc ?_ _)|(with_reducible refine Kd.C_drewN ?_ _)|(with_reducible refine Kd.C_drew ?_)));(case side2 => exact HC0_2.out);(case side3 => repeat (first|exact (Kd.C_below HR0_3.out HB.out)|(with_reducible refine Kd.C_alloc ?_ _)|(with_reducible refine Kd.C_drewN ?_ _)|(with_reducible refine Kd.C_drew ?_)));(case side4 => exact HC0_3.out);(case side5 => repeat (first|exact (Kd.C_below HR0_4.out HB.out)|(with_reducible refine Kd.C_alloc ?_ _)|(with_reducible refine Kd.C_drewN ?_ _)|(with_reducible refine Kd.C_drew ?_)));(case side6 => exact HC0_4.out);(case side7 => repeat (first|exact (Kd.C_below HR0_5.out HB.out)|(with_reducible refine Kd.C_alloc ?_ _)|(with_reducible refine Kd.C_drewN ?_ _)|(with_reducible refine Kd.C_drew ?_)));(case side8 => exact HC0_5.out);rintro e w92 ⟨rfl,hb⟩;refine ⟨_,rfl,?_⟩;have n0_:=Aside0.mk (Kd.R_below (by (with_reducible repeat (first|apply Kd.R_alloc|apply Kd.R_drewN|apply Kd.R_drew));exact HO_506002.out) hb);have n1_:=Aside0.mk (Kd.S_below (by (with_reducible repeat (first|apply Kd.S_alloc|apply Kd.S_drewN|apply Kd.S_drew));exact HO_506003.out) hb);have n2_:=Aside0.mk (Kd.S_below (by (with_reducible repeat (first|apply Kd.S_alloc|apply Kd.S_drewN|apply Kd.S_drew));exact HO_506004.out) hb);have n3_:=Aside0.mk (Kd.S_below (by (with_reducible repeat (first|apply Kd.S_alloc|apply Kd.S_drewN|apply Kd.S_drew));exact HO_506005.out) hb);have n4_:=Aside0.mk (blk_below (g:=gb474) (o:=.cells #[.int .u16 a0_0,.int .u16 a0_1,.slice A0_2 l0_2.length c0_2,.slice A0_3 l0_3.length c0_3,.slice A0_4 l0_4.length c0_4,.slice A0_5 l0_5.length c0_5] 26 (0,0)) (by (with_reducible repeat first|apply qqa|apply qqb|apply qqc);exact BK474.out) hb);have n5_:=Aside0.mk (blk_below (g:=gb505) (o:=.cells #[.int .u16 t491,.int .u16 t492,.slice Ao25 t493.length co25,.slice Ao26 t496.length co26,.slice Ao27 t499.length co27,.slice Ao28 t502.length co28] 26 (0,0)) (by (with_reducible repeat first|apply qqa|apply qqb|apply qqc);exact BK505.out) hb);have n6_:=Aside0.mk (below_step (by repeat (first|(with_reducible first|exact HB.out|apply qqf|apply qqd|apply qqe|refine qqg ?_ GE474.out|refine qqg ?_ GE505.out)|exact HB.out)) hb);clear HO_506002;clear HO_506003;clear HO_506004;clear HO_506005;clear BK474;clear BK505;clear HB;have HO_506002:=n0_;have HO_506003:=n1_;have HO_506004:=n2_;have HO_506005:=n3_;have BK474:=n4_;have BK505:=n5_;have HB:=n6_;clear n0_ n1_ n2_ n3_ n4_ n5_ n6_;(try clear hb);(try clear hb2);(try clear hk);(try clear hi)))
         go_ret
         exact ⟨by first|rfl|(simp [errW_none,errW_some] <;> rfl)|(simp [*,errW_none,errW_some] <;> rfl),by repeat (first|(with_reducible first|exact HB.out|apply qqf|apply qqd|apply qqe|refine qqg ?_ GE474.out|refine qqg ?_ GE505.out)|exact HB.out)⟩
        ·
         rw [if_neg c89] at H
         have c89b0 : decide ((IntKind.u64.wrap (t537)) ≤ a1) = false:=decide_eq_false c89
         clear c89
         obtain rfl:=Option.some.inj H
         have hnb93:=NB474_505.out
         have hnc93:=NB505_474.out
         have hcz94_0 : wc.cell? ⟨gb474,0,none⟩ = some (.int .u16 a0_0):=(qqh BK474.out 0).trans rfl
         have hcz94_1 : wc.cell? ⟨gb474,1,none⟩ = some (.int .u16 a0_1):=(qqh BK474.out 1).trans rfl
         have hcz94_2 : wc.cell? ⟨gb474,2,none⟩ = some (.slice A0_2 l0_2.length c0_2):=(qqh BK474.out 2).trans rfl
         have hcz94_3 : wc.cell? ⟨gb474,3,none⟩ = some (.slice A0_3 l0_3.length c0_3):=(qqh BK474.out 3).trans rfl
         have hcz94_4 : wc.cell? ⟨gb474,4,none⟩ = some (.slice A0_4 l0_4.length c0_4):=(qqh BK474.out 4).trans rfl
         have hcz94_5 : wc.cell? ⟨gb474,5,none⟩ = some (.slice A0_5 l0_5.length c0_5):=(qqh BK474.out 5).trans rfl
         have hfz94_0:=qqi BK474.out 0
         have hfz94_1:=qqi BK474.out 1
         have hfz94_2:=qqi BK474.out 2
         have hfz94_3:=qqi BK474.out 3
         have hfz94_4:=qqi BK474.out 4
         have hfz94_5:=qqi BK474.out 5
         go_wp2_with (first|((with_reducible refine gate_callee (f:=18) rfl ?_);refine goesL_ (some 54) rfl rfl Try.func18 (by kernel_rfl) rfl #[.agg #[.int .u16 a0_0,.int .u16 a0_1,.slice A0_2 l0_2.length c0_2,.slice A0_3 l0_3.length c0_3,.slice A0_4 l0_4.length c0_4,.slice A0_5 l0_5.length c0_5]] rfl (by (try simp only [List.map_toArray,List.map_cons,List.map_nil]);first|done|rfl|(simp only [List.length_drop,List.length_take];rfl)) ?_;(with_reducible refine (query_Negative.calls a0_0 a0_1 _ _ l0_2 _ _ l0_3 _ _ l0_4 _ _ l0_5 false _ ?side1 ?side2 ?side3 ?side4 ?side5 ?side6 ?side7 ?side8 A84.out).mono ?_);(case side1 => repeat (first|exact (Kd.C_below HR0_2.out HB.out)|(with_reducible refine Kd.C_alloc ?_ _)|(with_reducible refine Kd.C_drewN ?_ _)|(with_reducible refine Kd.C_drew ?_)));(case side2 => exact HC0_2.out);(case side3 => repeat (first|exact (Kd.C_below HR0_3.out HB.out)|(with_reducible refine Kd.C_alloc ?_ _)|(with_reducible refine Kd.C_drewN ?_ _)|(with_reducible refine Kd.C_drew ?_)));(case side4 => exact HC0_3.out);(case side5 => repeat (first|exact (Kd.C_below HR0_4.out HB.out)|(with_reducible refine Kd.C_alloc ?_ _)|(with_reducible refine Kd.C_drewN ?_ _)|(with_reducible refine Kd.C_drew ?_)));(case side6 => exact HC0_4.out);(case side7 => repeat (first|exact (Kd.C_below HR0_5.out HB.out)|(with_reducible refine Kd.C_alloc ?_ _)|(with_reducible refine Kd.C_drewN ?_ _)|(with_reducible refine Kd.C_drew ?_)));(case side8 => exact HC0_5.out);rintro e w95 ⟨rfl,hb⟩;refine ⟨_,rfl,?_⟩;have n0_:=Aside0.mk (Kd.R_below (by (with_reducible repeat (first|apply Kd.R_alloc|apply Kd.R_drewN|apply Kd.R_drew));exact HO_506002.out) hb);have n1_:=Aside0.mk (Kd.S_below (by (with_reducible repeat (first|apply Kd.S_alloc|apply Kd.S_drewN|apply Kd.S_drew));exact HO_506003.out) hb);have n2_:=Aside0.mk (Kd.S_below (by (with_reducible repeat (first|apply Kd.S_alloc|apply Kd.S_drewN|apply Kd.S_drew));exact HO_506004.out) hb);have n3_:=Aside0.mk (Kd.S_below (by (with_reducible repeat (first|apply Kd.S_alloc|apply Kd.S_drewN|apply Kd.S_drew));exact HO_506005.out) hb);have n4_:=Aside0.mk (blk_below (g:=gb474) (o:=.cells #[.int .u16 a0_0,.int .u16 a0_1,.slice A0_2 l0_2.length c0_2,.slice A0_3 l0_3.length c0_3,.slice A0_4 l0_4.length c0_4,.slice A0_5 l0_5.length c0_5] 26 (0,0)) (by (with_reducible repeat first|apply qqa|apply qqb|apply qqc);exact BK474.out) hb);have n5_:=Aside0.mk (blk_below (g:=gb505) (o:=.cells #[.int .u16 t491,.int .u16 t492,.slice Ao25 t493.length co25,.slice Ao26 t496.length co26,.slice Ao27 t499.length co27,.slice Ao28 t502.length co28] 26 (0,0)) (by (with_reducible repeat first|apply qqa|apply qqb|apply qqc);exact BK505.out) hb);have n6_:=Aside0.mk (below_step (by repeat (first|(with_reducible first|exact HB.out|apply qqf|apply qqd|apply qqe|refine qqg ?_ GE474.out|refine qqg ?_ GE505.out)|exact HB.out)) hb);clear HO_506002;clear HO_506003;clear HO_506004;clear HO_506005;clear BK474;clear BK505;clear HB;have HO_506002:=n0_;have HO_506003:=n1_;have HO_506004:=n2_;have HO_506005:=n3_;have BK474:=n4_;have BK505:=n5_;have HB:=n6_;clear n0_ n1_ n2_ n3_ n4_ n5_ n6_;(try clear hb);(try clear hb2);(try clear hk);(try clear hi)))
         go_ret
         exact ⟨by first|rfl|(simp [errW_none,errW_some] <;> rfl)|(simp [*,errW_none,errW_some] <;> rfl),by repeat (first|(with_reducible first|exact HB.out|apply qqf|apply qqd|apply qqe|refine qqg ?_ GE474.out|refine qqg ?_ GE505.out)|exact HB.out)⟩

/-- THE ONE PURE STATEMENT of nunciolaw08_QueryTime: yours. -/
def nunciolaw08_QueryTime.Pure : Prop := ∀ (a0_0 : Int) (a0_1 : Int) (l0_2 : List (S53)) (l0_3 : List (S51)) (l0_4 : List (S51)) (l0_5 : List (S51)) (a1 : Int) (a2 : Int), ((Lit.int .u16 a0_0).wf = true) → ((Lit.int .u16 a0_1).wf = true) → (l0_2.length ≤ 9223372036854775807 ∧ l0_2.length * 24 ≤ 140737488351232 ∧ ∀ x_ ∈ l0_2, k53_wf x_) → (l0_3.length ≤ 9223372036854775807 ∧ l0_3.length * 96 ≤ 140737488351232 ∧ ∀ x_ ∈ l0_3, k51_wf x_) → (l0_4.length ≤ 9223372036854775807 ∧ l0_4.length * 96 ≤ 140737488351232 ∧ ∀ x_ ∈ l0_4, k51_wf x_) → (l0_5.length ≤ 9223372036854775807 ∧ l0_5.length * 96 ≤ 140737488351232 ∧ ∀ x_ ∈ l0_5, k51_wf x_) → ((Lit.int .u64 a1).wf = true) → ((Lit.int .u64 a2).wf = true) → ∃ k, nunciolaw08_QueryTime.f k a0_0 a0_1 l0_2 l0_3 l0_4 l0_5 a1 a2 = some true
theorem nunciolaw08_QueryTime.walk (P : nunciolaw08_QueryTime.Pure) (a0_0 : Int) (a0_1 : Int) (A0_2 : Option Addr) (c0_2 : Nat) (l0_2 : List (S53)) (A0_3 : Option Addr) (c0_3 : Nat) (l0_3 : List (S51)) (A0_4 : Option Addr) (c0_4 : Nat) (l0_4 : List (S51)) (A0_5 : Option Addr) (c0_5 : Nat) (l0_5 : List (S51)) (a1 : Int) (a2 : Int) (w : World) (hr0_2 : Kd.C k53 w A0_2 l0_2.length l0_2) (hc0_2 : l0_2.length ≤ c0_2) (hr0_3 : Kd.C k51 w A0_3 l0_3.length l0_3) (hc0_3 : l0_3.length ≤ c0_3) (hr0_4 : Kd.C k51 w A0_4 l0_4.length l0_4) (hc0_4 : l0_4.length ≤ c0_4) (hr0_5 : Kd.C k51 w A0_5 l0_5.length l0_5) (hc0_5 : l0_5.length ≤ c0_5) (w0_0 : (Lit.int .u16 a0_0).wf = true) (w0_1 : (Lit.int .u16 a0_1).wf = true) (w0_2 : l0_2.length ≤ 9223372036854775807 ∧ l0_2.length * 24 ≤ 140737488351232 ∧ ∀ x_ ∈ l0_2, k53_wf x_) (w0_3 : l0_3.length ≤ 9223372036854775807 ∧ l0_3.length * 96 ≤ 140737488351232 ∧ ∀ x_ ∈ l0_3, k51_wf x_) (w0_4 : l0_4.length ≤ 9223372036854775807 ∧ l0_4.length * 96 ≤ 140737488351232 ∧ ∀ x_ ∈ l0_4, k51_wf x_) (w0_5 : l0_5.length ≤ 9223372036854775807 ∧ l0_5.length * 96 ≤ 140737488351232 ∧ ∀ x_ ∈ l0_5, k51_wf x_) (w1 : (Lit.int .u64 a1).wf = true) (w2 : (Lit.int .u64 a2).wf = true) :
  Calls Try.prog 7 #[.agg #[.int .u16 a0_0,.int .u16 a0_1,.slice A0_2 l0_2.length c0_2,.slice A0_3 l0_3.length c0_3,.slice A0_4 l0_4.length c0_4,.slice A0_5 l0_5.length c0_5],.int .u64 a1,.int .u64 a2] w fun e w' => e = .returned (.bool true)∧Below w.heap.size w w':=by
 obtain ⟨k,h⟩:=P a0_0 a0_1 l0_2 l0_3 l0_4 l0_5 a1 a2 w0_0 w0_1 w0_2 w0_3 w0_4 w0_5 w1 w2
 refine (nunciolaw08_QueryTime.calls k a0_0 a0_1 _ _ l0_2 _ _ l0_3 _ _ l0_4 _ _ l0_5 a1 a2 true w hr0_2 hc0_2 hr0_3 hc0_3 hr0_4 hc0_4 hr0_5 hc0_5 h rfl).mono ?_
 rintro e w' ⟨rfl,hd⟩
 exact ⟨rfl,hd⟩

end Go.Proofs.Ythkdfnbhlinhiaa.Mine
