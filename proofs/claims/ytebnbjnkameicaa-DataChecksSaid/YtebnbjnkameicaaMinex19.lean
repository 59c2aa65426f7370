-- Written by this repo's own printer (wip/print), which builds on the kit's.
import Derived.Test.YtebnbjnkameicaaMinex0
import Derived.Test.YtebnbjnkameicaaMinex18
namespace Go.Proofs.Ytebnbjnkameicaa.Mine
open Go.RowKit Go.Proofs.YtebnbjnkameicaaW.PrintWords Go.Proofs.YtebnbjnkameicaaW.PrintLast Go.Proofs.YtebnbjnkameicaaW.PrintMore
attribute [local go_sem] max2_int min2_int max_two min_two max_three min_three max_four min_four   -- for this text's walks alone
set_option linter.unusedVariables false
set_option linter.unusedSimpArgs false

/-! ### nuncioref05_plain: function 29 -/
mutual
def nuncioref05_plain.l0 : Nat → Int → Int → ByteArray → Int → Int → Int → List ByteArray → List Int → List ByteArray → Option (ByteArray × Bool)
 | 0, _, _, _, _, _, _, _, _, _ => none
 | k + 1, x4, x5, x245000, x245001, x245002, x245003, x245004, x245005, x245006 => if x5 < (x245006.length : Int) then (if 0 ≤ x5 then (if x245001 = 16 then (if (wrap64 ((wrap64 (x4 + ((rdOf ByteArray.empty x245006 x5).size : Int))) + 1)) > 65535 then (some ((⟨#[]⟩ : ByteArray), false)) else (nuncioref05_plain.l0 k (wrap64 ((wrap64 (x4 + ((rdOf ByteArray.empty x245006 x5).size : Int))) + 1)) (wrap64 (x5 + 1)) x245000 x245001 x245002 x245003 x245004 x245005 x245006)) else (if (wrap64 (x4 + ((rdOf ByteArray.empty x245006 x5).size : Int))) > 65535 then (some ((⟨#[]⟩ : ByteArray), false)) else (nuncioref05_plain.l0 k (wrap64 (x4 + ((rdOf ByteArray.empty x245006 x5).size : Int))) (wrap64 (x5 + 1)) x245000 x245001 x245002 x245003 x245004 x245005 x245006))) else (none)) else (nuncioref05_plain.l1 k (⟨#[]⟩ : ByteArray) 0 x245000 x245001 x245002 x245003 x245004 x245005 x245006)
def nuncioref05_plain.j2 : Nat → ByteArray → ByteArray → Int → Int → Int → List ByteArray → List Int → List ByteArray → Option (ByteArray × Bool)
 | 0, _, _, _, _, _, _, _, _ => none
 | k + 1, x6, x245000, x245001, x245002, x245003, x245004, x245005, x245006 => nuncioref05_plain.l2 k x6 0 x245000 x245001 x245002 x245003 x245004 x245005 x245006
def nuncioref05_plain.l2 : Nat → ByteArray → Int → ByteArray → Int → Int → Int → List ByteArray → List Int → List ByteArray → Option (ByteArray × Bool)
 | 0, _, _, _, _, _, _, _, _, _ => none
 | k + 1, x6, x8, x245000, x245001, x245002, x245003, x245004, x245005, x245006 => if x8 < (x245004.length : Int) then (if 0 ≤ x8 then (if x6.size + (rdOf ByteArray.empty x245004 x8).size ≤ 9223372036854775807 then (nuncioref05_plain.l2 k (x6 ++ (rdOf ByteArray.empty x245004 x8)) (wrap64 (x8 + 1)) x245000 x245001 x245002 x245003 x245004 x245005 x245006) else (none)) else (none)) else (nuncioref05_plain.l3 k x6 0 x245000 x245001 x245002 x245003 x245004 x245005 x245006)
def nuncioref05_plain.j5 : Nat → ByteArray → ByteArray → Int → Int → Int → List ByteArray → List Int → List ByteArray → Option (ByteArray × Bool)
 | 0, _, _, _, _, _, _, _, _ => none
 | k + 1, x6, x245000, x245001, x245002, x245003, x245004, x245005, x245006 => nuncioref05_plain.l4 k x6 0 x245000 x245001 x245002 x245003 x245004 x245005 x245006
def nuncioref05_plain.l4 : Nat → ByteArray → Int → ByteArray → Int → Int → Int → List ByteArray → List Int → List ByteArray → Option (ByteArray × Bool)
 | 0, _, _, _, _, _, _, _, _, _ => none
 | k + 1, x6, x10, x245000, x245001, x245002, x245003, x245004, x245005, x245006 => if x10 < (x245006.length : Int) then (if x245001 = 16 then (if 0 ≤ x10 then ((some (([(((rdOf ByteArray.empty x245006 x10).size : Int)) % 256] : List Int) : List Int)).bind fun y252 => (if x6.size + (strOfNums y252).size ≤ 9223372036854775807 then (if (x6.size + (strOfNums y252).size) + (rdOf ByteArray.empty x245006 x10).size ≤ 9223372036854775807 then (nuncioref05_plain.l4 k ((x6 ++ (strOfNums y252)) ++ (rdOf ByteArray.empty x245006 x10)) (wrap64 (x10 + 1)) x245000 x245001 x245002 x245003 x245004 x245005 x245006) else (none)) else (none))) else (none)) else (if 0 ≤ x10 then (if x6.size + (rdOf ByteArray.empty x245006 x10).size ≤ 9223372036854775807 then (nuncioref05_plain.l4 k (x6 ++ (rdOf ByteArray.empty x245006 x10)) (wrap64 (x10 + 1)) x245000 x245001 x245002 x245003 x245004 x245005 x245006) else (none)) else (none))) else (some (x6, true))
def nuncioref05_plain.l3 : Nat → ByteArray → Int → ByteArray → Int → Int → Int → List ByteArray → List Int → List ByteArray → Option (ByteArray × Bool)
 | 0, _, _, _, _, _, _, _, _, _ => none
 | k + 1, x6, x9, x245000, x245001, x245002, x245003, x245004, x245005, x245006 => if x9 < (x245005.length : Int) then (if x245001 = 6 then (if 0 ≤ x9 then ((nuncioref01_Put.f k x6 (IntKind.u64.wrap (rd x245005 x9)) 4).bind fun t250 => (nuncioref05_plain.l3 k t250 (wrap64 (x9 + 1)) x245000 x245001 x245002 x245003 x245004 x245005 x245006)) else (none)) else (nuncioref05_plain.j5 k x6 x245000 x245001 x245002 x245003 x245004 x245005 x245006)) else (nuncioref05_plain.j5 k x6 x245000 x245001 x245002 x245003 x245004 x245005 x245006)
def nuncioref05_plain.l1 : Nat → ByteArray → Int → ByteArray → Int → Int → Int → List ByteArray → List Int → List ByteArray → Option (ByteArray × Bool)
 | 0, _, _, _, _, _, _, _, _, _ => none
 | k + 1, x6, x7, x245000, x245001, x245002, x245003, x245004, x245005, x245006 => if x7 < (x245005.length : Int) then (if x245001 = 6 then (nuncioref05_plain.j2 k x6 x245000 x245001 x245002 x245003 x245004 x245005 x245006) else (if 0 ≤ x7 then ((nuncioref01_Put.f k x6 (IntKind.u64.wrap (rd x245005 x7)) 2).bind fun t247 => (nuncioref05_plain.l1 k t247 (wrap64 (x7 + 1)) x245000 x245001 x245002 x245003 x245004 x245005 x245006)) else (none))) else (nuncioref05_plain.j2 k x6 x245000 x245001 x245002 x245003 x245004 x245005 x245006)
end
def nuncioref05_plain.f (k : Nat) (a0_0 : ByteArray) (a0_1 : Int) (a0_2 : Int) (a0_3 : Int) (l0_4 : List ByteArray) (l0_5 : List Int) (l0_6 : List ByteArray) : Option (ByteArray × Bool) := nuncioref05_plain.l0 k 0 0 a0_0 a0_1 a0_2 a0_3 l0_4 l0_5 l0_6
theorem nuncioref05_plain.mono_l : ∀ k, (∀ y0 y1 y2 y3 y4 y5 y6 y7 y8, LeO (nuncioref05_plain.l0 k y0 y1 y2 y3 y4 y5 y6 y7 y8) (nuncioref05_plain.l0 (k + 1) y0 y1 y2 y3 y4 y5 y6 y7 y8)) ∧ (∀ y0 y1 y2 y3 y4 y5 y6 y7, LeO (nuncioref05_plain.j2 k y0 y1 y2 y3 y4 y5 y6 y7) (nuncioref05_plain.j2 (k + 1) y0 y1 y2 y3 y4 y5 y6 y7)) ∧ (∀ y0 y1 y2 y3 y4 y5 y6 y7 y8, LeO (nuncioref05_plain.l2 k y0 y1 y2 y3 y4 y5 y6 y7 y8) (nuncioref05_plain.l2 (k + 1) y0 y1 y2 y3 y4 y5 y6 y7 y8)) ∧ (∀ y0 y1 y2 y3 y4 y5 y6 y7, LeO (nuncioref05_plain.j5 k y0 y1 y2 y3 y4 y5 y6 y7) (nuncioref05_plain.j5 (k + 1) y0 y1 y2 y3 y4 y5 y6 y7)) ∧ (∀ y0 y1 y2 y3 y4 y5 y6 y7 y8, LeO (nuncioref05_plain.l4 k y0 y1 y2 y3 y4 y5 y6 y7 y8) (nuncioref05_plain.l4 (k + 1) y0 y1 y2 y3 y4 y5 y6 y7 y8)) ∧ (∀ y0 y1 y2 y3 y4 y5 y6 y7 y8, LeO (nuncioref05_plain.l3 k y0 y1 y2 y3 y4 y5 y6 y7 y8) (nuncioref05_plain.l3 (k + 1) y0 y1 y2 y3 y4 y5 y6 y7 y8)) ∧ (∀ y0 y1 y2 y3 y4 y5 y6 y7 y8, LeO (nuncioref05_plain.l1 k y0 y1 y2 y3 y4 y5 y6 y7 y8) (nuncioref05_plain.l1 (k + 1) y0 y1 y2 y3 y4 y5 y6 y7 y8))
 | 0 => ⟨fun _ _ _ _ _ _ _ _ _ r h => by simp [nuncioref05_plain.l0] at h, fun _ _ _ _ _ _ _ _ r h => by simp [nuncioref05_plain.j2] at h, fun _ _ _ _ _ _ _ _ _ r h => by simp [nuncioref05_plain.l2] at h, fun _ _ _ _ _ _ _ _ r h => by simp [nuncioref05_plain.j5] at h, fun _ _ _ _ _ _ _ _ _ r h => by simp [nuncioref05_plain.l4] at h, fun _ _ _ _ _ _ _ _ _ r h => by simp [nuncioref05_plain.l3] at h, fun _ _ _ _ _ _ _ _ _ r h => by simp [nuncioref05_plain.l1] at h⟩
 | k + 1 => by
  obtain ⟨ih0, ih1, ih2, ih3, ih4, ih5, ih6⟩ := nuncioref05_plain.mono_l k
  refine ⟨?_, ?_, ?_, ?_, ?_, ?_, ?_⟩
  ·
   intro y0 y1 y2 y3 y4 y5 y6 y7 y8
   unfold nuncioref05_plain.l0
   repeat' first
   | (with_reducible exact ih0 _ _ _ _ _ _ _ _ _)
   | (with_reducible exact ih1 _ _ _ _ _ _ _ _)
   | (with_reducible exact ih2 _ _ _ _ _ _ _ _ _)
   | (with_reducible exact ih3 _ _ _ _ _ _ _ _)
   | (with_reducible exact ih4 _ _ _ _ _ _ _ _ _)
   | (with_reducible exact ih5 _ _ _ _ _ _ _ _ _)
   | (with_reducible exact ih6 _ _ _ _ _ _ _ _ _)
   | (with_reducible exact nuncioref01_Put.mono _ _ _ _)
   | (with_reducible exact LeO.refl _)
   | (with_reducible exact LeO.none _)
   | (with_reducible refine LeO.ite ?_ ?_)
   | (with_reducible refine LeO.bind ?_ (fun _ => ?_))
   | exact ih0 _ _ _ _ _ _ _ _ _
   | exact ih1 _ _ _ _ _ _ _ _
   | exact ih2 _ _ _ _ _ _ _ _ _
   | exact ih3 _ _ _ _ _ _ _ _
   | exact ih4 _ _ _ _ _ _ _ _ _
   | exact ih5 _ _ _ _ _ _ _ _ _
   | exact ih6 _ _ _ _ _ _ _ _ _
   | exact nuncioref01_Put.mono _ _ _ _
   | exact LeO.none _
   | refine LeO.ite ?_ ?_
   | refine LeO.bind ?_ (fun _ => ?_)
  ·
   intro y0 y1 y2 y3 y4 y5 y6 y7
   unfold nuncioref05_plain.j2
   repeat' first
   | (with_reducible exact ih0 _ _ _ _ _ _ _ _ _)
   | (with_reducible exact ih1 _ _ _ _ _ _ _ _)
   | (with_reducible exact ih2 _ _ _ _ _ _ _ _ _)
   | (with_reducible exact ih3 _ _ _ _ _ _ _ _)
   | (with_reducible exact ih4 _ _ _ _ _ _ _ _ _)
   | (with_reducible exact ih5 _ _ _ _ _ _ _ _ _)
   | (with_reducible exact ih6 _ _ _ _ _ _ _ _ _)
   | (with_reducible exact nuncioref01_Put.mono _ _ _ _)
   | (with_reducible exact LeO.refl _)
   | (with_reducible exact LeO.none _)
   | (with_reducible refine LeO.ite ?_ ?_)
   | (with_reducible refine LeO.bind ?_ (fun _ => ?_))
   | exact ih0 _ _ _ _ _ _ _ _ _
   | exact ih1 _ _ _ _ _ _ _ _
   | exact ih2 _ _ _ _ _ _ _ _ _
   | exact ih3 _ _ _ _ _ _ _ _
   | exact ih4 _ _ _ _ _ _ _ _ _
   | exact ih5 _ _ _ _ _ _ _ _ _
   | exact ih6 _ _ _ _ _ _ _ _ _
   | exact nuncioref01_Put.mono _ _ _ _
   | exact LeO.none _
   | refine LeO.ite ?_ ?_
   | refine LeO.bind ?_ (fun _ => ?_)
  ·
   intro y0 y1 y2 y3 y4 y5 y6 y7 y8
   unfold nuncioref05_plain.l2
   repeat' first
   | (with_reducible exact ih0 _ _ _ _ _ _ _ _ _)
   | (with_reducible exact ih1 _ _ _ _ _ _ _ _)
   | (with_reducible exact ih2 _ _ _ _ _ _ _ _ _)
   | (with_reducible exact ih3 _ _ _ _ _ _ _ _)
   | (with_reducible exact ih4 _ _ _ _ _ _ _ _ _)
   | (with_reducible exact ih5 _ _ _ _ _ _ _ _ _)
   | (with_reducible exact ih6 _ _ _ _ _ _ _ _ _)
   | (with_reducible exact nuncioref01_Put.mono _ _ _ _)
   | (with_reducible exact LeO.refl _)
   | (with_reducible exact LeO.none _)
   | (with_reducible refine LeO.ite ?_ ?_)
   | (with_reducible refine LeO.bind ?_ (fun _ => ?_))
   | exact ih0 _ _ _ _ _ _ _ _ _
   | exact ih1 _ _ _ _ _ _ _ _
   | exact ih2 _ _ _ _ _ _ _ _ _
   | exact ih3 _ _ _ _ _ _ _ _
   | exact ih4 _ _ _ _ _ _ _ _ _
   | exact ih5 _ _ _ _ _ _ _ _ _
   | exact ih6 _ _ _ _ _ _ _ _ _
   | exact nuncioref01_Put.mono _ _ _ _
   | exact LeO.none _
   | refine LeO.ite ?_ ?_
   | refine LeO.bind ?_ (fun _ => ?_)
  ·
   intro y0 y1 y2 y3 y4 y5 y6 y7
   unfold nuncioref05_plain.j5
   repeat' first
   | (with_reducible exact ih0 _ _ _ _ _ _ _ _ _)
   | (with_reducible exact ih1 _ _ _ _ _ _ _ _)
   | (with_reducible exact ih2 _ _ _ _ _ _ _ _ _)
   | (with_reducible exact ih3 _ _ _ _ _ _ _ _)
   | (with_reducible exact ih4 _ _ _ _ _ _ _ _ _)
   | (with_reducible exact ih5 _ _ _ _ _ _ _ _ _)
   | (with_reducible exact ih6 _ _ _ _ _ _ _ _ _)
   | (with_reducible exact nuncioref01_Put.mono _ _ _ _)
   | (with_reducible exact LeO.refl _)
   | (with_reducible exact LeO.none _)
   | (with_reducible refine LeO.ite ?_ ?_)
   | (with_reducible refine LeO.bind ?_ (fun _ => ?_))
   | exact ih0 _ _ _ _ _ _ _ _ _
   | exact ih1 _ _ _ _ _ _ _ _
   | exact ih2 _ _ _ _ _ _ _ _ _
   | exact ih3 _ _ _ _ _ _ _ _
   | exact ih4 _ _ _ _ _ _ _ _ _
   | exact ih5 _ _ _ _ _ _ _ _ _
   | exact ih6 _ _ _ _ _ _ _ _ _
   | exact nuncioref01_Put.mono _ _ _ _
   | exact LeO.none _
   | refine LeO.ite ?_ ?_
   | refine LeO.bind ?_ (fun _ => ?_)
  ·
   intro y0 y1 y2 y3 y4 y5 y6 y7 y8
   unfold nuncioref05_plain.l4
   repeat' first
   | (with_reducible exact ih0 _ _ _ _ _ _ _ _ _)
   | (with_reducible exact ih1 _ _ _ _ _ _ _ _)
   | (with_reducible exact ih2 _ _ _ _ _ _ _ _ _)
   | (with_reducible exact ih3 _ _ _ _ _ _ _ _)
   | (with_reducible exact ih4 _ _ _ _ _ _ _ _ _)
   | (with_reducible exact ih5 _ _ _ _ _ _ _ _ _)
   | (with_reducible exact ih6 _ _ _ _ _ _ _ _ _)
   | (with_reducible exact nuncioref01_Put.mono _ _ _ _)
   | (with_reducible exact LeO.refl _)
   | (with_reducible exact LeO.none _)
   | (with_reducible refine LeO.ite ?_ ?_)
   | (with_reducible refine LeO.bind ?_ (fun _ => ?_))
   | exact ih0 _ _ _ _ _ _ _ _ _
   | exact ih1 _ _ _ _ _ _ _ _
   | exact ih2 _ _ _ _ _ _ _ _ _
   | exact ih3 _ _ _ _ _ _ _ _
   | exact ih4 _ _ _ _ _ _ _ _ _
   | exact ih5 _ _ _ _ _ _ _ _ _
   | exact ih6 _ _ _ _ _ _ _ _ _
   | exact nuncioref01_Put.mono _ _ _ _
   | exact LeO.none _
   | refine LeO.ite ?_ ?_
   | refine LeO.bind ?_ (fun _ => ?_)
  ·
   intro y0 y1 y2 y3 y4 y5 y6 y7 y8
   unfold nuncioref05_plain.l3
   repeat' first
   | (with_reducible exact ih0 _ _ _ _ _ _ _ _ _)
   | (with_reducible exact ih1 _ _ _ _ _ _ _ _)
   | (with_reducible exact ih2 _ _ _ _ _ _ _ _ _)
   | (with_reducible exact ih3 _ _ _ _ _ _ _ _)
   | (with_reducible exact ih4 _ _ _ _ _ _ _ _ _)
   | (with_reducible exact ih5 _ _ _ _ _ _ _ _ _)
   | (with_reducible exact ih6 _ _ _ _ _ _ _ _ _)
   | (with_reducible exact nuncioref01_Put.mono _ _ _ _)
   | (with_reducible exact LeO.refl _)
   | (with_reducible exact LeO.none _)
   | (with_reducible refine LeO.ite ?_ ?_)
   | (with_reducible refine LeO.bind ?_ (fun _ => ?_))
   | exact ih0 _ _ _ _ _ _ _ _ _
   | exact ih1 _ _ _ _ _ _ _ _
   | exact ih2 _ _ _ _ _ _ _ _ _
   | exact ih3 _ _ _ _ _ _ _ _
   | exact ih4 _ _ _ _ _ _ _ _ _
   | exact ih5 _ _ _ _ _ _ _ _ _
   | exact ih6 _ _ _ _ _ _ _ _ _
   | exact nuncioref01_Put.mono _ _ _ _
   | exact LeO.none _
   | refine LeO.ite ?_ ?_
   | refine LeO.bind ?_ (fun _ => ?_)
  ·
   intro y0 y1 y2 y3 y4 y5 y6 y7 y8
   unfold nuncioref05_plain.l1
   repeat' first
   | (with_reducible exact ih0 _ _ _ _ _ _ _ _ _)
   | (with_reducible exact ih1 _ _ _ _ _ _ _ _)
   | (with_reducible exact ih2 _ _ _ _ _ _ _ _ _)
   | (with_reducible exact ih3 _ _ _ _ _ _ _ _)
   | (with_reducible exact ih4 _ _ _ _ _ _ _ _ _)
   | (with_reducible exact ih5 _ _ _ _ _ _ _ _ _)
   | (with_reducible exact ih6 _ _ _ _ _ _ _ _ _)
   | (with_reducible exact nuncioref01_Put.mono _ _ _ _)
   | (with_reducible exact LeO.refl _)
   | (with_reducible exact LeO.none _)
   | (with_reducible refine LeO.ite ?_ ?_)
   | (with_reducible refine LeO.bind ?_ (fun _ => ?_))
   | exact ih0 _ _ _ _ _ _ _ _ _
   | exact ih1 _ _ _ _ _ _ _ _
   | exact ih2 _ _ _ _ _ _ _ _ _
   | exact ih3 _ _ _ _ _ _ _ _
   | exact ih4 _ _ _ _ _ _ _ _ _
   | exact ih5 _ _ _ _ _ _ _ _ _
   | exact ih6 _ _ _ _ _ _ _ _ _
   | exact nuncioref01_Put.mono _ _ _ _
   | exact LeO.none _
   | refine LeO.ite ?_ ?_
   | refine LeO.bind ?_ (fun _ => ?_)
theorem nuncioref05_plain.mono : ∀ a0 a1 a2 a3 a4 a5 a6 k, LeO (nuncioref05_plain.f k a0 a1 a2 a3 a4 a5 a6) (nuncioref05_plain.f (k + 1) a0 a1 a2 a3 a4 a5 a6) := by
 intro a0 a1 a2 a3 a4 a5 a6 k
 obtain ⟨ih0, ih1, ih2, ih3, ih4, ih5, ih6⟩ := nuncioref05_plain.mono_l k
 unfold nuncioref05_plain.f
 repeat' first
   | (with_reducible exact ih0 _ _ _ _ _ _ _ _ _)
   | (with_reducible exact ih1 _ _ _ _ _ _ _ _)
   | (with_reducible exact ih2 _ _ _ _ _ _ _ _ _)
   | (with_reducible exact ih3 _ _ _ _ _ _ _ _)
   | (with_reducible exact ih4 _ _ _ _ _ _ _ _ _)
   | (with_reducible exact ih5 _ _ _ _ _ _ _ _ _)
   | (with_reducible exact ih6 _ _ _ _ _ _ _ _ _)
   | (with_reducible exact nuncioref01_Put.mono _ _ _ _)
   | (with_reducible exact LeO.refl _)
   | (with_reducible exact LeO.none _)
   | (with_reducible refine LeO.ite ?_ ?_)
   | (with_reducible refine LeO.bind ?_ (fun _ => ?_))
   | exact ih0 _ _ _ _ _ _ _ _ _
   | exact ih1 _ _ _ _ _ _ _ _
   | exact ih2 _ _ _ _ _ _ _ _ _
   | exact ih3 _ _ _ _ _ _ _ _
   | exact ih4 _ _ _ _ _ _ _ _ _
   | exact ih5 _ _ _ _ _ _ _ _ _
   | exact ih6 _ _ _ _ _ _ _ _ _
   | exact nuncioref01_Put.mono _ _ _ _
   | exact LeO.none _
   | refine LeO.ite ?_ ?_
   | refine LeO.bind ?_ (fun _ => ?_)
set_option maxHeartbeats 8000000 in
set_option maxRecDepth 100000 in
theorem nuncioref05_plain.calls (k : Nat) (a0_0 : ByteArray) (a0_1 : Int) (a0_2 : Int) (a0_3 : Int) (A0_4 : Option Addr) (c0_4 : Nat) (l0_4 : List ByteArray) (A0_5 : Option Addr) (c0_5 : Nat) (l0_5 : List Int) (A0_6 : Option Addr) (c0_6 : Nat) (l0_6 : List ByteArray) (r1 : ByteArray) (r2 : Bool) (w : World) (hr0_4 : Kd.C Kd.string w A0_4 l0_4.length l0_4) (hc0_4 : l0_4.length ≤ c0_4) (hr0_5 : Kd.C (Kd.int .u32) w A0_5 l0_5.length l0_5) (hc0_5 : l0_5.length ≤ c0_5) (hr0_6 : Kd.C Kd.string w A0_6 l0_6.length l0_6) (hc0_6 : l0_6.length ≤ c0_6) (h : nuncioref05_plain.f k a0_0 a0_1 a0_2 a0_3 l0_4 l0_5 l0_6 = some (r1, r2)) :
  Calls Try.prog 29 #[.agg #[.string a0_0, .int .u16 a0_1, .int .u16 a0_2, .int .u32 a0_3, .slice A0_4 l0_4.length c0_4, .slice A0_5 l0_5.length c0_5, .slice A0_6 l0_6.length c0_6]] w fun e w' => e = .returned (.tuple #[.string r1, .bool r2]) ∧ Below w.heap.size w w' := by
 have hu27 := Try.underlying27
 have HR0_4 := Aside0.mk hr0_4
 have HC0_4 := Aside0.mk hc0_4
 clear hr0_4 hc0_4
 have HR0_5 := Aside0.mk hr0_5
 have HC0_5 := Aside0.mk hc0_5
 clear hr0_5 hc0_5
 have HR0_6 := Aside0.mk hr0_6
 have HC0_6 := Aside0.mk hc0_6
 clear hr0_6 hc0_6
 have HB := Aside0.mk (Below.refl w.heap.size w)
 have H : (nuncioref05_plain.l0 k 0 0 a0_0 a0_1 a0_2 a0_3 l0_4 l0_5 l0_6) = some (r1, r2) := h
 clear h
 have H' := Aside0.mk H
 clear H
 go_enter Try.func29, Try.ntmps29
 go_wp2_with (first | ((with_reducible refine gate_dst (N := 1) rfl ?_); refine box_event ?hg (N := 1) ?hd (cs := #[.string a0_0, .int .u16 a0_1, .int .u16 a0_2, .int .u32 a0_3, .slice A0_4 l0_4.length c0_4, .slice A0_5 l0_5.length c0_5, .slice A0_6 l0_6.length c0_6]) (t := 27) ?hr ?_; (case hd => rfl); (case hg => rfl); (case hr => first | (go_simp; done) | (go_simp; rfl)); intro gb244 hg w2 hbox hb; have n0_ := Aside0.mk (below_step (by repeat (first | (with_reducible first | exact HB.out | apply below_alloc | apply pw_below_drewN | apply below_drew1) | exact HB.out)) hb); have n1_ := Aside0.mk (hbox); have n2_ := Aside0.mk ((by rw [hg]; exact (below_size (by repeat (first | (with_reducible first | exact HB.out | apply below_alloc | apply pw_below_drewN | apply below_drew1) | exact HB.out))) : w.heap.size ≤ gb244)); have n3_ := Aside0.mk ((by rw [hg]; exact (below_size (by repeat (first | (with_reducible first | exact HB.out | apply below_alloc | apply pw_below_drewN | apply below_drew1) | exact HB.out))) : w.heap.size ≤ gb244)); clear HB; have HB := n0_; have BK244 := n1_; have GW244 := n2_; have GE244 := n3_; clear n0_ n1_ n2_ n3_; clear hb hbox hg))
 go_loopg [4, 5] k (fun kq v4 v5 w' => ∃ (x4_1 : Int) (x5_1 : Int), v4 = .int .i64 x4_1 ∧ v5 = .int .i64 x5_1 ∧ Aside0 (nuncioref05_plain.l0 kq x4_1 x5_1 a0_0 a0_1 a0_2 a0_3 l0_4 l0_5 l0_6 = some (r1, r2)) ∧ Aside0 (kq ≤ k) ∧ Aside0 (w'.heap[gb244]? = some (.cells #[.string a0_0, .int .u16 a0_1, .int .u16 a0_2, .int .u32 a0_3, (.slice A0_4 l0_4.length c0_4), (.slice A0_5 l0_5.length c0_5), (.slice A0_6 l0_6.length c0_6)] 27 (0, 0))) ∧ Aside0 (Below w.heap.size w w'))
 case atStart => exact ⟨(0), (0), (by first | rfl | (simp; done) | (simp [*]; done)), (by first | rfl | (simp; done) | (simp [*]; done)), H', ⟨Nat.le_refl _⟩, ⟨by (with_reducible repeat (first | refine blk_drewN ?_ _ | refine blk_drew ?_ | refine blk_alloc ?_ _)); exact BK244.out⟩, ⟨by repeat (first | (with_reducible first | exact HB.out | apply below_alloc | apply pw_below_drewN | apply below_drew1 | refine below_set ?_ GE244.out) | exact HB.out)⟩⟩
 case round =>
  clear H'
  try clear c2
  try clear p2
  obtain ⟨x4_1, x5_1, rfl, rfl, HA, HK1, BK244, HB⟩ := hrel
  cases gk with
  | zero => exact absurd HA.out (by simp [nuncioref05_plain.l0])
  | succ k1 =>
   have H := HA.out
   clear HA
   simp only [nuncioref05_plain.l0] at H
   by_cases c3 : x5_1 < (l0_6.length : Int)
   ·
    rw [if_pos c3] at H
    have c3b0 : decide (x5_1 < (l0_6.length : Int)) = true := decide_eq_true c3
    clear c3
    by_cases c4 : 0 ≤ x5_1
    ·
     rw [if_pos c4] at H
     have c4b0 : decide (0 ≤ x5_1) = true := decide_eq_true c4
     clear c4
     by_cases c5 : a0_1 = 16
     ·
      rw [if_pos c5] at H
      have c5b0 : (a0_1 == 16) = true := beq_iff_eq.mpr c5
      have c5b1 : (a0_1 != 16) = false := bne_eq_false_iff_eq.mpr c5
      clear c5
      by_cases c6 : (wrap64 ((wrap64 (x4_1 + ((rdOf ByteArray.empty l0_6 x5_1).size : Int))) + 1)) > 65535
      ·
       rw [if_pos c6] at H
       have c6b0 : decide (65535 < (wrap64 ((wrap64 (x4_1 + ((rdOf ByteArray.empty l0_6 x5_1).size : Int))) + 1))) = true := decide_eq_true c6
       clear c6
       simp only [Option.some.injEq, Prod.mk.injEq] at H
       obtain ⟨rfl, rfl⟩ := H
       have hcz7_0 : wr.cell? ⟨gb244, 0, none⟩ = some (.string a0_0) := (blk_cell BK244.out 0).trans rfl
       have hcz7_1 : wr.cell? ⟨gb244, 1, none⟩ = some (.int .u16 a0_1) := (blk_cell BK244.out 1).trans rfl
       have hcz7_2 : wr.cell? ⟨gb244, 2, none⟩ = some (.int .u16 a0_2) := (blk_cell BK244.out 2).trans rfl
       have hcz7_3 : wr.cell? ⟨gb244, 3, none⟩ = some (.int .u32 a0_3) := (blk_cell BK244.out 3).trans rfl
       have hcz7_4 : wr.cell? ⟨gb244, 4, none⟩ = some (.slice A0_4 l0_4.length c0_4) := (blk_cell BK244.out 4).trans rfl
       have hcz7_5 : wr.cell? ⟨gb244, 5, none⟩ = some (.slice A0_5 l0_5.length c0_5) := (blk_cell BK244.out 5).trans rfl
       have hcz7_6 : wr.cell? ⟨gb244, 6, none⟩ = some (.slice A0_6 l0_6.length c0_6) := (blk_cell BK244.out 6).trans rfl
       have hfz7_0 := blk_frozen BK244.out 0
       have hfz7_1 := blk_frozen BK244.out 1
       have hfz7_2 := blk_frozen BK244.out 2
       have hfz7_3 := blk_frozen BK244.out 3
       have hfz7_4 := blk_frozen BK244.out 4
       have hfz7_5 := blk_frozen BK244.out 5
       have hfz7_6 := blk_frozen BK244.out 6
       have p245 : 0 ≤ (x5_1 : Int) := of_decide_eq_true (by first | (with_reducible assumption) | assumption)
       have q245 : x5_1 < (l0_6.length : Int) := of_decide_eq_true (by first | (with_reducible assumption) | assumption)
       obtain ⟨ad245, e245, hx245_0⟩ := Kd.at_string HR0_6.out x5_1 p245 q245
       cases e245
       replace hx245_0 := (HB.out.cell (World.block_lt_of_cell? w _ hx245_0)).trans hx245_0
       replace p245 := eq_true p245
       replace q245 := eq_true q245
       go_wp2
       go_ret2
       exact ⟨by first | rfl | (simp [errW_none, errW_some] <;> rfl) | (simp [*, errW_none, errW_some] <;> rfl), by repeat (first | (with_reducible first | exact HB.out | apply below_alloc | apply pw_below_drewN | apply below_drew1 | refine below_set ?_ GE244.out) | exact HB.out)⟩
      ·
       rw [if_neg c6] at H
       have c6b0 : decide (65535 < (wrap64 ((wrap64 (x4_1 + ((rdOf ByteArray.empty l0_6 x5_1).size : Int))) + 1))) = false := decide_eq_false c6
       clear c6
       have H' := Aside0.mk H
       clear H
       have hcz8_0 : wr.cell? ⟨gb244, 0, none⟩ = some (.string a0_0) := (blk_cell BK244.out 0).trans rfl
       have hcz8_1 : wr.cell? ⟨gb244, 1, none⟩ = some (.int .u16 a0_1) := (blk_cell BK244.out 1).trans rfl
       have hcz8_2 : wr.cell? ⟨gb244, 2, none⟩ = some (.int .u16 a0_2) := (blk_cell BK244.out 2).trans rfl
       have hcz8_3 : wr.cell? ⟨gb244, 3, none⟩ = some (.int .u32 a0_3) := (blk_cell BK244.out 3).trans rfl
       have hcz8_4 : wr.cell? ⟨gb244, 4, none⟩ = some (.slice A0_4 l0_4.length c0_4) := (blk_cell BK244.out 4).trans rfl
       have hcz8_5 : wr.cell? ⟨gb244, 5, none⟩ = some (.slice A0_5 l0_5.length c0_5) := (blk_cell BK244.out 5).trans rfl
       have hcz8_6 : wr.cell? ⟨gb244, 6, none⟩ = some (.slice A0_6 l0_6.length c0_6) := (blk_cell BK244.out 6).trans rfl
       have hfz8_0 := blk_frozen BK244.out 0
       have hfz8_1 := blk_frozen BK244.out 1
       have hfz8_2 := blk_frozen BK244.out 2
       have hfz8_3 := blk_frozen BK244.out 3
       have hfz8_4 := blk_frozen BK244.out 4
       have hfz8_5 := blk_frozen BK244.out 5
       have hfz8_6 := blk_frozen BK244.out 6
       have p245 : 0 ≤ (x5_1 : Int) := of_decide_eq_true (by first | (with_reducible assumption) | assumption)
       have q245 : x5_1 < (l0_6.length : Int) := of_decide_eq_true (by first | (with_reducible assumption) | assumption)
       obtain ⟨ad245, e245, hx245_0⟩ := Kd.at_string HR0_6.out x5_1 p245 q245
       cases e245
       replace hx245_0 := (HB.out.cell (World.block_lt_of_cell? w _ hx245_0)).trans hx245_0
       replace p245 := eq_true p245
       replace q245 := eq_true q245
       go_wp2
       go_roundg k1
       case measure => have := HK1.out; omega
       case rel => exact ⟨(wrap64 ((wrap64 (x4_1 + ((rdOf ByteArray.empty l0_6 x5_1).size : Int))) + 1)), (wrap64 (x5_1 + 1)), (by first | rfl | (simp; done) | (simp [*]; done)), (by first | rfl | (simp; done) | (simp [*]; done)), H', ⟨by have := HK1.out; omega⟩, ⟨by (with_reducible repeat (first | refine blk_drewN ?_ _ | refine blk_drew ?_ | refine blk_alloc ?_ _)); exact BK244.out⟩, ⟨by repeat (first | (with_reducible first | exact HB.out | apply below_alloc | apply pw_below_drewN | apply below_drew1 | refine below_set ?_ GE244.out) | exact HB.out)⟩⟩
     ·
      rw [if_neg c5] at H
      have c5b0 : (a0_1 == 16) = false := beq_eq_false_iff_ne.mpr c5
      have c5b1 : (a0_1 != 16) = true := bne_iff_ne.mpr c5
      by_cases c9 : (wrap64 (x4_1 + ((rdOf ByteArray.empty l0_6 x5_1).size : Int))) > 65535
      ·
       rw [if_pos c9] at H
       have c9b0 : decide (65535 < (wrap64 (x4_1 + ((rdOf ByteArray.empty l0_6 x5_1).size : Int)))) = true := decide_eq_true c9
       clear c9
       simp only [Option.some.injEq, Prod.mk.injEq] at H
       obtain ⟨rfl, rfl⟩ := H
       have hcz10_0 : wr.cell? ⟨gb244, 0, none⟩ = some (.string a0_0) := (blk_cell BK244.out 0).trans rfl
       have hcz10_1 : wr.cell? ⟨gb244, 1, none⟩ = some (.int .u16 a0_1) := (blk_cell BK244.out 1).trans rfl
       have hcz10_2 : wr.cell? ⟨gb244, 2, none⟩ = some (.int .u16 a0_2) := (blk_cell BK244.out 2).trans rfl
       have hcz10_3 : wr.cell? ⟨gb244, 3, none⟩ = some (.int .u32 a0_3) := (blk_cell BK244.out 3).trans rfl
       have hcz10_4 : wr.cell? ⟨gb244, 4, none⟩ = some (.slice A0_4 l0_4.length c0_4) := (blk_cell BK244.out 4).trans rfl
       have hcz10_5 : wr.cell? ⟨gb244, 5, none⟩ = some (.slice A0_5 l0_5.length c0_5) := (blk_cell BK244.out 5).trans rfl
       have hcz10_6 : wr.cell? ⟨gb244, 6, none⟩ = some (.slice A0_6 l0_6.length c0_6) := (blk_cell BK244.out 6).trans rfl
       have hfz10_0 := blk_frozen BK244.out 0
       have hfz10_1 := blk_frozen BK244.out 1
       have hfz10_2 := blk_frozen BK244.out 2
       have hfz10_3 := blk_frozen BK244.out 3
       have hfz10_4 := blk_frozen BK244.out 4
       have hfz10_5 := blk_frozen BK244.out 5
       have hfz10_6 := blk_frozen BK244.out 6
       have p245 : 0 ≤ (x5_1 : Int) := of_decide_eq_true (by first | (with_reducible assumption) | assumption)
       have q245 : x5_1 < (l0_6.length : Int) := of_decide_eq_true (by first | (with_reducible assumption) | assumption)
       obtain ⟨ad245, e245, hx245_0⟩ := Kd.at_string HR0_6.out x5_1 p245 q245
       cases e245
       replace hx245_0 := (HB.out.cell (World.block_lt_of_cell? w _ hx245_0)).trans hx245_0
       replace p245 := eq_true p245
       replace q245 := eq_true q245
       go_wp2
       go_ret2
       exact ⟨by first | rfl | (simp [errW_none, errW_some] <;> rfl) | (simp [*, errW_none, errW_some] <;> rfl), by repeat (first | (with_reducible first | exact HB.out | apply below_alloc | apply pw_below_drewN | apply below_drew1 | refine below_set ?_ GE244.out) | exact HB.out)⟩
      ·
       rw [if_neg c9] at H
       have c9b0 : decide (65535 < (wrap64 (x4_1 + ((rdOf ByteArray.empty l0_6 x5_1).size : Int)))) = false := decide_eq_false c9
       clear c9
       have H' := Aside0.mk H
       clear H
       have hcz11_0 : wr.cell? ⟨gb244, 0, none⟩ = some (.string a0_0) := (blk_cell BK244.out 0).trans rfl
       have hcz11_1 : wr.cell? ⟨gb244, 1, none⟩ = some (.int .u16 a0_1) := (blk_cell BK244.out 1).trans rfl
       have hcz11_2 : wr.cell? ⟨gb244, 2, none⟩ = some (.int .u16 a0_2) := (blk_cell BK244.out 2).trans rfl
       have hcz11_3 : wr.cell? ⟨gb244, 3, none⟩ = some (.int .u32 a0_3) := (blk_cell BK244.out 3).trans rfl
       have hcz11_4 : wr.cell? ⟨gb244, 4, none⟩ = some (.slice A0_4 l0_4.length c0_4) := (blk_cell BK244.out 4).trans rfl
       have hcz11_5 : wr.cell? ⟨gb244, 5, none⟩ = some (.slice A0_5 l0_5.length c0_5) := (blk_cell BK244.out 5).trans rfl
       have hcz11_6 : wr.cell? ⟨gb244, 6, none⟩ = some (.slice A0_6 l0_6.length c0_6) := (blk_cell BK244.out 6).trans rfl
       have hfz11_0 := blk_frozen BK244.out 0
       have hfz11_1 := blk_frozen BK244.out 1
       have hfz11_2 := blk_frozen BK244.out 2
       have hfz11_3 := blk_frozen BK244.out 3
       have hfz11_4 := blk_frozen BK244.out 4
       have hfz11_5 := blk_frozen BK244.out 5
       have hfz11_6 := blk_frozen BK244.out 6
       have p245 : 0 ≤ (x5_1 : Int) := of_decide_eq_true (by first | (with_reducible assumption) | assumption)
       have q245 : x5_1 < (l0_6.length : Int) := of_decide_eq_true (by first | (with_reducible assumption) | assumption)
       obtain ⟨ad245, e245, hx245_0⟩ := Kd.at_string HR0_6.out x5_1 p245 q245
       cases e245
       replace hx245_0 := (HB.out.cell (World.block_lt_of_cell? w _ hx245_0)).trans hx245_0
       replace p245 := eq_true p245
       replace q245 := eq_true q245
       go_wp2
       go_roundg k1
       case measure => have := HK1.out; omega
       case rel => exact ⟨(wrap64 (x4_1 + ((rdOf ByteArray.empty l0_6 x5_1).size : Int))), (wrap64 (x5_1 + 1)), (by first | rfl | (simp; done) | (simp [*]; done)), (by first | rfl | (simp; done) | (simp [*]; done)), H', ⟨by have := HK1.out; omega⟩, ⟨by (with_reducible repeat (first | refine blk_drewN ?_ _ | refine blk_drew ?_ | refine blk_alloc ?_ _)); exact BK244.out⟩, ⟨by repeat (first | (with_reducible first | exact HB.out | apply below_alloc | apply pw_below_drewN | apply below_drew1 | refine below_set ?_ GE244.out) | exact HB.out)⟩⟩
    ·
     rw [if_neg c4] at H
     exact absurd H (by simp)
   ·
    rw [if_neg c3] at H
    have c3b0 : decide (x5_1 < (l0_6.length : Int)) = false := decide_eq_false c3
    clear c3
    have HC12 := Aside0.mk H
    clear H
    have hcz13_0 : wr.cell? ⟨gb244, 0, none⟩ = some (.string a0_0) := (blk_cell BK244.out 0).trans rfl
    have hcz13_1 : wr.cell? ⟨gb244, 1, none⟩ = some (.int .u16 a0_1) := (blk_cell BK244.out 1).trans rfl
    have hcz13_2 : wr.cell? ⟨gb244, 2, none⟩ = some (.int .u16 a0_2) := (blk_cell BK244.out 2).trans rfl
    have hcz13_3 : wr.cell? ⟨gb244, 3, none⟩ = some (.int .u32 a0_3) := (blk_cell BK244.out 3).trans rfl
    have hcz13_4 : wr.cell? ⟨gb244, 4, none⟩ = some (.slice A0_4 l0_4.length c0_4) := (blk_cell BK244.out 4).trans rfl
    have hcz13_5 : wr.cell? ⟨gb244, 5, none⟩ = some (.slice A0_5 l0_5.length c0_5) := (blk_cell BK244.out 5).trans rfl
    have hcz13_6 : wr.cell? ⟨gb244, 6, none⟩ = some (.slice A0_6 l0_6.length c0_6) := (blk_cell BK244.out 6).trans rfl
    have hfz13_0 := blk_frozen BK244.out 0
    have hfz13_1 := blk_frozen BK244.out 1
    have hfz13_2 := blk_frozen BK244.out 2
    have hfz13_3 := blk_frozen BK244.out 3
    have hfz13_4 := blk_frozen BK244.out 4
    have hfz13_5 := blk_frozen BK244.out 5
    have hfz13_6 := blk_frozen BK244.out 6
    go_upto_block 2 with (fail)
    go_cut [6] (fun v6 wc => ∃ (kq : Nat) (x6_11 : ByteArray), v6 = .string x6_11 ∧ Aside0 (nuncioref05_plain.j2 kq x6_11 a0_0 a0_1 a0_2 a0_3 l0_4 l0_5 l0_6 = some (r1, r2)) ∧ Aside0 (kq ≤ k1) ∧ Aside0 (wc.heap[gb244]? = some (.cells #[.string a0_0, .int .u16 a0_1, .int .u16 a0_2, .int .u32 a0_3, (.slice A0_4 l0_4.length c0_4), (.slice A0_5 l0_5.length c0_5), (.slice A0_6 l0_6.length c0_6)] 27 (0, 0))) ∧ Aside0 (Below w.heap.size w wc))
    case first =>
     have H := HC12.out
     clear HC12
     have H' := Aside0.mk H
     clear H
     go_wp2
     go_loopg [6, 7] k1 (fun kq v6 v7 w' => ∃ (x6_2 : ByteArray) (x7_2 : Int), v6 = .string x6_2 ∧ v7 = .int .i64 x7_2 ∧ Aside0 (nuncioref05_plain.l1 kq x6_2 x7_2 a0_0 a0_1 a0_2 a0_3 l0_4 l0_5 l0_6 = some (r1, r2)) ∧ Aside0 (kq ≤ k1) ∧ Aside0 (w'.heap[gb244]? = some (.cells #[.string a0_0, .int .u16 a0_1, .int .u16 a0_2, .int .u32 a0_3, (.slice A0_4 l0_4.length c0_4), (.slice A0_5 l0_5.length c0_5), (.slice A0_6 l0_6.length c0_6)] 27 (0, 0))) ∧ Aside0 (Below w.heap.size w w'))
     case atStart => exact ⟨((⟨#[]⟩ : ByteArray)), (0), (by first | rfl | (simp; done) | (simp [*]; done)), (by first | rfl | (simp; done) | (simp [*]; done)), H', ⟨Nat.le_refl _⟩, ⟨by (with_reducible repeat (first | refine blk_drewN ?_ _ | refine blk_drew ?_ | refine blk_alloc ?_ _)); exact BK244.out⟩, ⟨by repeat (first | (with_reducible first | exact HB.out | apply below_alloc | apply pw_below_drewN | apply below_drew1 | refine below_set ?_ GE244.out) | exact HB.out)⟩⟩
     case round =>
      clear H'
      try clear c2
      try clear p2
      try clear q2
      try clear hx2
      try clear c3
      try clear c3b0
      try clear c4
      try clear c4b0
      try clear c5
      try clear c5b0
      try clear c5b1
      try clear c6
      try clear c6b0
      try clear p6
      try clear c9
      try clear c9b0
      try clear hcz10_0
      try clear hcz10_1
      try clear hcz10_2
      try clear hcz10_3
      try clear hcz10_4
      try clear hcz10_5
      try clear hcz10_6
      try clear hcz11_0
      try clear hcz11_1
      try clear hcz11_2
      try clear hcz11_3
      try clear hcz11_4
      try clear hcz11_5
      try clear hcz11_6
      try clear hcz13_0
      try clear hcz13_1
      try clear hcz13_2
      try clear hcz13_3
      try clear hcz13_4
      try clear hcz13_5
      try clear hcz13_6
      try clear hcz7_0
      try clear hcz7_1
      try clear hcz7_2
      try clear hcz7_3
      try clear hcz7_4
      try clear hcz7_5
      try clear hcz7_6
      try clear hcz8_0
      try clear hcz8_1
      try clear hcz8_2
      try clear hcz8_3
      try clear hcz8_4
      try clear hcz8_5
      try clear hcz8_6
      try clear hfz10_0
      try clear hfz10_1
      try clear hfz10_2
      try clear hfz10_3
      try clear hfz10_4
      try clear hfz10_5
      try clear hfz10_6
      try clear hfz11_0
      try clear hfz11_1
      try clear hfz11_2
      try clear hfz11_3
      try clear hfz11_4
      try clear hfz11_5
      try clear hfz11_6
      try clear hfz13_0
      try clear hfz13_1
      try clear hfz13_2
      try clear hfz13_3
      try clear hfz13_4
      try clear hfz13_5
      try clear hfz13_6
      try clear hfz7_0
      try clear hfz7_1
      try clear hfz7_2
      try clear hfz7_3
      try clear hfz7_4
      try clear hfz7_5
      try clear hfz7_6
      try clear hfz8_0
      try clear hfz8_1
      try clear hfz8_2
      try clear hfz8_3
      try clear hfz8_4
      try clear hfz8_5
      try clear hfz8_6
      try clear hx245_0
      try clear p2
      try clear p245
      try clear q245
      obtain ⟨x6_2, x7_2, rfl, rfl, HA, HK2, BK244, HB⟩ := hrel
      cases gk with
      | zero => exact absurd HA.out (by simp [nuncioref05_plain.l1])
      | succ k2 =>
       have H := HA.out
       clear HA
       simp only [nuncioref05_plain.l1] at H
       by_cases c14 : x7_2 < (l0_5.length : Int)
       ·
        rw [if_pos c14] at H
        have c14b0 : decide (x7_2 < (l0_5.length : Int)) = true := decide_eq_true c14
        clear c14
        (first | rw [c14b0] | rw [c14b1] | (simp only [i64_w, i32_w]; rw [c14b0]) | skip)
        by_cases c15 : a0_1 = 6
        ·
         rw [if_pos c15] at H
         have c15b0 : (a0_1 == 6) = true := beq_iff_eq.mpr c15
         have c15b1 : (a0_1 != 6) = false := bne_eq_false_iff_eq.mpr c15
         clear c15
         have H' := Aside0.mk H
         clear H
         have hcz16_0 : wr.cell? ⟨gb244, 0, none⟩ = some (.string a0_0) := (blk_cell BK244.out 0).trans rfl
         have hcz16_1 : wr.cell? ⟨gb244, 1, none⟩ = some (.int .u16 a0_1) := (blk_cell BK244.out 1).trans rfl
         have hcz16_2 : wr.cell? ⟨gb244, 2, none⟩ = some (.int .u16 a0_2) := (blk_cell BK244.out 2).trans rfl
         have hcz16_3 : wr.cell? ⟨gb244, 3, none⟩ = some (.int .u32 a0_3) := (blk_cell BK244.out 3).trans rfl
         have hcz16_4 : wr.cell? ⟨gb244, 4, none⟩ = some (.slice A0_4 l0_4.length c0_4) := (blk_cell BK244.out 4).trans rfl
         have hcz16_5 : wr.cell? ⟨gb244, 5, none⟩ = some (.slice A0_5 l0_5.length c0_5) := (blk_cell BK244.out 5).trans rfl
         have hcz16_6 : wr.cell? ⟨gb244, 6, none⟩ = some (.slice A0_6 l0_6.length c0_6) := (blk_cell BK244.out 6).trans rfl
         have hfz16_0 := blk_frozen BK244.out 0
         have hfz16_1 := blk_frozen BK244.out 1
         have hfz16_2 := blk_frozen BK244.out 2
         have hfz16_3 := blk_frozen BK244.out 3
         have hfz16_4 := blk_frozen BK244.out 4
         have hfz16_5 := blk_frozen BK244.out 5
         have hfz16_6 := blk_frozen BK244.out 6
         go_wp2
         go_meet
         case rel => exact ⟨_, (x6_2), (by first | rfl | (simp; done) | (simp [*]; done)), H', ⟨by have := HK1.out; have := HK2.out; first | omega | exact Nat.le_refl _⟩, ⟨by (with_reducible repeat (first | refine blk_drewN ?_ _ | refine blk_drew ?_ | refine blk_alloc ?_ _)); exact BK244.out⟩, ⟨by repeat (first | (with_reducible first | exact HB.out | apply below_alloc | apply pw_below_drewN | apply below_drew1 | refine below_set ?_ GE244.out) | exact HB.out)⟩⟩
        ·
         rw [if_neg c15] at H
         have c15b0 : (a0_1 == 6) = false := beq_eq_false_iff_ne.mpr c15
         have c15b1 : (a0_1 != 6) = true := bne_iff_ne.mpr c15
         by_cases c17 : 0 ≤ x7_2
         ·
          rw [if_pos c17] at H
          have c17b0 : decide (0 ≤ x7_2) = true := decide_eq_true c17
          clear c17
          replace H := Option.bind_eq_some_iff.mp H
          obtain ⟨t247, A180, H⟩ := H
          replace H : (nuncioref05_plain.l1 k2 t247 (wrap64 (x7_2 + 1)) a0_0 a0_1 a0_2 a0_3 l0_4 l0_5 l0_6) = some (r1, r2) := H
          have A18 := Aside0.mk A180
          clear A180
          have H' := Aside0.mk H
          clear H
          have hcz19_0 : wr.cell? ⟨gb244, 0, none⟩ = some (.string a0_0) := (blk_cell BK244.out 0).trans rfl
          have hcz19_1 : wr.cell? ⟨gb244, 1, none⟩ = some (.int .u16 a0_1) := (blk_cell BK244.out 1).trans rfl
          have hcz19_2 : wr.cell? ⟨gb244, 2, none⟩ = some (.int .u16 a0_2) := (blk_cell BK244.out 2).trans rfl
          have hcz19_3 : wr.cell? ⟨gb244, 3, none⟩ = some (.int .u32 a0_3) := (blk_cell BK244.out 3).trans rfl
          have hcz19_4 : wr.cell? ⟨gb244, 4, none⟩ = some (.slice A0_4 l0_4.length c0_4) := (blk_cell BK244.out 4).trans rfl
          have hcz19_5 : wr.cell? ⟨gb244, 5, none⟩ = some (.slice A0_5 l0_5.length c0_5) := (blk_cell BK244.out 5).trans rfl
          have hcz19_6 : wr.cell? ⟨gb244, 6, none⟩ = some (.slice A0_6 l0_6.length c0_6) := (blk_cell BK244.out 6).trans rfl
          have hfz19_0 := blk_frozen BK244.out 0
          have hfz19_1 := blk_frozen BK244.out 1
          have hfz19_2 := blk_frozen BK244.out 2
          have hfz19_3 := blk_frozen BK244.out 3
          have hfz19_4 := blk_frozen BK244.out 4
          have hfz19_5 := blk_frozen BK244.out 5
          have hfz19_6 := blk_frozen BK244.out 6
          have p246 : 0 ≤ (x7_2 : Int) := of_decide_eq_true (by first | (with_reducible assumption) | assumption)
          have q246 : x7_2 < (l0_5.length : Int) := of_decide_eq_true (by first | (with_reducible assumption) | assumption)
          obtain ⟨ad246, e246, hx246_0⟩ := Kd.at_int HR0_5.out x7_2 p246 q246
          cases e246
          replace hx246_0 := (HB.out.cell (World.block_lt_of_cell? w _ hx246_0)).trans hx246_0
          replace p246 := eq_true p246
          replace q246 := eq_true q246
          go_wp2_with (first | ((with_reducible refine gate_callee (f := 40) rfl ?_); refine goesL_ (some 52) rfl rfl Try.func40 (by kernel_rfl) rfl #[.string x6_2, .int .u64 (IntKind.u64.wrap (rd l0_5 x7_2)), .int .i64 2] rfl (by (try simp only [List.map_toArray, List.map_cons, List.map_nil]); first | done | rfl | (simp only [List.length_drop, List.length_take]; rfl)) ?_; (with_reducible refine (nuncioref01_Put.calls k2 x6_2 (IntKind.u64.wrap (rd l0_5 x7_2)) 2 t247 _ A18.out).mono ?_); rintro e w20 ⟨rfl, hb⟩; refine ⟨_, rfl, ?_⟩; have n0_ := Aside0.mk (blk_below (g := gb244) (o := .cells #[.string a0_0, .int .u16 a0_1, .int .u16 a0_2, .int .u32 a0_3, .slice A0_4 l0_4.length c0_4, .slice (some ad246) l0_5.length c0_5, .slice A0_6 l0_6.length c0_6] 27 (0, 0)) (by (with_reducible repeat (first | refine blk_drewN ?_ _ | refine blk_drew ?_ | refine blk_alloc ?_ _)); exact BK244.out) hb); have n1_ := Aside0.mk (below_step (by repeat (first | (with_reducible first | exact HB.out | apply below_alloc | apply pw_below_drewN | apply below_drew1 | refine below_set ?_ GE244.out) | exact HB.out)) hb); clear BK244; clear HB; have BK244 := n0_; have HB := n1_; clear n0_ n1_; (try clear hb); (try clear hb2); (try clear hk); (try clear hi)))
          go_roundg k2
          case measure => have := HK1.out; have := HK2.out; omega
          case rel => exact ⟨(t247), (wrap64 (x7_2 + 1)), (by first | rfl | (simp; done) | (simp [*]; done)), (by first | rfl | (simp; done) | (simp [*]; done)), H', ⟨by have := HK1.out; have := HK2.out; omega⟩, ⟨by (with_reducible repeat (first | refine blk_drewN ?_ _ | refine blk_drew ?_ | refine blk_alloc ?_ _)); exact BK244.out⟩, ⟨by repeat (first | (with_reducible first | exact HB.out | apply below_alloc | apply pw_below_drewN | apply below_drew1 | refine below_set ?_ GE244.out) | exact HB.out)⟩⟩
         ·
          rw [if_neg c17] at H
          exact absurd H (by simp)
       ·
        rw [if_neg c14] at H
        have c14b0 : decide (x7_2 < (l0_5.length : Int)) = false := decide_eq_false c14
        clear c14
        (first | rw [c14b0] | rw [c14b1] | (simp only [i64_w, i32_w]; rw [c14b0]) | skip)
        have H' := Aside0.mk H
        clear H
        have hcz21_0 : wr.cell? ⟨gb244, 0, none⟩ = some (.string a0_0) := (blk_cell BK244.out 0).trans rfl
        have hcz21_1 : wr.cell? ⟨gb244, 1, none⟩ = some (.int .u16 a0_1) := (blk_cell BK244.out 1).trans rfl
        have hcz21_2 : wr.cell? ⟨gb244, 2, none⟩ = some (.int .u16 a0_2) := (blk_cell BK244.out 2).trans rfl
        have hcz21_3 : wr.cell? ⟨gb244, 3, none⟩ = some (.int .u32 a0_3) := (blk_cell BK244.out 3).trans rfl
        have hcz21_4 : wr.cell? ⟨gb244, 4, none⟩ = some (.slice A0_4 l0_4.length c0_4) := (blk_cell BK244.out 4).trans rfl
        have hcz21_5 : wr.cell? ⟨gb244, 5, none⟩ = some (.slice A0_5 l0_5.length c0_5) := (blk_cell BK244.out 5).trans rfl
        have hcz21_6 : wr.cell? ⟨gb244, 6, none⟩ = some (.slice A0_6 l0_6.length c0_6) := (blk_cell BK244.out 6).trans rfl
        have hfz21_0 := blk_frozen BK244.out 0
        have hfz21_1 := blk_frozen BK244.out 1
        have hfz21_2 := blk_frozen BK244.out 2
        have hfz21_3 := blk_frozen BK244.out 3
        have hfz21_4 := blk_frozen BK244.out 4
        have hfz21_5 := blk_frozen BK244.out 5
        have hfz21_6 := blk_frozen BK244.out 6
        go_wp2
        go_meet
        case rel => exact ⟨_, (x6_2), (by first | rfl | (simp; done) | (simp [*]; done)), H', ⟨by have := HK1.out; have := HK2.out; first | omega | exact Nat.le_refl _⟩, ⟨by (with_reducible repeat (first | refine blk_drewN ?_ _ | refine blk_drew ?_ | refine blk_alloc ?_ _)); exact BK244.out⟩, ⟨by repeat (first | (with_reducible first | exact HB.out | apply below_alloc | apply pw_below_drewN | apply below_drew1 | refine below_set ?_ GE244.out) | exact HB.out)⟩⟩
    case rest =>
     clear HC12
     try clear c1
     try clear c2
     try clear p2
     try clear q2
     try clear hx2
     try clear c3
     try clear c3b0
     try clear c4
     try clear c4b0
     try clear c5
     try clear c5b0
     try clear c5b1
     try clear c6
     try clear c6b0
     try clear p6
     try clear c9
     try clear c9b0
     try clear c14
     try clear c14b0
     try clear c14b1
     try clear c15
     try clear c15b0
     try clear c15b1
     try clear c17
     try clear c17b0
     try clear hcz10_0
     try clear hcz10_1
     try clear hcz10_2
     try clear hcz10_3
     try clear hcz10_4
     try clear hcz10_5
     try clear hcz10_6
     try clear hcz11_0
     try clear hcz11_1
     try clear hcz11_2
     try clear hcz11_3
     try clear hcz11_4
     try clear hcz11_5
     try clear hcz11_6
     try clear hcz13_0
     try clear hcz13_1
     try clear hcz13_2
     try clear hcz13_3
     try clear hcz13_4
     try clear hcz13_5
     try clear hcz13_6
     try clear hcz16_0
     try clear hcz16_1
     try clear hcz16_2
     try clear hcz16_3
     try clear hcz16_4
     try clear hcz16_5
     try clear hcz16_6
     try clear hcz19_0
     try clear hcz19_1
     try clear hcz19_2
     try clear hcz19_3
     try clear hcz19_4
     try clear hcz19_5
     try clear hcz19_6
     try clear hcz21_0
     try clear hcz21_1
     try clear hcz21_2
     try clear hcz21_3
     try clear hcz21_4
     try clear hcz21_5
     try clear hcz21_6
     try clear hcz7_0
     try clear hcz7_1
     try clear hcz7_2
     try clear hcz7_3
     try clear hcz7_4
     try clear hcz7_5
     try clear hcz7_6
     try clear hcz8_0
     try clear hcz8_1
     try clear hcz8_2
     try clear hcz8_3
     try clear hcz8_4
     try clear hcz8_5
     try clear hcz8_6
     try clear hfz10_0
     try clear hfz10_1
     try clear hfz10_2
     try clear hfz10_3
     try clear hfz10_4
     try clear hfz10_5
     try clear hfz10_6
     try clear hfz11_0
     try clear hfz11_1
     try clear hfz11_2
     try clear hfz11_3
     try clear hfz11_4
     try clear hfz11_5
     try clear hfz11_6
     try clear hfz13_0
     try clear hfz13_1
     try clear hfz13_2
     try clear hfz13_3
     try clear hfz13_4
     try clear hfz13_5
     try clear hfz13_6
     try clear hfz16_0
     try clear hfz16_1
     try clear hfz16_2
     try clear hfz16_3
     try clear hfz16_4
     try clear hfz16_5
     try clear hfz16_6
     try clear hfz19_0
     try clear hfz19_1
     try clear hfz19_2
     try clear hfz19_3
     try clear hfz19_4
     try clear hfz19_5
     try clear hfz19_6
     try clear hfz21_0
     try clear hfz21_1
     try clear hfz21_2
     try clear hfz21_3
     try clear hfz21_4
     try clear hfz21_5
     try clear hfz21_6
     try clear hfz7_0
     try clear hfz7_1
     try clear hfz7_2
     try clear hfz7_3
     try clear hfz7_4
     try clear hfz7_5
     try clear hfz7_6
     try clear hfz8_0
     try clear hfz8_1
     try clear hfz8_2
     try clear hfz8_3
     try clear hfz8_4
     try clear hfz8_5
     try clear hfz8_6
     try clear hx245_0
     try clear hx246_0
     try clear p2
     try clear p245
     try clear p246
     try clear p6
     try clear q2
     try clear q245
     try clear q246
     obtain ⟨kq, x6_11, rfl, HA, HJ11, BK244, HB⟩ := hcut
     cases kq with
     | zero => exact absurd HA.out (by simp [nuncioref05_plain.j2])
     | succ kj11 =>
      have H := HA.out
      clear HA
      simp only [nuncioref05_plain.j2] at H
      have H' := Aside0.mk H
      clear H
      go_wp2
      go_loopg [6, 8] kj11 (fun kq v6 v8 w' => ∃ (x6_3 : ByteArray) (x8_3 : Int), v6 = .string x6_3 ∧ v8 = .int .i64 x8_3 ∧ Aside0 (nuncioref05_plain.l2 kq x6_3 x8_3 a0_0 a0_1 a0_2 a0_3 l0_4 l0_5 l0_6 = some (r1, r2)) ∧ Aside0 (kq ≤ kj11) ∧ Aside0 (w'.heap[gb244]? = some (.cells #[.string a0_0, .int .u16 a0_1, .int .u16 a0_2, .int .u32 a0_3, (.slice A0_4 l0_4.length c0_4), (.slice A0_5 l0_5.length c0_5), (.slice A0_6 l0_6.length c0_6)] 27 (0, 0))) ∧ Aside0 (Below w.heap.size w w'))
      case atStart => exact ⟨(x6_11), (0), (by first | rfl | (simp; done) | (simp [*]; done)), (by first | rfl | (simp; done) | (simp [*]; done)), H', ⟨Nat.le_refl _⟩, ⟨by (with_reducible repeat (first | refine blk_drewN ?_ _ | refine blk_drew ?_ | refine blk_alloc ?_ _)); exact BK244.out⟩, ⟨by repeat (first | (with_reducible first | exact HB.out | apply below_alloc | apply pw_below_drewN | apply below_drew1 | refine below_set ?_ GE244.out) | exact HB.out)⟩⟩
      case round =>
       clear H'
       try clear c1
       try clear c2
       try clear p2
       try clear q2
       try clear hx2
       try clear c3
       try clear c3b0
       try clear c4
       try clear c4b0
       try clear c5
       try clear c5b0
       try clear c5b1
       try clear c6
       try clear c6b0
       try clear p6
       try clear c9
       try clear c9b0
       try clear c14
       try clear c14b0
       try clear c14b1
       try clear c15
       try clear c15b0
       try clear c15b1
       try clear c17
       try clear c17b0
       try clear hcz10_0
       try clear hcz10_1
       try clear hcz10_2
       try clear hcz10_3
       try clear hcz10_4
       try clear hcz10_5
       try clear hcz10_6
       try clear hcz11_0
       try clear hcz11_1
       try clear hcz11_2
       try clear hcz11_3
       try clear hcz11_4
       try clear hcz11_5
       try clear hcz11_6
       try clear hcz13_0
       try clear hcz13_1
       try clear hcz13_2
       try clear hcz13_3
       try clear hcz13_4
       try clear hcz13_5
       try clear hcz13_6
       try clear hcz16_0
       try clear hcz16_1
       try clear hcz16_2
       try clear hcz16_3
       try clear hcz16_4
       try clear hcz16_5
       try clear hcz16_6
       try clear hcz19_0
       try clear hcz19_1
       try clear hcz19_2
       try clear hcz19_3
       try clear hcz19_4
       try clear hcz19_5
       try clear hcz19_6
       try clear hcz21_0
       try clear hcz21_1
       try clear hcz21_2
       try clear hcz21_3
       try clear hcz21_4
       try clear hcz21_5
       try clear hcz21_6
       try clear hcz7_0
       try clear hcz7_1
       try clear hcz7_2
       try clear hcz7_3
       try clear hcz7_4
       try clear hcz7_5
       try clear hcz7_6
       try clear hcz8_0
       try clear hcz8_1
       try clear hcz8_2
       try clear hcz8_3
       try clear hcz8_4
       try clear hcz8_5
       try clear hcz8_6
       try clear hfz10_0
       try clear hfz10_1
       try clear hfz10_2
       try clear hfz10_3
       try clear hfz10_4
       try clear hfz10_5
       try clear hfz10_6
       try clear hfz11_0
       try clear hfz11_1
       try clear hfz11_2
       try clear hfz11_3
       try clear hfz11_4
       try clear hfz11_5
       try clear hfz11_6
       try clear hfz13_0
       try clear hfz13_1
       try clear hfz13_2
       try clear hfz13_3
       try clear hfz13_4
       try clear hfz13_5
       try clear hfz13_6
       try clear hfz16_0
       try clear hfz16_1
       try clear hfz16_2
       try clear hfz16_3
       try clear hfz16_4
       try clear hfz16_5
       try clear hfz16_6
       try clear hfz19_0
       try clear hfz19_1
       try clear hfz19_2
       try clear hfz19_3
       try clear hfz19_4
       try clear hfz19_5
       try clear hfz19_6
       try clear hfz21_0
       try clear hfz21_1
       try clear hfz21_2
       try clear hfz21_3
       try clear hfz21_4
       try clear hfz21_5
       try clear hfz21_6
       try clear hfz7_0
       try clear hfz7_1
       try clear hfz7_2
       try clear hfz7_3
       try clear hfz7_4
       try clear hfz7_5
       try clear hfz7_6
       try clear hfz8_0
       try clear hfz8_1
       try clear hfz8_2
       try clear hfz8_3
       try clear hfz8_4
       try clear hfz8_5
       try clear hfz8_6
       try clear hx245_0
       try clear hx246_0
       try clear p2
       try clear p245
       try clear p246
       try clear p6
       try clear q2
       try clear q245
       try clear q246
       obtain ⟨x6_3, x8_3, rfl, rfl, HA, HK3, BK244, HB⟩ := hrel
       cases gk with
       | zero => exact absurd HA.out (by simp [nuncioref05_plain.l2])
       | succ k3 =>
        have H := HA.out
        clear HA
        simp only [nuncioref05_plain.l2] at H
        by_cases c22 : x8_3 < (l0_4.length : Int)
        ·
         rw [if_pos c22] at H
         have c22b0 : decide (x8_3 < (l0_4.length : Int)) = true := decide_eq_true c22
         clear c22
         by_cases c23 : 0 ≤ x8_3
         ·
          rw [if_pos c23] at H
          have c23b0 : decide (0 ≤ x8_3) = true := decide_eq_true c23
          clear c23
          by_cases c24 : x6_3.size + (rdOf ByteArray.empty l0_4 x8_3).size ≤ 9223372036854775807
          ·
           rw [if_pos c24] at H
           have c24b0 := eq_true c24
           have c24b1 : decide (x6_3.size + (rdOf ByteArray.empty l0_4 x8_3).size ≤ 9223372036854775807) = true := decide_eq_true c24
           try have c24b2 : (9223372036854775807 < x6_3.size + (rdOf ByteArray.empty l0_4 x8_3).size) = False := eq_false (Nat.not_lt.2 c24)
           have H' := Aside0.mk H
           clear H
           have hcz25_0 : wr.cell? ⟨gb244, 0, none⟩ = some (.string a0_0) := (blk_cell BK244.out 0).trans rfl
           have hcz25_1 : wr.cell? ⟨gb244, 1, none⟩ = some (.int .u16 a0_1) := (blk_cell BK244.out 1).trans rfl
           have hcz25_2 : wr.cell? ⟨gb244, 2, none⟩ = some (.int .u16 a0_2) := (blk_cell BK244.out 2).trans rfl
           have hcz25_3 : wr.cell? ⟨gb244, 3, none⟩ = some (.int .u32 a0_3) := (blk_cell BK244.out 3).trans rfl
           have hcz25_4 : wr.cell? ⟨gb244, 4, none⟩ = some (.slice A0_4 l0_4.length c0_4) := (blk_cell BK244.out 4).trans rfl
           have hcz25_5 : wr.cell? ⟨gb244, 5, none⟩ = some (.slice A0_5 l0_5.length c0_5) := (blk_cell BK244.out 5).trans rfl
           have hcz25_6 : wr.cell? ⟨gb244, 6, none⟩ = some (.slice A0_6 l0_6.length c0_6) := (blk_cell BK244.out 6).trans rfl
           have hfz25_0 := blk_frozen BK244.out 0
           have hfz25_1 := blk_frozen BK244.out 1
           have hfz25_2 := blk_frozen BK244.out 2
           have hfz25_3 := blk_frozen BK244.out 3
           have hfz25_4 := blk_frozen BK244.out 4
           have hfz25_5 := blk_frozen BK244.out 5
           have hfz25_6 := blk_frozen BK244.out 6
           have p248 : 0 ≤ (x8_3 : Int) := of_decide_eq_true (by first | (with_reducible assumption) | assumption)
           have q248 : x8_3 < (l0_4.length : Int) := of_decide_eq_true (by first | (with_reducible assumption) | assumption)
           obtain ⟨ad248, e248, hx248_0⟩ := Kd.at_string HR0_4.out x8_3 p248 q248
           cases e248
           replace hx248_0 := (HB.out.cell (World.block_lt_of_cell? w _ hx248_0)).trans hx248_0
           replace p248 := eq_true p248
           replace q248 := eq_true q248
           go_wp2
           go_roundg k3
           case measure => have := HK1.out; have := HJ11.out; have := HK3.out; omega
           case rel => exact ⟨(x6_3 ++ (rdOf ByteArray.empty l0_4 x8_3)), (wrap64 (x8_3 + 1)), (by first | rfl | (simp; done) | (simp [*]; done)), (by first | rfl | (simp; done) | (simp [*]; done)), H', ⟨by have := HK1.out; have := HJ11.out; have := HK3.out; omega⟩, ⟨by (with_reducible repeat (first | refine blk_drewN ?_ _ | refine blk_drew ?_ | refine blk_alloc ?_ _)); exact BK244.out⟩, ⟨by repeat (first | (with_reducible first | exact HB.out | apply below_alloc | apply pw_below_drewN | apply below_drew1 | refine below_set ?_ GE244.out) | exact HB.out)⟩⟩
          ·
           rw [if_neg c24] at H
           exact absurd H (by simp)
         ·
          rw [if_neg c23] at H
          exact absurd H (by simp)
        ·
         rw [if_neg c22] at H
         have c22b0 : decide (x8_3 < (l0_4.length : Int)) = false := decide_eq_false c22
         clear c22
         have HC26 := Aside0.mk H
         clear H
         have hcz27_0 : wr.cell? ⟨gb244, 0, none⟩ = some (.string a0_0) := (blk_cell BK244.out 0).trans rfl
         have hcz27_1 : wr.cell? ⟨gb244, 1, none⟩ = some (.int .u16 a0_1) := (blk_cell BK244.out 1).trans rfl
         have hcz27_2 : wr.cell? ⟨gb244, 2, none⟩ = some (.int .u16 a0_2) := (blk_cell BK244.out 2).trans rfl
         have hcz27_3 : wr.cell? ⟨gb244, 3, none⟩ = some (.int .u32 a0_3) := (blk_cell BK244.out 3).trans rfl
         have hcz27_4 : wr.cell? ⟨gb244, 4, none⟩ = some (.slice A0_4 l0_4.length c0_4) := (blk_cell BK244.out 4).trans rfl
         have hcz27_5 : wr.cell? ⟨gb244, 5, none⟩ = some (.slice A0_5 l0_5.length c0_5) := (blk_cell BK244.out 5).trans rfl
         have hcz27_6 : wr.cell? ⟨gb244, 6, none⟩ = some (.slice A0_6 l0_6.length c0_6) := (blk_cell BK244.out 6).trans rfl
         have hfz27_0 := blk_frozen BK244.out 0
         have hfz27_1 := blk_frozen BK244.out 1
         have hfz27_2 := blk_frozen BK244.out 2
         have hfz27_3 := blk_frozen BK244.out 3
         have hfz27_4 := blk_frozen BK244.out 4
         have hfz27_5 := blk_frozen BK244.out 5
         have hfz27_6 := blk_frozen BK244.out 6
         go_upto_block 6 with (fail)
         go_cut [6] (fun v6 wc => ∃ (kq : Nat) (x6_25 : ByteArray), v6 = .string x6_25 ∧ Aside0 (nuncioref05_plain.j5 kq x6_25 a0_0 a0_1 a0_2 a0_3 l0_4 l0_5 l0_6 = some (r1, r2)) ∧ Aside0 (kq ≤ k3) ∧ Aside0 (wc.heap[gb244]? = some (.cells #[.string a0_0, .int .u16 a0_1, .int .u16 a0_2, .int .u32 a0_3, (.slice A0_4 l0_4.length c0_4), (.slice A0_5 l0_5.length c0_5), (.slice A0_6 l0_6.length c0_6)] 27 (0, 0))) ∧ Aside0 (Below w.heap.size w wc))
         case first =>
          have H := HC26.out
          clear HC26
          have H' := Aside0.mk H
          clear H
          go_wp2
          go_loopg [6, 9] k3 (fun kq v6 v9 w' => ∃ (x6_4 : ByteArray) (x9_4 : Int), v6 = .string x6_4 ∧ v9 = .int .i64 x9_4 ∧ Aside0 (nuncioref05_plain.l3 kq x6_4 x9_4 a0_0 a0_1 a0_2 a0_3 l0_4 l0_5 l0_6 = some (r1, r2)) ∧ Aside0 (kq ≤ k3) ∧ Aside0 (w'.heap[gb244]? = some (.cells #[.string a0_0, .int .u16 a0_1, .int .u16 a0_2, .int .u32 a0_3, (.slice A0_4 l0_4.length c0_4), (.slice A0_5 l0_5.length c0_5), (.slice A0_6 l0_6.length c0_6)] 27 (0, 0))) ∧ Aside0 (Below w.heap.size w w'))
          case atStart => exact ⟨(x6_3), (0), (by first | rfl | (simp; done) | (simp [*]; done)), (by first | rfl | (simp; done) | (simp [*]; done)), H', ⟨Nat.le_refl _⟩, ⟨by (with_reducible repeat (first | refine blk_drewN ?_ _ | refine blk_drew ?_ | refine blk_alloc ?_ _)); exact BK244.out⟩, ⟨by repeat (first | (with_reducible first | exact HB.out | apply below_alloc | apply pw_below_drewN | apply below_drew1 | refine below_set ?_ GE244.out) | exact HB.out)⟩⟩
          case round =>
           clear H'
           try clear c1
           try clear c2
           try clear p2
           try clear q2
           try clear hx2
           try clear c3
           try clear c3b0
           try clear c4
           try clear c4b0
           try clear c5
           try clear c5b0
           try clear c5b1
           try clear c6
           try clear c6b0
           try clear p6
           try clear c9
           try clear c9b0
           try clear c14
           try clear c14b0
           try clear c14b1
           try clear c15
           try clear c15b0
           try clear c15b1
           try clear c17
           try clear c17b0
           try clear c22
           try clear c22b0
           try clear c23
           try clear c23b0
           try clear c24
           try clear c24b0
           try clear c24b1
           try clear c24b2
           try clear p24
           try clear q24
           try clear hx24
           try clear hcz10_0
           try clear hcz10_1
           try clear hcz10_2
           try clear hcz10_3
           try clear hcz10_4
           try clear hcz10_5
           try clear hcz10_6
           try clear hcz11_0
           try clear hcz11_1
           try clear hcz11_2
           try clear hcz11_3
           try clear hcz11_4
           try clear hcz11_5
           try clear hcz11_6
           try clear hcz13_0
           try clear hcz13_1
           try clear hcz13_2
           try clear hcz13_3
           try clear hcz13_4
           try clear hcz13_5
           try clear hcz13_6
           try clear hcz16_0
           try clear hcz16_1
           try clear hcz16_2
           try clear hcz16_3
           try clear hcz16_4
           try clear hcz16_5
           try clear hcz16_6
           try clear hcz19_0
           try clear hcz19_1
           try clear hcz19_2
           try clear hcz19_3
           try clear hcz19_4
           try clear hcz19_5
           try clear hcz19_6
           try clear hcz21_0
           try clear hcz21_1
           try clear hcz21_2
           try clear hcz21_3
           try clear hcz21_4
           try clear hcz21_5
           try clear hcz21_6
           try clear hcz25_0
           try clear hcz25_1
           try clear hcz25_2
           try clear hcz25_3
           try clear hcz25_4
           try clear hcz25_5
           try clear hcz25_6
           try clear hcz27_0
           try clear hcz27_1
           try clear hcz27_2
           try clear hcz27_3
           try clear hcz27_4
           try clear hcz27_5
           try clear hcz27_6
           try clear hcz7_0
           try clear hcz7_1
           try clear hcz7_2
           try clear hcz7_3
           try clear hcz7_4
           try clear hcz7_5
           try clear hcz7_6
           try clear hcz8_0
           try clear hcz8_1
           try clear hcz8_2
           try clear hcz8_3
           try clear hcz8_4
           try clear hcz8_5
           try clear hcz8_6
           try clear hfz10_0
           try clear hfz10_1
           try clear hfz10_2
           try clear hfz10_3
           try clear hfz10_4
           try clear hfz10_5
           try clear hfz10_6
           try clear hfz11_0
           try clear hfz11_1
           try clear hfz11_2
           try clear hfz11_3
           try clear hfz11_4
           try clear hfz11_5
           try clear hfz11_6
           try clear hfz13_0
           try clear hfz13_1
           try clear hfz13_2
           try clear hfz13_3
           try clear hfz13_4
           try clear hfz13_5
           try clear hfz13_6
           try clear hfz16_0
           try clear hfz16_1
           try clear hfz16_2
           try clear hfz16_3
           try clear hfz16_4
           try clear hfz16_5
           try clear hfz16_6
           try clear hfz19_0
           try clear hfz19_1
           try clear hfz19_2
           try clear hfz19_3
           try clear hfz19_4
           try clear hfz19_5
           try clear hfz19_6
           try clear hfz21_0
           try clear hfz21_1
           try clear hfz21_2
           try clear hfz21_3
           try clear hfz21_4
           try clear hfz21_5
           try clear hfz21_6
           try clear hfz25_0
           try clear hfz25_1
           try clear hfz25_2
           try clear hfz25_3
           try clear hfz25_4
           try clear hfz25_5
           try clear hfz25_6
           try clear hfz27_0
           try clear hfz27_1
           try clear hfz27_2
           try clear hfz27_3
           try clear hfz27_4
           try clear hfz27_5
           try clear hfz27_6
           try clear hfz7_0
           try clear hfz7_1
           try clear hfz7_2
           try clear hfz7_3
           try clear hfz7_4
           try clear hfz7_5
           try clear hfz7_6
           try clear hfz8_0
           try clear hfz8_1
           try clear hfz8_2
           try clear hfz8_3
           try clear hfz8_4
           try clear hfz8_5
           try clear hfz8_6
           try clear hx245_0
           try clear hx246_0
           try clear hx248_0
           try clear p2
           try clear p245
           try clear p246
           try clear p248
           try clear p6
           try clear q2
           try clear q245
           try clear q246
           try clear q248
           obtain ⟨x6_4, x9_4, rfl, rfl, HA, HK4, BK244, HB⟩ := hrel
           cases gk with
           | zero => exact absurd HA.out (by simp [nuncioref05_plain.l3])
           | succ k4 =>
            have H := HA.out
            clear HA
            simp only [nuncioref05_plain.l3] at H
            by_cases c28 : x9_4 < (l0_5.length : Int)
            ·
             rw [if_pos c28] at H
             have c28b0 : decide (x9_4 < (l0_5.length : Int)) = true := decide_eq_true c28
             clear c28
             (first | rw [c28b0] | rw [c28b1] | (simp only [i64_w, i32_w]; rw [c28b0]) | skip)
             by_cases c29 : a0_1 = 6
             ·
              rw [if_pos c29] at H
              have c29b0 : (a0_1 == 6) = true := beq_iff_eq.mpr c29
              have c29b1 : (a0_1 != 6) = false := bne_eq_false_iff_eq.mpr c29
              clear c29
              by_cases c30 : 0 ≤ x9_4
              ·
               rw [if_pos c30] at H
               have c30b0 : decide (0 ≤ x9_4) = true := decide_eq_true c30
               clear c30
               replace H := Option.bind_eq_some_iff.mp H
               obtain ⟨t250, A310, H⟩ := H
               replace H : (nuncioref05_plain.l3 k4 t250 (wrap64 (x9_4 + 1)) a0_0 a0_1 a0_2 a0_3 l0_4 l0_5 l0_6) = some (r1, r2) := H
               have A31 := Aside0.mk A310
               clear A310
               have H' := Aside0.mk H
               clear H
               have hcz32_0 : wr.cell? ⟨gb244, 0, none⟩ = some (.string a0_0) := (blk_cell BK244.out 0).trans rfl
               have hcz32_1 : wr.cell? ⟨gb244, 1, none⟩ = some (.int .u16 a0_1) := (blk_cell BK244.out 1).trans rfl
               have hcz32_2 : wr.cell? ⟨gb244, 2, none⟩ = some (.int .u16 a0_2) := (blk_cell BK244.out 2).trans rfl
               have hcz32_3 : wr.cell? ⟨gb244, 3, none⟩ = some (.int .u32 a0_3) := (blk_cell BK244.out 3).trans rfl
               have hcz32_4 : wr.cell? ⟨gb244, 4, none⟩ = some (.slice A0_4 l0_4.length c0_4) := (blk_cell BK244.out 4).trans rfl
               have hcz32_5 : wr.cell? ⟨gb244, 5, none⟩ = some (.slice A0_5 l0_5.length c0_5) := (blk_cell BK244.out 5).trans rfl
               have hcz32_6 : wr.cell? ⟨gb244, 6, none⟩ = some (.slice A0_6 l0_6.length c0_6) := (blk_cell BK244.out 6).trans rfl
               have hfz32_0 := blk_frozen BK244.out 0
               have hfz32_1 := blk_frozen BK244.out 1
               have hfz32_2 := blk_frozen BK244.out 2
               have hfz32_3 := blk_frozen BK244.out 3
               have hfz32_4 := blk_frozen BK244.out 4
               have hfz32_5 := blk_frozen BK244.out 5
               have hfz32_6 := blk_frozen BK244.out 6
               have p249 : 0 ≤ (x9_4 : Int) := of_decide_eq_true (by first | (with_reducible assumption) | assumption)
               have q249 : x9_4 < (l0_5.length : Int) := of_decide_eq_true (by first | (with_reducible assumption) | assumption)
               obtain ⟨ad249, e249, hx249_0⟩ := Kd.at_int HR0_5.out x9_4 p249 q249
               cases e249
               replace hx249_0 := (HB.out.cell (World.block_lt_of_cell? w _ hx249_0)).trans hx249_0
               replace p249 := eq_true p249
               replace q249 := eq_true q249
               go_wp2_with (first | ((with_reducible refine gate_callee (f := 40) rfl ?_); refine goesL_ (some 86) rfl rfl Try.func40 (by kernel_rfl) rfl #[.string x6_4, .int .u64 (IntKind.u64.wrap (rd l0_5 x9_4)), .int .i64 4] rfl (by (try simp only [List.map_toArray, List.map_cons, List.map_nil]); first | done | rfl | (simp only [List.length_drop, List.length_take]; rfl)) ?_; (with_reducible refine (nuncioref01_Put.calls k4 x6_4 (IntKind.u64.wrap (rd l0_5 x9_4)) 4 t250 _ A31.out).mono ?_); rintro e w33 ⟨rfl, hb⟩; refine ⟨_, rfl, ?_⟩; have n0_ := Aside0.mk (blk_below (g := gb244) (o := .cells #[.string a0_0, .int .u16 a0_1, .int .u16 a0_2, .int .u32 a0_3, .slice A0_4 l0_4.length c0_4, .slice (some ad249) l0_5.length c0_5, .slice A0_6 l0_6.length c0_6] 27 (0, 0)) (by (with_reducible repeat (first | refine blk_drewN ?_ _ | refine blk_drew ?_ | refine blk_alloc ?_ _)); exact BK244.out) hb); have n1_ := Aside0.mk (below_step (by repeat (first | (with_reducible first | exact HB.out | apply below_alloc | apply pw_below_drewN | apply below_drew1 | refine below_set ?_ GE244.out) | exact HB.out)) hb); clear BK244; clear HB; have BK244 := n0_; have HB := n1_; clear n0_ n1_; (try clear hb); (try clear hb2); (try clear hk); (try clear hi)))
               go_roundg k4
               case measure => have := HK1.out; have := HJ11.out; have := HK3.out; have := HK4.out; omega
               case rel => exact ⟨(t250), (wrap64 (x9_4 + 1)), (by first | rfl | (simp; done) | (simp [*]; done)), (by first | rfl | (simp; done) | (simp [*]; done)), H', ⟨by have := HK1.out; have := HJ11.out; have := HK3.out; have := HK4.out; omega⟩, ⟨by (with_reducible repeat (first | refine blk_drewN ?_ _ | refine blk_drew ?_ | refine blk_alloc ?_ _)); exact BK244.out⟩, ⟨by repeat (first | (with_reducible first | exact HB.out | apply below_alloc | apply pw_below_drewN | apply below_drew1 | refine below_set ?_ GE244.out) | exact HB.out)⟩⟩
              ·
               rw [if_neg c30] at H
               exact absurd H (by simp)
             ·
              rw [if_neg c29] at H
              have c29b0 : (a0_1 == 6) = false := beq_eq_false_iff_ne.mpr c29
              have c29b1 : (a0_1 != 6) = true := bne_iff_ne.mpr c29
              have H' := Aside0.mk H
              clear H
              have hcz34_0 : wr.cell? ⟨gb244, 0, none⟩ = some (.string a0_0) := (blk_cell BK244.out 0).trans rfl
              have hcz34_1 : wr.cell? ⟨gb244, 1, none⟩ = some (.int .u16 a0_1) := (blk_cell BK244.out 1).trans rfl
              have hcz34_2 : wr.cell? ⟨gb244, 2, none⟩ = some (.int .u16 a0_2) := (blk_cell BK244.out 2).trans rfl
              have hcz34_3 : wr.cell? ⟨gb244, 3, none⟩ = some (.int .u32 a0_3) := (blk_cell BK244.out 3).trans rfl
              have hcz34_4 : wr.cell? ⟨gb244, 4, none⟩ = some (.slice A0_4 l0_4.length c0_4) := (blk_cell BK244.out 4).trans rfl
              have hcz34_5 : wr.cell? ⟨gb244, 5, none⟩ = some (.slice A0_5 l0_5.length c0_5) := (blk_cell BK244.out 5).trans rfl
              have hcz34_6 : wr.cell? ⟨gb244, 6, none⟩ = some (.slice A0_6 l0_6.length c0_6) := (blk_cell BK244.out 6).trans rfl
              have hfz34_0 := blk_frozen BK244.out 0
              have hfz34_1 := blk_frozen BK244.out 1
              have hfz34_2 := blk_frozen BK244.out 2
              have hfz34_3 := blk_frozen BK244.out 3
              have hfz34_4 := blk_frozen BK244.out 4
              have hfz34_5 := blk_frozen BK244.out 5
              have hfz34_6 := blk_frozen BK244.out 6
              go_wp2
              go_meet
              case rel => exact ⟨_, (x6_4), (by first | rfl | (simp; done) | (simp [*]; done)), H', ⟨by have := HK1.out; have := HJ11.out; have := HK3.out; have := HK4.out; first | omega | exact Nat.le_refl _⟩, ⟨by (with_reducible repeat (first | refine blk_drewN ?_ _ | refine blk_drew ?_ | refine blk_alloc ?_ _)); exact BK244.out⟩, ⟨by repeat (first | (with_reducible first | exact HB.out | apply below_alloc | apply pw_below_drewN | apply below_drew1 | refine below_set ?_ GE244.out) | exact HB.out)⟩⟩
            ·
             rw [if_neg c28] at H
             have c28b0 : decide (x9_4 < (l0_5.length : Int)) = false := decide_eq_false c28
             clear c28
             (first | rw [c28b0] | rw [c28b1] | (simp only [i64_w, i32_w]; rw [c28b0]) | skip)
             have H' := Aside0.mk H
             clear H
             have hcz35_0 : wr.cell? ⟨gb244, 0, none⟩ = some (.string a0_0) := (blk_cell BK244.out 0).trans rfl
             have hcz35_1 : wr.cell? ⟨gb244, 1, none⟩ = some (.int .u16 a0_1) := (blk_cell BK244.out 1).trans rfl
             have hcz35_2 : wr.cell? ⟨gb244, 2, none⟩ = some (.int .u16 a0_2) := (blk_cell BK244.out 2).trans rfl
             have hcz35_3 : wr.cell? ⟨gb244, 3, none⟩ = some (.int .u32 a0_3) := (blk_cell BK244.out 3).trans rfl
             have hcz35_4 : wr.cell? ⟨gb244, 4, none⟩ = some (.slice A0_4 l0_4.length c0_4) := (blk_cell BK244.out 4).trans rfl
             have hcz35_5 : wr.cell? ⟨gb244, 5, none⟩ = some (.slice A0_5 l0_5.length c0_5) := (blk_cell BK244.out 5).trans rfl
             have hcz35_6 : wr.cell? ⟨gb244, 6, none⟩ = some (.slice A0_6 l0_6.length c0_6) := (blk_cell BK244.out 6).trans rfl
             have hfz35_0 := blk_frozen BK244.out 0
             have hfz35_1 := blk_frozen BK244.out 1
             have hfz35_2 := blk_frozen BK244.out 2
             have hfz35_3 := blk_frozen BK244.out 3
             have hfz35_4 := blk_frozen BK244.out 4
             have hfz35_5 := blk_frozen BK244.out 5
             have hfz35_6 := blk_frozen BK244.out 6
             go_wp2
             go_meet
             case rel => exact ⟨_, (x6_4), (by first | rfl | (simp; done) | (simp [*]; done)), H', ⟨by have := HK1.out; have := HJ11.out; have := HK3.out; have := HK4.out; first | omega | exact Nat.le_refl _⟩, ⟨by (with_reducible repeat (first | refine blk_drewN ?_ _ | refine blk_drew ?_ | refine blk_alloc ?_ _)); exact BK244.out⟩, ⟨by repeat (first | (with_reducible first | exact HB.out | apply below_alloc | apply pw_below_drewN | apply below_drew1 | refine below_set ?_ GE244.out) | exact HB.out)⟩⟩
         case rest =>
          clear HC26
          try clear c1
          try clear c2
          try clear p2
          try clear q2
          try clear hx2
          try clear c3
          try clear c3b0
          try clear c4
          try clear c4b0
          try clear c5
          try clear c5b0
          try clear c5b1
          try clear c6
          try clear c6b0
          try clear p6
          try clear c9
          try clear c9b0
          try clear c14
          try clear c14b0
          try clear c14b1
          try clear c15
          try clear c15b0
          try clear c15b1
          try clear c17
          try clear c17b0
          try clear c22
          try clear c22b0
          try clear c23
          try clear c23b0
          try clear c24
          try clear c24b0
          try clear c24b1
          try clear c24b2
          try clear p24
          try clear q24
          try clear hx24
          try clear c28
          try clear c28b0
          try clear c28b1
          try clear c29
          try clear c29b0
          try clear c29b1
          try clear c30
          try clear c30b0
          try clear hcz10_0
          try clear hcz10_1
          try clear hcz10_2
          try clear hcz10_3
          try clear hcz10_4
          try clear hcz10_5
          try clear hcz10_6
          try clear hcz11_0
          try clear hcz11_1
          try clear hcz11_2
          try clear hcz11_3
          try clear hcz11_4
          try clear hcz11_5
          try clear hcz11_6
          try clear hcz13_0
          try clear hcz13_1
          try clear hcz13_2
          try clear hcz13_3
          try clear hcz13_4
          try clear hcz13_5
          try clear hcz13_6
          try clear hcz16_0
          try clear hcz16_1
          try clear hcz16_2
          try clear hcz16_3
          try clear hcz16_4
          try clear hcz16_5
          try clear hcz16_6
          try clear hcz19_0
          try clear hcz19_1
          try clear hcz19_2
          try clear hcz19_3
          try clear hcz19_4
          try clear hcz19_5
          try clear hcz19_6
          try clear hcz21_0
          try clear hcz21_1
          try clear hcz21_2
          try clear hcz21_3
          try clear hcz21_4
          try clear hcz21_5
          try clear hcz21_6
          try clear hcz25_0
          try clear hcz25_1
          try clear hcz25_2
          try clear hcz25_3
          try clear hcz25_4
          try clear hcz25_5
          try clear hcz25_6
          try clear hcz27_0
          try clear hcz27_1
          try clear hcz27_2
          try clear hcz27_3
          try clear hcz27_4
          try clear hcz27_5
          try clear hcz27_6
          try clear hcz32_0
          try clear hcz32_1
          try clear hcz32_2
          try clear hcz32_3
          try clear hcz32_4
          try clear hcz32_5
          try clear hcz32_6
          try clear hcz34_0
          try clear hcz34_1
          try clear hcz34_2
          try clear hcz34_3
          try clear hcz34_4
          try clear hcz34_5
          try clear hcz34_6
          try clear hcz35_0
          try clear hcz35_1
          try clear hcz35_2
          try clear hcz35_3
          try clear hcz35_4
          try clear hcz35_5
          try clear hcz35_6
          try clear hcz7_0
          try clear hcz7_1
          try clear hcz7_2
          try clear hcz7_3
          try clear hcz7_4
          try clear hcz7_5
          try clear hcz7_6
          try clear hcz8_0
          try clear hcz8_1
          try clear hcz8_2
          try clear hcz8_3
          try clear hcz8_4
          try clear hcz8_5
          try clear hcz8_6
          try clear hfz10_0
          try clear hfz10_1
          try clear hfz10_2
          try clear hfz10_3
          try clear hfz10_4
          try clear hfz10_5
          try clear hfz10_6
          try clear hfz11_0
          try clear hfz11_1
          try clear hfz11_2
          try clear hfz11_3
          try clear hfz11_4
          try clear hfz11_5
          try clear hfz11_6
          try clear hfz13_0
          try clear hfz13_1
          try clear hfz13_2
          try clear hfz13_3
          try clear hfz13_4
          try clear hfz13_5
          try clear hfz13_6
          try clear hfz16_0
          try clear hfz16_1
          try clear hfz16_2
          try clear hfz16_3
          try clear hfz16_4
          try clear hfz16_5
          try clear hfz16_6
          try clear hfz19_0
          try clear hfz19_1
          try clear hfz19_2
          try clear hfz19_3
          try clear hfz19_4
          try clear hfz19_5
          try clear hfz19_6
          try clear hfz21_0
          try clear hfz21_1
          try clear hfz21_2
          try clear hfz21_3
          try clear hfz21_4
          try clear hfz21_5
          try clear hfz21_6
          try clear hfz25_0
          try clear hfz25_1
          try clear hfz25_2
          try clear hfz25_3
          try clear hfz25_4
          try clear hfz25_5
          try clear hfz25_6
          try clear hfz27_0
          try clear hfz27_1
          try clear hfz27_2
          try clear hfz27_3
          try clear hfz27_4
          try clear hfz27_5
          try clear hfz27_6
          try clear hfz32_0
          try clear hfz32_1
          try clear hfz32_2
          try clear hfz32_3
          try clear hfz32_4
          try clear hfz32_5
          try clear hfz32_6
          try clear hfz34_0
          try clear hfz34_1
          try clear hfz34_2
          try clear hfz34_3
          try clear hfz34_4
          try clear hfz34_5
          try clear hfz34_6
          try clear hfz35_0
          try clear hfz35_1
          try clear hfz35_2
          try clear hfz35_3
          try clear hfz35_4
          try clear hfz35_5
          try clear hfz35_6
          try clear hfz7_0
          try clear hfz7_1
          try clear hfz7_2
          try clear hfz7_3
          try clear hfz7_4
          try clear hfz7_5
          try clear hfz7_6
          try clear hfz8_0
          try clear hfz8_1
          try clear hfz8_2
          try clear hfz8_3
          try clear hfz8_4
          try clear hfz8_5
          try clear hfz8_6
          try clear hx245_0
          try clear hx246_0
          try clear hx248_0
          try clear hx249_0
          try clear p2
          try clear p24
          try clear p245
          try clear p246
          try clear p248
          try clear p249
          try clear p6
          try clear q2
          try clear q24
          try clear q245
          try clear q246
          try clear q248
          try clear q249
          obtain ⟨kq, x6_25, rfl, HA, HJ25, BK244, HB⟩ := hcut
          cases kq with
          | zero => exact absurd HA.out (by simp [nuncioref05_plain.j5])
          | succ kj25 =>
           have H := HA.out
           clear HA
           simp only [nuncioref05_plain.j5] at H
           have H' := Aside0.mk H
           clear H
           go_wp2
           go_loopg [6, 10] kj25 (fun kq v6 v10 w' => ∃ (x6_5 : ByteArray) (x10_5 : Int), v6 = .string x6_5 ∧ v10 = .int .i64 x10_5 ∧ Aside0 (nuncioref05_plain.l4 kq x6_5 x10_5 a0_0 a0_1 a0_2 a0_3 l0_4 l0_5 l0_6 = some (r1, r2)) ∧ Aside0 (kq ≤ kj25) ∧ Aside0 (w'.heap[gb244]? = some (.cells #[.string a0_0, .int .u16 a0_1, .int .u16 a0_2, .int .u32 a0_3, (.slice A0_4 l0_4.length c0_4), (.slice A0_5 l0_5.length c0_5), (.slice A0_6 l0_6.length c0_6)] 27 (0, 0))) ∧ Aside0 (Below w.heap.size w w'))
           case atStart => exact ⟨(x6_25), (0), (by first | rfl | (simp; done) | (simp [*]; done)), (by first | rfl | (simp; done) | (simp [*]; done)), H', ⟨Nat.le_refl _⟩, ⟨by (with_reducible repeat (first | refine blk_drewN ?_ _ | refine blk_drew ?_ | refine blk_alloc ?_ _)); exact BK244.out⟩, ⟨by repeat (first | (with_reducible first | exact HB.out | apply below_alloc | apply pw_below_drewN | apply below_drew1 | refine below_set ?_ GE244.out) | exact HB.out)⟩⟩
           case round =>
            clear H'
            try clear c1
            try clear c2
            try clear p2
            try clear q2
            try clear hx2
            try clear c3
            try clear c3b0
            try clear c4
            try clear c4b0
            try clear c5
            try clear c5b0
            try clear c5b1
            try clear c6
            try clear c6b0
            try clear p6
            try clear c9
            try clear c9b0
            try clear c14
            try clear c14b0
            try clear c14b1
            try clear c15
            try clear c15b0
            try clear c15b1
            try clear c17
            try clear c17b0
            try clear c22
            try clear c22b0
            try clear c23
            try clear c23b0
            try clear c24
            try clear c24b0
            try clear c24b1
            try clear c24b2
            try clear p24
            try clear q24
            try clear hx24
            try clear c28
            try clear c28b0
            try clear c28b1
            try clear c29
            try clear c29b0
            try clear c29b1
            try clear c30
            try clear c30b0
            try clear hcz10_0
            try clear hcz10_1
            try clear hcz10_2
            try clear hcz10_3
            try clear hcz10_4
            try clear hcz10_5
            try clear hcz10_6
            try clear hcz11_0
            try clear hcz11_1
            try clear hcz11_2
            try clear hcz11_3
            try clear hcz11_4
            try clear hcz11_5
            try clear hcz11_6
            try clear hcz13_0
            try clear hcz13_1
            try clear hcz13_2
            try clear hcz13_3
            try clear hcz13_4
            try clear hcz13_5
            try clear hcz13_6
            try clear hcz16_0
            try clear hcz16_1
            try clear hcz16_2
            try clear hcz16_3
            try clear hcz16_4
            try clear hcz16_5
            try clear hcz16_6
            try clear hcz19_0
            try clear hcz19_1
            try clear hcz19_2
            try clear hcz19_3
            try clear hcz19_4
            try clear hcz19_5
            try clear hcz19_6
            try clear hcz21_0
            try clear hcz21_1
            try clear hcz21_2
            try clear hcz21_3
            try clear hcz21_4
            try clear hcz21_5
            try clear hcz21_6
            try clear hcz25_0
            try clear hcz25_1
            try clear hcz25_2
            try clear hcz25_3
            try clear hcz25_4
            try clear hcz25_5
            try clear hcz25_6
            try clear hcz27_0
            try clear hcz27_1
            try clear hcz27_2
            try clear hcz27_3
            try clear hcz27_4
            try clear hcz27_5
            try clear hcz27_6
            try clear hcz32_0
            try clear hcz32_1
            try clear hcz32_2
            try clear hcz32_3
            try clear hcz32_4
            try clear hcz32_5
            try clear hcz32_6
            try clear hcz34_0
            try clear hcz34_1
            try clear hcz34_2
            try clear hcz34_3
            try clear hcz34_4
            try clear hcz34_5
            try clear hcz34_6
            try clear hcz35_0
            try clear hcz35_1
            try clear hcz35_2
            try clear hcz35_3
            try clear hcz35_4
            try clear hcz35_5
            try clear hcz35_6
            try clear hcz7_0
            try clear hcz7_1
            try clear hcz7_2
            try clear hcz7_3
            try clear hcz7_4
            try clear hcz7_5
            try clear hcz7_6
            try clear hcz8_0
            try clear hcz8_1
            try clear hcz8_2
            try clear hcz8_3
            try clear hcz8_4
            try clear hcz8_5
            try clear hcz8_6
            try clear hfz10_0
            try clear hfz10_1
            try clear hfz10_2
            try clear hfz10_3
            try clear hfz10_4
            try clear hfz10_5
            try clear hfz10_6
            try clear hfz11_0
            try clear hfz11_1
            try clear hfz11_2
            try clear hfz11_3
            try clear hfz11_4
            try clear hfz11_5
            try clear hfz11_6
            try clear hfz13_0
            try clear hfz13_1
            try clear hfz13_2
            try clear hfz13_3
            try clear hfz13_4
            try clear hfz13_5
            try clear hfz13_6
            try clear hfz16_0
            try clear hfz16_1
            try clear hfz16_2
            try clear hfz16_3
            try clear hfz16_4
            try clear hfz16_5
            try clear hfz16_6
            try clear hfz19_0
            try clear hfz19_1
            try clear hfz19_2
            try clear hfz19_3
            try clear hfz19_4
            try clear hfz19_5
            try clear hfz19_6
            try clear hfz21_0
            try clear hfz21_1
            try clear hfz21_2
            try clear hfz21_3
            try clear hfz21_4
            try clear hfz21_5
            try clear hfz21_6
            try clear hfz25_0
            try clear hfz25_1
            try clear hfz25_2
            try clear hfz25_3
            try clear hfz25_4
            try clear hfz25_5
            try clear hfz25_6
            try clear hfz27_0
            try clear hfz27_1
            try clear hfz27_2
            try clear hfz27_3
            try clear hfz27_4
            try clear hfz27_5
            try clear hfz27_6
            try clear hfz32_0
            try clear hfz32_1
            try clear hfz32_2
            try clear hfz32_3
            try clear hfz32_4
            try clear hfz32_5
            try clear hfz32_6
            try clear hfz34_0
            try clear hfz34_1
            try clear hfz34_2
            try clear hfz34_3
            try clear hfz34_4
            try clear hfz34_5
            try clear hfz34_6
            try clear hfz35_0
            try clear hfz35_1
            try clear hfz35_2
            try clear hfz35_3
            try clear hfz35_4
            try clear hfz35_5
            try clear hfz35_6
            try clear hfz7_0
            try clear hfz7_1
            try clear hfz7_2
            try clear hfz7_3
            try clear hfz7_4
            try clear hfz7_5
            try clear hfz7_6
            try clear hfz8_0
            try clear hfz8_1
            try clear hfz8_2
            try clear hfz8_3
            try clear hfz8_4
            try clear hfz8_5
            try clear hfz8_6
            try clear hx245_0
            try clear hx246_0
            try clear hx248_0
            try clear hx249_0
            try clear p2
            try clear p24
            try clear p245
            try clear p246
            try clear p248
            try clear p249
            try clear p6
            try clear q2
            try clear q24
            try clear q245
            try clear q246
            try clear q248
            try clear q249
            obtain ⟨x6_5, x10_5, rfl, rfl, HA, HK5, BK244, HB⟩ := hrel
            cases gk with
            | zero => exact absurd HA.out (by simp [nuncioref05_plain.l4])
            | succ k5 =>
             have H := HA.out
             clear HA
             simp only [nuncioref05_plain.l4] at H
             by_cases c36 : x10_5 < (l0_6.length : Int)
             ·
              rw [if_pos c36] at H
              have c36b0 : decide (x10_5 < (l0_6.length : Int)) = true := decide_eq_true c36
              clear c36
              by_cases c37 : a0_1 = 16
              ·
               rw [if_pos c37] at H
               have c37b0 : (a0_1 == 16) = true := beq_iff_eq.mpr c37
               have c37b1 : (a0_1 != 16) = false := bne_eq_false_iff_eq.mpr c37
               clear c37
               by_cases c38 : 0 ≤ x10_5
               ·
                rw [if_pos c38] at H
                have c38b0 : decide (0 ≤ x10_5) = true := decide_eq_true c38
                clear c38
                obtain ⟨y252, hy252⟩ : ∃ y_ : List Int, y_ = (([(((rdOf ByteArray.empty l0_6 x10_5).size : Int)) % 256] : List Int)) := ⟨_, rfl⟩
                replace H : (if x6_5.size + (strOfNums y252).size ≤ 9223372036854775807 then (if (x6_5.size + (strOfNums y252).size) + (rdOf ByteArray.empty l0_6 x10_5).size ≤ 9223372036854775807 then (nuncioref05_plain.l4 k5 ((x6_5 ++ (strOfNums y252)) ++ (rdOf ByteArray.empty l0_6 x10_5)) (wrap64 (x10_5 + 1)) a0_0 a0_1 a0_2 a0_3 l0_4 l0_5 l0_6) else (none)) else (none)) = some (r1, r2) := by first | (rw [hy252]; with_reducible exact H) | (have H2_ := (Option.bind_some _ _).symm.trans H; rw [hy252]; with_reducible exact H2_) | (have H2_ := (Option.bind_some _ _).symm.trans H; with_reducible exact H2_) | with_reducible exact H | (rw [hy252]; exact H) | exact H
                have Ny252 := Aside0.mk hy252
                clear hy252
                by_cases c39 : x6_5.size + (strOfNums y252).size ≤ 9223372036854775807
                ·
                 rw [if_pos c39] at H
                 have c39b0 := eq_true c39
                 have c39b1 : decide (x6_5.size + (strOfNums y252).size ≤ 9223372036854775807) = true := decide_eq_true c39
                 try have c39b2 : (9223372036854775807 < x6_5.size + (strOfNums y252).size) = False := eq_false (Nat.not_lt.2 c39)
                 by_cases c40 : (x6_5.size + (strOfNums y252).size) + (rdOf ByteArray.empty l0_6 x10_5).size ≤ 9223372036854775807
                 ·
                  rw [if_pos c40] at H
                  have c40b0 := eq_true c40
                  have c40b1 : decide ((x6_5.size + (strOfNums y252).size) + (rdOf ByteArray.empty l0_6 x10_5).size ≤ 9223372036854775807) = true := decide_eq_true c40
                  try have c40b2 : (9223372036854775807 < (x6_5.size + (strOfNums y252).size) + (rdOf ByteArray.empty l0_6 x10_5).size) = False := eq_false (Nat.not_lt.2 c40)
                  have H' := Aside0.mk H
                  clear H
                  have hcz41_0 : wr.cell? ⟨gb244, 0, none⟩ = some (.string a0_0) := (blk_cell BK244.out 0).trans rfl
                  have hcz41_1 : wr.cell? ⟨gb244, 1, none⟩ = some (.int .u16 a0_1) := (blk_cell BK244.out 1).trans rfl
                  have hcz41_2 : wr.cell? ⟨gb244, 2, none⟩ = some (.int .u16 a0_2) := (blk_cell BK244.out 2).trans rfl
                  have hcz41_3 : wr.cell? ⟨gb244, 3, none⟩ = some (.int .u32 a0_3) := (blk_cell BK244.out 3).trans rfl
                  have hcz41_4 : wr.cell? ⟨gb244, 4, none⟩ = some (.slice A0_4 l0_4.length c0_4) := (blk_cell BK244.out 4).trans rfl
                  have hcz41_5 : wr.cell? ⟨gb244, 5, none⟩ = some (.slice A0_5 l0_5.length c0_5) := (blk_cell BK244.out 5).trans rfl
                  have hcz41_6 : wr.cell? ⟨gb244, 6, none⟩ = some (.slice A0_6 l0_6.length c0_6) := (blk_cell BK244.out 6).trans rfl
                  have hfz41_0 := blk_frozen BK244.out 0
                  have hfz41_1 := blk_frozen BK244.out 1
                  have hfz41_2 := blk_frozen BK244.out 2
                  have hfz41_3 := blk_frozen BK244.out 3
                  have hfz41_4 := blk_frozen BK244.out 4
                  have hfz41_5 := blk_frozen BK244.out 5
                  have hfz41_6 := blk_frozen BK244.out 6
                  have p251 : 0 ≤ (x10_5 : Int) := of_decide_eq_true (by first | (with_reducible assumption) | assumption)
                  have q251 : x10_5 < (l0_6.length : Int) := of_decide_eq_true (by first | (with_reducible assumption) | assumption)
                  obtain ⟨ad251, e251, hx251_0⟩ := Kd.at_string HR0_6.out x10_5 p251 q251
                  cases e251
                  replace hx251_0 := (HB.out.cell (World.block_lt_of_cell? w _ hx251_0)).trans hx251_0
                  replace p251 := eq_true p251
                  replace q251 := eq_true q251
                  go_wp2_with (first | ((with_reducible refine gate_dst (N := 105) rfl ?_); refine Kd.R_lit (Kd.int .u8) _ 5 ?hg (N := 105) ?hd (xs := ([(((rdOf ByteArray.empty l0_6 x10_5).size : Int)) % 256] : List Int)) (inner := [.int .u8 ((((rdOf ByteArray.empty l0_6 x10_5).size : Int)) % 256)]) (ok := fun _ => True) (okp := fun _ => True) ?hr ?hp (fun _ hk => hk) trivial (Below.refl _ _) (Nat.le_refl _) (by simp) ?_; (case hd => rfl); (case hg => rfl); (case hr => first | (go_simp; done) | (go_simp; rfl)); (case hp => exact (Reps.one (show Kd.M (Kd.int .u8) _ _ _ ((((rdOf ByteArray.empty l0_6 x10_5).size : Int)) % 256) [.int .u8 ((((rdOf ByteArray.empty l0_6 x10_5).size : Int)) % 256)] from rfl) (Reps.none _ _))); intro v253 w42 ho43 hb hg_ hnew_; clear hg_ hnew_; (first | rw [← Ny252.out] at ho43 | (simp only [Int.reduceToNat] at ho43; rw [← Ny252.out] at ho43)); have n0_ := Aside0.mk (Kd.R_lower ho43 (below_size (by repeat (first | (with_reducible first | exact HB.out | apply below_alloc | apply pw_below_drewN | apply below_drew1 | refine below_set ?_ GE244.out) | exact HB.out)))); have n1_ := Aside0.mk (blk_below (g := gb244) (o := .cells #[.string a0_0, .int .u16 a0_1, .int .u16 a0_2, .int .u32 a0_3, .slice A0_4 l0_4.length c0_4, .slice A0_5 l0_5.length c0_5, .slice (some ad251) l0_6.length c0_6] 27 (0, 0)) (by (with_reducible repeat (first | refine blk_drewN ?_ _ | refine blk_drew ?_ | refine blk_alloc ?_ _)); exact BK244.out) hb); have n2_ := Aside0.mk (below_step (by repeat (first | (with_reducible first | exact HB.out | apply below_alloc | apply pw_below_drewN | apply below_drew1 | refine below_set ?_ GE244.out) | exact HB.out)) hb); clear BK244; clear HB; have HO254 := n0_; have BK244 := n1_; have HB := n2_; clear n0_ n1_ n2_; clear hb ho43; have hcv44 := own_string (P := Try.prog) Try.underlying44 Try.underlying5 Try.underlying9 (Kd.own_of_R HO254.out); have hcz45_0 : w42.cell? ⟨gb244, 0, none⟩ = some (.string a0_0) := (blk_cell BK244.out 0).trans rfl; have hcz45_1 : w42.cell? ⟨gb244, 1, none⟩ = some (.int .u16 a0_1) := (blk_cell BK244.out 1).trans rfl; have hcz45_2 : w42.cell? ⟨gb244, 2, none⟩ = some (.int .u16 a0_2) := (blk_cell BK244.out 2).trans rfl; have hcz45_3 : w42.cell? ⟨gb244, 3, none⟩ = some (.int .u32 a0_3) := (blk_cell BK244.out 3).trans rfl; have hcz45_4 : w42.cell? ⟨gb244, 4, none⟩ = some (.slice A0_4 l0_4.length c0_4) := (blk_cell BK244.out 4).trans rfl; have hcz45_5 : w42.cell? ⟨gb244, 5, none⟩ = some (.slice A0_5 l0_5.length c0_5) := (blk_cell BK244.out 5).trans rfl; have hcz45_6 : w42.cell? ⟨gb244, 6, none⟩ = some (.slice (some ad251) l0_6.length c0_6) := (blk_cell BK244.out 6).trans rfl; have hfz45_0 := blk_frozen BK244.out 0; have hfz45_1 := blk_frozen BK244.out 1; have hfz45_2 := blk_frozen BK244.out 2; have hfz45_3 := blk_frozen BK244.out 3; have hfz45_4 := blk_frozen BK244.out 4; have hfz45_5 := blk_frozen BK244.out 5; have hfz45_6 := blk_frozen BK244.out 6; have p255 : 0 ≤ (x10_5 : Int) := of_decide_eq_true (by first | (with_reducible assumption) | assumption); have q255 : x10_5 < (l0_6.length : Int) := of_decide_eq_true (by first | (with_reducible assumption) | assumption); obtain ⟨ad255, e255, hx255_0⟩ := Kd.at_string HR0_6.out x10_5 p255 q255; obtain rfl : ad251 = ad255 := (by injection e255); replace hx255_0 := (HB.out.cell (World.block_lt_of_cell? w _ hx255_0)).trans hx255_0; replace p255 := eq_true p255; replace q255 := eq_true q255))
                  go_roundg k5
                  case measure => have := HK1.out; have := HJ11.out; have := HK3.out; have := HJ25.out; have := HK5.out; omega
                  case rel => exact ⟨((x6_5 ++ (strOfNums y252)) ++ (rdOf ByteArray.empty l0_6 x10_5)), (wrap64 (x10_5 + 1)), (by first | rfl | (simp; done) | (simp [*]; done)), (by first | rfl | (simp; done) | (simp [*]; done)), H', ⟨by have := HK1.out; have := HJ11.out; have := HK3.out; have := HJ25.out; have := HK5.out; omega⟩, ⟨by (with_reducible repeat (first | refine blk_drewN ?_ _ | refine blk_drew ?_ | refine blk_alloc ?_ _)); exact BK244.out⟩, ⟨by repeat (first | (with_reducible first | exact HB.out | apply below_alloc | apply pw_below_drewN | apply below_drew1 | refine below_set ?_ GE244.out) | exact HB.out)⟩⟩
                 ·
                  rw [if_neg c40] at H
                  exact absurd H (by simp)
                ·
                 rw [if_neg c39] at H
                 exact absurd H (by simp)
               ·
                rw [if_neg c38] at H
                exact absurd H (by simp)
              ·
               rw [if_neg c37] at H
               have c37b0 : (a0_1 == 16) = false := beq_eq_false_iff_ne.mpr c37
               have c37b1 : (a0_1 != 16) = true := bne_iff_ne.mpr c37
               by_cases c46 : 0 ≤ x10_5
               ·
                rw [if_pos c46] at H
                have c46b0 : decide (0 ≤ x10_5) = true := decide_eq_true c46
                clear c46
                by_cases c47 : x6_5.size + (rdOf ByteArray.empty l0_6 x10_5).size ≤ 9223372036854775807
                ·
                 rw [if_pos c47] at H
                 have c47b0 := eq_true c47
                 have c47b1 : decide (x6_5.size + (rdOf ByteArray.empty l0_6 x10_5).size ≤ 9223372036854775807) = true := decide_eq_true c47
                 try have c47b2 : (9223372036854775807 < x6_5.size + (rdOf ByteArray.empty l0_6 x10_5).size) = False := eq_false (Nat.not_lt.2 c47)
                 have H' := Aside0.mk H
                 clear H
                 have hcz48_0 : wr.cell? ⟨gb244, 0, none⟩ = some (.string a0_0) := (blk_cell BK244.out 0).trans rfl
                 have hcz48_1 : wr.cell? ⟨gb244, 1, none⟩ = some (.int .u16 a0_1) := (blk_cell BK244.out 1).trans rfl
                 have hcz48_2 : wr.cell? ⟨gb244, 2, none⟩ = some (.int .u16 a0_2) := (blk_cell BK244.out 2).trans rfl
                 have hcz48_3 : wr.cell? ⟨gb244, 3, none⟩ = some (.int .u32 a0_3) := (blk_cell BK244.out 3).trans rfl
                 have hcz48_4 : wr.cell? ⟨gb244, 4, none⟩ = some (.slice A0_4 l0_4.length c0_4) := (blk_cell BK244.out 4).trans rfl
                 have hcz48_5 : wr.cell? ⟨gb244, 5, none⟩ = some (.slice A0_5 l0_5.length c0_5) := (blk_cell BK244.out 5).trans rfl
                 have hcz48_6 : wr.cell? ⟨gb244, 6, none⟩ = some (.slice A0_6 l0_6.length c0_6) := (blk_cell BK244.out 6).trans rfl
                 have hfz48_0 := blk_frozen BK244.out 0
                 have hfz48_1 := blk_frozen BK244.out 1
                 have hfz48_2 := blk_frozen BK244.out 2
                 have hfz48_3 := blk_frozen BK244.out 3
                 have hfz48_4 := blk_frozen BK244.out 4
                 have hfz48_5 := blk_frozen BK244.out 5
                 have hfz48_6 := blk_frozen BK244.out 6
                 have p256 : 0 ≤ (x10_5 : Int) := of_decide_eq_true (by first | (with_reducible assumption) | assumption)
                 have q256 : x10_5 < (l0_6.length : Int) := of_decide_eq_true (by first | (with_reducible assumption) | assumption)
                 obtain ⟨ad256, e256, hx256_0⟩ := Kd.at_string HR0_6.out x10_5 p256 q256
                 cases e256
                 replace hx256_0 := (HB.out.cell (World.block_lt_of_cell? w _ hx256_0)).trans hx256_0
                 replace p256 := eq_true p256
                 replace q256 := eq_true q256
                 go_wp2
                 go_roundg k5
                 case measure => have := HK1.out; have := HJ11.out; have := HK3.out; have := HJ25.out; have := HK5.out; omega
                 case rel => exact ⟨(x6_5 ++ (rdOf ByteArray.empty l0_6 x10_5)), (wrap64 (x10_5 + 1)), (by first | rfl | (simp; done) | (simp [*]; done)), (by first | rfl | (simp; done) | (simp [*]; done)), H', ⟨by have := HK1.out; have := HJ11.out; have := HK3.out; have := HJ25.out; have := HK5.out; omega⟩, ⟨by (with_reducible repeat (first | refine blk_drewN ?_ _ | refine blk_drew ?_ | refine blk_alloc ?_ _)); exact BK244.out⟩, ⟨by repeat (first | (with_reducible first | exact HB.out | apply below_alloc | apply pw_below_drewN | apply below_drew1 | refine below_set ?_ GE244.out) | exact HB.out)⟩⟩
                ·
                 rw [if_neg c47] at H
                 exact absurd H (by simp)
               ·
                rw [if_neg c46] at H
                exact absurd H (by simp)
             ·
              rw [if_neg c36] at H
              have c36b0 : decide (x10_5 < (l0_6.length : Int)) = false := decide_eq_false c36
              clear c36
              simp only [Option.some.injEq, Prod.mk.injEq] at H
              obtain ⟨rfl, rfl⟩ := H
              have hcz49_0 : wr.cell? ⟨gb244, 0, none⟩ = some (.string a0_0) := (blk_cell BK244.out 0).trans rfl
              have hcz49_1 : wr.cell? ⟨gb244, 1, none⟩ = some (.int .u16 a0_1) := (blk_cell BK244.out 1).trans rfl
              have hcz49_2 : wr.cell? ⟨gb244, 2, none⟩ = some (.int .u16 a0_2) := (blk_cell BK244.out 2).trans rfl
              have hcz49_3 : wr.cell? ⟨gb244, 3, none⟩ = some (.int .u32 a0_3) := (blk_cell BK244.out 3).trans rfl
              have hcz49_4 : wr.cell? ⟨gb244, 4, none⟩ = some (.slice A0_4 l0_4.length c0_4) := (blk_cell BK244.out 4).trans rfl
              have hcz49_5 : wr.cell? ⟨gb244, 5, none⟩ = some (.slice A0_5 l0_5.length c0_5) := (blk_cell BK244.out 5).trans rfl
              have hcz49_6 : wr.cell? ⟨gb244, 6, none⟩ = some (.slice A0_6 l0_6.length c0_6) := (blk_cell BK244.out 6).trans rfl
              have hfz49_0 := blk_frozen BK244.out 0
              have hfz49_1 := blk_frozen BK244.out 1
              have hfz49_2 := blk_frozen BK244.out 2
              have hfz49_3 := blk_frozen BK244.out 3
              have hfz49_4 := blk_frozen BK244.out 4
              have hfz49_5 := blk_frozen BK244.out 5
              have hfz49_6 := blk_frozen BK244.out 6
              go_wp2
              go_ret2
              exact ⟨by first | rfl | (simp [errW_none, errW_some] <;> rfl) | (simp [*, errW_none, errW_some] <;> rfl), by repeat (first | (with_reducible first | exact HB.out | apply below_alloc | apply pw_below_drewN | apply below_drew1 | refine below_set ?_ GE244.out) | exact HB.out)⟩

end Go.Proofs.Ytebnbjnkameicaa.Mine
