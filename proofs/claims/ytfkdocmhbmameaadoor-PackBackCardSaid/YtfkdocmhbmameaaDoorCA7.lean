/- The walks and the plain laws that the rows come to: merged out of this repo's texts. -/
import Derived.Test.YtfkdocmhbmameaaDoorProg
import Derived.Below
import Derived.Deep.Draws
import Derived.Deep.AppendLies
import Derived.Maps.AppendAt
import Derived.OwnWalk
import Derived.Laws.BytesArg
import Derived.Laws.MakeOwn
import Derived.Laws.OwnMore
import Derived.Deep.OwnRows
import Derived.Tactics
import Derived.Lib.ConvBytes
import Derived.Laws.Slices
import Derived.WalkKit
import Derived.KernelRfl
import Derived.RowKit3
import Derived.Deep.LoopGhost
import Derived.Deep.QuietTactic
import Derived.BigQuiet
import Derived.WideLaws
import Derived.Deep.DeepCutAuto
import Derived.Deep.CutBlock
import Derived.Deep.RegionHeld3
import Derived.Laws.Rows
import Derived.Lib.AppendStr
import Derived.ArgAppend
import Derived.Laws.IdiomCopy
import Derived.RowKit
import Derived.OrdersHeld
import Derived.Laws.BitsLemmas
import Derived.Laws.StructEq
import Derived.Laws.CopyOwn
import Derived.SizedLaws
import Derived.ChangeSlices
import Derived.Deep.Slices
import Derived.Lib.SmallJoins
import Derived.Lib.OthersKept
import Derived.Lib.AppendZerosOnto
import Derived.WalkSpells
import Derived.Shelf.Utf8.RuneCount
import Derived.Shelf.Strings.Search1
import Derived.Shelf.Strings.Search2
import Derived.Shelf.Strings.Search3
import Derived.Shelf.Strings.Cut
import Derived.Shelf.Strings.Count
import Derived.Shelf.LaysM
import Derived.Shelf.Strings.Shaped
import Derived.Shelf.Strings.Split
import Derived.Shelf.Strings.SplitShaped
import Derived.Shelf.Unicode.Decode
import Derived.Shelf.Strings.RuneCount
import Derived.Shelf.Strings.Explode
import Derived.Shelf.Unicode.DecodeSlow
import Derived.Shelf.Unicode.DecodeAny
import Derived.Test.YtfkdocmhbmameaaDoorCA1
import Derived.Test.YtfkdocmhbmameaaDoorCA2
import Derived.Test.YtfkdocmhbmameaaDoorCA3
import Derived.Test.YtfkdocmhbmameaaDoorCA5
import Derived.Test.YtfkdocmhbmameaaDoorCA6
namespace Go.Proofs.YtfkdocmhbmameaaDoor.Mine
open Go.RowKit Go.Proofs.YtfkdocmhbmameaaDoorW.PrintWords Go.Proofs.YtfkdocmhbmameaaDoorW.PrintLast Go.Proofs.YtfkdocmhbmameaaDoorW.PrintMore
attribute [local go_sem] max2_int min2_int max_two min_two max_three min_three max_four min_four
set_option linter.unusedVariables false
set_option linter.unusedSimpArgs false
mutual
def huff_Decode.l0 : Nat → ByteArray → List Int → Int → Int → Bool → Int → Int → Option (ByteArray × Int)
 | 0, _, _, _, _, _, _, _ => none
 | k + 1, x0, x5, x6, x7, x8, x15, x16 => if x16 < x15 then (if 0 ≤ (x16 / 8) then (if (x16 / 8) < (x0.size : Int) then (if 0 ≤ (wrap64 (7 - (Go.bits .and .i64 x16 7))) then (if x8 = true then (huff_Decode.j1 k x0 x5 (Go.bits .or .u32 ((x6 * 2) % 4294967296) (Go.bits .and .u32 ((shr .u8 (bt x0 (x16 / 8)) (wrap64 (7 - (Go.bits .and .i64 x16 7)))) % 4294967296) 1)) (wrap64 (x7 + 1)) ((Go.bits .and .u32 ((shr .u8 (bt x0 (x16 / 8)) (wrap64 (7 - (Go.bits .and .i64 x16 7)))) % 4294967296) 1) == 1) x15 x16) else (huff_Decode.j1 k x0 x5 (Go.bits .or .u32 ((x6 * 2) % 4294967296) (Go.bits .and .u32 ((shr .u8 (bt x0 (x16 / 8)) (wrap64 (7 - (Go.bits .and .i64 x16 7)))) % 4294967296) 1)) (wrap64 (x7 + 1)) false x15 x16)) else (none)) else (none)) else (none)) else (if x7 > 7 then (some ((⟨#[]⟩ : ByteArray), 91)) else (if x8 = true then (some (strOfNums x5, 0)) else (some ((⟨#[]⟩ : ByteArray), 91))))
def huff_Decode.j1 : Nat → ByteArray → List Int → Int → Int → Bool → Int → Int → Option (ByteArray × Int)
 | 0, _, _, _, _, _, _, _ => none
 | k + 1, x0, x5, x6, x7, x8, x15, x16 => if x7 < 5 then (huff_Decode.j2 k x0 x5 x6 x7 x8 x15 x16 true) else (if 0 ≤ x7 then (if x7 < 31 then (if x6 < (hb1 x7) then (huff_Decode.j2 k x0 x5 x6 x7 x8 x15 x16 true) else (huff_Decode.j2 k x0 x5 x6 x7 x8 x15 x16 (decide (((x6 - (hb1 x7)) % 4294967296) ≥ ((hb2 x7) % 4294967296))))) else (none)) else (none))
def huff_Decode.j2 : Nat → ByteArray → List Int → Int → Int → Bool → Int → Int → Bool → Option (ByteArray × Int)
 | 0, _, _, _, _, _, _, _, _ => none
 | k + 1, x0, x5, x6, x7, x8, x15, x16, x69 => if x69 = true then (huff_Decode.l0 k x0 x5 x6 x7 x8 x15 (wrap64 (x16 + 1))) else (if 0 ≤ x7 then (if x7 < 31 then (if 0 ≤ (wrap64 ((hb3 x7) + ((x6 - (hb1 x7)) % 4294967296))) then (if (wrap64 ((hb3 x7) + ((x6 - (hb1 x7)) % 4294967296))) < 257 then (if (hb4 (wrap64 ((hb3 x7) + ((x6 - (hb1 x7)) % 4294967296)))) = 256 then (some ((⟨#[]⟩ : ByteArray), 91)) else (if x5.length < 140737488355328 then (huff_Decode.l0 k x0 (x5 ++ [(hb4 (wrap64 ((hb3 x7) + ((x6 - (hb1 x7)) % 4294967296)))) % 256]) 0 0 true x15 (wrap64 (x16 + 1))) else (none))) else (none)) else (none)) else (none)) else (none))
end
def huff_Decode.f (k : Nat) (a0 : ByteArray) : Option (ByteArray × Int) := (huff_made.f).bind fun _ => (huff_Decode.l0 k a0 ([] : List Int) 0 0 true (wrap64 (8 * (a0.size : Int))) 0)
theorem huff_Decode.mono_l : ∀ k, (∀ y0 y1 y2 y3 y4 y5 y6, LeO (huff_Decode.l0 k y0 y1 y2 y3 y4 y5 y6) (huff_Decode.l0 (k + 1) y0 y1 y2 y3 y4 y5 y6)) ∧ (∀ y0 y1 y2 y3 y4 y5 y6, LeO (huff_Decode.j1 k y0 y1 y2 y3 y4 y5 y6) (huff_Decode.j1 (k + 1) y0 y1 y2 y3 y4 y5 y6)) ∧ (∀ y0 y1 y2 y3 y4 y5 y6 y7, LeO (huff_Decode.j2 k y0 y1 y2 y3 y4 y5 y6 y7) (huff_Decode.j2 (k + 1) y0 y1 y2 y3 y4 y5 y6 y7))
 | 0 => ⟨fun _ _ _ _ _ _ _ r h => by simp [huff_Decode.l0] at h, fun _ _ _ _ _ _ _ r h => by simp [huff_Decode.j1] at h, fun _ _ _ _ _ _ _ _ r h => by simp [huff_Decode.j2] at h⟩
 | k + 1 => by
  obtain ⟨ih0, ih1, ih2⟩ := huff_Decode.mono_l k
  refine ⟨?_, ?_, ?_⟩
  ·
   intro y0 y1 y2 y3 y4 y5 y6
   unfold huff_Decode.l0
   repeat' first
   | (with_reducible exact ih0 _ _ _ _ _ _ _)
   | (with_reducible exact ih1 _ _ _ _ _ _ _)
   | (with_reducible exact ih2 _ _ _ _ _ _ _ _)
   | (with_reducible exact LeO.refl _)
   | (with_reducible exact LeO.none _)
   | (with_reducible refine LeO.ite ?_ ?_)
   | (with_reducible refine LeO.bind ?_ (fun _ => ?_))
   | exact ih0 _ _ _ _ _ _ _
   | exact ih1 _ _ _ _ _ _ _
   | exact ih2 _ _ _ _ _ _ _ _
   | exact LeO.none _
   | refine LeO.ite ?_ ?_
   | refine LeO.bind ?_ (fun _ => ?_)
  ·
   intro y0 y1 y2 y3 y4 y5 y6
   unfold huff_Decode.j1
   repeat' first
   | (with_reducible exact ih0 _ _ _ _ _ _ _)
   | (with_reducible exact ih1 _ _ _ _ _ _ _)
   | (with_reducible exact ih2 _ _ _ _ _ _ _ _)
   | (with_reducible exact LeO.refl _)
   | (with_reducible exact LeO.none _)
   | (with_reducible refine LeO.ite ?_ ?_)
   | (with_reducible refine LeO.bind ?_ (fun _ => ?_))
   | exact ih0 _ _ _ _ _ _ _
   | exact ih1 _ _ _ _ _ _ _
   | exact ih2 _ _ _ _ _ _ _ _
   | exact LeO.none _
   | refine LeO.ite ?_ ?_
   | refine LeO.bind ?_ (fun _ => ?_)
  ·
   intro y0 y1 y2 y3 y4 y5 y6 y7
   unfold huff_Decode.j2
   repeat' first
   | (with_reducible exact ih0 _ _ _ _ _ _ _)
   | (with_reducible exact ih1 _ _ _ _ _ _ _)
   | (with_reducible exact ih2 _ _ _ _ _ _ _ _)
   | (with_reducible exact LeO.refl _)
   | (with_reducible exact LeO.none _)
   | (with_reducible refine LeO.ite ?_ ?_)
   | (with_reducible refine LeO.bind ?_ (fun _ => ?_))
   | exact ih0 _ _ _ _ _ _ _
   | exact ih1 _ _ _ _ _ _ _
   | exact ih2 _ _ _ _ _ _ _ _
   | exact LeO.none _
   | refine LeO.ite ?_ ?_
   | refine LeO.bind ?_ (fun _ => ?_)
theorem huff_Decode.mono : ∀ a0 k, LeO (huff_Decode.f k a0) (huff_Decode.f (k + 1) a0) := by
 intro a0 k
 obtain ⟨ih0, ih1, ih2⟩ := huff_Decode.mono_l k
 unfold huff_Decode.f
 repeat' first
   | (with_reducible exact ih0 _ _ _ _ _ _ _)
   | (with_reducible exact ih1 _ _ _ _ _ _ _)
   | (with_reducible exact ih2 _ _ _ _ _ _ _ _)
   | (with_reducible exact LeO.refl _)
   | (with_reducible exact LeO.none _)
   | (with_reducible refine LeO.ite ?_ ?_)
   | (with_reducible refine LeO.bind ?_ (fun _ => ?_))
   | exact ih0 _ _ _ _ _ _ _
   | exact ih1 _ _ _ _ _ _ _
   | exact ih2 _ _ _ _ _ _ _ _
   | exact LeO.none _
   | refine LeO.ite ?_ ?_
   | refine LeO.bind ?_ (fun _ => ?_)
set_option maxHeartbeats 8000000 in
set_option maxRecDepth 100000 in
theorem huff_Decode.calls (k : Nat) (a0 : ByteArray) (r1 : ByteArray) (r2 : Int) (w : World) (h : huff_Decode.f k a0 = some (r1, r2)) :
  Calls Tryd.prog 87 #[.string a0] w fun e w' => e = .returned (.tuple #[.string r1, .int .i64 r2]) ∧ Below w.heap.size w w' := by
 have HB := Aside0.mk (Below.refl w.heap.size w)
 have H : ((huff_made.f).bind fun _ => (huff_Decode.l0 k a0 ([] : List Int) 0 0 true (wrap64 (8 * (a0.size : Int))) 0)) = some (r1, r2) := h
 clear h
 replace H := Option.bind_eq_some_iff.mp H
 obtain ⟨_, A20, H⟩ := H
 replace H : (huff_Decode.l0 k a0 ([] : List Int) 0 0 true (wrap64 (8 * (a0.size : Int))) 0) = some (r1, r2) := H
 have A2 := Aside0.mk A20
 clear A20
 have H' := Aside0.mk H
 clear H
 go_enter Tryd.func87, Tryd.ntmps87
 go_wp2_with (first | (go_at_call 93; (with_reducible refine (huff_made.calls   w _ ?side1 A2.out).mono ?_); (case side1 => repeat (first | (with_reducible first | exact HB.out | apply below_alloc | apply pw_below_drewN | apply below_drew1) | exact HB.out)); rintro e w3 ⟨g381, rfl, hi, hb, hb2⟩; have n0_ := Aside0.mk (hb); have n1_ := Aside0.mk (hi); clear HB; have HB := n0_; have HI381 := n1_; clear n0_ n1_; (try clear hb); (try clear hb2); (try clear hk); (try clear hi)))
 repeat (go_quiet (first | (go_at_call 93; (with_reducible refine (huff_made.calls   w _ ?side1 A2.out).mono ?_); (case side1 => repeat (first | (with_reducible first | exact HB.out | apply below_alloc | apply pw_below_drewN | apply below_drew1) | exact HB.out)); rintro e w3 ⟨g381, rfl, hi, hb, hb2⟩; have n0_ := Aside0.mk (hb); have n1_ := Aside0.mk (hi); clear HB; have HB := n0_; have HI381 := n1_; clear n0_ n1_; (try clear hb); (try clear hb2); (try clear hk); (try clear hi))); try go_wp2_with (first | (go_at_call 93; (with_reducible refine (huff_made.calls   w _ ?side1 A2.out).mono ?_); (case side1 => repeat (first | (with_reducible first | exact HB.out | apply below_alloc | apply pw_below_drewN | apply below_drew1) | exact HB.out)); rintro e w3 ⟨g381, rfl, hi, hb, hb2⟩; have n0_ := Aside0.mk (hb); have n1_ := Aside0.mk (hi); clear HB; have HB := n0_; have HI381 := n1_; clear n0_ n1_; (try clear hb); (try clear hb2); (try clear hk); (try clear hi))))
 go_loopg [5, 6, 7, 8, 16] k (fun kq v5 v6 v7 v8 v16 w' => ∃ (x5_1 : List Int) (x6_1 : Int) (x7_1 : Int) (x8_1 : Bool) (x16_1 : Int), v6 = .int .u32 x6_1 ∧ v7 = .int .i64 x7_1 ∧ v8 = .bool x8_1 ∧ v16 = .int .i64 x16_1 ∧ Aside0 (huff_Decode.l0 kq a0 x5_1 x6_1 x7_1 x8_1 (wrap64 (8 * (a0.size : Int))) x16_1 = some (r1, r2)) ∧ Aside0 (kq ≤ k) ∧ Aside0 (Kd.R (Kd.int .u8) 5 w' w.heap.size (fun _ => True) v5 x5_1) ∧ Aside0 (IsS149 w w' g381 ) ∧ Aside0 (Below w.heap.size w w'))
 case atStart => exact ⟨(([] : List Int)), (0), (0), (true), (0), (by first | rfl | (simp; done) | (simp [*]; done)), (by first | rfl | (simp; done) | (simp [*]; done)), (by first | rfl | (simp; done) | (simp [*]; done)), (by first | rfl | (simp; done) | (simp [*]; done)), H', ⟨Nat.le_refl _⟩, ⟨by first | exact Kd.R_nil _ _ _ _ _ | exact Kd.N_nil _ _ _ _ _ | exact Kd.V_nil _ _ _ _ _ | exact Kd.Q_nil _ _ _ _ _ | exact Kd.S_nil _ _ _ _ _⟩, ⟨by repeat (first | (with_reducible first | exact HI381.out | apply IsS149.alloc | apply IsS149.drewN | apply IsS149.drew) | exact HI381.out)⟩, ⟨by repeat (first | (with_reducible first | exact HB.out | apply below_alloc | apply pw_below_drewN | apply below_drew1 | refine below_set ?_ (IsS149.ge HI381.out)) | exact HB.out)⟩⟩
 case round =>
  clear H'
  try clear p2
  obtain ⟨x5_1, x6_1, x7_1, x8_1, x16_1, rfl, rfl, rfl, rfl, HA, HK1, HO_5, HI381, HB⟩ := hrel
  cases gk with
  | zero => exact absurd HA.out (by simp [huff_Decode.l0])
  | succ k1 =>
   have H := HA.out
   clear HA
   simp only [huff_Decode.l0] at H
   by_cases c4 : x16_1 < (wrap64 (8 * (a0.size : Int)))
   ·
    rw [if_pos c4] at H
    have c4b0 : decide (x16_1 < (wrap64 (8 * (a0.size : Int)))) = true := decide_eq_true c4
    clear c4
    obtain ⟨ji5, hji5⟩ : ∃ j_ : Int, (x16_1 / 8) = j_ := ⟨_, rfl⟩
    replace H : (if 0 ≤ (ji5) then (if (ji5) < (a0.size : Int) then (if 0 ≤ (wrap64 (7 - (Go.bits .and .i64 x16_1 7))) then (if x8_1 = true then (huff_Decode.j1 k1 a0 x5_1 (Go.bits .or .u32 ((x6_1 * 2) % 4294967296) (Go.bits .and .u32 ((shr .u8 (bt a0 (ji5)) (wrap64 (7 - (Go.bits .and .i64 x16_1 7)))) % 4294967296) 1)) (wrap64 (x7_1 + 1)) ((Go.bits .and .u32 ((shr .u8 (bt a0 (ji5)) (wrap64 (7 - (Go.bits .and .i64 x16_1 7)))) % 4294967296) 1) == 1) (wrap64 (8 * (a0.size : Int))) x16_1) else (huff_Decode.j1 k1 a0 x5_1 (Go.bits .or .u32 ((x6_1 * 2) % 4294967296) (Go.bits .and .u32 ((shr .u8 (bt a0 (ji5)) (wrap64 (7 - (Go.bits .and .i64 x16_1 7)))) % 4294967296) 1)) (wrap64 (x7_1 + 1)) false (wrap64 (8 * (a0.size : Int))) x16_1)) else (none)) else (none)) else (none)) = some (r1, r2) := by first | (rw [hji5] at H; exact H) | (simp only [hji5] at H ⊢; exact H)
    by_cases c6 : 0 ≤ (ji5)
    ·
     rw [if_pos c6] at H
     have c6b0 : decide (0 ≤ (ji5)) = true := decide_eq_true c6
     clear c6
     by_cases c7 : (ji5) < (a0.size : Int)
     ·
      rw [if_pos c7] at H
      have c7b0 : decide ((ji5) < (a0.size : Int)) = true := decide_eq_true c7
      clear c7
      obtain ⟨ji9, hji9⟩ : ∃ j_ : Int, (wrap64 (7 - (Go.bits .and .i64 x16_1 7))) = j_ := ⟨_, rfl⟩
      replace H : (if 0 ≤ (ji9) then (if x8_1 = true then (huff_Decode.j1 k1 a0 x5_1 (Go.bits .or .u32 ((x6_1 * 2) % 4294967296) (Go.bits .and .u32 ((shr .u8 (bt a0 (ji5)) (ji9)) % 4294967296) 1)) (wrap64 (x7_1 + 1)) ((Go.bits .and .u32 ((shr .u8 (bt a0 (ji5)) (ji9)) % 4294967296) 1) == 1) (wrap64 (8 * (a0.size : Int))) x16_1) else (huff_Decode.j1 k1 a0 x5_1 (Go.bits .or .u32 ((x6_1 * 2) % 4294967296) (Go.bits .and .u32 ((shr .u8 (bt a0 (ji5)) (ji9)) % 4294967296) 1)) (wrap64 (x7_1 + 1)) false (wrap64 (8 * (a0.size : Int))) x16_1)) else (none)) = some (r1, r2) := by first | (rw [hji9] at H; exact H) | (simp only [hji9] at H ⊢; exact H)
      have hji9w : (IntKind.i64.wrap (7 - (Go.bits .and .i64 x16_1 7))) = ji9 := (i64_w _).trans hji9
      by_cases c10 : 0 ≤ (ji9)
      ·
       rw [if_pos c10] at H
       have c10b0 := eq_true c10
       have c10b1 : decide (0 ≤ (ji9)) = true := decide_eq_true c10
       clear c10
       obtain ⟨ji11, hji11⟩ : ∃ j_ : Int, (shr .u8 (bt a0 (ji5)) (ji9)) = j_ := ⟨_, rfl⟩
       replace H : (if x8_1 = true then (huff_Decode.j1 k1 a0 x5_1 (Go.bits .or .u32 ((x6_1 * 2) % 4294967296) (Go.bits .and .u32 ((ji11) % 4294967296) 1)) (wrap64 (x7_1 + 1)) ((Go.bits .and .u32 ((ji11) % 4294967296) 1) == 1) (wrap64 (8 * (a0.size : Int))) x16_1) else (huff_Decode.j1 k1 a0 x5_1 (Go.bits .or .u32 ((x6_1 * 2) % 4294967296) (Go.bits .and .u32 ((ji11) % 4294967296) 1)) (wrap64 (x7_1 + 1)) false (wrap64 (8 * (a0.size : Int))) x16_1)) = some (r1, r2) := by first | (rw [hji11] at H; exact H) | (simp only [hji11] at H ⊢; exact H)
       have hji11_ : ((bt a0 (ji5)) / 2 ^ min (ji9).toNat 8) = ji11 := hji11
       have hji11z : (ji9) ≤ 8 → ((bt a0 (ji5)) / 2 ^ (ji9).toNat) = ji11 := shr_small hji11
       have HC12 := Aside0.mk H
       clear H
       have p8 : 0 ≤ ((ji5) : Int) := of_decide_eq_true (by first | (with_reducible assumption) | assumption)
       have q8 : (ji5) < (a0.size : Int) := of_decide_eq_true (by first | (with_reducible assumption) | assumption)
       have hx8 := bt_at a0 (ji5)
       replace p8 := eq_true p8
       replace q8 := eq_true q8
       go_upto_region 8 with (fail)
       repeat (go_quiet (fail); go_upto_region 8 with (fail))
       go_cut [6, 7, 8] (fun v6 v7 v8 wc => ∃ (kq : Nat) (x6_11 : Int) (x7_11 : Int) (x8_11 : Bool), v6 = .int .u32 x6_11 ∧ v7 = .int .i64 x7_11 ∧ v8 = .bool x8_11 ∧ Aside0 (huff_Decode.j1 kq a0 x5_1 x6_11 x7_11 x8_11 (wrap64 (8 * (a0.size : Int))) x16_1 = some (r1, r2)) ∧ Aside0 (kq ≤ k1) ∧ Aside0 (Kd.R (Kd.int .u8) 5 wc w.heap.size (fun _ => True) u5 x5_1) ∧ Aside0 (IsS149 w wc g381 ) ∧ Aside0 (Below w.heap.size w wc))
       case first =>
        have H := HC12.out
        clear HC12
        by_cases c13 : x8_1 = true
        ·
         subst c13
         have H1 : (huff_Decode.j1 k1 a0 x5_1 (Go.bits .or .u32 ((x6_1 * 2) % 4294967296) (Go.bits .and .u32 ((ji11) % 4294967296) 1)) (wrap64 (x7_1 + 1)) ((Go.bits .and .u32 ((ji11) % 4294967296) 1) == 1) (wrap64 (8 * (a0.size : Int))) x16_1) = some (r1, r2) := by rw [if_pos rfl] at H; exact H
         clear H
         have H := H1
         clear H1
         have H' := Aside0.mk H
         clear H
         go_wp2
         repeat (go_quiet (fail); try go_wp2)
         go_meet
         case rel => exact ⟨_, (Go.bits .or .u32 ((x6_1 * 2) % 4294967296) (Go.bits .and .u32 ((ji11) % 4294967296) 1)), (wrap64 (x7_1 + 1)), (((Go.bits .and .u32 ((ji11) % 4294967296) 1) == 1)), (by first | rfl | (simp; done) | (simp only [← hji11] <;> (first | rfl | simp)) | (simp [*]; done)), (by first | rfl | (simp; done) | (simp [*]; done)), (by first | rfl | (simp; done) | (simp only [← hji11] <;> (first | rfl | simp)) | (simp [*]; done)), H', ⟨by have := HK1.out; first | omega | exact Nat.le_refl _⟩, ⟨by (with_reducible repeat (first | apply Kd.R_alloc | apply Kd.R_drewN | apply Kd.R_drew)); exact HO_5.out⟩, ⟨by repeat (first | (with_reducible first | exact HI381.out | apply IsS149.alloc | apply IsS149.drewN | apply IsS149.drew) | exact HI381.out)⟩, ⟨by repeat (first | (with_reducible first | exact HB.out | apply below_alloc | apply pw_below_drewN | apply below_drew1 | refine below_set ?_ (IsS149.ge HI381.out)) | exact HB.out)⟩⟩
        ·
         replace c13 := Bool.eq_false_iff.mpr c13
         subst c13
         have H1 : (huff_Decode.j1 k1 a0 x5_1 (Go.bits .or .u32 ((x6_1 * 2) % 4294967296) (Go.bits .and .u32 ((ji11) % 4294967296) 1)) (wrap64 (x7_1 + 1)) false (wrap64 (8 * (a0.size : Int))) x16_1) = some (r1, r2) := by rw [if_neg (show ¬ (false = true) by decide)] at H; exact H
         clear H
         have H := H1
         clear H1
         have H' := Aside0.mk H
         clear H
         go_wp2
         repeat (go_quiet (fail); try go_wp2)
         go_meet
         case rel => exact ⟨_, (Go.bits .or .u32 ((x6_1 * 2) % 4294967296) (Go.bits .and .u32 ((ji11) % 4294967296) 1)), (wrap64 (x7_1 + 1)), (false), (by first | rfl | (simp; done) | (simp only [← hji11] <;> (first | rfl | simp)) | (simp [*]; done)), (by first | rfl | (simp; done) | (simp [*]; done)), (by first | rfl | (simp; done) | (simp [*]; done)), H', ⟨by have := HK1.out; first | omega | exact Nat.le_refl _⟩, ⟨by (with_reducible repeat (first | apply Kd.R_alloc | apply Kd.R_drewN | apply Kd.R_drew)); exact HO_5.out⟩, ⟨by repeat (first | (with_reducible first | exact HI381.out | apply IsS149.alloc | apply IsS149.drewN | apply IsS149.drew) | exact HI381.out)⟩, ⟨by repeat (first | (with_reducible first | exact HB.out | apply below_alloc | apply pw_below_drewN | apply below_drew1 | refine below_set ?_ (IsS149.ge HI381.out)) | exact HB.out)⟩⟩
       case rest =>
        clear HC12
        try clear c1
        try clear p2
        try clear c4
        try clear c4b0
        try clear c6
        try clear c6b0
        try clear p6
        try clear c7
        try clear c7b0
        try clear c8
        try clear p8
        try clear q8
        try clear hx8
        try clear c10
        try clear c10b0
        try clear c10b1
        try clear c13
        try clear p2
        try clear p8
        try clear q8
        obtain ⟨kq, x6_11, x7_11, x8_11, rfl, rfl, rfl, HA, HJ11, HO_5, HI381, HB⟩ := hcut
        cases kq with
        | zero => exact absurd HA.out (by simp [huff_Decode.j1])
        | succ kj11 =>
         have H := HA.out
         clear HA
         simp only [huff_Decode.j1] at H
         have HC14 := Aside0.mk H
         clear H
         go_upto_region 9 with (fail)
         repeat (go_quiet (fail); go_upto_region 9 with (fail))
         go_cut [69] (fun v69 wc => ∃ (kq : Nat) (x69_13 : Bool), v69 = .bool x69_13 ∧ Aside0 (huff_Decode.j2 kq a0 x5_1 x6_11 x7_11 x8_11 (wrap64 (8 * (a0.size : Int))) x16_1 x69_13 = some (r1, r2)) ∧ Aside0 (kq ≤ kj11) ∧ Aside0 (Kd.R (Kd.int .u8) 5 wc w.heap.size (fun _ => True) u5 x5_1) ∧ Aside0 (IsS149 w wc g381 ) ∧ Aside0 (Below w.heap.size w wc))
         case first =>
          have H := HC14.out
          clear HC14
          by_cases c15 : x7_11 < 5
          ·
           rw [if_pos c15] at H
           have c15b0 : decide (x7_11 < 5) = true := decide_eq_true c15
           clear c15
           (first | rw [c15b0] | rw [c15b1] | (simp only [i64_w, i32_w]; rw [c15b0]) | skip)
           have H' := Aside0.mk H
           clear H
           go_wp2
           repeat (go_quiet (fail); try go_wp2)
           go_meet
           case rel => exact ⟨_, (true), (by first | rfl | (simp; done) | (simp [*]; done)), H', ⟨by have := HK1.out; have := HJ11.out; first | omega | exact Nat.le_refl _⟩, ⟨by (with_reducible repeat (first | apply Kd.R_alloc | apply Kd.R_drewN | apply Kd.R_drew)); exact HO_5.out⟩, ⟨by repeat (first | (with_reducible first | exact HI381.out | apply IsS149.alloc | apply IsS149.drewN | apply IsS149.drew) | exact HI381.out)⟩, ⟨by repeat (first | (with_reducible first | exact HB.out | apply below_alloc | apply pw_below_drewN | apply below_drew1 | refine below_set ?_ (IsS149.ge HI381.out)) | exact HB.out)⟩⟩
          ·
           rw [if_neg c15] at H
           have c15b0 : decide (x7_11 < 5) = false := decide_eq_false c15
           clear c15
           (first | rw [c15b0] | rw [c15b1] | (simp only [i64_w, i32_w]; rw [c15b0]) | skip)
           by_cases c16 : 0 ≤ x7_11
           ·
            rw [if_pos c16] at H
            have c16b0 : decide (0 ≤ x7_11) = true := decide_eq_true c16
            clear c16
            by_cases c17 : x7_11 < 31
            ·
             rw [if_pos c17] at H
             have c17b0 : decide (x7_11 < 31) = true := decide_eq_true c17
             clear c17
             by_cases c19 : x6_11 < (hb1 x7_11)
             ·
              rw [if_pos c19] at H
              have c19b0 : decide (x6_11 < (hb1 x7_11)) = true := decide_eq_true c19
              clear c19
              have H' := Aside0.mk H
              clear H
              have p18 : 0 ≤ (x7_11 : Int) := (by first | omega | exact (of_decide_eq_true (by first | (with_reducible assumption) | assumption)))
              have q18 : (x7_11 : Int) < 31 := (by first | omega | exact (of_decide_eq_true (by first | (with_reducible assumption) | assumption)))
              have hx18_0 := hb1_at HI381.out x7_11 p18 q18
              replace p18 := eq_true p18
              replace q18 := eq_true q18
              go_wp2
              repeat (go_quiet (fail); try go_wp2)
              go_meet
              case rel => exact ⟨_, (true), (by first | rfl | (simp; done) | (simp [*]; done)), H', ⟨by have := HK1.out; have := HJ11.out; first | omega | exact Nat.le_refl _⟩, ⟨by (with_reducible repeat (first | apply Kd.R_alloc | apply Kd.R_drewN | apply Kd.R_drew)); exact HO_5.out⟩, ⟨by repeat (first | (with_reducible first | exact HI381.out | apply IsS149.alloc | apply IsS149.drewN | apply IsS149.drew) | exact HI381.out)⟩, ⟨by repeat (first | (with_reducible first | exact HB.out | apply below_alloc | apply pw_below_drewN | apply below_drew1 | refine below_set ?_ (IsS149.ge HI381.out)) | exact HB.out)⟩⟩
             ·
              rw [if_neg c19] at H
              have c19b0 : decide (x6_11 < (hb1 x7_11)) = false := decide_eq_false c19
              clear c19
              have H' := Aside0.mk H
              clear H
              have p18 : 0 ≤ (x7_11 : Int) := (by first | omega | exact (of_decide_eq_true (by first | (with_reducible assumption) | assumption)))
              have q18 : (x7_11 : Int) < 31 := (by first | omega | exact (of_decide_eq_true (by first | (with_reducible assumption) | assumption)))
              have hx18_0 := hb1_at HI381.out x7_11 p18 q18
              replace p18 := eq_true p18
              replace q18 := eq_true q18
              have p20 : 0 ≤ (x7_11 : Int) := (by first | omega | exact (of_decide_eq_true (by first | (with_reducible assumption) | assumption)))
              have q20 : (x7_11 : Int) < 31 := (by first | omega | exact (of_decide_eq_true (by first | (with_reducible assumption) | assumption)))
              have hx20_0 := hb1_at HI381.out x7_11 p20 q20
              replace p20 := eq_true p20
              replace q20 := eq_true q20
              have p21 : 0 ≤ (x7_11 : Int) := (by first | omega | exact (of_decide_eq_true (by first | (with_reducible assumption) | assumption)))
              have q21 : (x7_11 : Int) < 31 := (by first | omega | exact (of_decide_eq_true (by first | (with_reducible assumption) | assumption)))
              have hx21_0 := hb2_at HI381.out x7_11 p21 q21
              replace p21 := eq_true p21
              replace q21 := eq_true q21
              go_wp2
              repeat (go_quiet (fail); try go_wp2)
              go_meet
              case rel => exact ⟨_, (decide (((x6_11 - (hb1 x7_11)) % 4294967296) ≥ ((hb2 x7_11) % 4294967296))), (by first | rfl | (simp; done) | (simp [*]; done)), H', ⟨by have := HK1.out; have := HJ11.out; first | omega | exact Nat.le_refl _⟩, ⟨by (with_reducible repeat (first | apply Kd.R_alloc | apply Kd.R_drewN | apply Kd.R_drew)); exact HO_5.out⟩, ⟨by repeat (first | (with_reducible first | exact HI381.out | apply IsS149.alloc | apply IsS149.drewN | apply IsS149.drew) | exact HI381.out)⟩, ⟨by repeat (first | (with_reducible first | exact HB.out | apply below_alloc | apply pw_below_drewN | apply below_drew1 | refine below_set ?_ (IsS149.ge HI381.out)) | exact HB.out)⟩⟩
            ·
             rw [if_neg c17] at H
             exact absurd H (by simp)
           ·
            rw [if_neg c16] at H
            exact absurd H (by simp)
         case rest =>
          clear HC14
          try clear c1
          try clear p1
          try clear q1
          try clear hx1
          try clear p2
          try clear q2
          try clear hx2
          try clear c4
          try clear c4b0
          try clear c6
          try clear c6b0
          try clear p6
          try clear c7
          try clear c7b0
          try clear c8
          try clear p8
          try clear q8
          try clear hx8
          try clear c10
          try clear c10b0
          try clear c10b1
          try clear c13
          try clear c15
          try clear c15b0
          try clear c15b1
          try clear c16
          try clear c16b0
          try clear c17
          try clear c17b0
          try clear p18
          try clear q18
          try clear hx18
          try clear c19
          try clear c19b0
          try clear p20
          try clear q20
          try clear hx20
          try clear p21
          try clear q21
          try clear hx21
          try clear hx18_0
          try clear hx20_0
          try clear hx21_0
          try clear p18
          try clear p2
          try clear p20
          try clear p21
          try clear p6
          try clear p8
          try clear q18
          try clear q20
          try clear q21
          try clear q8
          obtain ⟨kq, x69_13, rfl, HA, HJ13, HO_5, HI381, HB⟩ := hcut
          cases kq with
          | zero => exact absurd HA.out (by simp [huff_Decode.j2])
          | succ kj13 =>
           have H := HA.out
           clear HA
           simp only [huff_Decode.j2] at H
           by_cases c22 : x69_13 = true
           ·
            subst c22
            have H1 : (huff_Decode.l0 kj13 a0 x5_1 x6_11 x7_11 x8_11 (wrap64 (8 * (a0.size : Int))) (wrap64 (x16_1 + 1))) = some (r1, r2) := by rw [if_pos rfl] at H; exact H
            clear H
            have H := H1
            clear H1
            have H' := Aside0.mk H
            clear H
            go_wp2
            repeat (go_quiet (fail); try go_wp2)
            go_roundg kj13
            case measure => have := HK1.out; have := HJ11.out; have := HJ13.out; omega
            case rel => exact ⟨(x5_1), (x6_11), (x7_11), (x8_11), (wrap64 (x16_1 + 1)), (by first | rfl | (simp; done) | (simp [*]; done)), (by first | rfl | (simp; done) | (simp [*]; done)), (by first | rfl | (simp; done) | (simp [*]; done)), (by first | rfl | (simp; done) | (simp [*]; done)), H', ⟨by have := HK1.out; have := HJ11.out; have := HJ13.out; omega⟩, ⟨by (with_reducible repeat (first | apply Kd.R_alloc | apply Kd.R_drewN | apply Kd.R_drew)); exact HO_5.out⟩, ⟨by repeat (first | (with_reducible first | exact HI381.out | apply IsS149.alloc | apply IsS149.drewN | apply IsS149.drew) | exact HI381.out)⟩, ⟨by repeat (first | (with_reducible first | exact HB.out | apply below_alloc | apply pw_below_drewN | apply below_drew1 | refine below_set ?_ (IsS149.ge HI381.out)) | exact HB.out)⟩⟩
           ·
            replace c22 := Bool.eq_false_iff.mpr c22
            subst c22
            have H1 : (if 0 ≤ x7_11 then (if x7_11 < 31 then (if 0 ≤ (wrap64 ((hb3 x7_11) + ((x6_11 - (hb1 x7_11)) % 4294967296))) then (if (wrap64 ((hb3 x7_11) + ((x6_11 - (hb1 x7_11)) % 4294967296))) < 257 then (if (hb4 (wrap64 ((hb3 x7_11) + ((x6_11 - (hb1 x7_11)) % 4294967296)))) = 256 then (some ((⟨#[]⟩ : ByteArray), 91)) else (if x5_1.length < 140737488355328 then (huff_Decode.l0 kj13 a0 (x5_1 ++ [(hb4 (wrap64 ((hb3 x7_11) + ((x6_11 - (hb1 x7_11)) % 4294967296)))) % 256]) 0 0 true (wrap64 (8 * (a0.size : Int))) (wrap64 (x16_1 + 1))) else (none))) else (none)) else (none)) else (none)) else (none)) = some (r1, r2) := by rw [if_neg (show ¬ (false = true) by decide)] at H; exact H
            clear H
            have H := H1
            clear H1
            by_cases c23 : 0 ≤ x7_11
            ·
             rw [if_pos c23] at H
             have c23b0 : decide (0 ≤ x7_11) = true := decide_eq_true c23
             clear c23
             by_cases c24 : x7_11 < 31
             ·
              rw [if_pos c24] at H
              have c24b0 : decide (x7_11 < 31) = true := decide_eq_true c24
              clear c24
              obtain ⟨ji27, hji27⟩ : ∃ j_ : Int, (wrap64 ((hb3 x7_11) + ((x6_11 - (hb1 x7_11)) % 4294967296))) = j_ := ⟨_, rfl⟩
              replace H : (if 0 ≤ (ji27) then (if (ji27) < 257 then (if (hb4 (ji27)) = 256 then (some ((⟨#[]⟩ : ByteArray), 91)) else (if x5_1.length < 140737488355328 then (huff_Decode.l0 kj13 a0 (x5_1 ++ [(hb4 (ji27)) % 256]) 0 0 true (wrap64 (8 * (a0.size : Int))) (wrap64 (x16_1 + 1))) else (none))) else (none)) else (none)) = some (r1, r2) := by first | (rw [hji27] at H; exact H) | (simp only [hji27] at H ⊢; exact H)
              have hji27w : (IntKind.i64.wrap ((hb3 x7_11) + ((x6_11 - (hb1 x7_11)) % 4294967296))) = ji27 := (i64_w _).trans hji27
              by_cases c28 : 0 ≤ (ji27)
              ·
               rw [if_pos c28] at H
               have c28b0 : decide (0 ≤ (ji27)) = true := decide_eq_true c28
               clear c28
               by_cases c29 : (ji27) < 257
               ·
                rw [if_pos c29] at H
                have c29b0 : decide ((ji27) < 257) = true := decide_eq_true c29
                clear c29
                by_cases c31 : (hb4 (ji27)) = 256
                ·
                 rw [if_pos c31] at H
                 have c31b0 : ((hb4 (ji27)) == 256) = true := beq_iff_eq.mpr c31
                 have c31b1 : ((hb4 (ji27)) != 256) = false := bne_eq_false_iff_eq.mpr c31
                 clear c31
                 simp only [Option.some.injEq, Prod.mk.injEq] at H
                 obtain ⟨rfl, rfl⟩ := H
                 have p25 : 0 ≤ (x7_11 : Int) := (by first | omega | exact (of_decide_eq_true (by first | (with_reducible assumption) | assumption)))
                 have q25 : (x7_11 : Int) < 31 := (by first | omega | exact (of_decide_eq_true (by first | (with_reducible assumption) | assumption)))
                 have hx25_0 := hb3_at HI381.out x7_11 p25 q25
                 replace p25 := eq_true p25
                 replace q25 := eq_true q25
                 have p26 : 0 ≤ (x7_11 : Int) := (by first | omega | exact (of_decide_eq_true (by first | (with_reducible assumption) | assumption)))
                 have q26 : (x7_11 : Int) < 31 := (by first | omega | exact (of_decide_eq_true (by first | (with_reducible assumption) | assumption)))
                 have hx26_0 := hb1_at HI381.out x7_11 p26 q26
                 replace p26 := eq_true p26
                 replace q26 := eq_true q26
                 have p30 : 0 ≤ ((ji27) : Int) := (by first | omega | exact (of_decide_eq_true (by first | (with_reducible assumption) | assumption)))
                 have q30 : ((ji27) : Int) < 257 := (by first | omega | exact (of_decide_eq_true (by first | (with_reducible assumption) | assumption)))
                 have hx30_0 := hb4_at HI381.out (ji27) p30 q30
                 replace p30 := eq_true p30
                 replace q30 := eq_true q30
                 go_wp2
                 repeat (go_quiet (fail); try go_wp2)
                 go_ret2
                 exact ⟨by first | rfl | (simp [errW_none, errW_some] <;> rfl) | (simp only [← hji5, ← hji9, ← hji11, ← hji27]; first | rfl | (simp [errW_none, errW_some] <;> rfl)) | (simp [*, errW_none, errW_some] <;> rfl), by repeat (first | (with_reducible first | exact HB.out | apply below_alloc | apply pw_below_drewN | apply below_drew1 | refine below_set ?_ (IsS149.ge HI381.out)) | exact HB.out)⟩
                ·
                 rw [if_neg c31] at H
                 have c31b0 : ((hb4 (ji27)) == 256) = false := beq_eq_false_iff_ne.mpr c31
                 have c31b1 : ((hb4 (ji27)) != 256) = true := bne_iff_ne.mpr c31
                 by_cases c32 : x5_1.length < 140737488355328
                 ·
                  rw [if_pos c32] at H
                  have LMc32 := Aside0.mk c32
                  clear c32
                  obtain ⟨y382, hy382⟩ : ∃ y_ : List Int, y_ = (x5_1 ++ [(hb4 (ji27)) % 256]) := ⟨_, rfl⟩
                  replace H : (huff_Decode.l0 kj13 a0 y382 0 0 true (wrap64 (8 * (a0.size : Int))) (wrap64 (x16_1 + 1))) = some (r1, r2) := by first | (rw [hy382]; with_reducible exact H) | (have H2_ := (Option.bind_some _ _).symm.trans H; rw [hy382]; with_reducible exact H2_) | (have H2_ := (Option.bind_some _ _).symm.trans H; with_reducible exact H2_) | with_reducible exact H | (rw [hy382]; exact H) | exact H
                  have Ny382 := Aside0.mk hy382
                  clear hy382
                  have H' := Aside0.mk H
                  clear H
                  have p25 : 0 ≤ (x7_11 : Int) := (by first | omega | exact (of_decide_eq_true (by first | (with_reducible assumption) | assumption)))
                  have q25 : (x7_11 : Int) < 31 := (by first | omega | exact (of_decide_eq_true (by first | (with_reducible assumption) | assumption)))
                  have hx25_0 := hb3_at HI381.out x7_11 p25 q25
                  replace p25 := eq_true p25
                  replace q25 := eq_true q25
                  have p26 : 0 ≤ (x7_11 : Int) := (by first | omega | exact (of_decide_eq_true (by first | (with_reducible assumption) | assumption)))
                  have q26 : (x7_11 : Int) < 31 := (by first | omega | exact (of_decide_eq_true (by first | (with_reducible assumption) | assumption)))
                  have hx26_0 := hb1_at HI381.out x7_11 p26 q26
                  replace p26 := eq_true p26
                  replace q26 := eq_true q26
                  have p30 : 0 ≤ ((ji27) : Int) := (by first | omega | exact (of_decide_eq_true (by first | (with_reducible assumption) | assumption)))
                  have q30 : ((ji27) : Int) < 257 := (by first | omega | exact (of_decide_eq_true (by first | (with_reducible assumption) | assumption)))
                  have hx30_0 := hb4_at HI381.out (ji27) p30 q30
                  replace p30 := eq_true p30
                  replace q30 := eq_true q30
                  go_wp2_with (first | ((with_reducible refine gate_builtin (b := .append) (xs := #[.tmp 93, .tmp 96]) rfl ?_); at_builtin; refine Kd.R_append (Kd.int .u8) (w0 := w) w.heap.size rfl (.tmp 93) (.tmp 96) 71 5 (.int .u8 0) 1 rfl Tryd.underlying71 info5 rfl (by decide) (by omega) u5 x5_1 ((hb4 (ji27)) % 256) [.int .u8 ((hb4 (ji27)) % 256)] (fun _ => True) (fun _ => False) rfl rfl ?aP (fun _ hk => hk.elim) ?aF ?aO ?aB ?aS ?aL ?_; (case aP => exact rfl); (case aB => exact (by repeat (first | (with_reducible first | exact HB.out | apply below_alloc | apply pw_below_drewN | apply below_drew1 | refine below_set ?_ (IsS149.ge HI381.out)) | exact HB.out))); (case aF => exact (fun _ _ => trivial)); (case aO => exact (by (with_reducible repeat (first | apply Kd.R_alloc | apply Kd.R_drewN | apply Kd.R_drew)); exact HO_5.out)); (case aS => exact (below_size (by repeat (first | (with_reducible first | exact HB.out | apply below_alloc | apply pw_below_drewN | apply below_drew1 | refine below_set ?_ (IsS149.ge HI381.out)) | exact HB.out)))); (case aL => have := LMc32.out; omega); intro v383 w33 ho hb hg hat; rw [← Ny382.out] at ho; have n0_ := Aside0.mk (IsS149.grown (w0 := w) (by repeat (first | (with_reducible first | exact HI381.out | apply IsS149.alloc | apply IsS149.drewN | apply IsS149.drew) | exact HI381.out)) hg (IsS149.own_ne HI381.out HO_5.out (by decide))); have n1_ := Aside0.mk (hb); have n2_ := Aside0.mk (ho); clear HI381; clear HB; clear HO_5; have HI381 := n0_; have HB := n1_; have HO384 := n2_; clear n0_ n1_ n2_; clear ho hb hg hat))
                  repeat (go_quiet (first | ((with_reducible refine gate_builtin (b := .append) (xs := #[.tmp 93, .tmp 96]) rfl ?_); at_builtin; refine Kd.R_append (Kd.int .u8) (w0 := w) w.heap.size rfl (.tmp 93) (.tmp 96) 71 5 (.int .u8 0) 1 rfl Tryd.underlying71 info5 rfl (by decide) (by omega) u5 x5_1 ((hb4 (ji27)) % 256) [.int .u8 ((hb4 (ji27)) % 256)] (fun _ => True) (fun _ => False) rfl rfl ?aP (fun _ hk => hk.elim) ?aF ?aO ?aB ?aS ?aL ?_; (case aP => exact rfl); (case aB => exact (by repeat (first | (with_reducible first | exact HB.out | apply below_alloc | apply pw_below_drewN | apply below_drew1 | refine below_set ?_ (IsS149.ge HI381.out)) | exact HB.out))); (case aF => exact (fun _ _ => trivial)); (case aO => exact (by (with_reducible repeat (first | apply Kd.R_alloc | apply Kd.R_drewN | apply Kd.R_drew)); exact HO_5.out)); (case aS => exact (below_size (by repeat (first | (with_reducible first | exact HB.out | apply below_alloc | apply pw_below_drewN | apply below_drew1 | refine below_set ?_ (IsS149.ge HI381.out)) | exact HB.out)))); (case aL => have := LMc32.out; omega); intro v383 w33 ho hb hg hat; rw [← Ny382.out] at ho; have n0_ := Aside0.mk (IsS149.grown (w0 := w) (by repeat (first | (with_reducible first | exact HI381.out | apply IsS149.alloc | apply IsS149.drewN | apply IsS149.drew) | exact HI381.out)) hg (IsS149.own_ne HI381.out HO_5.out (by decide))); have n1_ := Aside0.mk (hb); have n2_ := Aside0.mk (ho); clear HI381; clear HB; clear HO_5; have HI381 := n0_; have HB := n1_; have HO384 := n2_; clear n0_ n1_ n2_; clear ho hb hg hat)); try go_wp2_with (first | ((with_reducible refine gate_builtin (b := .append) (xs := #[.tmp 93, .tmp 96]) rfl ?_); at_builtin; refine Kd.R_append (Kd.int .u8) (w0 := w) w.heap.size rfl (.tmp 93) (.tmp 96) 71 5 (.int .u8 0) 1 rfl Tryd.underlying71 info5 rfl (by decide) (by omega) u5 x5_1 ((hb4 (ji27)) % 256) [.int .u8 ((hb4 (ji27)) % 256)] (fun _ => True) (fun _ => False) rfl rfl ?aP (fun _ hk => hk.elim) ?aF ?aO ?aB ?aS ?aL ?_; (case aP => exact rfl); (case aB => exact (by repeat (first | (with_reducible first | exact HB.out | apply below_alloc | apply pw_below_drewN | apply below_drew1 | refine below_set ?_ (IsS149.ge HI381.out)) | exact HB.out))); (case aF => exact (fun _ _ => trivial)); (case aO => exact (by (with_reducible repeat (first | apply Kd.R_alloc | apply Kd.R_drewN | apply Kd.R_drew)); exact HO_5.out)); (case aS => exact (below_size (by repeat (first | (with_reducible first | exact HB.out | apply below_alloc | apply pw_below_drewN | apply below_drew1 | refine below_set ?_ (IsS149.ge HI381.out)) | exact HB.out)))); (case aL => have := LMc32.out; omega); intro v383 w33 ho hb hg hat; rw [← Ny382.out] at ho; have n0_ := Aside0.mk (IsS149.grown (w0 := w) (by repeat (first | (with_reducible first | exact HI381.out | apply IsS149.alloc | apply IsS149.drewN | apply IsS149.drew) | exact HI381.out)) hg (IsS149.own_ne HI381.out HO_5.out (by decide))); have n1_ := Aside0.mk (hb); have n2_ := Aside0.mk (ho); clear HI381; clear HB; clear HO_5; have HI381 := n0_; have HB := n1_; have HO384 := n2_; clear n0_ n1_ n2_; clear ho hb hg hat)))
                  go_roundg kj13
                  case measure => have := HK1.out; have := HJ11.out; have := HJ13.out; omega
                  case rel => exact ⟨(y382), (0), (0), (true), (wrap64 (x16_1 + 1)), (by first | rfl | (simp; done) | (simp [*]; done)), (by first | rfl | (simp; done) | (simp [*]; done)), (by first | rfl | (simp; done) | (simp [*]; done)), (by first | rfl | (simp; done) | (simp [*]; done)), H', ⟨by have := HK1.out; have := HJ11.out; have := HJ13.out; omega⟩, ⟨by (with_reducible repeat (first | apply Kd.R_alloc | apply Kd.R_drewN | apply Kd.R_drew)); exact HO384.out⟩, ⟨by repeat (first | (with_reducible first | exact HI381.out | apply IsS149.alloc | apply IsS149.drewN | apply IsS149.drew) | exact HI381.out)⟩, ⟨by repeat (first | (with_reducible first | exact HB.out | apply below_alloc | apply pw_below_drewN | apply below_drew1 | refine below_set ?_ (IsS149.ge HI381.out)) | exact HB.out)⟩⟩
                 ·
                  rw [if_neg c32] at H
                  exact absurd H (by simp)
               ·
                rw [if_neg c29] at H
                exact absurd H (by simp)
              ·
               rw [if_neg c28] at H
               exact absurd H (by simp)
             ·
              rw [if_neg c24] at H
              exact absurd H (by simp)
            ·
             rw [if_neg c23] at H
             exact absurd H (by simp)
      ·
       rw [if_neg c10] at H
       exact absurd H (by simp)
     ·
      rw [if_neg c7] at H
      exact absurd H (by simp)
    ·
     rw [if_neg c6] at H
     exact absurd H (by simp)
   ·
    rw [if_neg c4] at H
    have c4b0 : decide (x16_1 < (wrap64 (8 * (a0.size : Int)))) = false := decide_eq_false c4
    clear c4
    by_cases c34 : x7_1 > 7
    ·
     rw [if_pos c34] at H
     have c34b0 : decide (7 < x7_1) = true := decide_eq_true c34
     clear c34
     simp only [Option.some.injEq, Prod.mk.injEq] at H
     obtain ⟨rfl, rfl⟩ := H
     go_wp2
     repeat (go_quiet (fail); try go_wp2)
     go_ret2
     exact ⟨by first | rfl | (simp [errW_none, errW_some] <;> rfl) | (simp [*, errW_none, errW_some] <;> rfl), by repeat (first | (with_reducible first | exact HB.out | apply below_alloc | apply pw_below_drewN | apply below_drew1 | refine below_set ?_ (IsS149.ge HI381.out)) | exact HB.out)⟩
    ·
     rw [if_neg c34] at H
     have c34b0 : decide (7 < x7_1) = false := decide_eq_false c34
     clear c34
     by_cases c35 : x8_1 = true
     ·
      subst c35
      have H1 : (some (strOfNums x5_1, 0)) = some (r1, r2) := by rw [if_pos rfl] at H; exact H
      clear H
      have H := H1
      clear H1
      simp only [Option.some.injEq, Prod.mk.injEq] at H
      obtain ⟨rfl, rfl⟩ := H
      have hcv36 := own_string (P := Tryd.prog) Tryd.underlying71 Tryd.underlying5 Tryd.underlying9 (Kd.own_of_R HO_5.out)
      have hcv37 := fun (n_ : Nat) => own_string (P := Tryd.prog) Tryd.underlying71 Tryd.underlying5 Tryd.underlying9 (Kd.own_of_R (Kd.R_drewN HO_5.out n_))
      go_wp2
      repeat (go_quiet (fail); try go_wp2)
      go_ret2
      exact ⟨by first | rfl | (simp [errW_none, errW_some] <;> rfl) | (simp [*, errW_none, errW_some] <;> rfl), by repeat (first | (with_reducible first | exact HB.out | apply below_alloc | apply pw_below_drewN | apply below_drew1 | refine below_set ?_ (IsS149.ge HI381.out)) | exact HB.out)⟩
     ·
      replace c35 := Bool.eq_false_iff.mpr c35
      subst c35
      have H1 : (some ((⟨#[]⟩ : ByteArray), 91)) = some (r1, r2) := by rw [if_neg (show ¬ (false = true) by decide)] at H; exact H
      clear H
      have H := H1
      clear H1
      simp only [Option.some.injEq, Prod.mk.injEq] at H
      obtain ⟨rfl, rfl⟩ := H
      go_wp2
      repeat (go_quiet (fail); try go_wp2)
      go_ret2
      exact ⟨by first | rfl | (simp [errW_none, errW_some] <;> rfl) | (simp [*, errW_none, errW_some] <;> rfl), by repeat (first | (with_reducible first | exact HB.out | apply below_alloc | apply pw_below_drewN | apply below_drew1 | refine below_set ?_ (IsS149.ge HI381.out)) | exact HB.out)⟩
end Go.Proofs.YtfkdocmhbmameaaDoor.Mine
namespace Go.Proofs.YtfkdocmhbmameaaDoor.Mine
open Go.RowKit Go.Proofs Go.Proofs.YtfkdocmhbmameaaDoorW.PrintWords Go.Proofs.YtfkdocmhbmameaaDoorW.PrintLast Go.Proofs.YtfkdocmhbmameaaDoorW.PrintMore
attribute [local go_sem] max2_int min2_int max_two min_two max_three min_three max_four min_four
set_option linter.unusedVariables false
set_option linter.unusedSimpArgs false
def upText0 (k : Nat) (s : ByteArray) (a : Int) : Option (Except Int (ByteArray × Int)) :=
  (prefix_Get.f k s a 7).bind fun p => if p.2.2 = 0 then ((num_Part.f s p.2.1 (wrap64 p.1)).bind fun q => if q.2 = true then (if (decide (a < (s.size : Int)) && decide (bt s a ≥ 128)) = true then ((huff_Decode.f k q.1).bind fun d => if d.2 = 0 then some (.ok (d.1, wrap64 (p.2.1 + wrap64 p.1))) else some (.error d.2)) else some (.ok (q.1, wrap64 (p.2.1 + wrap64 p.1)))) else some (.error 2)) else some (.error p.2.2)
def PostT (g gt : Nat) (s : ByteArray) (r : Except Int (ByteArray × Int)) (en : Ending) (w' : World) : Prop := match r with
  | .error e => en = UP e
  | .ok p => en = .returned (.string p.1) ∧ IsB w' g gt s p.2
set_option maxHeartbeats 4000000 in
set_option maxRecDepth 100000 in
theorem up_text0 (k g gt : Nat) (s : ByteArray) (a : Int) (r : Except Int (ByteArray × Int)) (w0 w : World) (hI : IsB w g gt s a) (hg : w0.heap.size ≤ g) (hB : Below w0.heap.size w0 w) (ha : 0 ≤ a) (h : upText0 k s a = some r) :
    Calls Tryd.prog 76 #[.pointer (some ⟨g, 0, none⟩)] w fun en w' => Below w0.heap.size w0 w' ∧ KeepBut w w' g none ∧ PostT g gt s r en w' := by
  obtain ⟨pk, hpk⟩ : ∃ b : Bool, (decide (a < (s.size : Int)) && decide (bt s a ≥ 128)) = b := ⟨_, rfl⟩
  unfold upText0 at h
  rw [hpk] at h
  obtain ⟨⟨n, next, e⟩, h1, h2⟩ := Option.bind_eq_some_iff.mp h
  simp only at h2
  have A1 := Aside0.mk h1
  have A2 := Aside0.mk h2
  have HP := Aside0.mk hpk
  have HI := Aside0.mk hI
  have HB := Aside0.mk hB
  have HK := Aside0.mk (KeepBut.refl w g none)
  have c1 := hI.c1
  have c2 := hI.c2
  clear h h1 h2 hI hB hpk
  go_enter Tryd.func76, Tryd.ntmps76
  go_upto_region 1 with (fail)
  go_cut [3] (fun v3 wc => v3 = .bool pk ∧ Aside0 (IsB wc g gt s a) ∧ Aside0 (Below w0.heap.size w0 wc) ∧ Aside0 (KeepBut w wc g none))
  case first =>
    have hpk := HP.out
    by_cases c5 : a < (s.size : Int)
    · have c5b0 : decide (a < (s.size : Int)) = true := decide_eq_true c5
      rw [c5b0, Bool.true_and] at hpk
      have p7 := eq_true ha
      have q7 := eq_true c5
      have hx7 := bt_at s a
      clear HP c5
      go_wp2
      repeat (go_quiet (fail); try go_wp2)
      go_meet
      case rel => exact ⟨by first | (rw [← hpk]; done) | (simp [← hpk]; done) | (rw [← hpk]; simp), ⟨HI.out⟩, ⟨pw_below_drewN HB.out _⟩, ⟨keep_drewN HK.out _⟩⟩
    · have c5b0 : decide (a < (s.size : Int)) = false := decide_eq_false c5
      rw [c5b0, Bool.false_and] at hpk
      subst hpk
      clear c5
      go_wp2
      repeat (go_quiet (fail); try go_wp2)
      go_meet
      case rel => exact ⟨rfl, ⟨HI.out⟩, ⟨pw_below_drewN HB.out _⟩, ⟨keep_drewN HK.out _⟩⟩
  case rest =>
    obtain ⟨rfl, HI, HB, HK⟩ := hcut
    have c1 := HI.out.c1
    have c2 := HI.out.c2
    have h2 := A2.out
    by_cases he : e = 0
    · subst he
      rw [if_pos rfl] at h2
      obtain ⟨⟨t, ok⟩, h3, h4⟩ := Option.bind_eq_some_iff.mp h2
      simp only at h4
      have A3 := Aside0.mk h3
      have A4 := Aside0.mk h4
      clear A2 h2 h3 h4
      cases ok with
      | false =>
        have h4 := A4.out
        rw [if_neg (by decide)] at h4
        obtain rfl := Option.some.inj h4
        clear A4 h4
        go_wp2_with (first | (go_at_call 64; (with_reducible refine (up_number_ok k g gt s a 7 n next w0 _ HI.out hg HB.out A1.out).mono ?_); rintro en w1 ⟨rfl, hi, hb, hk⟩; have HI2 := Aside0.mk hi; have HB2 := Aside0.mk hb; have HK2 := Aside0.mk (tb_keep2 HK.out hk); clear hi hb hk; have d1 := HI2.out.c1; have d2 := HI2.out.c2; have e2 := blk_frozen HI2.out 2))
        go_quiet (first | (go_at_call 86; (with_reducible refine (num_Part.calls s next (wrap64 n) t false _ A3.out).mono ?_); rintro en w' ⟨rfl, ⟨nd, rfl⟩⟩; (try first | exact ⟨rfl, _, World.drewN_drewN _ _ _⟩ | exact ⟨rfl, _, Eq.trans (World.drewN_drewN _ _ _) (congrArg (World.drewN _) (Nat.add_assoc _ _ _))⟩)))
        go_wp2
        exact ⟨rfl, pw_below_drewN HB2.out _, keep_drewN HK2.out _, rfl⟩
      | true =>
        have h4 := A4.out
        simp only [if_true] at h4
        have A4 := Aside0.mk h4
        clear h4
        go_wp2_with (first | (go_at_call 64; (with_reducible refine (up_number_ok k g gt s a 7 n next w0 _ HI.out hg HB.out A1.out).mono ?_); rintro en w1 ⟨rfl, hi, hb, hk⟩; have HI2 := Aside0.mk hi; have HB2 := Aside0.mk hb; have HK2 := Aside0.mk (tb_keep2 HK.out hk); clear hi hb hk; have d1 := HI2.out.c1; have d2 := HI2.out.c2; have e2 := blk_frozen HI2.out 2))
        go_quiet (first | (go_at_call 86; (with_reducible refine (num_Part.calls s next (wrap64 n) t true _ A3.out).mono ?_); rintro en w' ⟨rfl, ⟨nd, rfl⟩⟩; (try first | exact ⟨rfl, _, World.drewN_drewN _ _ _⟩ | exact ⟨rfl, _, Eq.trans (World.drewN_drewN _ _ _) (congrArg (World.drewN _) (Nat.add_assoc _ _ _))⟩)))
        cases pk with
        | false =>
          have h4 := A4.out
          simp only [Bool.false_eq_true, if_false] at h4
          obtain rfl := Option.some.inj h4
          clear A4 h4
          go_wp2
          go_ret
          exact ⟨below_set (pw_below_drewN HB2.out _) hg, tb_keeps (keep_drewN HK2.out _), rfl, IsB.set2 (show IsB (w1.drewN _) g gt s next from HI2.out) _⟩
        | true =>
          have h4 := A4.out
          simp only [if_true] at h4
          obtain ⟨⟨d, e2⟩, h5, h6⟩ := Option.bind_eq_some_iff.mp h4
          simp only at h6
          have A5 := Aside0.mk h5
          clear A4 h4 h5
          go_upto_region 9 with fail
          have HI3 := Aside0.mk (IsB.set2 (show IsB (w1.drewN nq) g gt s next from HI2.out) (wrap64 (next + wrap64 n)))
          have HB3 := Aside0.mk (below_set (g := g) (j := 2) (v := .int .i64 (wrap64 (next + wrap64 n))) (pw_below_drewN HB2.out nq) hg)
          have HK3 := Aside0.mk (tb_keeps (j := 2) (v := .int .i64 (wrap64 (next + wrap64 n))) (keep_drewN HK2.out nq))
          generalize (w1.drewN nq).setCell ⟨g, 2, none⟩ (.int .i64 (wrap64 (next + wrap64 n))) = w3 at HI3 HB3 HK3 ⊢
          by_cases hd : e2 = 0
          · subst hd
            rw [if_pos rfl] at h6
            obtain rfl := Option.some.inj h6
            clear h6
            go_wp2_with (first | (go_at_call 87; (with_reducible refine (huff_Decode.calls k t d 0 _ A5.out).mono ?_); rintro en w4 ⟨rfl, hb⟩; have HI4 := Aside0.mk (HI3.out.below hb); have HB4 := Aside0.mk (below_then HB3.out HB3.out.size hb); have HK4 := Aside0.mk (tb_keep HK3.out hb); clear hb))
            go_ret
            exact ⟨HB4.out, HK4.out, rfl, HI4.out⟩
          · rw [if_neg hd] at h6
            obtain rfl := Option.some.inj h6
            have q1 : (e2 != 0) = true := bne_iff_ne.mpr hd
            have q2 : (e2 == 0) = false := beq_eq_false_iff_ne.mpr hd
            clear h6 hd
            go_wp2_with (first | (go_at_call 87; (with_reducible refine (huff_Decode.calls k t d e2 _ A5.out).mono ?_); rintro en w4 ⟨rfl, hb⟩; have HB4 := Aside0.mk (below_then HB3.out HB3.out.size hb); have HK4 := Aside0.mk (tb_keep HK3.out hb); clear hb))
            exact ⟨rfl, HB4.out, HK4.out, rfl⟩
    · rw [if_neg he] at h2
      obtain rfl := Option.some.inj h2
      clear h2 A2
      go_wp2_with (first | (go_at_call 64; (with_reducible refine (up_number_no k g gt s a 7 n next e w0 _ HI.out hg HB.out A1.out he).mono ?_); rintro en w1 ⟨rfl, hi, hb, hk⟩; have HB2 := Aside0.mk hb; have HK2 := Aside0.mk (tb_keep2 HK.out hk); clear hi hb hk))
      exact ⟨rfl, HB2.out, HK2.out, rfl⟩
def upText (k : Nat) (s : ByteArray) (a : Int) : Option (Except Int (ByteArray × Int)) := if 0 ≤ a then upText0 k s a else none
theorem up_text (k g gt : Nat) (s : ByteArray) (a : Int) (r : Except Int (ByteArray × Int)) (w0 w : World) (hI : IsB w g gt s a) (hg : w0.heap.size ≤ g) (hB : Below w0.heap.size w0 w) (h : upText k s a = some r) :
    Calls Tryd.prog 76 #[.pointer (some ⟨g, 0, none⟩)] w fun en w' => Below w0.heap.size w0 w' ∧ KeepBut w w' g none ∧ PostT g gt s r en w' := by
  unfold upText at h
  by_cases ha : 0 ≤ a
  · rw [if_pos ha] at h
    exact up_text0 k g gt s a r w0 w hI hg hB ha h
  · rw [if_neg ha] at h
    exact absurd h (by simp)
end Go.Proofs.YtfkdocmhbmameaaDoor.Mine
namespace Go.Proofs.YtfkdocmhbmameaaDoor.Mine
open Go.RowKit Go.Proofs Go.Proofs.YtfkdocmhbmameaaDoorW.PrintWords Go.Proofs.YtfkdocmhbmameaaDoorW.PrintLast Go.Proofs.YtfkdocmhbmameaaDoorW.PrintMore
attribute [local go_sem] max2_int min2_int max_two min_two max_three min_three max_four min_four
set_option linter.unusedVariables false
set_option linter.unusedSimpArgs false
set_option maxHeartbeats 2000000 in
set_option maxRecDepth 100000 in
theorem tb_resize (g : Nat) (most size n : Int) (l fx : List S103) (w0 w : World) (hI : IsT w0 w g most size l fx) (hB : Below w0.heap.size w0 w) (hl : l.length < 4398046511104) :
    Calls Tryd.prog 39 #[.pointer (some ⟨g, 0, none⟩), .int .i64 n] w fun en w' => en = .returned (.tuple #[]) ∧ IsT w0 w' g (mx n 0) (tbFit (wrap64 (mx n 0 - 0)) size l).1 (tbFit (wrap64 (mx n 0 - 0)) size l).2 fx ∧ Below w0.heap.size w0 w' ∧ KeepBut w w' g none ∧ w'.cell? ⟨g, 3, none⟩ = w.cell? ⟨g, 3, none⟩ ∧ ∃ v, w'.cell? ⟨g, 2, none⟩ = some v ∧ TyV w' v := by
  have HI := Aside0.mk hI
  have HB := Aside0.mk hB
  have HL := Aside0.mk hl
  have hu_57_ := Tryd.underlying77
  clear hI hB hl
  obtain ⟨M, hM⟩ : ∃ x, mx n 0 = x := ⟨_, rfl⟩
  have hM_ : (if n < 0 then 0 else n) = M := hM
  rw [hM]
  clear hM
  obtain ⟨A, c, B, d, k1, k2, k3, k4, k5, k6⟩ := HI.out
  have z0 : w.cell? ⟨g, 0, none⟩ = some (.int .i64 most) := (blk_cell k1 0).trans rfl
  have f0 := blk_frozen k1 0
  go_enter Tryd.func39, Tryd.ntmps39
  go_upto_region 1 with fail
  have HI2 := Aside0.mk (HI.out.set0 M)
  have HB2 := Aside0.mk (below_set (g := g) (j := 0) (v := .int .i64 M) HB.out k2)
  have HK2 := Aside0.mk (tb_keeps (j := 0) (v := .int .i64 M) (KeepBut.refl w g none))
  have H3 := Aside0.mk (show (w.setCell ⟨g, 0, none⟩ (.int .i64 M)).cell? ⟨g, 3, none⟩ = w.cell? ⟨g, 3, none⟩ from (blk_cell (blk_put k1 0 (.int .i64 M) rfl) 3).trans (blk_cell k1 3).symm)
  clear z0 f0 k1 k2 k3 k4 k5 k6 HI HB
  generalize w.setCell ⟨g, 0, none⟩ (.int .i64 M) = w1 at HI2 HB2 HK2 H3 ⊢
  go_wp2_with (first | (go_at_call 57; (with_reducible refine (tb_fit g M size 0 l fx w0 _ HI2.out HB2.out HL.out).mono ?_); rintro en w2 ⟨rfl, hi, hb, hk, h3, v, hv, hr⟩; have HI3 := Aside0.mk hi; have HB3 := Aside0.mk hb; have HK3 := Aside0.mk (tb_keep2 HK2.out hk); have H33 := Aside0.mk (h3.trans H3.out); have HV3 := Aside0.mk hv; have HT3 := Aside0.mk (TyV.ofR hr); clear hi hb hk h3 hv hr))
  go_end0
  exact ⟨rfl, HI3.out, HB3.out, HK3.out, H33.out, v, HV3.out, HT3.out⟩
end Go.Proofs.YtfkdocmhbmameaaDoor.Mine
