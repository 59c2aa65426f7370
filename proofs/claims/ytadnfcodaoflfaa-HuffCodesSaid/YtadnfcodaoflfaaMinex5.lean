-- Written by this repo's own printer (wip/print), which builds on the kit's.
import Derived.Test.YtadnfcodaoflfaaMinex0
import Derived.Test.YtadnfcodaoflfaaMinex2
import Derived.Test.YtadnfcodaoflfaaMinex3
namespace Go.Proofs.Ytadnfcodaoflfaa.Mine
open Go.RowKit Go.Proofs.YtadnfcodaoflfaaW.PrintWords Go.Proofs.YtadnfcodaoflfaaW.PrintLast Go.Proofs.YtadnfcodaoflfaaW.PrintMore
attribute [local go_sem] max2_int min2_int max_two min_two max_three min_three max_four min_four   -- for this text's walks alone
set_option linter.unusedVariables false
set_option linter.unusedSimpArgs false

/-! ### huff_Decode: function 13 -/
mutual
def huff_Decode.l0 : Nat → ByteArray → List Int → Int → Int → Bool → Int → Int → Option (ByteArray × Int)
 | 0, _, _, _, _, _, _, _ => none
 | k + 1, x0, x5, x6, x7, x8, x15, x16 => if x16 < x15 then (if 0 ≤ (x16 / 8) then (if (x16 / 8) < (x0.size : Int) then (if 0 ≤ (wrap64 (7 - (Go.bits .and .i64 x16 7))) then (if x8 = true then (huff_Decode.j1 k x0 x5 (Go.bits .or .u32 ((x6 * 2) % 4294967296) (Go.bits .and .u32 ((shr .u8 (bt x0 (x16 / 8)) (wrap64 (7 - (Go.bits .and .i64 x16 7)))) % 4294967296) 1)) (wrap64 (x7 + 1)) ((Go.bits .and .u32 ((shr .u8 (bt x0 (x16 / 8)) (wrap64 (7 - (Go.bits .and .i64 x16 7)))) % 4294967296) 1) == 1) x15 x16) else (huff_Decode.j1 k x0 x5 (Go.bits .or .u32 ((x6 * 2) % 4294967296) (Go.bits .and .u32 ((shr .u8 (bt x0 (x16 / 8)) (wrap64 (7 - (Go.bits .and .i64 x16 7)))) % 4294967296) 1)) (wrap64 (x7 + 1)) false x15 x16)) else (none)) else (none)) else (none)) else (if x7 > 7 then (some ((⟨#[]⟩ : ByteArray), 91)) else (if x8 = true then (some (strOfNums x5, 0)) else (some ((⟨#[]⟩ : ByteArray), 91))))
def huff_Decode.j1 : Nat → ByteArray → List Int → Int → Int → Bool → Int → Int → Option (ByteArray × Int)
 | 0, _, _, _, _, _, _, _ => none
 | k + 1, x0, x5, x6, x7, x8, x15, x16 => if x7 < 5 then (huff_Decode.j2 k x0 x5 x6 x7 x8 x15 x16 true) else (if 0 ≤ x7 then (if x7 < 31 then (if x6 < (hb1 x7) then (huff_Decode.j2 k x0 x5 x6 x7 x8 x15 x16 true) else (huff_Decode.j2 k x0 x5 x6 x7 x8 x15 x16 (decide (((x6 - (hb1 x7)) % 4294967296) ≥ ((hb2 x7) % 4294967296))))) else (none)) else (none))
def huff_Decode.j2 : Nat → ByteArray → List Int → Int → Int → Bool → Int → Int → Bool → Option (ByteArray × Int)
 | 0, _, _, _, _, _, _, _, _ => none
 | k + 1, x0, x5, x6, x7, x8, x15, x16, x69 => if x69 = true then (huff_Decode.l0 k x0 x5 x6 x7 x8 x15 (wrap64 (x16 + 1))) else (if 0 ≤ x7 then (if x7 < 31 then (if 0 ≤ (wrap64 ((hb3 x7) + ((x6 - (hb1 x7)) % 4294967296))) then (if (wrap64 ((hb3 x7) + ((x6 - (hb1 x7)) % 4294967296))) < 257 then (if (hb4 (wrap64 ((hb3 x7) + ((x6 - (hb1 x7)) % 4294967296)))) = 256 then (some ((⟨#[]⟩ : ByteArray), 91)) else (if x5.length < 140737488355328 then (huff_Decode.l0 k x0 (x5 ++ [(hb4 (wrap64 ((hb3 x7) + ((x6 - (hb1 x7)) % 4294967296)))) % 256]) 0 0 true x15 (wrap64 (x16 + 1))) else (none))) else (none)) else (none)) else (none)) else (none))
end
def huff_Decode.f (k : Nat) (a0 : ByteArray) : Option (ByteArray × Int) := (huff_made.f).bind fun _ => (huff_Decode.l0 k a0 ([] : List Int) 0 0 true (wrap64 (8 * (a0.size : Int))) 0)
theorem huff_Decode.mono_l : ∀ k, (∀ y0 y1 y2 y3 y4 y5 y6, LeO (huff_Decode.l0 k y0 y1 y2 y3 y4 y5 y6) (huff_Decode.l0 (k + 1) y0 y1 y2 y3 y4 y5 y6)) ∧ (∀ y0 y1 y2 y3 y4 y5 y6, LeO (huff_Decode.j1 k y0 y1 y2 y3 y4 y5 y6) (huff_Decode.j1 (k + 1) y0 y1 y2 y3 y4 y5 y6)) ∧ (∀ y0 y1 y2 y3 y4 y5 y6 y7, LeO (huff_Decode.j2 k y0 y1 y2 y3 y4 y5 y6 y7) (huff_Decode.j2 (k + 1) y0 y1 y2 y3 y4 y5 y6 y7))
 | 0 => ⟨fun _ _ _ _ _ _ _ r h => by simp [huff_Decode.l0] at h, fun _ _ _ _ _ _ _ r h => by simp [huff_Decode.j1] at h, fun _ _ _ _ _ _ _ _ r h => by simp [huff_Decode.j2] at h⟩
 | k + 1 => by
  obtain ⟨ih0, ih1, ih2⟩ := huff_Decode.mono_l k
  refine ⟨?_, ?_, ?_⟩
  ·
   intro y0 y1 y2 y3 y4 y5 y6
   unfold huff_Decode.l0
   repeat' first
   | (with_reducible exact ih0 _ _ _ _ _ _ _)
   | (with_reducible exact ih1 _ _ _ _ _ _ _)
   | (with_reducible exact ih2 _ _ _ _ _ _ _ _)
   | (with_reducible exact LeO.refl _)
   | (with_reducible exact LeO.none _)
   | (with_reducible refine LeO.ite ?_ ?_)
   | (with_reducible refine LeO.bind ?_ (fun _ => ?_))
   | exact ih0 _ _ _ _ _ _ _
   | exact ih1 _ _ _ _ _ _ _
   | exact ih2 _ _ _ _ _ _ _ _
   | exact LeO.none _
   | refine LeO.ite ?_ ?_
   | refine LeO.bind ?_ (fun _ => ?_)
  ·
   intro y0 y1 y2 y3 y4 y5 y6
   unfold huff_Decode.j1
   repeat' first
   | (with_reducible exact ih0 _ _ _ _ _ _ _)
   | (with_reducible exact ih1 _ _ _ _ _ _ _)
   | (with_reducible exact ih2 _ _ _ _ _ _ _ _)
   | (with_reducible exact LeO.refl _)
   | (with_reducible exact LeO.none _)
   | (with_reducible refine LeO.ite ?_ ?_)
   | (with_reducible refine LeO.bind ?_ (fun _ => ?_))
   | exact ih0 _ _ _ _ _ _ _
   | exact ih1 _ _ _ _ _ _ _
   | exact ih2 _ _ _ _ _ _ _ _
   | exact LeO.none _
   | refine LeO.ite ?_ ?_
   | refine LeO.bind ?_ (fun _ => ?_)
  ·
   intro y0 y1 y2 y3 y4 y5 y6 y7
   unfold huff_Decode.j2
   repeat' first
   | (with_reducible exact ih0 _ _ _ _ _ _ _)
   | (with_reducible exact ih1 _ _ _ _ _ _ _)
   | (with_reducible exact ih2 _ _ _ _ _ _ _ _)
   | (with_reducible exact LeO.refl _)
   | (with_reducible exact LeO.none _)
   | (with_reducible refine LeO.ite ?_ ?_)
   | (with_reducible refine LeO.bind ?_ (fun _ => ?_))
   | exact ih0 _ _ _ _ _ _ _
   | exact ih1 _ _ _ _ _ _ _
   | exact ih2 _ _ _ _ _ _ _ _
   | exact LeO.none _
   | refine LeO.ite ?_ ?_
   | refine LeO.bind ?_ (fun _ => ?_)
theorem huff_Decode.mono : ∀ a0 k, LeO (huff_Decode.f k a0) (huff_Decode.f (k + 1) a0) := by
 intro a0 k
 obtain ⟨ih0, ih1, ih2⟩ := huff_Decode.mono_l k
 unfold huff_Decode.f
 repeat' first
   | (with_reducible exact ih0 _ _ _ _ _ _ _)
   | (with_reducible exact ih1 _ _ _ _ _ _ _)
   | (with_reducible exact ih2 _ _ _ _ _ _ _ _)
   | (with_reducible exact LeO.refl _)
   | (with_reducible exact LeO.none _)
   | (with_reducible refine LeO.ite ?_ ?_)
   | (with_reducible refine LeO.bind ?_ (fun _ => ?_))
   | exact ih0 _ _ _ _ _ _ _
   | exact ih1 _ _ _ _ _ _ _
   | exact ih2 _ _ _ _ _ _ _ _
   | exact LeO.none _
   | refine LeO.ite ?_ ?_
   | refine LeO.bind ?_ (fun _ => ?_)
set_option maxHeartbeats 8000000 in
set_option maxRecDepth 100000 in
theorem huff_Decode.calls (k : Nat) (a0 : ByteArray) (r1 : ByteArray) (r2 : Int) (w : World) (h : huff_Decode.f k a0 = some (r1, r2)) :
  Calls Try.prog 13 #[.string a0] w fun e w' => e = .returned (.tuple #[.string r1, .int .i64 r2]) ∧ Below w.heap.size w w' := by
 have HB := Aside0.mk (Below.refl w.heap.size w)
 have H : ((huff_made.f).bind fun _ => (huff_Decode.l0 k a0 ([] : List Int) 0 0 true (wrap64 (8 * (a0.size : Int))) 0)) = some (r1, r2) := h
 clear h
 replace H := Option.bind_eq_some_iff.mp H
 obtain ⟨_, A20, H⟩ := H
 replace H : (huff_Decode.l0 k a0 ([] : List Int) 0 0 true (wrap64 (8 * (a0.size : Int))) 0) = some (r1, r2) := H
 have A2 := Aside0.mk A20
 clear A20
 have H' := Aside0.mk H
 clear H
 go_enter Try.func13, Try.ntmps13
 go_wp2_with (first | (go_at_call 18; (with_reducible refine (huff_made.calls   w _ ?side1 A2.out).mono ?_); (case side1 => repeat (first | (with_reducible first | exact HB.out | apply below_alloc | apply pw_below_drewN | apply below_drew1) | exact HB.out)); rintro e w3 ⟨g122, rfl, hi, hb, hb2⟩; have n0_ := Aside0.mk (hb); have n1_ := Aside0.mk (hi); clear HB; have HB := n0_; have HI122 := n1_; clear n0_ n1_; (try clear hb); (try clear hb2); (try clear hk); (try clear hi)))
 repeat (go_quiet (first | (go_at_call 18; (with_reducible refine (huff_made.calls   w _ ?side1 A2.out).mono ?_); (case side1 => repeat (first | (with_reducible first | exact HB.out | apply below_alloc | apply pw_below_drewN | apply below_drew1) | exact HB.out)); rintro e w3 ⟨g122, rfl, hi, hb, hb2⟩; have n0_ := Aside0.mk (hb); have n1_ := Aside0.mk (hi); clear HB; have HB := n0_; have HI122 := n1_; clear n0_ n1_; (try clear hb); (try clear hb2); (try clear hk); (try clear hi))); try go_wp2_with (first | (go_at_call 18; (with_reducible refine (huff_made.calls   w _ ?side1 A2.out).mono ?_); (case side1 => repeat (first | (with_reducible first | exact HB.out | apply below_alloc | apply pw_below_drewN | apply below_drew1) | exact HB.out)); rintro e w3 ⟨g122, rfl, hi, hb, hb2⟩; have n0_ := Aside0.mk (hb); have n1_ := Aside0.mk (hi); clear HB; have HB := n0_; have HI122 := n1_; clear n0_ n1_; (try clear hb); (try clear hb2); (try clear hk); (try clear hi))))
 go_loopg [5, 6, 7, 8, 16] k (fun kq v5 v6 v7 v8 v16 w' => ∃ (x5_1 : List Int) (x6_1 : Int) (x7_1 : Int) (x8_1 : Bool) (x16_1 : Int), v6 = .int .u32 x6_1 ∧ v7 = .int .i64 x7_1 ∧ v8 = .bool x8_1 ∧ v16 = .int .i64 x16_1 ∧ Aside0 (huff_Decode.l0 kq a0 x5_1 x6_1 x7_1 x8_1 (wrap64 (8 * (a0.size : Int))) x16_1 = some (r1, r2)) ∧ Aside0 (kq ≤ k) ∧ Aside0 (Kd.R (Kd.int .u8) 5 w' w.heap.size (fun _ => True) v5 x5_1) ∧ Aside0 (IsS48 w w' g122 ) ∧ Aside0 (Below w.heap.size w w'))
 case atStart => exact ⟨(([] : List Int)), (0), (0), (true), (0), (by first | rfl | (simp; done) | (simp [*]; done)), (by first | rfl | (simp; done) | (simp [*]; done)), (by first | rfl | (simp; done) | (simp [*]; done)), (by first | rfl | (simp; done) | (simp [*]; done)), H', ⟨Nat.le_refl _⟩, ⟨by first | exact Kd.R_nil _ _ _ _ _ | exact Kd.N_nil _ _ _ _ _ | exact Kd.V_nil _ _ _ _ _ | exact Kd.Q_nil _ _ _ _ _ | exact Kd.S_nil _ _ _ _ _⟩, ⟨by repeat (first | (with_reducible first | exact HI122.out | apply IsS48.alloc | apply IsS48.drewN | apply IsS48.drew) | exact HI122.out)⟩, ⟨by repeat (first | (with_reducible first | exact HB.out | apply below_alloc | apply pw_below_drewN | apply below_drew1 | refine below_set ?_ (IsS48.ge HI122.out)) | exact HB.out)⟩⟩
 case round =>
  clear H'
  try clear c1
  try clear p2
  obtain ⟨x5_1, x6_1, x7_1, x8_1, x16_1, rfl, rfl, rfl, rfl, HA, HK1, HO_5, HI122, HB⟩ := hrel
  cases gk with
  | zero => exact absurd HA.out (by simp [huff_Decode.l0])
  | succ k1 =>
   have H := HA.out
   clear HA
   simp only [huff_Decode.l0] at H
   by_cases c4 : x16_1 < (wrap64 (8 * (a0.size : Int)))
   ·
    rw [if_pos c4] at H
    have c4b0 : decide (x16_1 < (wrap64 (8 * (a0.size : Int)))) = true := decide_eq_true c4
    clear c4
    obtain ⟨ji5, hji5⟩ : ∃ j_ : Int, (x16_1 / 8) = j_ := ⟨_, rfl⟩
    replace H : (if 0 ≤ (ji5) then (if (ji5) < (a0.size : Int) then (if 0 ≤ (wrap64 (7 - (Go.bits .and .i64 x16_1 7))) then (if x8_1 = true then (huff_Decode.j1 k1 a0 x5_1 (Go.bits .or .u32 ((x6_1 * 2) % 4294967296) (Go.bits .and .u32 ((shr .u8 (bt a0 (ji5)) (wrap64 (7 - (Go.bits .and .i64 x16_1 7)))) % 4294967296) 1)) (wrap64 (x7_1 + 1)) ((Go.bits .and .u32 ((shr .u8 (bt a0 (ji5)) (wrap64 (7 - (Go.bits .and .i64 x16_1 7)))) % 4294967296) 1) == 1) (wrap64 (8 * (a0.size : Int))) x16_1) else (huff_Decode.j1 k1 a0 x5_1 (Go.bits .or .u32 ((x6_1 * 2) % 4294967296) (Go.bits .and .u32 ((shr .u8 (bt a0 (ji5)) (wrap64 (7 - (Go.bits .and .i64 x16_1 7)))) % 4294967296) 1)) (wrap64 (x7_1 + 1)) false (wrap64 (8 * (a0.size : Int))) x16_1)) else (none)) else (none)) else (none)) = some (r1, r2) := by first | (rw [hji5] at H; exact H) | (simp only [hji5] at H ⊢; exact H)
    by_cases c6 : 0 ≤ (ji5)
    ·
     rw [if_pos c6] at H
     have c6b0 : decide (0 ≤ (ji5)) = true := decide_eq_true c6
     clear c6
     by_cases c7 : (ji5) < (a0.size : Int)
     ·
      rw [if_pos c7] at H
      have c7b0 : decide ((ji5) < (a0.size : Int)) = true := decide_eq_true c7
      clear c7
      obtain ⟨ji9, hji9⟩ : ∃ j_ : Int, (wrap64 (7 - (Go.bits .and .i64 x16_1 7))) = j_ := ⟨_, rfl⟩
      replace H : (if 0 ≤ (ji9) then (if x8_1 = true then (huff_Decode.j1 k1 a0 x5_1 (Go.bits .or .u32 ((x6_1 * 2) % 4294967296) (Go.bits .and .u32 ((shr .u8 (bt a0 (ji5)) (ji9)) % 4294967296) 1)) (wrap64 (x7_1 + 1)) ((Go.bits .and .u32 ((shr .u8 (bt a0 (ji5)) (ji9)) % 4294967296) 1) == 1) (wrap64 (8 * (a0.size : Int))) x16_1) else (huff_Decode.j1 k1 a0 x5_1 (Go.bits .or .u32 ((x6_1 * 2) % 4294967296) (Go.bits .and .u32 ((shr .u8 (bt a0 (ji5)) (ji9)) % 4294967296) 1)) (wrap64 (x7_1 + 1)) false (wrap64 (8 * (a0.size : Int))) x16_1)) else (none)) = some (r1, r2) := by first | (rw [hji9] at H; exact H) | (simp only [hji9] at H ⊢; exact H)
      have hji9w : (IntKind.i64.wrap (7 - (Go.bits .and .i64 x16_1 7))) = ji9 := (i64_w _).trans hji9
      by_cases c10 : 0 ≤ (ji9)
      ·
       rw [if_pos c10] at H
       have c10b0 := eq_true c10
       have c10b1 : decide (0 ≤ (ji9)) = true := decide_eq_true c10
       clear c10
       obtain ⟨ji11, hji11⟩ : ∃ j_ : Int, (shr .u8 (bt a0 (ji5)) (ji9)) = j_ := ⟨_, rfl⟩
       replace H : (if x8_1 = true then (huff_Decode.j1 k1 a0 x5_1 (Go.bits .or .u32 ((x6_1 * 2) % 4294967296) (Go.bits .and .u32 ((ji11) % 4294967296) 1)) (wrap64 (x7_1 + 1)) ((Go.bits .and .u32 ((ji11) % 4294967296) 1) == 1) (wrap64 (8 * (a0.size : Int))) x16_1) else (huff_Decode.j1 k1 a0 x5_1 (Go.bits .or .u32 ((x6_1 * 2) % 4294967296) (Go.bits .and .u32 ((ji11) % 4294967296) 1)) (wrap64 (x7_1 + 1)) false (wrap64 (8 * (a0.size : Int))) x16_1)) = some (r1, r2) := by first | (rw [hji11] at H; exact H) | (simp only [hji11] at H ⊢; exact H)
       have hji11_ : ((bt a0 (ji5)) / 2 ^ min (ji9).toNat 8) = ji11 := hji11
       have hji11z : (ji9) ≤ 8 → ((bt a0 (ji5)) / 2 ^ (ji9).toNat) = ji11 := shr_small hji11
       have HC12 := Aside0.mk H
       clear H
       have p8 : 0 ≤ ((ji5) : Int) := of_decide_eq_true (by first | (with_reducible assumption) | assumption)
       have q8 : (ji5) < (a0.size : Int) := of_decide_eq_true (by first | (with_reducible assumption) | assumption)
       have hx8 := bt_at a0 (ji5)
       replace p8 := eq_true p8
       replace q8 := eq_true q8
       go_upto_region 8 with (fail)
       repeat (go_quiet (fail); go_upto_region 8 with (fail))
       go_cut [6, 7, 8] (fun v6 v7 v8 wc => ∃ (kq : Nat) (x6_11 : Int) (x7_11 : Int) (x8_11 : Bool), v6 = .int .u32 x6_11 ∧ v7 = .int .i64 x7_11 ∧ v8 = .bool x8_11 ∧ Aside0 (huff_Decode.j1 kq a0 x5_1 x6_11 x7_11 x8_11 (wrap64 (8 * (a0.size : Int))) x16_1 = some (r1, r2)) ∧ Aside0 (kq ≤ k1) ∧ Aside0 (Kd.R (Kd.int .u8) 5 wc w.heap.size (fun _ => True) u5 x5_1) ∧ Aside0 (IsS48 w wc g122 ) ∧ Aside0 (Below w.heap.size w wc))
       case first =>
        have H := HC12.out
        clear HC12
        by_cases c13 : x8_1 = true
        ·
         subst c13
         have H1 : (huff_Decode.j1 k1 a0 x5_1 (Go.bits .or .u32 ((x6_1 * 2) % 4294967296) (Go.bits .and .u32 ((ji11) % 4294967296) 1)) (wrap64 (x7_1 + 1)) ((Go.bits .and .u32 ((ji11) % 4294967296) 1) == 1) (wrap64 (8 * (a0.size : Int))) x16_1) = some (r1, r2) := by rw [if_pos rfl] at H; exact H
         clear H
         have H := H1
         clear H1
         have H' := Aside0.mk H
         clear H
         go_wp2
         repeat (go_quiet (fail); try go_wp2)
         go_meet
         case rel => exact ⟨_, (Go.bits .or .u32 ((x6_1 * 2) % 4294967296) (Go.bits .and .u32 ((ji11) % 4294967296) 1)), (wrap64 (x7_1 + 1)), (((Go.bits .and .u32 ((ji11) % 4294967296) 1) == 1)), (by first | rfl | (simp; done) | (simp only [← hji11] <;> (first | rfl | simp)) | (simp [*]; done)), (by first | rfl | (simp; done) | (simp [*]; done)), (by first | rfl | (simp; done) | (simp only [← hji11] <;> (first | rfl | simp)) | (simp [*]; done)), H', ⟨by have := HK1.out; first | omega | exact Nat.le_refl _⟩, ⟨by (with_reducible repeat (first | apply Kd.R_alloc | apply Kd.R_drewN | apply Kd.R_drew)); exact HO_5.out⟩, ⟨by repeat (first | (with_reducible first | exact HI122.out | apply IsS48.alloc | apply IsS48.drewN | apply IsS48.drew) | exact HI122.out)⟩, ⟨by repeat (first | (with_reducible first | exact HB.out | apply below_alloc | apply pw_below_drewN | apply below_drew1 | refine below_set ?_ (IsS48.ge HI122.out)) | exact HB.out)⟩⟩
        ·
         replace c13 := Bool.eq_false_iff.mpr c13
         subst c13
         have H1 : (huff_Decode.j1 k1 a0 x5_1 (Go.bits .or .u32 ((x6_1 * 2) % 4294967296) (Go.bits .and .u32 ((ji11) % 4294967296) 1)) (wrap64 (x7_1 + 1)) false (wrap64 (8 * (a0.size : Int))) x16_1) = some (r1, r2) := by rw [if_neg (show ¬ (false = true) by decide)] at H; exact H
         clear H
         have H := H1
         clear H1
         have H' := Aside0.mk H
         clear H
         go_wp2
         repeat (go_quiet (fail); try go_wp2)
         go_meet
         case rel => exact ⟨_, (Go.bits .or .u32 ((x6_1 * 2) % 4294967296) (Go.bits .and .u32 ((ji11) % 4294967296) 1)), (wrap64 (x7_1 + 1)), (false), (by first | rfl | (simp; done) | (simp only [← hji11] <;> (first | rfl | simp)) | (simp [*]; done)), (by first | rfl | (simp; done) | (simp [*]; done)), (by first | rfl | (simp; done) | (simp [*]; done)), H', ⟨by have := HK1.out; first | omega | exact Nat.le_refl _⟩, ⟨by (with_reducible repeat (first | apply Kd.R_alloc | apply Kd.R_drewN | apply Kd.R_drew)); exact HO_5.out⟩, ⟨by repeat (first | (with_reducible first | exact HI122.out | apply IsS48.alloc | apply IsS48.drewN | apply IsS48.drew) | exact HI122.out)⟩, ⟨by repeat (first | (with_reducible first | exact HB.out | apply below_alloc | apply pw_below_drewN | apply below_drew1 | refine below_set ?_ (IsS48.ge HI122.out)) | exact HB.out)⟩⟩
       case rest =>
        clear HC12
        try clear c1
        try clear p2
        try clear c4
        try clear c4b0
        try clear c6
        try clear c6b0
        try clear p6
        try clear c7
        try clear c7b0
        try clear p8
        try clear q8
        try clear hx8
        try clear c10
        try clear c10b0
        try clear c10b1
        try clear c13
        try clear p2
        try clear p8
        try clear q8
        obtain ⟨kq, x6_11, x7_11, x8_11, rfl, rfl, rfl, HA, HJ11, HO_5, HI122, HB⟩ := hcut
        cases kq with
        | zero => exact absurd HA.out (by simp [huff_Decode.j1])
        | succ kj11 =>
         have H := HA.out
         clear HA
         simp only [huff_Decode.j1] at H
         have HC14 := Aside0.mk H
         clear H
         go_upto_region 9 with (fail)
         repeat (go_quiet (fail); go_upto_region 9 with (fail))
         go_cut [69] (fun v69 wc => ∃ (kq : Nat) (x69_13 : Bool), v69 = .bool x69_13 ∧ Aside0 (huff_Decode.j2 kq a0 x5_1 x6_11 x7_11 x8_11 (wrap64 (8 * (a0.size : Int))) x16_1 x69_13 = some (r1, r2)) ∧ Aside0 (kq ≤ kj11) ∧ Aside0 (Kd.R (Kd.int .u8) 5 wc w.heap.size (fun _ => True) u5 x5_1) ∧ Aside0 (IsS48 w wc g122 ) ∧ Aside0 (Below w.heap.size w wc))
         case first =>
          have H := HC14.out
          clear HC14
          by_cases c15 : x7_11 < 5
          ·
           rw [if_pos c15] at H
           have c15b0 : decide (x7_11 < 5) = true := decide_eq_true c15
           clear c15
           (first | rw [c15b0] | rw [c15b1] | (simp only [i64_w, i32_w]; rw [c15b0]) | skip)
           have H' := Aside0.mk H
           clear H
           go_wp2
           repeat (go_quiet (fail); try go_wp2)
           go_meet
           case rel => exact ⟨_, (true), (by first | rfl | (simp; done) | (simp [*]; done)), H', ⟨by have := HK1.out; have := HJ11.out; first | omega | exact Nat.le_refl _⟩, ⟨by (with_reducible repeat (first | apply Kd.R_alloc | apply Kd.R_drewN | apply Kd.R_drew)); exact HO_5.out⟩, ⟨by repeat (first | (with_reducible first | exact HI122.out | apply IsS48.alloc | apply IsS48.drewN | apply IsS48.drew) | exact HI122.out)⟩, ⟨by repeat (first | (with_reducible first | exact HB.out | apply below_alloc | apply pw_below_drewN | apply below_drew1 | refine below_set ?_ (IsS48.ge HI122.out)) | exact HB.out)⟩⟩
          ·
           rw [if_neg c15] at H
           have c15b0 : decide (x7_11 < 5) = false := decide_eq_false c15
           clear c15
           (first | rw [c15b0] | rw [c15b1] | (simp only [i64_w, i32_w]; rw [c15b0]) | skip)
           by_cases c16 : 0 ≤ x7_11
           ·
            rw [if_pos c16] at H
            have c16b0 : decide (0 ≤ x7_11) = true := decide_eq_true c16
            clear c16
            by_cases c17 : x7_11 < 31
            ·
             rw [if_pos c17] at H
             have c17b0 : decide (x7_11 < 31) = true := decide_eq_true c17
             clear c17
             by_cases c19 : x6_11 < (hb1 x7_11)
             ·
              rw [if_pos c19] at H
              have c19b0 : decide (x6_11 < (hb1 x7_11)) = true := decide_eq_true c19
              clear c19
              have H' := Aside0.mk H
              clear H
              have p18 : 0 ≤ (x7_11 : Int) := (by first | omega | exact (of_decide_eq_true (by first | (with_reducible assumption) | assumption)))
              have q18 : (x7_11 : Int) < 31 := (by first | omega | exact (of_decide_eq_true (by first | (with_reducible assumption) | assumption)))
              have hx18_0 := hb1_at HI122.out x7_11 p18 q18
              replace p18 := eq_true p18
              replace q18 := eq_true q18
              go_wp2
              repeat (go_quiet (fail); try go_wp2)
              go_meet
              case rel => exact ⟨_, (true), (by first | rfl | (simp; done) | (simp [*]; done)), H', ⟨by have := HK1.out; have := HJ11.out; first | omega | exact Nat.le_refl _⟩, ⟨by (with_reducible repeat (first | apply Kd.R_alloc | apply Kd.R_drewN | apply Kd.R_drew)); exact HO_5.out⟩, ⟨by repeat (first | (with_reducible first | exact HI122.out | apply IsS48.alloc | apply IsS48.drewN | apply IsS48.drew) | exact HI122.out)⟩, ⟨by repeat (first | (with_reducible first | exact HB.out | apply below_alloc | apply pw_below_drewN | apply below_drew1 | refine below_set ?_ (IsS48.ge HI122.out)) | exact HB.out)⟩⟩
             ·
              rw [if_neg c19] at H
              have c19b0 : decide (x6_11 < (hb1 x7_11)) = false := decide_eq_false c19
              clear c19
              have H' := Aside0.mk H
              clear H
              have p18 : 0 ≤ (x7_11 : Int) := (by first | omega | exact (of_decide_eq_true (by first | (with_reducible assumption) | assumption)))
              have q18 : (x7_11 : Int) < 31 := (by first | omega | exact (of_decide_eq_true (by first | (with_reducible assumption) | assumption)))
              have hx18_0 := hb1_at HI122.out x7_11 p18 q18
              replace p18 := eq_true p18
              replace q18 := eq_true q18
              have p20 : 0 ≤ (x7_11 : Int) := (by first | omega | exact (of_decide_eq_true (by first | (with_reducible assumption) | assumption)))
              have q20 : (x7_11 : Int) < 31 := (by first | omega | exact (of_decide_eq_true (by first | (with_reducible assumption) | assumption)))
              have hx20_0 := hb1_at HI122.out x7_11 p20 q20
              replace p20 := eq_true p20
              replace q20 := eq_true q20
              have p21 : 0 ≤ (x7_11 : Int) := (by first | omega | exact (of_decide_eq_true (by first | (with_reducible assumption) | assumption)))
              have q21 : (x7_11 : Int) < 31 := (by first | omega | exact (of_decide_eq_true (by first | (with_reducible assumption) | assumption)))
              have hx21_0 := hb2_at HI122.out x7_11 p21 q21
              replace p21 := eq_true p21
              replace q21 := eq_true q21
              go_wp2
              repeat (go_quiet (fail); try go_wp2)
              go_meet
              case rel => exact ⟨_, (decide (((x6_11 - (hb1 x7_11)) % 4294967296) ≥ ((hb2 x7_11) % 4294967296))), (by first | rfl | (simp; done) | (simp [*]; done)), H', ⟨by have := HK1.out; have := HJ11.out; first | omega | exact Nat.le_refl _⟩, ⟨by (with_reducible repeat (first | apply Kd.R_alloc | apply Kd.R_drewN | apply Kd.R_drew)); exact HO_5.out⟩, ⟨by repeat (first | (with_reducible first | exact HI122.out | apply IsS48.alloc | apply IsS48.drewN | apply IsS48.drew) | exact HI122.out)⟩, ⟨by repeat (first | (with_reducible first | exact HB.out | apply below_alloc | apply pw_below_drewN | apply below_drew1 | refine below_set ?_ (IsS48.ge HI122.out)) | exact HB.out)⟩⟩
            ·
             rw [if_neg c17] at H
             exact absurd H (by simp)
           ·
            rw [if_neg c16] at H
            exact absurd H (by simp)
         case rest =>
          clear HC14
          try clear c1
          try clear p1
          try clear q1
          try clear hx1
          try clear p2
          try clear q2
          try clear hx2
          try clear c4
          try clear c4b0
          try clear c6
          try clear c6b0
          try clear p6
          try clear c7
          try clear c7b0
          try clear p8
          try clear q8
          try clear hx8
          try clear c10
          try clear c10b0
          try clear c10b1
          try clear c13
          try clear c15
          try clear c15b0
          try clear c15b1
          try clear c16
          try clear c16b0
          try clear c17
          try clear c17b0
          try clear p18
          try clear q18
          try clear hx18
          try clear c19
          try clear c19b0
          try clear p20
          try clear q20
          try clear hx20
          try clear p21
          try clear q21
          try clear hx21
          try clear hx18_0
          try clear hx20_0
          try clear hx21_0
          try clear p18
          try clear p2
          try clear p20
          try clear p21
          try clear p6
          try clear p8
          try clear q18
          try clear q20
          try clear q21
          try clear q8
          obtain ⟨kq, x69_13, rfl, HA, HJ13, HO_5, HI122, HB⟩ := hcut
          cases kq with
          | zero => exact absurd HA.out (by simp [huff_Decode.j2])
          | succ kj13 =>
           have H := HA.out
           clear HA
           simp only [huff_Decode.j2] at H
           by_cases c22 : x69_13 = true
           ·
            subst c22
            have H1 : (huff_Decode.l0 kj13 a0 x5_1 x6_11 x7_11 x8_11 (wrap64 (8 * (a0.size : Int))) (wrap64 (x16_1 + 1))) = some (r1, r2) := by rw [if_pos rfl] at H; exact H
            clear H
            have H := H1
            clear H1
            have H' := Aside0.mk H
            clear H
            go_wp2
            repeat (go_quiet (fail); try go_wp2)
            go_roundg kj13
            case measure => have := HK1.out; have := HJ11.out; have := HJ13.out; omega
            case rel => exact ⟨(x5_1), (x6_11), (x7_11), (x8_11), (wrap64 (x16_1 + 1)), (by first | rfl | (simp; done) | (simp [*]; done)), (by first | rfl | (simp; done) | (simp [*]; done)), (by first | rfl | (simp; done) | (simp [*]; done)), (by first | rfl | (simp; done) | (simp [*]; done)), H', ⟨by have := HK1.out; have := HJ11.out; have := HJ13.out; omega⟩, ⟨by (with_reducible repeat (first | apply Kd.R_alloc | apply Kd.R_drewN | apply Kd.R_drew)); exact HO_5.out⟩, ⟨by repeat (first | (with_reducible first | exact HI122.out | apply IsS48.alloc | apply IsS48.drewN | apply IsS48.drew) | exact HI122.out)⟩, ⟨by repeat (first | (with_reducible first | exact HB.out | apply below_alloc | apply pw_below_drewN | apply below_drew1 | refine below_set ?_ (IsS48.ge HI122.out)) | exact HB.out)⟩⟩
           ·
            replace c22 := Bool.eq_false_iff.mpr c22
            subst c22
            have H1 : (if 0 ≤ x7_11 then (if x7_11 < 31 then (if 0 ≤ (wrap64 ((hb3 x7_11) + ((x6_11 - (hb1 x7_11)) % 4294967296))) then (if (wrap64 ((hb3 x7_11) + ((x6_11 - (hb1 x7_11)) % 4294967296))) < 257 then (if (hb4 (wrap64 ((hb3 x7_11) + ((x6_11 - (hb1 x7_11)) % 4294967296)))) = 256 then (some ((⟨#[]⟩ : ByteArray), 91)) else (if x5_1.length < 140737488355328 then (huff_Decode.l0 kj13 a0 (x5_1 ++ [(hb4 (wrap64 ((hb3 x7_11) + ((x6_11 - (hb1 x7_11)) % 4294967296)))) % 256]) 0 0 true (wrap64 (8 * (a0.size : Int))) (wrap64 (x16_1 + 1))) else (none))) else (none)) else (none)) else (none)) else (none)) = some (r1, r2) := by rw [if_neg (show ¬ (false = true) by decide)] at H; exact H
            clear H
            have H := H1
            clear H1
            by_cases c23 : 0 ≤ x7_11
            ·
             rw [if_pos c23] at H
             have c23b0 : decide (0 ≤ x7_11) = true := decide_eq_true c23
             clear c23
             by_cases c24 : x7_11 < 31
             ·
              rw [if_pos c24] at H
              have c24b0 : decide (x7_11 < 31) = true := decide_eq_true c24
              clear c24
              obtain ⟨ji27, hji27⟩ : ∃ j_ : Int, (wrap64 ((hb3 x7_11) + ((x6_11 - (hb1 x7_11)) % 4294967296))) = j_ := ⟨_, rfl⟩
              replace H : (if 0 ≤ (ji27) then (if (ji27) < 257 then (if (hb4 (ji27)) = 256 then (some ((⟨#[]⟩ : ByteArray), 91)) else (if x5_1.length < 140737488355328 then (huff_Decode.l0 kj13 a0 (x5_1 ++ [(hb4 (ji27)) % 256]) 0 0 true (wrap64 (8 * (a0.size : Int))) (wrap64 (x16_1 + 1))) else (none))) else (none)) else (none)) = some (r1, r2) := by first | (rw [hji27] at H; exact H) | (simp only [hji27] at H ⊢; exact H)
              have hji27w : (IntKind.i64.wrap ((hb3 x7_11) + ((x6_11 - (hb1 x7_11)) % 4294967296))) = ji27 := (i64_w _).trans hji27
              by_cases c28 : 0 ≤ (ji27)
              ·
               rw [if_pos c28] at H
               have c28b0 : decide (0 ≤ (ji27)) = true := decide_eq_true c28
               clear c28
               by_cases c29 : (ji27) < 257
               ·
                rw [if_pos c29] at H
                have c29b0 : decide ((ji27) < 257) = true := decide_eq_true c29
                clear c29
                by_cases c31 : (hb4 (ji27)) = 256
                ·
                 rw [if_pos c31] at H
                 have c31b0 : ((hb4 (ji27)) == 256) = true := beq_iff_eq.mpr c31
                 have c31b1 : ((hb4 (ji27)) != 256) = false := bne_eq_false_iff_eq.mpr c31
                 clear c31
                 simp only [Option.some.injEq, Prod.mk.injEq] at H
                 obtain ⟨rfl, rfl⟩ := H
                 have p25 : 0 ≤ (x7_11 : Int) := (by first | omega | exact (of_decide_eq_true (by first | (with_reducible assumption) | assumption)))
                 have q25 : (x7_11 : Int) < 31 := (by first | omega | exact (of_decide_eq_true (by first | (with_reducible assumption) | assumption)))
                 have hx25_0 := hb3_at HI122.out x7_11 p25 q25
                 replace p25 := eq_true p25
                 replace q25 := eq_true q25
                 have p26 : 0 ≤ (x7_11 : Int) := (by first | omega | exact (of_decide_eq_true (by first | (with_reducible assumption) | assumption)))
                 have q26 : (x7_11 : Int) < 31 := (by first | omega | exact (of_decide_eq_true (by first | (with_reducible assumption) | assumption)))
                 have hx26_0 := hb1_at HI122.out x7_11 p26 q26
                 replace p26 := eq_true p26
                 replace q26 := eq_true q26
                 have p30 : 0 ≤ ((ji27) : Int) := (by first | omega | exact (of_decide_eq_true (by first | (with_reducible assumption) | assumption)))
                 have q30 : ((ji27) : Int) < 257 := (by first | omega | exact (of_decide_eq_true (by first | (with_reducible assumption) | assumption)))
                 have hx30_0 := hb4_at HI122.out (ji27) p30 q30
                 replace p30 := eq_true p30
                 replace q30 := eq_true q30
                 go_wp2
                 repeat (go_quiet (fail); try go_wp2)
                 go_ret2
                 exact ⟨by first | rfl | (simp [errW_none, errW_some] <;> rfl) | (simp only [← hji5, ← hji9, ← hji11, ← hji27]; first | rfl | (simp [errW_none, errW_some] <;> rfl)) | (simp [*, errW_none, errW_some] <;> rfl), by repeat (first | (with_reducible first | exact HB.out | apply below_alloc | apply pw_below_drewN | apply below_drew1 | refine below_set ?_ (IsS48.ge HI122.out)) | exact HB.out)⟩
                ·
                 rw [if_neg c31] at H
                 have c31b0 : ((hb4 (ji27)) == 256) = false := beq_eq_false_iff_ne.mpr c31
                 have c31b1 : ((hb4 (ji27)) != 256) = true := bne_iff_ne.mpr c31
                 by_cases c32 : x5_1.length < 140737488355328
                 ·
                  rw [if_pos c32] at H
                  have LMc32 := Aside0.mk c32
                  clear c32
                  obtain ⟨y123, hy123⟩ : ∃ y_ : List Int, y_ = (x5_1 ++ [(hb4 (ji27)) % 256]) := ⟨_, rfl⟩
                  replace H : (huff_Decode.l0 kj13 a0 y123 0 0 true (wrap64 (8 * (a0.size : Int))) (wrap64 (x16_1 + 1))) = some (r1, r2) := by first | (rw [hy123]; with_reducible exact H) | (have H2_ := (Option.bind_some _ _).symm.trans H; rw [hy123]; with_reducible exact H2_) | (have H2_ := (Option.bind_some _ _).symm.trans H; with_reducible exact H2_) | with_reducible exact H | (rw [hy123]; exact H) | exact H
                  have Ny123 := Aside0.mk hy123
                  clear hy123
                  have H' := Aside0.mk H
                  clear H
                  have p25 : 0 ≤ (x7_11 : Int) := (by first | omega | exact (of_decide_eq_true (by first | (with_reducible assumption) | assumption)))
                  have q25 : (x7_11 : Int) < 31 := (by first | omega | exact (of_decide_eq_true (by first | (with_reducible assumption) | assumption)))
                  have hx25_0 := hb3_at HI122.out x7_11 p25 q25
                  replace p25 := eq_true p25
                  replace q25 := eq_true q25
                  have p26 : 0 ≤ (x7_11 : Int) := (by first | omega | exact (of_decide_eq_true (by first | (with_reducible assumption) | assumption)))
                  have q26 : (x7_11 : Int) < 31 := (by first | omega | exact (of_decide_eq_true (by first | (with_reducible assumption) | assumption)))
                  have hx26_0 := hb1_at HI122.out x7_11 p26 q26
                  replace p26 := eq_true p26
                  replace q26 := eq_true q26
                  have p30 : 0 ≤ ((ji27) : Int) := (by first | omega | exact (of_decide_eq_true (by first | (with_reducible assumption) | assumption)))
                  have q30 : ((ji27) : Int) < 257 := (by first | omega | exact (of_decide_eq_true (by first | (with_reducible assumption) | assumption)))
                  have hx30_0 := hb4_at HI122.out (ji27) p30 q30
                  replace p30 := eq_true p30
                  replace q30 := eq_true q30
                  go_wp2_with (first | ((with_reducible refine gate_builtin (b := .append) (xs := #[.tmp 93, .tmp 96]) rfl ?_); at_builtin; refine Kd.R_append (Kd.int .u8) (w0 := w) w.heap.size rfl (.tmp 93) (.tmp 96) 42 5 (.int .u8 0) 1 rfl Try.underlying42 info5 rfl (by decide) (by omega) u5 x5_1 ((hb4 (ji27)) % 256) [.int .u8 ((hb4 (ji27)) % 256)] (fun _ => True) (fun _ => False) rfl rfl ?aP (fun _ hk => hk.elim) ?aF ?aO ?aB ?aS ?aL ?_; (case aP => exact rfl); (case aB => exact (by repeat (first | (with_reducible first | exact HB.out | apply below_alloc | apply pw_below_drewN | apply below_drew1 | refine below_set ?_ (IsS48.ge HI122.out)) | exact HB.out))); (case aF => exact (fun _ _ => trivial)); (case aO => exact (by (with_reducible repeat (first | apply Kd.R_alloc | apply Kd.R_drewN | apply Kd.R_drew)); exact HO_5.out)); (case aS => exact (below_size (by repeat (first | (with_reducible first | exact HB.out | apply below_alloc | apply pw_below_drewN | apply below_drew1 | refine below_set ?_ (IsS48.ge HI122.out)) | exact HB.out)))); (case aL => have := LMc32.out; omega); intro v124 w33 ho hb hg hat; rw [← Ny123.out] at ho; have n0_ := Aside0.mk (IsS48.grown (w0 := w) (by repeat (first | (with_reducible first | exact HI122.out | apply IsS48.alloc | apply IsS48.drewN | apply IsS48.drew) | exact HI122.out)) hg (IsS48.own_ne HI122.out HO_5.out (by decide))); have n1_ := Aside0.mk (hb); have n2_ := Aside0.mk (ho); clear HI122; clear HB; clear HO_5; have HI122 := n0_; have HB := n1_; have HO125 := n2_; clear n0_ n1_ n2_; clear ho hb hg hat))
                  repeat (go_quiet (first | ((with_reducible refine gate_builtin (b := .append) (xs := #[.tmp 93, .tmp 96]) rfl ?_); at_builtin; refine Kd.R_append (Kd.int .u8) (w0 := w) w.heap.size rfl (.tmp 93) (.tmp 96) 42 5 (.int .u8 0) 1 rfl Try.underlying42 info5 rfl (by decide) (by omega) u5 x5_1 ((hb4 (ji27)) % 256) [.int .u8 ((hb4 (ji27)) % 256)] (fun _ => True) (fun _ => False) rfl rfl ?aP (fun _ hk => hk.elim) ?aF ?aO ?aB ?aS ?aL ?_; (case aP => exact rfl); (case aB => exact (by repeat (first | (with_reducible first | exact HB.out | apply below_alloc | apply pw_below_drewN | apply below_drew1 | refine below_set ?_ (IsS48.ge HI122.out)) | exact HB.out))); (case aF => exact (fun _ _ => trivial)); (case aO => exact (by (with_reducible repeat (first | apply Kd.R_alloc | apply Kd.R_drewN | apply Kd.R_drew)); exact HO_5.out)); (case aS => exact (below_size (by repeat (first | (with_reducible first | exact HB.out | apply below_alloc | apply pw_below_drewN | apply below_drew1 | refine below_set ?_ (IsS48.ge HI122.out)) | exact HB.out)))); (case aL => have := LMc32.out; omega); intro v124 w33 ho hb hg hat; rw [← Ny123.out] at ho; have n0_ := Aside0.mk (IsS48.grown (w0 := w) (by repeat (first | (with_reducible first | exact HI122.out | apply IsS48.alloc | apply IsS48.drewN | apply IsS48.drew) | exact HI122.out)) hg (IsS48.own_ne HI122.out HO_5.out (by decide))); have n1_ := Aside0.mk (hb); have n2_ := Aside0.mk (ho); clear HI122; clear HB; clear HO_5; have HI122 := n0_; have HB := n1_; have HO125 := n2_; clear n0_ n1_ n2_; clear ho hb hg hat)); try go_wp2_with (first | ((with_reducible refine gate_builtin (b := .append) (xs := #[.tmp 93, .tmp 96]) rfl ?_); at_builtin; refine Kd.R_append (Kd.int .u8) (w0 := w) w.heap.size rfl (.tmp 93) (.tmp 96) 42 5 (.int .u8 0) 1 rfl Try.underlying42 info5 rfl (by decide) (by omega) u5 x5_1 ((hb4 (ji27)) % 256) [.int .u8 ((hb4 (ji27)) % 256)] (fun _ => True) (fun _ => False) rfl rfl ?aP (fun _ hk => hk.elim) ?aF ?aO ?aB ?aS ?aL ?_; (case aP => exact rfl); (case aB => exact (by repeat (first | (with_reducible first | exact HB.out | apply below_alloc | apply pw_below_drewN | apply below_drew1 | refine below_set ?_ (IsS48.ge HI122.out)) | exact HB.out))); (case aF => exact (fun _ _ => trivial)); (case aO => exact (by (with_reducible repeat (first | apply Kd.R_alloc | apply Kd.R_drewN | apply Kd.R_drew)); exact HO_5.out)); (case aS => exact (below_size (by repeat (first | (with_reducible first | exact HB.out | apply below_alloc | apply pw_below_drewN | apply below_drew1 | refine below_set ?_ (IsS48.ge HI122.out)) | exact HB.out)))); (case aL => have := LMc32.out; omega); intro v124 w33 ho hb hg hat; rw [← Ny123.out] at ho; have n0_ := Aside0.mk (IsS48.grown (w0 := w) (by repeat (first | (with_reducible first | exact HI122.out | apply IsS48.alloc | apply IsS48.drewN | apply IsS48.drew) | exact HI122.out)) hg (IsS48.own_ne HI122.out HO_5.out (by decide))); have n1_ := Aside0.mk (hb); have n2_ := Aside0.mk (ho); clear HI122; clear HB; clear HO_5; have HI122 := n0_; have HB := n1_; have HO125 := n2_; clear n0_ n1_ n2_; clear ho hb hg hat)))
                  go_roundg kj13
                  case measure => have := HK1.out; have := HJ11.out; have := HJ13.out; omega
                  case rel => exact ⟨(y123), (0), (0), (true), (wrap64 (x16_1 + 1)), (by first | rfl | (simp; done) | (simp [*]; done)), (by first | rfl | (simp; done) | (simp [*]; done)), (by first | rfl | (simp; done) | (simp [*]; done)), (by first | rfl | (simp; done) | (simp [*]; done)), H', ⟨by have := HK1.out; have := HJ11.out; have := HJ13.out; omega⟩, ⟨by (with_reducible repeat (first | apply Kd.R_alloc | apply Kd.R_drewN | apply Kd.R_drew)); exact HO125.out⟩, ⟨by repeat (first | (with_reducible first | exact HI122.out | apply IsS48.alloc | apply IsS48.drewN | apply IsS48.drew) | exact HI122.out)⟩, ⟨by repeat (first | (with_reducible first | exact HB.out | apply below_alloc | apply pw_below_drewN | apply below_drew1 | refine below_set ?_ (IsS48.ge HI122.out)) | exact HB.out)⟩⟩
                 ·
                  rw [if_neg c32] at H
                  exact absurd H (by simp)
               ·
                rw [if_neg c29] at H
                exact absurd H (by simp)
              ·
               rw [if_neg c28] at H
               exact absurd H (by simp)
             ·
              rw [if_neg c24] at H
              exact absurd H (by simp)
            ·
             rw [if_neg c23] at H
             exact absurd H (by simp)
      ·
       rw [if_neg c10] at H
       exact absurd H (by simp)
     ·
      rw [if_neg c7] at H
      exact absurd H (by simp)
    ·
     rw [if_neg c6] at H
     exact absurd H (by simp)
   ·
    rw [if_neg c4] at H
    have c4b0 : decide (x16_1 < (wrap64 (8 * (a0.size : Int)))) = false := decide_eq_false c4
    clear c4
    by_cases c34 : x7_1 > 7
    ·
     rw [if_pos c34] at H
     have c34b0 : decide (7 < x7_1) = true := decide_eq_true c34
     clear c34
     simp only [Option.some.injEq, Prod.mk.injEq] at H
     obtain ⟨rfl, rfl⟩ := H
     go_wp2
     repeat (go_quiet (fail); try go_wp2)
     go_ret2
     exact ⟨by first | rfl | (simp [errW_none, errW_some] <;> rfl) | (simp [*, errW_none, errW_some] <;> rfl), by repeat (first | (with_reducible first | exact HB.out | apply below_alloc | apply pw_below_drewN | apply below_drew1 | refine below_set ?_ (IsS48.ge HI122.out)) | exact HB.out)⟩
    ·
     rw [if_neg c34] at H
     have c34b0 : decide (7 < x7_1) = false := decide_eq_false c34
     clear c34
     by_cases c35 : x8_1 = true
     ·
      subst c35
      have H1 : (some (strOfNums x5_1, 0)) = some (r1, r2) := by rw [if_pos rfl] at H; exact H
      clear H
      have H := H1
      clear H1
      simp only [Option.some.injEq, Prod.mk.injEq] at H
      obtain ⟨rfl, rfl⟩ := H
      have hcv36 := own_string (P := Try.prog) Try.underlying42 Try.underlying5 Try.underlying9 (Kd.own_of_R HO_5.out)
      have hcv37 := fun (n_ : Nat) => own_string (P := Try.prog) Try.underlying42 Try.underlying5 Try.underlying9 (Kd.own_of_R (Kd.R_drewN HO_5.out n_))
      go_wp2
      repeat (go_quiet (fail); try go_wp2)
      go_ret2
      exact ⟨by first | rfl | (simp [errW_none, errW_some] <;> rfl) | (simp [*, errW_none, errW_some] <;> rfl), by repeat (first | (with_reducible first | exact HB.out | apply below_alloc | apply pw_below_drewN | apply below_drew1 | refine below_set ?_ (IsS48.ge HI122.out)) | exact HB.out)⟩
     ·
      replace c35 := Bool.eq_false_iff.mpr c35
      subst c35
      have H1 : (some ((⟨#[]⟩ : ByteArray), 91)) = some (r1, r2) := by rw [if_neg (show ¬ (false = true) by decide)] at H; exact H
      clear H
      have H := H1
      clear H1
      simp only [Option.some.injEq, Prod.mk.injEq] at H
      obtain ⟨rfl, rfl⟩ := H
      go_wp2
      repeat (go_quiet (fail); try go_wp2)
      go_ret2
      exact ⟨by first | rfl | (simp [errW_none, errW_some] <;> rfl) | (simp [*, errW_none, errW_some] <;> rfl), by repeat (first | (with_reducible first | exact HB.out | apply below_alloc | apply pw_below_drewN | apply below_drew1 | refine below_set ?_ (IsS48.ge HI122.out)) | exact HB.out)⟩

end Go.Proofs.Ytadnfcodaoflfaa.Mine
