-- Written by this repo's own printer (wip/print), which builds on the kit's.
import Derived.Test.YtadnfcodaoflfaaMinex0
import Derived.Test.YtadnfcodaoflfaaMinex2
import Derived.Test.YtadnfcodaoflfaaMinex6
import Derived.Test.YtadnfcodaoflfaaMinex7
namespace Go.Proofs.Ytadnfcodaoflfaa.Mine
open Go.RowKit Go.Proofs.YtadnfcodaoflfaaW.PrintWords Go.Proofs.YtadnfcodaoflfaaW.PrintLast Go.Proofs.YtadnfcodaoflfaaW.PrintMore
attribute [local go_sem] max2_int min2_int max_two min_two max_three min_three max_four min_four   -- for this text's walks alone
set_option linter.unusedVariables false
set_option linter.unusedSimpArgs false

/-! ### nuncioref10_Decode: function 14 -/
mutual
def nuncioref10_Decode.l0 : Nat → ByteArray → List Int → List Int → Int → Int → Int → Option (ByteArray × Int)
 | 0, _, _, _, _, _, _ => none
 | k + 1, x0, x4, x5, x6, x7, x8 => if x8 < (wrap64 (8 * (x0.size : Int))) then (if 0 ≤ (wrap64 (Int.tdiv x8 8)) then (if (wrap64 (Int.tdiv x8 8)) < (x0.size : Int) then (nuncioref10_Decode.l1 k x0 x4 x5 x6 x7 x8 (bt x0 (wrap64 (Int.tdiv x8 8))) (Int.tmod x8 8)) else (none)) else (none)) else (if x7 > 7 then (some ((⟨#[]⟩ : ByteArray), 91)) else (nuncioref10_Decode.l3 k x5 x6 x7 0))
def nuncioref10_Decode.l1 : Nat → ByteArray → List Int → List Int → Int → Int → Int → Int → Int → Option (ByteArray × Int)
 | 0, _, _, _, _, _, _, _, _ => none
 | k + 1, x0, x4, x5, x6, x7, x8, x9, x10 => if x10 < 7 then (nuncioref10_Decode.l1 k x0 x4 x5 x6 x7 x8 ((Int.tdiv x9 2) % 256) (wrap64 (x10 + 1))) else (if (wrap64 (x7 + 1)) > 30 then (some ((⟨#[]⟩ : ByteArray), 91)) else (nuncioref10_Decode.l2 k x0 x4 x5 (IntKind.u64.wrap ((IntKind.u64.wrap (x6 * 2)) + (IntKind.u64.wrap (Int.tmod x9 2)))) (wrap64 (x7 + 1)) x8 0))
def nuncioref10_Decode.l2 : Nat → ByteArray → List Int → List Int → Int → Int → Int → Int → Option (ByteArray × Int)
 | 0, _, _, _, _, _, _, _ => none
 | k + 1, x0, x4, x5, x6, x7, x8, x11 => if x11 ≤ 256 then ((nuncioref10_Length.f x11).bind fun t158 => (if t158 = x7 then (if 0 ≤ x11 then (if x11 < (x4.length : Int) then (nuncioref10_Decode.j3 k x0 x4 x5 x6 x7 x8 x11 ((rd x4 x11) == x6)) else (none)) else (none)) else (nuncioref10_Decode.j3 k x0 x4 x5 x6 x7 x8 x11 false))) else (nuncioref10_Decode.l0 k x0 x4 x5 x6 x7 (wrap64 (x8 + 1)))
def nuncioref10_Decode.j3 : Nat → ByteArray → List Int → List Int → Int → Int → Int → Int → Bool → Option (ByteArray × Int)
 | 0, _, _, _, _, _, _, _, _ => none
 | k + 1, x0, x4, x5, x6, x7, x8, x11, x58 => if x58 = true then (if x11 = 256 then (some ((⟨#[]⟩ : ByteArray), 91)) else (if x5.length < 140737488355328 then (nuncioref10_Decode.l0 k x0 x4 (x5 ++ [(x11) % 256]) 0 0 (wrap64 (x8 + 1))) else (none))) else (nuncioref10_Decode.l2 k x0 x4 x5 x6 x7 x8 (wrap64 (x11 + 1)))
def nuncioref10_Decode.l3 : Nat → List Int → Int → Int → Int → Option (ByteArray × Int)
 | 0, _, _, _, _ => none
 | k + 1, x5, x6, x7, x12 => if x12 < x7 then (if (Int.tmod x6 2) = 0 then (some ((⟨#[]⟩ : ByteArray), 91)) else (nuncioref10_Decode.l3 k x5 (IntKind.u64.wrap (Int.tdiv x6 2)) x7 (wrap64 (x12 + 1)))) else (some (strOfNums x5, 0))
end
def nuncioref10_Decode.f (k : Nat) (a0 : ByteArray) : Option (ByteArray × Int) := (nuncioref10_Codes.f k).bind fun t155 => (nuncioref10_Decode.l0 k a0 t155 ([] : List Int) 0 0 0)
theorem nuncioref10_Decode.mono_l : ∀ k, (∀ y0 y1 y2 y3 y4 y5, LeO (nuncioref10_Decode.l0 k y0 y1 y2 y3 y4 y5) (nuncioref10_Decode.l0 (k + 1) y0 y1 y2 y3 y4 y5)) ∧ (∀ y0 y1 y2 y3 y4 y5 y6 y7, LeO (nuncioref10_Decode.l1 k y0 y1 y2 y3 y4 y5 y6 y7) (nuncioref10_Decode.l1 (k + 1) y0 y1 y2 y3 y4 y5 y6 y7)) ∧ (∀ y0 y1 y2 y3 y4 y5 y6, LeO (nuncioref10_Decode.l2 k y0 y1 y2 y3 y4 y5 y6) (nuncioref10_Decode.l2 (k + 1) y0 y1 y2 y3 y4 y5 y6)) ∧ (∀ y0 y1 y2 y3 y4 y5 y6 y7, LeO (nuncioref10_Decode.j3 k y0 y1 y2 y3 y4 y5 y6 y7) (nuncioref10_Decode.j3 (k + 1) y0 y1 y2 y3 y4 y5 y6 y7)) ∧ (∀ y0 y1 y2 y3, LeO (nuncioref10_Decode.l3 k y0 y1 y2 y3) (nuncioref10_Decode.l3 (k + 1) y0 y1 y2 y3))
 | 0 => ⟨fun _ _ _ _ _ _ r h => by simp [nuncioref10_Decode.l0] at h, fun _ _ _ _ _ _ _ _ r h => by simp [nuncioref10_Decode.l1] at h, fun _ _ _ _ _ _ _ r h => by simp [nuncioref10_Decode.l2] at h, fun _ _ _ _ _ _ _ _ r h => by simp [nuncioref10_Decode.j3] at h, fun _ _ _ _ r h => by simp [nuncioref10_Decode.l3] at h⟩
 | k + 1 => by
  obtain ⟨ih0, ih1, ih2, ih3, ih4⟩ := nuncioref10_Decode.mono_l k
  refine ⟨?_, ?_, ?_, ?_, ?_⟩
  ·
   intro y0 y1 y2 y3 y4 y5
   unfold nuncioref10_Decode.l0
   repeat' first
   | (with_reducible exact ih0 _ _ _ _ _ _)
   | (with_reducible exact ih1 _ _ _ _ _ _ _ _)
   | (with_reducible exact ih2 _ _ _ _ _ _ _)
   | (with_reducible exact ih3 _ _ _ _ _ _ _ _)
   | (with_reducible exact ih4 _ _ _ _)
   | (with_reducible exact nuncioref10_Codes.mono _)
   | (with_reducible exact LeO.refl _)
   | (with_reducible exact LeO.none _)
   | (with_reducible refine LeO.ite ?_ ?_)
   | (with_reducible refine LeO.bind ?_ (fun _ => ?_))
   | exact ih0 _ _ _ _ _ _
   | exact ih1 _ _ _ _ _ _ _ _
   | exact ih2 _ _ _ _ _ _ _
   | exact ih3 _ _ _ _ _ _ _ _
   | exact ih4 _ _ _ _
   | exact nuncioref10_Codes.mono _
   | exact LeO.none _
   | refine LeO.ite ?_ ?_
   | refine LeO.bind ?_ (fun _ => ?_)
  ·
   intro y0 y1 y2 y3 y4 y5 y6 y7
   unfold nuncioref10_Decode.l1
   repeat' first
   | (with_reducible exact ih0 _ _ _ _ _ _)
   | (with_reducible exact ih1 _ _ _ _ _ _ _ _)
   | (with_reducible exact ih2 _ _ _ _ _ _ _)
   | (with_reducible exact ih3 _ _ _ _ _ _ _ _)
   | (with_reducible exact ih4 _ _ _ _)
   | (with_reducible exact nuncioref10_Codes.mono _)
   | (with_reducible exact LeO.refl _)
   | (with_reducible exact LeO.none _)
   | (with_reducible refine LeO.ite ?_ ?_)
   | (with_reducible refine LeO.bind ?_ (fun _ => ?_))
   | exact ih0 _ _ _ _ _ _
   | exact ih1 _ _ _ _ _ _ _ _
   | exact ih2 _ _ _ _ _ _ _
   | exact ih3 _ _ _ _ _ _ _ _
   | exact ih4 _ _ _ _
   | exact nuncioref10_Codes.mono _
   | exact LeO.none _
   | refine LeO.ite ?_ ?_
   | refine LeO.bind ?_ (fun _ => ?_)
  ·
   intro y0 y1 y2 y3 y4 y5 y6
   unfold nuncioref10_Decode.l2
   repeat' first
   | (with_reducible exact ih0 _ _ _ _ _ _)
   | (with_reducible exact ih1 _ _ _ _ _ _ _ _)
   | (with_reducible exact ih2 _ _ _ _ _ _ _)
   | (with_reducible exact ih3 _ _ _ _ _ _ _ _)
   | (with_reducible exact ih4 _ _ _ _)
   | (with_reducible exact nuncioref10_Codes.mono _)
   | (with_reducible exact LeO.refl _)
   | (with_reducible exact LeO.none _)
   | (with_reducible refine LeO.ite ?_ ?_)
   | (with_reducible refine LeO.bind ?_ (fun _ => ?_))
   | exact ih0 _ _ _ _ _ _
   | exact ih1 _ _ _ _ _ _ _ _
   | exact ih2 _ _ _ _ _ _ _
   | exact ih3 _ _ _ _ _ _ _ _
   | exact ih4 _ _ _ _
   | exact nuncioref10_Codes.mono _
   | exact LeO.none _
   | refine LeO.ite ?_ ?_
   | refine LeO.bind ?_ (fun _ => ?_)
  ·
   intro y0 y1 y2 y3 y4 y5 y6 y7
   unfold nuncioref10_Decode.j3
   repeat' first
   | (with_reducible exact ih0 _ _ _ _ _ _)
   | (with_reducible exact ih1 _ _ _ _ _ _ _ _)
   | (with_reducible exact ih2 _ _ _ _ _ _ _)
   | (with_reducible exact ih3 _ _ _ _ _ _ _ _)
   | (with_reducible exact ih4 _ _ _ _)
   | (with_reducible exact nuncioref10_Codes.mono _)
   | (with_reducible exact LeO.refl _)
   | (with_reducible exact LeO.none _)
   | (with_reducible refine LeO.ite ?_ ?_)
   | (with_reducible refine LeO.bind ?_ (fun _ => ?_))
   | exact ih0 _ _ _ _ _ _
   | exact ih1 _ _ _ _ _ _ _ _
   | exact ih2 _ _ _ _ _ _ _
   | exact ih3 _ _ _ _ _ _ _ _
   | exact ih4 _ _ _ _
   | exact nuncioref10_Codes.mono _
   | exact LeO.none _
   | refine LeO.ite ?_ ?_
   | refine LeO.bind ?_ (fun _ => ?_)
  ·
   intro y0 y1 y2 y3
   unfold nuncioref10_Decode.l3
   repeat' first
   | (with_reducible exact ih0 _ _ _ _ _ _)
   | (with_reducible exact ih1 _ _ _ _ _ _ _ _)
   | (with_reducible exact ih2 _ _ _ _ _ _ _)
   | (with_reducible exact ih3 _ _ _ _ _ _ _ _)
   | (with_reducible exact ih4 _ _ _ _)
   | (with_reducible exact nuncioref10_Codes.mono _)
   | (with_reducible exact LeO.refl _)
   | (with_reducible exact LeO.none _)
   | (with_reducible refine LeO.ite ?_ ?_)
   | (with_reducible refine LeO.bind ?_ (fun _ => ?_))
   | exact ih0 _ _ _ _ _ _
   | exact ih1 _ _ _ _ _ _ _ _
   | exact ih2 _ _ _ _ _ _ _
   | exact ih3 _ _ _ _ _ _ _ _
   | exact ih4 _ _ _ _
   | exact nuncioref10_Codes.mono _
   | exact LeO.none _
   | refine LeO.ite ?_ ?_
   | refine LeO.bind ?_ (fun _ => ?_)
theorem nuncioref10_Decode.mono : ∀ a0 k, LeO (nuncioref10_Decode.f k a0) (nuncioref10_Decode.f (k + 1) a0) := by
 intro a0 k
 obtain ⟨ih0, ih1, ih2, ih3, ih4⟩ := nuncioref10_Decode.mono_l k
 unfold nuncioref10_Decode.f
 repeat' first
   | (with_reducible exact ih0 _ _ _ _ _ _)
   | (with_reducible exact ih1 _ _ _ _ _ _ _ _)
   | (with_reducible exact ih2 _ _ _ _ _ _ _)
   | (with_reducible exact ih3 _ _ _ _ _ _ _ _)
   | (with_reducible exact ih4 _ _ _ _)
   | (with_reducible exact nuncioref10_Codes.mono _)
   | (with_reducible exact LeO.refl _)
   | (with_reducible exact LeO.none _)
   | (with_reducible refine LeO.ite ?_ ?_)
   | (with_reducible refine LeO.bind ?_ (fun _ => ?_))
   | exact ih0 _ _ _ _ _ _
   | exact ih1 _ _ _ _ _ _ _ _
   | exact ih2 _ _ _ _ _ _ _
   | exact ih3 _ _ _ _ _ _ _ _
   | exact ih4 _ _ _ _
   | exact nuncioref10_Codes.mono _
   | exact LeO.none _
   | refine LeO.ite ?_ ?_
   | refine LeO.bind ?_ (fun _ => ?_)
set_option maxHeartbeats 8000000 in
set_option maxRecDepth 100000 in
theorem nuncioref10_Decode.calls (k : Nat) (a0 : ByteArray) (r1 : ByteArray) (r2 : Int) (w : World) (h : nuncioref10_Decode.f k a0 = some (r1, r2)) :
  Calls Try.prog 14 #[.string a0] w fun e w' => e = .returned (.tuple #[.string r1, .int .i64 r2]) ∧ Below w.heap.size w w' := by
 have HB := Aside0.mk (Below.refl w.heap.size w)
 have H : ((nuncioref10_Codes.f k).bind fun t155 => (nuncioref10_Decode.l0 k a0 t155 ([] : List Int) 0 0 0)) = some (r1, r2) := h
 clear h
 replace H := Option.bind_eq_some_iff.mp H
 obtain ⟨t155, A20, H⟩ := H
 replace H : (nuncioref10_Decode.l0 k a0 t155 ([] : List Int) 0 0 0) = some (r1, r2) := H
 have A2 := Aside0.mk A20
 clear A20
 have H' := Aside0.mk H
 clear H
 go_enter Try.func14, Try.ntmps14
 go_wp2_with (first | ((with_reducible refine gate_callee (f := 15) rfl ?_); refine goesL_ (some 13) rfl rfl Try.func15 (by kernel_rfl) rfl #[] rfl (by (try simp only [List.map_toArray, List.map_cons, List.map_nil]); first | done | rfl | (simp only [List.length_drop, List.length_take]; rfl)) ?_; (with_reducible refine (nuncioref10_Codes.calls k  t155 _ A2.out).mono ?_); rintro e w3 ⟨v156, rfl, ho0, hb⟩; refine ⟨_, rfl, ?_⟩; have n0_ := Aside0.mk (Kd.R_lower ho0 (below_size (by repeat (first | (with_reducible first | exact HB.out | apply below_alloc | apply pw_below_drewN | apply below_drew1) | exact HB.out)))); have n1_ := Aside0.mk (below_step (by repeat (first | (with_reducible first | exact HB.out | apply below_alloc | apply pw_below_drewN | apply below_drew1) | exact HB.out)) hb); clear HB; have HO157 := n0_; have HB := n1_; clear n0_ n1_; (try clear hb); (try clear hb2); (try clear hk); (try clear hi); (try clear ho0)))
 go_loopg [5, 6, 7, 8] k (fun kq v5 v6 v7 v8 w' => ∃ (x5_1 : List Int) (x6_1 : Int) (x7_1 : Int) (x8_1 : Int), v6 = .int .u64 x6_1 ∧ v7 = .int .i64 x7_1 ∧ v8 = .int .i64 x8_1 ∧ Aside0 (nuncioref10_Decode.l0 kq a0 t155 x5_1 x6_1 x7_1 x8_1 = some (r1, r2)) ∧ Aside0 (kq ≤ k) ∧ Aside0 (Kd.R (Kd.int .u64) 34 w' w.heap.size (fun _ => True) v156 t155) ∧ Aside0 (Kd.R (Kd.int .u8) 5 w' w.heap.size (fun _ => True) v5 x5_1) ∧ Aside0 (Below w.heap.size w w'))
 case atStart => exact ⟨(([] : List Int)), (0), (0), (0), (by first | rfl | (simp; done) | (simp [*]; done)), (by first | rfl | (simp; done) | (simp [*]; done)), (by first | rfl | (simp; done) | (simp [*]; done)), H', ⟨Nat.le_refl _⟩, ⟨by (with_reducible repeat (first | apply Kd.R_alloc | apply Kd.R_drewN | apply Kd.R_drew)); exact HO157.out⟩, ⟨by first | exact Kd.R_nil _ _ _ _ _ | exact Kd.N_nil _ _ _ _ _ | exact Kd.V_nil _ _ _ _ _ | exact Kd.Q_nil _ _ _ _ _ | exact Kd.S_nil _ _ _ _ _⟩, ⟨by repeat (first | (with_reducible first | exact HB.out | apply below_alloc | apply pw_below_drewN | apply below_drew1) | exact HB.out)⟩⟩
 case round =>
  clear H'
  try clear c1
  try clear p2
  obtain ⟨x5_1, x6_1, x7_1, x8_1, rfl, rfl, rfl, HA, HK1, HO_4, HO_5, HB⟩ := hrel
  cases gk with
  | zero => exact absurd HA.out (by simp [nuncioref10_Decode.l0])
  | succ k1 =>
   have H := HA.out
   clear HA
   simp only [nuncioref10_Decode.l0] at H
   by_cases c4 : x8_1 < (wrap64 (8 * (a0.size : Int)))
   ·
    rw [if_pos c4] at H
    have c4b0 : decide (x8_1 < (wrap64 (8 * (a0.size : Int)))) = true := decide_eq_true c4
    clear c4
    obtain ⟨ji5, hji5⟩ : ∃ j_ : Int, (wrap64 (Int.tdiv x8_1 8)) = j_ := ⟨_, rfl⟩
    replace H : (if 0 ≤ (ji5) then (if (ji5) < (a0.size : Int) then (nuncioref10_Decode.l1 k1 a0 t155 x5_1 x6_1 x7_1 x8_1 (bt a0 (ji5)) (Int.tmod x8_1 8)) else (none)) else (none)) = some (r1, r2) := by first | (rw [hji5] at H; exact H) | (simp only [hji5] at H ⊢; exact H)
    have hji5w : (IntKind.i64.wrap (Int.tdiv x8_1 8)) = ji5 := (i64_w _).trans hji5
    by_cases c6 : 0 ≤ (ji5)
    ·
     rw [if_pos c6] at H
     have c6b0 : decide (0 ≤ (ji5)) = true := decide_eq_true c6
     clear c6
     by_cases c7 : (ji5) < (a0.size : Int)
     ·
      rw [if_pos c7] at H
      have c7b0 : decide ((ji5) < (a0.size : Int)) = true := decide_eq_true c7
      clear c7
      have H' := Aside0.mk H
      clear H
      have p8 : 0 ≤ ((ji5) : Int) := of_decide_eq_true (by first | (with_reducible assumption) | assumption)
      have q8 : (ji5) < (a0.size : Int) := of_decide_eq_true (by first | (with_reducible assumption) | assumption)
      have hx8 := bt_at a0 (ji5)
      replace p8 := eq_true p8
      replace q8 := eq_true q8
      go_wp2
      go_loopg [9, 10] k1 (fun kq v9 v10 w' => ∃ (x9_2 : Int) (x10_2 : Int), v9 = .int .u8 x9_2 ∧ v10 = .int .i64 x10_2 ∧ Aside0 (nuncioref10_Decode.l1 kq a0 t155 x5_1 x6_1 x7_1 x8_1 x9_2 x10_2 = some (r1, r2)) ∧ Aside0 (kq ≤ k1) ∧ Aside0 (Kd.R (Kd.int .u64) 34 w' w.heap.size (fun _ => True) v156 t155) ∧ Aside0 (Kd.R (Kd.int .u8) 5 w' w.heap.size (fun _ => True) u5 x5_1) ∧ Aside0 (Below w.heap.size w w'))
      case atStart => exact ⟨(bt a0 (ji5)), (Int.tmod x8_1 8), (by first | rfl | (simp; done) | (simp only [← hji5] <;> (first | rfl | simp)) | (simp [*]; done)), (by first | rfl | (simp; done) | (simp [*]; done)), H', ⟨Nat.le_refl _⟩, ⟨by (with_reducible repeat (first | apply Kd.R_alloc | apply Kd.R_drewN | apply Kd.R_drew)); exact HO_4.out⟩, ⟨by (with_reducible repeat (first | apply Kd.R_alloc | apply Kd.R_drewN | apply Kd.R_drew)); exact HO_5.out⟩, ⟨by repeat (first | (with_reducible first | exact HB.out | apply below_alloc | apply pw_below_drewN | apply below_drew1) | exact HB.out)⟩⟩
      case round =>
       clear H'
       try clear c1
       try clear p2
       try clear c4
       try clear c4b0
       try clear c6
       try clear c6b0
       try clear p6
       try clear c7
       try clear c7b0
       try clear p8
       try clear q8
       try clear hx8
       try clear p2
       try clear p8
       try clear q8
       obtain ⟨x9_2, x10_2, rfl, rfl, HA, HK2, HO_4, HO_5, HB⟩ := hrel
       cases gk with
       | zero => exact absurd HA.out (by simp [nuncioref10_Decode.l1])
       | succ k2 =>
        have H := HA.out
        clear HA
        simp only [nuncioref10_Decode.l1] at H
        by_cases c9 : x10_2 < 7
        ·
         rw [if_pos c9] at H
         have c9b0 : decide (x10_2 < 7) = true := decide_eq_true c9
         clear c9
         have H' := Aside0.mk H
         clear H
         go_wp2
         go_roundg k2
         case measure => have := HK1.out; have := HK2.out; omega
         case rel => exact ⟨((Int.tdiv x9_2 2) % 256), (wrap64 (x10_2 + 1)), (by first | rfl | (simp; done) | (simp [*]; done)), (by first | rfl | (simp; done) | (simp [*]; done)), H', ⟨by have := HK1.out; have := HK2.out; omega⟩, ⟨by (with_reducible repeat (first | apply Kd.R_alloc | apply Kd.R_drewN | apply Kd.R_drew)); exact HO_4.out⟩, ⟨by (with_reducible repeat (first | apply Kd.R_alloc | apply Kd.R_drewN | apply Kd.R_drew)); exact HO_5.out⟩, ⟨by repeat (first | (with_reducible first | exact HB.out | apply below_alloc | apply pw_below_drewN | apply below_drew1) | exact HB.out)⟩⟩
        ·
         rw [if_neg c9] at H
         have c9b0 : decide (x10_2 < 7) = false := decide_eq_false c9
         clear c9
         by_cases c10 : (wrap64 (x7_1 + 1)) > 30
         ·
          rw [if_pos c10] at H
          have c10b0 : decide (30 < (wrap64 (x7_1 + 1))) = true := decide_eq_true c10
          clear c10
          simp only [Option.some.injEq, Prod.mk.injEq] at H
          obtain ⟨rfl, rfl⟩ := H
          go_wp2
          go_ret2
          exact ⟨by first | rfl | (simp [errW_none, errW_some] <;> rfl) | (simp only [← hji5]; first | rfl | (simp [errW_none, errW_some] <;> rfl)) | (simp [*, errW_none, errW_some] <;> rfl), by repeat (first | (with_reducible first | exact HB.out | apply below_alloc | apply pw_below_drewN | apply below_drew1) | exact HB.out)⟩
         ·
          rw [if_neg c10] at H
          have c10b0 : decide (30 < (wrap64 (x7_1 + 1))) = false := decide_eq_false c10
          clear c10
          have H' := Aside0.mk H
          clear H
          go_wp2
          go_loopg [5, 6, 7, 11] k2 (fun kq v5 v6 v7 v11 w' => ∃ (x5_3 : List Int) (x6_3 : Int) (x7_3 : Int) (x11_3 : Int), v6 = .int .u64 x6_3 ∧ v7 = .int .i64 x7_3 ∧ v11 = .int .i64 x11_3 ∧ Aside0 (nuncioref10_Decode.l2 kq a0 t155 x5_3 x6_3 x7_3 x8_1 x11_3 = some (r1, r2)) ∧ Aside0 (kq ≤ k2) ∧ Aside0 (Kd.R (Kd.int .u64) 34 w' w.heap.size (fun _ => True) v156 t155) ∧ Aside0 (Kd.R (Kd.int .u8) 5 w' w.heap.size (fun _ => True) v5 x5_3) ∧ Aside0 (Below w.heap.size w w'))
          case atStart => exact ⟨(x5_1), (IntKind.u64.wrap ((IntKind.u64.wrap (x6_1 * 2)) + (IntKind.u64.wrap (Int.tmod x9_2 2)))), (wrap64 (x7_1 + 1)), (0), (by first | rfl | (simp; done) | (simp [*]; done)), (by first | rfl | (simp; done) | (simp [*]; done)), (by first | rfl | (simp; done) | (simp [*]; done)), H', ⟨Nat.le_refl _⟩, ⟨by (with_reducible repeat (first | apply Kd.R_alloc | apply Kd.R_drewN | apply Kd.R_drew)); exact HO_4.out⟩, ⟨by (with_reducible repeat (first | apply Kd.R_alloc | apply Kd.R_drewN | apply Kd.R_drew)); exact HO_5.out⟩, ⟨by repeat (first | (with_reducible first | exact HB.out | apply below_alloc | apply pw_below_drewN | apply below_drew1) | exact HB.out)⟩⟩
          case round =>
           clear H'
           try clear c1
           try clear p2
           try clear c4
           try clear c4b0
           try clear c6
           try clear c6b0
           try clear p6
           try clear c7
           try clear c7b0
           try clear p8
           try clear q8
           try clear hx8
           try clear c9
           try clear c9b0
           try clear c10
           try clear c10b0
           try clear p2
           try clear p6
           try clear p8
           try clear q8
           obtain ⟨x5_3, x6_3, x7_3, x11_3, rfl, rfl, rfl, HA, HK3, HO_4, HO_5, HB⟩ := hrel
           cases gk with
           | zero => exact absurd HA.out (by simp [nuncioref10_Decode.l2])
           | succ k3 =>
            have H := HA.out
            clear HA
            simp only [nuncioref10_Decode.l2] at H
            by_cases c11 : x11_3 ≤ 256
            ·
             rw [if_pos c11] at H
             have c11b0 : decide (x11_3 ≤ 256) = true := decide_eq_true c11
             clear c11
             have HC12 := Aside0.mk H
             clear H
             go_upto_region 20 with (fail)
             go_cut [58] (fun v58 wc => ∃ (kq : Nat) (x58_11 : Bool), v58 = .bool x58_11 ∧ Aside0 (nuncioref10_Decode.j3 kq a0 t155 x5_3 x6_3 x7_3 x8_1 x11_3 x58_11 = some (r1, r2)) ∧ Aside0 (kq ≤ k3) ∧ Aside0 (Kd.R (Kd.int .u64) 34 wc w.heap.size (fun _ => True) v156 t155) ∧ Aside0 (Kd.R (Kd.int .u8) 5 wc w.heap.size (fun _ => True) u5 x5_3) ∧ Aside0 (Below w.heap.size w wc))
             case first =>
              have H := HC12.out
              clear HC12
              replace H := Option.bind_eq_some_iff.mp H
              obtain ⟨t158, A130, H⟩ := H
              replace H : (if t158 = x7_3 then (if 0 ≤ x11_3 then (if x11_3 < (t155.length : Int) then (nuncioref10_Decode.j3 k3 a0 t155 x5_3 x6_3 x7_3 x8_1 x11_3 ((rd t155 x11_3) == x6_3)) else (none)) else (none)) else (nuncioref10_Decode.j3 k3 a0 t155 x5_3 x6_3 x7_3 x8_1 x11_3 false)) = some (r1, r2) := H
              have A13 := Aside0.mk A130
              clear A130
              by_cases c14 : t158 = x7_3
              ·
               rw [if_pos c14] at H
               have c14b0 : (t158 == x7_3) = true := beq_iff_eq.mpr c14
               have c14b1 : (t158 != x7_3) = false := bne_eq_false_iff_eq.mpr c14
               clear c14
               (first | rw [c14b0] | rw [c14b1] | (simp only [i64_w, i32_w]; rw [c14b0]) | skip)
               by_cases c15 : 0 ≤ x11_3
               ·
                rw [if_pos c15] at H
                have c15b0 : decide (0 ≤ x11_3) = true := decide_eq_true c15
                clear c15
                by_cases c16 : x11_3 < (t155.length : Int)
                ·
                 rw [if_pos c16] at H
                 have c16b0 : decide (x11_3 < (t155.length : Int)) = true := decide_eq_true c16
                 clear c16
                 have H' := Aside0.mk H
                 clear H
                 go_wp2_with (first | ((with_reducible refine gate_callee (f := 17) rfl ?_); refine goesL_ (some 48) rfl rfl Try.func17 (by kernel_rfl) rfl #[.int .i64 x11_3] rfl (by (try simp only [List.map_toArray, List.map_cons, List.map_nil]); first | done | rfl | (simp only [List.length_drop, List.length_take]; rfl)) ?_; (with_reducible refine (nuncioref10_Length.calls x11_3 t158 _ A13.out).mono ?_); rintro e w' ⟨rfl, ⟨nd, rfl⟩⟩; refine ⟨_, rfl, ?_⟩; obtain ⟨Ao17, co17, eo17⟩ := Kd.R_slice HO_4.out; subst eo17; have p159 : 0 ≤ (x11_3 : Int) := of_decide_eq_true (by first | (with_reducible assumption) | assumption); have q159 : x11_3 < (t155.length : Int) := of_decide_eq_true (by first | (with_reducible assumption) | assumption); obtain ⟨ad159, e159, hx159_0⟩ := Kd.at_int (Kd.R_reads' HO_4.out).2.2 x11_3 p159 q159; cases e159; replace p159 := eq_true p159; replace q159 := eq_true q159))
                 go_meet
                 case rel => exact ⟨_, (((rd t155 x11_3) == x6_3)), (by first | rfl | (simp; done) | (simp [*]; done)), H', ⟨by have := HK1.out; have := HK2.out; have := HK3.out; first | omega | exact Nat.le_refl _⟩, ⟨by (with_reducible repeat (first | apply Kd.R_alloc | apply Kd.R_drewN | apply Kd.R_drew)); exact HO_4.out⟩, ⟨by (with_reducible repeat (first | apply Kd.R_alloc | apply Kd.R_drewN | apply Kd.R_drew)); exact HO_5.out⟩, ⟨by repeat (first | (with_reducible first | exact HB.out | apply below_alloc | apply pw_below_drewN | apply below_drew1) | exact HB.out)⟩⟩
                ·
                 rw [if_neg c16] at H
                 exact absurd H (by simp)
               ·
                rw [if_neg c15] at H
                exact absurd H (by simp)
              ·
               rw [if_neg c14] at H
               have c14b0 : (t158 == x7_3) = false := beq_eq_false_iff_ne.mpr c14
               have c14b1 : (t158 != x7_3) = true := bne_iff_ne.mpr c14
               (first | rw [c14b0] | rw [c14b1] | (simp only [i64_w, i32_w]; rw [c14b0]) | skip)
               have H' := Aside0.mk H
               clear H
               go_wp2_with (first | ((with_reducible refine gate_callee (f := 17) rfl ?_); refine goesL_ (some 48) rfl rfl Try.func17 (by kernel_rfl) rfl #[.int .i64 x11_3] rfl (by (try simp only [List.map_toArray, List.map_cons, List.map_nil]); first | done | rfl | (simp only [List.length_drop, List.length_take]; rfl)) ?_; (with_reducible refine (nuncioref10_Length.calls x11_3 t158 _ A13.out).mono ?_); rintro e w' ⟨rfl, ⟨nd, rfl⟩⟩; refine ⟨_, rfl, ?_⟩))
               go_meet
               case rel => exact ⟨_, (false), (by first | rfl | (simp; done) | (simp [*]; done)), H', ⟨by have := HK1.out; have := HK2.out; have := HK3.out; first | omega | exact Nat.le_refl _⟩, ⟨by (with_reducible repeat (first | apply Kd.R_alloc | apply Kd.R_drewN | apply Kd.R_drew)); exact HO_4.out⟩, ⟨by (with_reducible repeat (first | apply Kd.R_alloc | apply Kd.R_drewN | apply Kd.R_drew)); exact HO_5.out⟩, ⟨by repeat (first | (with_reducible first | exact HB.out | apply below_alloc | apply pw_below_drewN | apply below_drew1) | exact HB.out)⟩⟩
             case rest =>
              clear HC12
              try clear c1
              try clear p1
              try clear q1
              try clear hx1
              try clear p2
              try clear c4
              try clear c4b0
              try clear c6
              try clear c6b0
              try clear p6
              try clear c7
              try clear c7b0
              try clear p8
              try clear q8
              try clear hx8
              try clear c9
              try clear c9b0
              try clear c10
              try clear c10b0
              try clear c11
              try clear c11b0
              try clear c14
              try clear c14b0
              try clear c14b1
              try clear c15
              try clear c15b0
              try clear p15
              try clear q15
              try clear hx15
              try clear c16
              try clear c16b0
              try clear c17
              try clear hx159_0
              try clear p159
              try clear p2
              try clear p6
              try clear p8
              try clear q159
              try clear q8
              obtain ⟨kq, x58_11, rfl, HA, HJ11, HO_4, HO_5, HB⟩ := hcut
              cases kq with
              | zero => exact absurd HA.out (by simp [nuncioref10_Decode.j3])
              | succ kj11 =>
               have H := HA.out
               clear HA
               simp only [nuncioref10_Decode.j3] at H
               by_cases c18 : x58_11 = true
               ·
                subst c18
                have H1 : (if x11_3 = 256 then (some ((⟨#[]⟩ : ByteArray), 91)) else (if x5_3.length < 140737488355328 then (nuncioref10_Decode.l0 kj11 a0 t155 (x5_3 ++ [(x11_3) % 256]) 0 0 (wrap64 (x8_1 + 1))) else (none))) = some (r1, r2) := by rw [if_pos rfl] at H; exact H
                clear H
                have H := H1
                clear H1
                by_cases c19 : x11_3 = 256
                ·
                 rw [if_pos c19] at H
                 have c19b0 : (x11_3 == 256) = true := beq_iff_eq.mpr c19
                 have c19b1 : (x11_3 != 256) = false := bne_eq_false_iff_eq.mpr c19
                 clear c19
                 simp only [Option.some.injEq, Prod.mk.injEq] at H
                 obtain ⟨rfl, rfl⟩ := H
                 go_wp2
                 go_ret2
                 exact ⟨by first | rfl | (simp [errW_none, errW_some] <;> rfl) | (simp only [← hji5]; first | rfl | (simp [errW_none, errW_some] <;> rfl)) | (simp [*, errW_none, errW_some] <;> rfl), by repeat (first | (with_reducible first | exact HB.out | apply below_alloc | apply pw_below_drewN | apply below_drew1) | exact HB.out)⟩
                ·
                 rw [if_neg c19] at H
                 have c19b0 : (x11_3 == 256) = false := beq_eq_false_iff_ne.mpr c19
                 have c19b1 : (x11_3 != 256) = true := bne_iff_ne.mpr c19
                 by_cases c20 : x5_3.length < 140737488355328
                 ·
                  rw [if_pos c20] at H
                  have LMc20 := Aside0.mk c20
                  clear c20
                  obtain ⟨y160, hy160⟩ : ∃ y_ : List Int, y_ = (x5_3 ++ [(x11_3) % 256]) := ⟨_, rfl⟩
                  replace H : (nuncioref10_Decode.l0 kj11 a0 t155 y160 0 0 (wrap64 (x8_1 + 1))) = some (r1, r2) := by first | (rw [hy160]; with_reducible exact H) | (have H2_ := (Option.bind_some _ _).symm.trans H; rw [hy160]; with_reducible exact H2_) | (have H2_ := (Option.bind_some _ _).symm.trans H; with_reducible exact H2_) | with_reducible exact H | (rw [hy160]; exact H) | exact H
                  have Ny160 := Aside0.mk hy160
                  clear hy160
                  have H' := Aside0.mk H
                  clear H
                  go_wp2_with (first | ((with_reducible refine gate_builtin (b := .append) (xs := #[.tmp 61, .tmp 64]) rfl ?_); at_builtin; refine Kd.R_append (Kd.int .u8) (w0 := w) w.heap.size rfl (.tmp 61) (.tmp 64) 42 5 (.int .u8 0) 1 rfl Try.underlying42 info5 rfl (by decide) (by omega) u5 x5_3 ((x11_3) % 256) [.int .u8 ((x11_3) % 256)] (fun _ => True) (fun _ => False) rfl rfl ?aP (fun _ hk => hk.elim) ?aF ?aO ?aB ?aS ?aL ?_; (case aP => exact rfl); (case aB => exact (by repeat (first | (with_reducible first | exact HB.out | apply below_alloc | apply pw_below_drewN | apply below_drew1) | exact HB.out))); (case aF => exact (fun _ _ => trivial)); (case aO => exact (by (with_reducible repeat (first | apply Kd.R_alloc | apply Kd.R_drewN | apply Kd.R_drew)); exact HO_5.out)); (case aS => exact (below_size (by repeat (first | (with_reducible first | exact HB.out | apply below_alloc | apply pw_below_drewN | apply below_drew1) | exact HB.out)))); (case aL => have := LMc20.out; omega); intro v161 w21 ho hb hg hat; rw [← Ny160.out] at ho; have n0_ := Aside0.mk (Kd.R_over' (by (with_reducible repeat (first | apply Kd.R_alloc | apply Kd.R_drewN | apply Kd.R_drew)); exact HO_4.out) (Kd.R_typed (by (with_reducible repeat (first | apply Kd.R_alloc | apply Kd.R_drewN | apply Kd.R_drew)); exact HO_5.out)) (by decide) hg); have n1_ := Aside0.mk (hb); have n2_ := Aside0.mk (ho); clear HO_4; clear HB; clear HO_5; have HO_4 := n0_; have HB := n1_; have HO162 := n2_; clear n0_ n1_ n2_; clear ho hb hg hat))
                  go_roundg kj11
                  case measure => have := HK1.out; have := HK2.out; have := HK3.out; have := HJ11.out; omega
                  case rel => exact ⟨(y160), (0), (0), (wrap64 (x8_1 + 1)), (by first | rfl | (simp; done) | (simp [*]; done)), (by first | rfl | (simp; done) | (simp [*]; done)), (by first | rfl | (simp; done) | (simp [*]; done)), H', ⟨by have := HK1.out; have := HK2.out; have := HK3.out; have := HJ11.out; omega⟩, ⟨by (with_reducible repeat (first | apply Kd.R_alloc | apply Kd.R_drewN | apply Kd.R_drew)); exact HO_4.out⟩, ⟨by (with_reducible repeat (first | apply Kd.R_alloc | apply Kd.R_drewN | apply Kd.R_drew)); exact HO162.out⟩, ⟨by repeat (first | (with_reducible first | exact HB.out | apply below_alloc | apply pw_below_drewN | apply below_drew1) | exact HB.out)⟩⟩
                 ·
                  rw [if_neg c20] at H
                  exact absurd H (by simp)
               ·
                replace c18 := Bool.eq_false_iff.mpr c18
                subst c18
                have H1 : (nuncioref10_Decode.l2 kj11 a0 t155 x5_3 x6_3 x7_3 x8_1 (wrap64 (x11_3 + 1))) = some (r1, r2) := by rw [if_neg (show ¬ (false = true) by decide)] at H; exact H
                clear H
                have H := H1
                clear H1
                have H' := Aside0.mk H
                clear H
                go_wp2
                go_roundg kj11
                case measure => have := HK1.out; have := HK2.out; have := HK3.out; have := HJ11.out; omega
                case rel => exact ⟨(x5_3), (x6_3), (x7_3), (wrap64 (x11_3 + 1)), (by first | rfl | (simp; done) | (simp [*]; done)), (by first | rfl | (simp; done) | (simp [*]; done)), (by first | rfl | (simp; done) | (simp [*]; done)), H', ⟨by have := HK1.out; have := HK2.out; have := HK3.out; have := HJ11.out; omega⟩, ⟨by (with_reducible repeat (first | apply Kd.R_alloc | apply Kd.R_drewN | apply Kd.R_drew)); exact HO_4.out⟩, ⟨by (with_reducible repeat (first | apply Kd.R_alloc | apply Kd.R_drewN | apply Kd.R_drew)); exact HO_5.out⟩, ⟨by repeat (first | (with_reducible first | exact HB.out | apply below_alloc | apply pw_below_drewN | apply below_drew1) | exact HB.out)⟩⟩
            ·
             rw [if_neg c11] at H
             have c11b0 : decide (x11_3 ≤ 256) = false := decide_eq_false c11
             clear c11
             have H' := Aside0.mk H
             clear H
             go_wp2
             go_roundg k3
             case measure => have := HK1.out; have := HK2.out; have := HK3.out; omega
             case rel => exact ⟨(x5_3), (x6_3), (x7_3), (wrap64 (x8_1 + 1)), (by first | rfl | (simp; done) | (simp [*]; done)), (by first | rfl | (simp; done) | (simp [*]; done)), (by first | rfl | (simp; done) | (simp [*]; done)), H', ⟨by have := HK1.out; have := HK2.out; have := HK3.out; omega⟩, ⟨by (with_reducible repeat (first | apply Kd.R_alloc | apply Kd.R_drewN | apply Kd.R_drew)); exact HO_4.out⟩, ⟨by (with_reducible repeat (first | apply Kd.R_alloc | apply Kd.R_drewN | apply Kd.R_drew)); exact HO_5.out⟩, ⟨by repeat (first | (with_reducible first | exact HB.out | apply below_alloc | apply pw_below_drewN | apply below_drew1) | exact HB.out)⟩⟩
     ·
      rw [if_neg c7] at H
      exact absurd H (by simp)
    ·
     rw [if_neg c6] at H
     exact absurd H (by simp)
   ·
    rw [if_neg c4] at H
    have c4b0 : decide (x8_1 < (wrap64 (8 * (a0.size : Int)))) = false := decide_eq_false c4
    clear c4
    by_cases c22 : x7_1 > 7
    ·
     rw [if_pos c22] at H
     have c22b0 : decide (7 < x7_1) = true := decide_eq_true c22
     clear c22
     simp only [Option.some.injEq, Prod.mk.injEq] at H
     obtain ⟨rfl, rfl⟩ := H
     go_wp2
     go_ret2
     exact ⟨by first | rfl | (simp [errW_none, errW_some] <;> rfl) | (simp [*, errW_none, errW_some] <;> rfl), by repeat (first | (with_reducible first | exact HB.out | apply below_alloc | apply pw_below_drewN | apply below_drew1) | exact HB.out)⟩
    ·
     rw [if_neg c22] at H
     have c22b0 : decide (7 < x7_1) = false := decide_eq_false c22
     clear c22
     have H' := Aside0.mk H
     clear H
     go_wp2
     go_loopg [6, 12] k1 (fun kq v6 v12 w' => ∃ (x6_2 : Int) (x12_2 : Int), v6 = .int .u64 x6_2 ∧ v12 = .int .i64 x12_2 ∧ Aside0 (nuncioref10_Decode.l3 kq x5_1 x6_2 x7_1 x12_2 = some (r1, r2)) ∧ Aside0 (kq ≤ k1) ∧ Aside0 (Kd.R (Kd.int .u8) 5 w' w.heap.size (fun _ => True) u5 x5_1) ∧ Aside0 (Below w.heap.size w w'))
     case atStart => exact ⟨(x6_1), (0), (by first | rfl | (simp; done) | (simp [*]; done)), (by first | rfl | (simp; done) | (simp [*]; done)), H', ⟨Nat.le_refl _⟩, ⟨by (with_reducible repeat (first | apply Kd.R_alloc | apply Kd.R_drewN | apply Kd.R_drew)); exact HO_5.out⟩, ⟨by repeat (first | (with_reducible first | exact HB.out | apply below_alloc | apply pw_below_drewN | apply below_drew1) | exact HB.out)⟩⟩
     case round =>
      clear H'
      try clear c1
      try clear p1
      try clear q1
      try clear hx1
      try clear c2
      try clear p2
      try clear c4
      try clear c4b0
      try clear c6
      try clear c6b0
      try clear p6
      try clear c7
      try clear c7b0
      try clear p8
      try clear q8
      try clear hx8
      try clear c9
      try clear c9b0
      try clear c10
      try clear c10b0
      try clear c11
      try clear c11b0
      try clear c14
      try clear c14b0
      try clear c14b1
      try clear c15
      try clear c15b0
      try clear p15
      try clear q15
      try clear hx15
      try clear c16
      try clear c16b0
      try clear c17
      try clear c18
      try clear c19
      try clear c19b0
      try clear c19b1
      try clear c20
      try clear c22
      try clear c22b0
      try clear hx159_0
      try clear p1
      try clear p15
      try clear p159
      try clear p2
      try clear p6
      try clear p8
      try clear q1
      try clear q15
      try clear q159
      try clear q8
      obtain ⟨x6_2, x12_2, rfl, rfl, HA, HK2, HO_5, HB⟩ := hrel
      cases gk with
      | zero => exact absurd HA.out (by simp [nuncioref10_Decode.l3])
      | succ k2 =>
       have H := HA.out
       clear HA
       simp only [nuncioref10_Decode.l3] at H
       by_cases c23 : x12_2 < x7_1
       ·
        rw [if_pos c23] at H
        have c23b0 : decide (x12_2 < x7_1) = true := decide_eq_true c23
        clear c23
        by_cases c24 : (Int.tmod x6_2 2) = 0
        ·
         rw [if_pos c24] at H
         have c24b0 : ((Int.tmod x6_2 2) == 0) = true := beq_iff_eq.mpr c24
         have c24b1 : ((Int.tmod x6_2 2) != 0) = false := bne_eq_false_iff_eq.mpr c24
         clear c24
         (try (have c24b7 := c24b0; rw [Int.tmod_eq_emod_of_nonneg (Int.natCast_nonneg _)] at c24b7))
         (try (have c24b6 := c24b1; rw [Int.tmod_eq_emod_of_nonneg (Int.natCast_nonneg _)] at c24b6))
         simp only [Option.some.injEq, Prod.mk.injEq] at H
         obtain ⟨rfl, rfl⟩ := H
         go_wp2
         go_ret2
         exact ⟨by first | rfl | (simp [errW_none, errW_some] <;> rfl) | (simp [*, errW_none, errW_some] <;> rfl), by repeat (first | (with_reducible first | exact HB.out | apply below_alloc | apply pw_below_drewN | apply below_drew1) | exact HB.out)⟩
        ·
         rw [if_neg c24] at H
         have c24b0 : ((Int.tmod x6_2 2) == 0) = false := beq_eq_false_iff_ne.mpr c24
         have c24b1 : ((Int.tmod x6_2 2) != 0) = true := bne_iff_ne.mpr c24
         (try (have c24b7 := c24b0; rw [Int.tmod_eq_emod_of_nonneg (Int.natCast_nonneg _)] at c24b7))
         (try (have c24b6 := c24b1; rw [Int.tmod_eq_emod_of_nonneg (Int.natCast_nonneg _)] at c24b6))
         have H' := Aside0.mk H
         clear H
         go_wp2
         go_roundg k2
         case measure => have := HK1.out; have := HK2.out; omega
         case rel => exact ⟨(IntKind.u64.wrap (Int.tdiv x6_2 2)), (wrap64 (x12_2 + 1)), (by first | rfl | (simp; done) | (simp [*]; done)), (by first | rfl | (simp; done) | (simp [*]; done)), H', ⟨by have := HK1.out; have := HK2.out; omega⟩, ⟨by (with_reducible repeat (first | apply Kd.R_alloc | apply Kd.R_drewN | apply Kd.R_drew)); exact HO_5.out⟩, ⟨by repeat (first | (with_reducible first | exact HB.out | apply below_alloc | apply pw_below_drewN | apply below_drew1) | exact HB.out)⟩⟩
       ·
        rw [if_neg c23] at H
        have c23b0 : decide (x12_2 < x7_1) = false := decide_eq_false c23
        clear c23
        simp only [Option.some.injEq, Prod.mk.injEq] at H
        obtain ⟨rfl, rfl⟩ := H
        have hcv25 := own_string (P := Try.prog) Try.underlying42 Try.underlying5 Try.underlying9 (Kd.own_of_R HO_5.out)
        go_wp2
        go_ret2
        exact ⟨by first | rfl | (simp [errW_none, errW_some] <;> rfl) | (simp [*, errW_none, errW_some] <;> rfl), by repeat (first | (with_reducible first | exact HB.out | apply below_alloc | apply pw_below_drewN | apply below_drew1) | exact HB.out)⟩

end Go.Proofs.Ytadnfcodaoflfaa.Mine
