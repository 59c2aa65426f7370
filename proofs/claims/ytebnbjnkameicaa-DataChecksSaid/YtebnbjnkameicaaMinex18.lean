-- Written by this repo's own printer (wip/print), which builds on the kit's.
import Derived.Test.YtebnbjnkameicaaMinex0
namespace Go.Proofs.Ytebnbjnkameicaa.Mine
open Go.RowKit Go.Proofs.YtebnbjnkameicaaW.PrintWords Go.Proofs.YtebnbjnkameicaaW.PrintLast Go.Proofs.YtebnbjnkameicaaW.PrintMore
attribute [local go_sem] max2_int min2_int max_two min_two max_three min_three max_four min_four   -- for this text's walks alone
set_option linter.unusedVariables false
set_option linter.unusedSimpArgs false

/-! ### nuncioref01_Put: function 40 -/
def nuncioref01_Put.l0 : Nat → ByteArray → Int → Int → ByteArray → Int → Option (ByteArray)
 | 0, _, _, _, _, _ => none
 | k + 1, x0, x1, x2, x7, x8 => if x8 < x2 then (if x8 < 8 then ((some (([(Int.tmod x1 256) % 256] : List Int) : List Int)).bind fun y241 => (if (strOfNums y241).size + x7.size ≤ 9223372036854775807 then (nuncioref01_Put.l0 k x0 (IntKind.u64.wrap (Int.tdiv x1 256)) x2 ((strOfNums y241) ++ x7) (wrap64 (x8 + 1))) else (none))) else (if x0.size + x7.size ≤ 9223372036854775807 then (some (x0 ++ x7)) else (none))) else (if x0.size + x7.size ≤ 9223372036854775807 then (some (x0 ++ x7)) else (none))
def nuncioref01_Put.f (k : Nat) (a0 : ByteArray) (a1 : Int) (a2 : Int) : Option (ByteArray) := nuncioref01_Put.l0 k a0 a1 a2 (⟨#[]⟩ : ByteArray) 0
theorem nuncioref01_Put.mono_l : ∀ k, (∀ y0 y1 y2 y3 y4, LeO (nuncioref01_Put.l0 k y0 y1 y2 y3 y4) (nuncioref01_Put.l0 (k + 1) y0 y1 y2 y3 y4))
 | 0 => fun _ _ _ _ _ r h => by simp [nuncioref01_Put.l0] at h
 | k + 1 => by
  have ih0 := nuncioref01_Put.mono_l k
  ·
   intro y0 y1 y2 y3 y4
   unfold nuncioref01_Put.l0
   repeat' first
   | (with_reducible exact ih0 _ _ _ _ _)
   | (with_reducible exact LeO.refl _)
   | (with_reducible exact LeO.none _)
   | (with_reducible refine LeO.ite ?_ ?_)
   | (with_reducible refine LeO.bind ?_ (fun _ => ?_))
   | exact ih0 _ _ _ _ _
   | exact LeO.none _
   | refine LeO.ite ?_ ?_
   | refine LeO.bind ?_ (fun _ => ?_)
theorem nuncioref01_Put.mono : ∀ a0 a1 a2 k, LeO (nuncioref01_Put.f k a0 a1 a2) (nuncioref01_Put.f (k + 1) a0 a1 a2) := by
 intro a0 a1 a2 k
 have ih0 := nuncioref01_Put.mono_l k
 unfold nuncioref01_Put.f
 repeat' first
   | (with_reducible exact ih0 _ _ _ _ _)
   | (with_reducible exact LeO.refl _)
   | (with_reducible exact LeO.none _)
   | (with_reducible refine LeO.ite ?_ ?_)
   | (with_reducible refine LeO.bind ?_ (fun _ => ?_))
   | exact ih0 _ _ _ _ _
   | exact LeO.none _
   | refine LeO.ite ?_ ?_
   | refine LeO.bind ?_ (fun _ => ?_)
set_option maxHeartbeats 8000000 in
set_option maxRecDepth 100000 in
theorem nuncioref01_Put.calls (k : Nat) (a0 : ByteArray) (a1 : Int) (a2 : Int) (r : ByteArray) (w : World) (h : nuncioref01_Put.f k a0 a1 a2 = some r) :
  Calls Try.prog 40 #[.string a0, .int .u64 a1, .int .i64 a2] w fun e w' => e = .returned (.string r) ∧ Below w.heap.size w w' := by
 have HB := Aside0.mk (Below.refl w.heap.size w)
 have H : (nuncioref01_Put.l0 k a0 a1 a2 (⟨#[]⟩ : ByteArray) 0) = some r := h
 clear h
 have H' := Aside0.mk H
 clear H
 go_enter Try.func40, Try.ntmps40
 go_wp2
 go_loopg [1, 7, 8] k (fun kq v1 v7 v8 w' => ∃ (x1_1 : Int) (x7_1 : ByteArray) (x8_1 : Int), v1 = .int .u64 x1_1 ∧ v7 = .string x7_1 ∧ v8 = .int .i64 x8_1 ∧ Aside0 (nuncioref01_Put.l0 kq a0 x1_1 a2 x7_1 x8_1 = some r) ∧ Aside0 (kq ≤ k) ∧ Aside0 (Below w.heap.size w w'))
 case atStart => exact ⟨(a1), ((⟨#[]⟩ : ByteArray)), (0), (by first | rfl | (simp; done) | (simp [*]; done)), (by first | rfl | (simp; done) | (simp [*]; done)), (by first | rfl | (simp; done) | (simp [*]; done)), H', ⟨Nat.le_refl _⟩, ⟨by repeat (first | (with_reducible first | exact HB.out | apply below_alloc | apply pw_below_drewN | apply below_drew1) | exact HB.out)⟩⟩
 case round =>
  clear H'
  try clear p2
  obtain ⟨x1_1, x7_1, x8_1, rfl, rfl, rfl, HA, HK1, HB⟩ := hrel
  cases gk with
  | zero => exact absurd HA.out (by simp [nuncioref01_Put.l0])
  | succ k1 =>
   have H := HA.out
   clear HA
   simp only [nuncioref01_Put.l0] at H
   by_cases c4 : x8_1 < a2
   ·
    rw [if_pos c4] at H
    have c4b0 : decide (x8_1 < a2) = true := decide_eq_true c4
    clear c4
    by_cases c5 : x8_1 < 8
    ·
     rw [if_pos c5] at H
     have c5b0 : decide (x8_1 < 8) = true := decide_eq_true c5
     clear c5
     obtain ⟨y241, hy241⟩ : ∃ y_ : List Int, y_ = (([(Int.tmod x1_1 256) % 256] : List Int)) := ⟨_, rfl⟩
     replace H : (if (strOfNums y241).size + x7_1.size ≤ 9223372036854775807 then (nuncioref01_Put.l0 k1 a0 (IntKind.u64.wrap (Int.tdiv x1_1 256)) a2 ((strOfNums y241) ++ x7_1) (wrap64 (x8_1 + 1))) else (none)) = some r := by first | (rw [hy241]; with_reducible exact H) | (have H2_ := (Option.bind_some _ _).symm.trans H; rw [hy241]; with_reducible exact H2_) | (have H2_ := (Option.bind_some _ _).symm.trans H; with_reducible exact H2_) | with_reducible exact H | (rw [hy241]; exact H) | exact H
     have Ny241 := Aside0.mk hy241
     clear hy241
     by_cases c6 : (strOfNums y241).size + x7_1.size ≤ 9223372036854775807
     ·
      rw [if_pos c6] at H
      have c6b0 := eq_true c6
      have c6b1 : decide ((strOfNums y241).size + x7_1.size ≤ 9223372036854775807) = true := decide_eq_true c6
      try have c6b2 : (9223372036854775807 < (strOfNums y241).size + x7_1.size) = False := eq_false (Nat.not_lt.2 c6)
      have H' := Aside0.mk H
      clear H
      go_wp2_with (first | ((with_reducible refine gate_dst (N := 21) rfl ?_); refine Kd.R_lit (Kd.int .u8) _ 5 ?hg (N := 21) ?hd (xs := ([(Int.tmod x1_1 256) % 256] : List Int)) (inner := [.int .u8 ((Int.tmod x1_1 256) % 256)]) (ok := fun _ => True) (okp := fun _ => True) ?hr ?hp (fun _ hk => hk) trivial (Below.refl _ _) (Nat.le_refl _) (by simp) ?_; (case hd => rfl); (case hg => rfl); (case hr => first | (go_simp; done) | (go_simp; rfl)); (case hp => exact (Reps.one (show Kd.M (Kd.int .u8) _ _ _ ((Int.tmod x1_1 256) % 256) [.int .u8 ((Int.tmod x1_1 256) % 256)] from rfl) (Reps.none _ _))); intro v242 w7 ho8 hb hg_ hnew_; clear hg_ hnew_; (first | rw [← Ny241.out] at ho8 | (simp only [Int.reduceToNat] at ho8; rw [← Ny241.out] at ho8)); have n0_ := Aside0.mk (Kd.R_lower ho8 (below_size (by repeat (first | (with_reducible first | exact HB.out | apply below_alloc | apply pw_below_drewN | apply below_drew1) | exact HB.out)))); have n1_ := Aside0.mk (below_step (by repeat (first | (with_reducible first | exact HB.out | apply below_alloc | apply pw_below_drewN | apply below_drew1) | exact HB.out)) hb); clear HB; have HO243 := n0_; have HB := n1_; clear n0_ n1_; clear hb ho8; have hcv9 := own_string (P := Try.prog) Try.underlying44 Try.underlying5 Try.underlying9 (Kd.own_of_R HO243.out)))
      go_roundg k1
      case measure => have := HK1.out; omega
      case rel => exact ⟨(IntKind.u64.wrap (Int.tdiv x1_1 256)), ((strOfNums y241) ++ x7_1), (wrap64 (x8_1 + 1)), (by first | rfl | (simp; done) | (simp [*]; done)), (by first | rfl | (simp; done) | (simp [*]; done)), (by first | rfl | (simp; done) | (simp [*]; done)), H', ⟨by have := HK1.out; omega⟩, ⟨by repeat (first | (with_reducible first | exact HB.out | apply below_alloc | apply pw_below_drewN | apply below_drew1) | exact HB.out)⟩⟩
     ·
      rw [if_neg c6] at H
      exact absurd H (by simp)
    ·
     rw [if_neg c5] at H
     have c5b0 : decide (x8_1 < 8) = false := decide_eq_false c5
     clear c5
     by_cases c10 : a0.size + x7_1.size ≤ 9223372036854775807
     ·
      rw [if_pos c10] at H
      have c10b0 := eq_true c10
      have c10b1 : decide (a0.size + x7_1.size ≤ 9223372036854775807) = true := decide_eq_true c10
      try have c10b2 : (9223372036854775807 < a0.size + x7_1.size) = False := eq_false (Nat.not_lt.2 c10)
      obtain rfl := Option.some.inj H
      go_wp2
      go_ret
      exact ⟨by first | rfl | (simp [errW_none, errW_some] <;> rfl) | (simp [*, errW_none, errW_some] <;> rfl), by repeat (first | (with_reducible first | exact HB.out | apply below_alloc | apply pw_below_drewN | apply below_drew1) | exact HB.out)⟩
     ·
      rw [if_neg c10] at H
      exact absurd H (by simp)
   ·
    rw [if_neg c4] at H
    have c4b0 : decide (x8_1 < a2) = false := decide_eq_false c4
    clear c4
    by_cases c11 : a0.size + x7_1.size ≤ 9223372036854775807
    ·
     rw [if_pos c11] at H
     have c11b0 := eq_true c11
     have c11b1 : decide (a0.size + x7_1.size ≤ 9223372036854775807) = true := decide_eq_true c11
     try have c11b2 : (9223372036854775807 < a0.size + x7_1.size) = False := eq_false (Nat.not_lt.2 c11)
     obtain rfl := Option.some.inj H
     go_wp2
     go_ret
     exact ⟨by first | rfl | (simp [errW_none, errW_some] <;> rfl) | (simp [*, errW_none, errW_some] <;> rfl), by repeat (first | (with_reducible first | exact HB.out | apply below_alloc | apply pw_below_drewN | apply below_drew1) | exact HB.out)⟩
    ·
     rw [if_neg c11] at H
     exact absurd H (by simp)

end Go.Proofs.Ytebnbjnkameicaa.Mine
