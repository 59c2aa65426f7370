-- Written by this repo's own printer (wip/print), which builds on the kit's.
import Derived.Test.YtpnflloamidecaaMinex0
namespace Go.Proofs.Ytpnflloamidecaa.Mine
open Go.RowKit Go.Proofs.YtpnflloamidecaaW.PrintWords Go.Proofs.YtpnflloamidecaaW.PrintLast Go.Proofs.YtpnflloamidecaaW.PrintMore
attribute [local go_sem] max2_int min2_int max_two min_two max_three min_three max_four min_four   -- for this text's walks alone
set_option linter.unusedVariables false
set_option linter.unusedSimpArgs false

/-! ### nuncioref04_sign: function 36 -/
def nuncioref04_sign.j0 : Nat → Int → Bool → Option (ByteArray)
 | 0, _, _ => none
 | k + 1, x0, x8 => if x8 = true then (some (strOfNums (([92, x0] : List Int)))) else (if x0 ≥ 33 then (if x0 ≤ 126 then (some (strOfNums (([x0] : List Int)))) else (some (strOfNums (([92, (48 + ((Int.tdiv x0 100) % 256)) % 256, 48 + (((Int.tdiv x0 10) % 256) % 10), (48 + (Int.tmod x0 10)) % 256] : List Int))))) else (some (strOfNums (([92, (48 + ((Int.tdiv x0 100) % 256)) % 256, 48 + (((Int.tdiv x0 10) % 256) % 10), (48 + (Int.tmod x0 10)) % 256] : List Int)))))
def nuncioref04_sign.f (k : Nat) (a0 : Int) : Option (ByteArray) := if a0 = 46 then (nuncioref04_sign.j0 k a0 true) else (nuncioref04_sign.j0 k a0 (a0 == 92))
theorem nuncioref04_sign.mono_l : ∀ k, (∀ y0 y1, LeO (nuncioref04_sign.j0 k y0 y1) (nuncioref04_sign.j0 (k + 1) y0 y1))
 | 0 => fun _ _ r h => by simp [nuncioref04_sign.j0] at h
 | k + 1 => by
  have ih0 := nuncioref04_sign.mono_l k
  ·
   intro y0 y1
   unfold nuncioref04_sign.j0
   repeat' first
   | (with_reducible exact ih0 _ _)
   | (with_reducible exact LeO.refl _)
   | (with_reducible exact LeO.none _)
   | (with_reducible refine LeO.ite ?_ ?_)
   | (with_reducible refine LeO.bind ?_ (fun _ => ?_))
   | exact ih0 _ _
   | exact LeO.none _
   | refine LeO.ite ?_ ?_
   | refine LeO.bind ?_ (fun _ => ?_)
theorem nuncioref04_sign.mono : ∀ a0 k, LeO (nuncioref04_sign.f k a0) (nuncioref04_sign.f (k + 1) a0) := by
 intro a0 k
 have ih0 := nuncioref04_sign.mono_l k
 unfold nuncioref04_sign.f
 repeat' first
   | (with_reducible exact ih0 _ _)
   | (with_reducible exact LeO.refl _)
   | (with_reducible exact LeO.none _)
   | (with_reducible refine LeO.ite ?_ ?_)
   | (with_reducible refine LeO.bind ?_ (fun _ => ?_))
   | exact ih0 _ _
   | exact LeO.none _
   | refine LeO.ite ?_ ?_
   | refine LeO.bind ?_ (fun _ => ?_)
set_option maxHeartbeats 8000000 in
set_option maxRecDepth 100000 in
theorem nuncioref04_sign.calls (k : Nat) (a0 : Int) (r : ByteArray) (w : World) (h : nuncioref04_sign.f k a0 = some r) :
  Calls Try.prog 36 #[.int .u8 a0] w fun e w' => e = .returned (.string r) ∧ Below w.heap.size w w' := by
 have HB := Aside0.mk (Below.refl w.heap.size w)
 have H : (if a0 = 46 then (nuncioref04_sign.j0 k a0 true) else (nuncioref04_sign.j0 k a0 (a0 == 92))) = some r := h
 clear h
 have HC2 := Aside0.mk H
 clear H
 go_enter Try.func36, Try.ntmps36
 go_upto_region 1 with (fail)
 go_cut [8] (fun v8 wc => ∃ (kq : Nat) (x8_1 : Bool), v8 = .bool x8_1 ∧ Aside0 (nuncioref04_sign.j0 kq a0 x8_1 = some r) ∧ Aside0 (kq ≤ k) ∧ Aside0 (Below w.heap.size w wc))
 case first =>
  have H := HC2.out
  clear HC2
  by_cases c3 : a0 = 46
  ·
   rw [if_pos c3] at H
   have c3b0 : (a0 == 46) = true := beq_iff_eq.mpr c3
   have c3b1 : (a0 != 46) = false := bne_eq_false_iff_eq.mpr c3
   clear c3
   (first | rw [c3b0] | (simp only [i64_w, i32_w]; rw [c3b0]) | skip)
   have H' := Aside0.mk H
   clear H
   go_wp2
   go_meet
   case rel => exact ⟨_, (true), (by first | rfl | (simp; done) | (simp [*]; done)), H', ⟨by first | omega | exact Nat.le_refl _⟩, ⟨by repeat (first | (with_reducible first | exact HB.out | apply below_alloc | apply pw_below_drewN | apply below_drew1) | exact HB.out)⟩⟩
  ·
   rw [if_neg c3] at H
   have c3b0 : (a0 == 46) = false := beq_eq_false_iff_ne.mpr c3
   have c3b1 : (a0 != 46) = true := bne_iff_ne.mpr c3
   (first | rw [c3b0] | (simp only [i64_w, i32_w]; rw [c3b0]) | skip)
   have H' := Aside0.mk H
   clear H
   go_wp2
   go_meet
   case rel => exact ⟨_, ((a0 == 92)), (by first | rfl | (simp; done) | (simp [*]; done)), H', ⟨by first | omega | exact Nat.le_refl _⟩, ⟨by repeat (first | (with_reducible first | exact HB.out | apply below_alloc | apply pw_below_drewN | apply below_drew1) | exact HB.out)⟩⟩
 case rest =>
  clear HC2
  try clear p2
  try clear c3
  try clear c3b0
  try clear c3b1
  obtain ⟨kq, x8_1, rfl, HA, HJ1, HB⟩ := hcut
  cases kq with
  | zero => exact absurd HA.out (by simp [nuncioref04_sign.j0])
  | succ kj1 =>
   have H := HA.out
   clear HA
   simp only [nuncioref04_sign.j0] at H
   by_cases c4 : x8_1 = true
   ·
    subst c4
    have H1 : (some (strOfNums (([92, a0] : List Int)))) = some r := by rw [if_pos rfl] at H; exact H
    clear H
    have H := H1
    clear H1
    obtain ⟨y285, hy285⟩ : ∃ y_ : List Int, y_ = (([92, a0] : List Int)) := ⟨_, rfl⟩
    replace H : (some (strOfNums y285)) = some r := by first | (rw [hy285]; with_reducible exact H) | (have H2_ := (Option.bind_some _ _).symm.trans H; rw [hy285]; with_reducible exact H2_) | (have H2_ := (Option.bind_some _ _).symm.trans H; with_reducible exact H2_) | with_reducible exact H | (rw [hy285]; exact H) | exact H
    have Ny285 := Aside0.mk hy285
    clear hy285
    obtain rfl := Option.some.inj H
    go_wp2_with (first | ((with_reducible refine gate_dst (N := 10) rfl ?_); refine Kd.R_lit (Kd.int .u8) _ 5 ?hg (N := 10) ?hd (xs := ([92, a0] : List Int)) (inner := [.int .u8 92, .int .u8 a0]) (ok := fun _ => True) (okp := fun _ => True) ?hr ?hp (fun _ hk => hk) trivial (Below.refl _ _) (Nat.le_refl _) (by simp) ?_; (case hd => rfl); (case hg => rfl); (case hr => first | (go_simp; done) | (go_simp; rfl)); (case hp => exact (Reps.one (show Kd.M (Kd.int .u8) _ _ _ 92 [.int .u8 92] from rfl) (Reps.one (show Kd.M (Kd.int .u8) _ _ _ a0 [.int .u8 a0] from rfl) (Reps.none _ _)))); intro v286 w5 ho6 hb hg_ hnew_; clear hg_ hnew_; (first | rw [← Ny285.out] at ho6 | (simp only [Int.reduceToNat] at ho6; rw [← Ny285.out] at ho6)); have n0_ := Aside0.mk (Kd.R_lower ho6 (below_size (by repeat (first | (with_reducible first | exact HB.out | apply below_alloc | apply pw_below_drewN | apply below_drew1) | exact HB.out)))); have n1_ := Aside0.mk (below_step (by repeat (first | (with_reducible first | exact HB.out | apply below_alloc | apply pw_below_drewN | apply below_drew1) | exact HB.out)) hb); clear HB; have HO287 := n0_; have HB := n1_; clear n0_ n1_; clear hb ho6; have hcv7 := own_string (P := Try.prog) Try.underlying41 Try.underlying5 Try.underlying9 (Kd.own_of_R HO287.out)))
    go_ret
    exact ⟨by first | rfl | (simp [errW_none, errW_some] <;> rfl) | (simp [*, errW_none, errW_some] <;> rfl), by repeat (first | (with_reducible first | exact HB.out | apply below_alloc | apply pw_below_drewN | apply below_drew1) | exact HB.out)⟩
   ·
    replace c4 := Bool.eq_false_iff.mpr c4
    subst c4
    have H1 : (if a0 ≥ 33 then (if a0 ≤ 126 then (some (strOfNums (([a0] : List Int)))) else (some (strOfNums (([92, (48 + ((Int.tdiv a0 100) % 256)) % 256, 48 + (((Int.tdiv a0 10) % 256) % 10), (48 + (Int.tmod a0 10)) % 256] : List Int))))) else (some (strOfNums (([92, (48 + ((Int.tdiv a0 100) % 256)) % 256, 48 + (((Int.tdiv a0 10) % 256) % 10), (48 + (Int.tmod a0 10)) % 256] : List Int))))) = some r := by rw [if_neg (show ¬ (false = true) by decide)] at H; exact H
    clear H
    have H := H1
    clear H1
    by_cases c8 : a0 ≥ 33
    ·
     rw [if_pos c8] at H
     have c8b0 : decide (33 ≤ a0) = true := decide_eq_true c8
     clear c8
     by_cases c9 : a0 ≤ 126
     ·
      rw [if_pos c9] at H
      have c9b0 : decide (a0 ≤ 126) = true := decide_eq_true c9
      clear c9
      obtain ⟨y288, hy288⟩ : ∃ y_ : List Int, y_ = (([a0] : List Int)) := ⟨_, rfl⟩
      replace H : (some (strOfNums y288)) = some r := by first | (rw [hy288]; with_reducible exact H) | (have H2_ := (Option.bind_some _ _).symm.trans H; rw [hy288]; with_reducible exact H2_) | (have H2_ := (Option.bind_some _ _).symm.trans H; with_reducible exact H2_) | with_reducible exact H | (rw [hy288]; exact H) | exact H
      have Ny288 := Aside0.mk hy288
      clear hy288
      obtain rfl := Option.some.inj H
      go_wp2_with (first | ((with_reducible refine gate_dst (N := 19) rfl ?_); refine Kd.R_lit (Kd.int .u8) _ 5 ?hg (N := 19) ?hd (xs := ([a0] : List Int)) (inner := [.int .u8 a0]) (ok := fun _ => True) (okp := fun _ => True) ?hr ?hp (fun _ hk => hk) trivial (Below.refl _ _) (Nat.le_refl _) (by simp) ?_; (case hd => rfl); (case hg => rfl); (case hr => first | (go_simp; done) | (go_simp; rfl)); (case hp => exact (Reps.one (show Kd.M (Kd.int .u8) _ _ _ a0 [.int .u8 a0] from rfl) (Reps.none _ _))); intro v289 w10 ho11 hb hg_ hnew_; clear hg_ hnew_; (first | rw [← Ny288.out] at ho11 | (simp only [Int.reduceToNat] at ho11; rw [← Ny288.out] at ho11)); have n0_ := Aside0.mk (Kd.R_lower ho11 (below_size (by repeat (first | (with_reducible first | exact HB.out | apply below_alloc | apply pw_below_drewN | apply below_drew1) | exact HB.out)))); have n1_ := Aside0.mk (below_step (by repeat (first | (with_reducible first | exact HB.out | apply below_alloc | apply pw_below_drewN | apply below_drew1) | exact HB.out)) hb); clear HB; have HO290 := n0_; have HB := n1_; clear n0_ n1_; clear hb ho11; have hcv12 := own_string (P := Try.prog) Try.underlying41 Try.underlying5 Try.underlying9 (Kd.own_of_R HO290.out)))
      go_ret
      exact ⟨by first | rfl | (simp [errW_none, errW_some] <;> rfl) | (simp [*, errW_none, errW_some] <;> rfl), by repeat (first | (with_reducible first | exact HB.out | apply below_alloc | apply pw_below_drewN | apply below_drew1) | exact HB.out)⟩
     ·
      rw [if_neg c9] at H
      have c9b0 : decide (a0 ≤ 126) = false := decide_eq_false c9
      clear c9
      obtain ⟨y291, hy291⟩ : ∃ y_ : List Int, y_ = (([92, (48 + ((Int.tdiv a0 100) % 256)) % 256, 48 + (((Int.tdiv a0 10) % 256) % 10), (48 + (Int.tmod a0 10)) % 256] : List Int)) := ⟨_, rfl⟩
      replace H : (some (strOfNums y291)) = some r := by first | (rw [hy291]; with_reducible exact H) | (have H2_ := (Option.bind_some _ _).symm.trans H; rw [hy291]; with_reducible exact H2_) | (have H2_ := (Option.bind_some _ _).symm.trans H; with_reducible exact H2_) | with_reducible exact H | (rw [hy291]; exact H) | exact H
      have Ny291 := Aside0.mk hy291
      clear hy291
      obtain rfl := Option.some.inj H
      go_wp2_with (first | ((with_reducible refine gate_dst (N := 31) rfl ?_); refine Kd.R_lit (Kd.int .u8) _ 5 ?hg (N := 31) ?hd (xs := ([92, (48 + ((Int.tdiv a0 100) % 256)) % 256, 48 + (((Int.tdiv a0 10) % 256) % 10), (48 + (Int.tmod a0 10)) % 256] : List Int)) (inner := [.int .u8 92, .int .u8 ((48 + ((Int.tdiv a0 100) % 256)) % 256), .int .u8 (48 + (((Int.tdiv a0 10) % 256) % 10)), .int .u8 ((48 + (Int.tmod a0 10)) % 256)]) (ok := fun _ => True) (okp := fun _ => True) ?hr ?hp (fun _ hk => hk) trivial (Below.refl _ _) (Nat.le_refl _) (by simp) ?_; (case hd => rfl); (case hg => rfl); (case hr => first | (go_simp; done) | (go_simp; rfl)); (case hp => exact (Reps.one (show Kd.M (Kd.int .u8) _ _ _ 92 [.int .u8 92] from rfl) (Reps.one (show Kd.M (Kd.int .u8) _ _ _ ((48 + ((Int.tdiv a0 100) % 256)) % 256) [.int .u8 ((48 + ((Int.tdiv a0 100) % 256)) % 256)] from rfl) (Reps.one (show Kd.M (Kd.int .u8) _ _ _ (48 + (((Int.tdiv a0 10) % 256) % 10)) [.int .u8 (48 + (((Int.tdiv a0 10) % 256) % 10))] from rfl) (Reps.one (show Kd.M (Kd.int .u8) _ _ _ ((48 + (Int.tmod a0 10)) % 256) [.int .u8 ((48 + (Int.tmod a0 10)) % 256)] from rfl) (Reps.none _ _)))))); intro v292 w13 ho14 hb hg_ hnew_; clear hg_ hnew_; (first | rw [← Ny291.out] at ho14 | (simp only [Int.reduceToNat] at ho14; rw [← Ny291.out] at ho14)); have n0_ := Aside0.mk (Kd.R_lower ho14 (below_size (by repeat (first | (with_reducible first | exact HB.out | apply below_alloc | apply pw_below_drewN | apply below_drew1) | exact HB.out)))); have n1_ := Aside0.mk (below_step (by repeat (first | (with_reducible first | exact HB.out | apply below_alloc | apply pw_below_drewN | apply below_drew1) | exact HB.out)) hb); clear HB; have HO293 := n0_; have HB := n1_; clear n0_ n1_; clear hb ho14; have hcv15 := own_string (P := Try.prog) Try.underlying41 Try.underlying5 Try.underlying9 (Kd.own_of_R HO293.out)))
      go_ret
      exact ⟨by first | rfl | (simp [errW_none, errW_some] <;> rfl) | (simp [*, errW_none, errW_some] <;> rfl), by repeat (first | (with_reducible first | exact HB.out | apply below_alloc | apply pw_below_drewN | apply below_drew1) | exact HB.out)⟩
    ·
     rw [if_neg c8] at H
     have c8b0 : decide (33 ≤ a0) = false := decide_eq_false c8
     clear c8
     obtain ⟨y294, hy294⟩ : ∃ y_ : List Int, y_ = (([92, (48 + ((Int.tdiv a0 100) % 256)) % 256, 48 + (((Int.tdiv a0 10) % 256) % 10), (48 + (Int.tmod a0 10)) % 256] : List Int)) := ⟨_, rfl⟩
     replace H : (some (strOfNums y294)) = some r := by first | (rw [hy294]; with_reducible exact H) | (have H2_ := (Option.bind_some _ _).symm.trans H; rw [hy294]; with_reducible exact H2_) | (have H2_ := (Option.bind_some _ _).symm.trans H; with_reducible exact H2_) | with_reducible exact H | (rw [hy294]; exact H) | exact H
     have Ny294 := Aside0.mk hy294
     clear hy294
     obtain rfl := Option.some.inj H
     go_wp2_with (first | ((with_reducible refine gate_dst (N := 31) rfl ?_); refine Kd.R_lit (Kd.int .u8) _ 5 ?hg (N := 31) ?hd (xs := ([92, (48 + ((Int.tdiv a0 100) % 256)) % 256, 48 + (((Int.tdiv a0 10) % 256) % 10), (48 + (Int.tmod a0 10)) % 256] : List Int)) (inner := [.int .u8 92, .int .u8 ((48 + ((Int.tdiv a0 100) % 256)) % 256), .int .u8 (48 + (((Int.tdiv a0 10) % 256) % 10)), .int .u8 ((48 + (Int.tmod a0 10)) % 256)]) (ok := fun _ => True) (okp := fun _ => True) ?hr ?hp (fun _ hk => hk) trivial (Below.refl _ _) (Nat.le_refl _) (by simp) ?_; (case hd => rfl); (case hg => rfl); (case hr => first | (go_simp; done) | (go_simp; rfl)); (case hp => exact (Reps.one (show Kd.M (Kd.int .u8) _ _ _ 92 [.int .u8 92] from rfl) (Reps.one (show Kd.M (Kd.int .u8) _ _ _ ((48 + ((Int.tdiv a0 100) % 256)) % 256) [.int .u8 ((48 + ((Int.tdiv a0 100) % 256)) % 256)] from rfl) (Reps.one (show Kd.M (Kd.int .u8) _ _ _ (48 + (((Int.tdiv a0 10) % 256) % 10)) [.int .u8 (48 + (((Int.tdiv a0 10) % 256) % 10))] from rfl) (Reps.one (show Kd.M (Kd.int .u8) _ _ _ ((48 + (Int.tmod a0 10)) % 256) [.int .u8 ((48 + (Int.tmod a0 10)) % 256)] from rfl) (Reps.none _ _)))))); intro v295 w16 ho17 hb hg_ hnew_; clear hg_ hnew_; (first | rw [← Ny294.out] at ho17 | (simp only [Int.reduceToNat] at ho17; rw [← Ny294.out] at ho17)); have n0_ := Aside0.mk (Kd.R_lower ho17 (below_size (by repeat (first | (with_reducible first | exact HB.out | apply below_alloc | apply pw_below_drewN | apply below_drew1) | exact HB.out)))); have n1_ := Aside0.mk (below_step (by repeat (first | (with_reducible first | exact HB.out | apply below_alloc | apply pw_below_drewN | apply below_drew1) | exact HB.out)) hb); clear HB; have HO296 := n0_; have HB := n1_; clear n0_ n1_; clear hb ho17; have hcv18 := own_string (P := Try.prog) Try.underlying41 Try.underlying5 Try.underlying9 (Kd.own_of_R HO296.out)))
     go_ret
     exact ⟨by first | rfl | (simp [errW_none, errW_some] <;> rfl) | (simp [*, errW_none, errW_some] <;> rfl), by repeat (first | (with_reducible first | exact HB.out | apply below_alloc | apply pw_below_drewN | apply below_drew1) | exact HB.out)⟩

/-! ### nuncioref04_one: function 35 -/
def nuncioref04_one.l0 : Nat → ByteArray → Int → Int → Option (Int × Bool)
 | 0, _, _, _ => none
 | k + 1, x0, x1, x6 => if x6 < 256 then ((nuncioref04_sign.f k ((x6) % 256)).bind fun t297 => (if (t297.size : Int) ≤ (wrap64 ((x0.size : Int) - x1)) then (if 0 ≤ x1 then (if x1 ≤ (wrap64 (x1 + (t297.size : Int))) then (if (wrap64 (x1 + (t297.size : Int))) ≤ (x0.size : Int) then (if (x0.extract (x1 : Int).toNat ((wrap64 (x1 + (t297.size : Int))) : Int).toNat).toList = t297.toList then (some ((x6) % 256, true)) else (nuncioref04_one.l0 k x0 x1 (wrap64 (x6 + 1)))) else (none)) else (none)) else (none)) else (nuncioref04_one.l0 k x0 x1 (wrap64 (x6 + 1))))) else (some (0, false))
def nuncioref04_one.f (k : Nat) (a0 : ByteArray) (a1 : Int) : Option (Int × Bool) := nuncioref04_one.l0 k a0 a1 0
theorem nuncioref04_one.mono_l : ∀ k, (∀ y0 y1 y2, LeO (nuncioref04_one.l0 k y0 y1 y2) (nuncioref04_one.l0 (k + 1) y0 y1 y2))
 | 0 => fun _ _ _ r h => by simp [nuncioref04_one.l0] at h
 | k + 1 => by
  have ih0 := nuncioref04_one.mono_l k
  ·
   intro y0 y1 y2
   unfold nuncioref04_one.l0
   repeat' first
   | (with_reducible exact ih0 _ _ _)
   | (with_reducible exact nuncioref04_sign.mono _ _)
   | (with_reducible exact LeO.refl _)
   | (with_reducible exact LeO.none _)
   | (with_reducible refine LeO.ite ?_ ?_)
   | (with_reducible refine LeO.bind ?_ (fun _ => ?_))
   | exact ih0 _ _ _
   | exact nuncioref04_sign.mono _ _
   | exact LeO.none _
   | refine LeO.ite ?_ ?_
   | refine LeO.bind ?_ (fun _ => ?_)
theorem nuncioref04_one.mono : ∀ a0 a1 k, LeO (nuncioref04_one.f k a0 a1) (nuncioref04_one.f (k + 1) a0 a1) := by
 intro a0 a1 k
 have ih0 := nuncioref04_one.mono_l k
 unfold nuncioref04_one.f
 repeat' first
   | (with_reducible exact ih0 _ _ _)
   | (with_reducible exact nuncioref04_sign.mono _ _)
   | (with_reducible exact LeO.refl _)
   | (with_reducible exact LeO.none _)
   | (with_reducible refine LeO.ite ?_ ?_)
   | (with_reducible refine LeO.bind ?_ (fun _ => ?_))
   | exact ih0 _ _ _
   | exact nuncioref04_sign.mono _ _
   | exact LeO.none _
   | refine LeO.ite ?_ ?_
   | refine LeO.bind ?_ (fun _ => ?_)
set_option maxHeartbeats 8000000 in
set_option maxRecDepth 100000 in
theorem nuncioref04_one.calls (k : Nat) (a0 : ByteArray) (a1 : Int) (r1 : Int) (r2 : Bool) (w : World) (h : nuncioref04_one.f k a0 a1 = some (r1, r2)) :
  Calls Try.prog 35 #[.string a0, .int .i64 a1] w fun e w' => e = .returned (.tuple #[.int .u8 r1, .bool r2]) ∧ Below w.heap.size w w' := by
 have HB := Aside0.mk (Below.refl w.heap.size w)
 have H : (nuncioref04_one.l0 k a0 a1 0) = some (r1, r2) := h
 clear h
 have H' := Aside0.mk H
 clear H
 go_enter Try.func35, Try.ntmps35
 go_wp2
 go_loopg [6] k (fun kq v6 w' => ∃ (x6_1 : Int), v6 = .int .i64 x6_1 ∧ Aside0 (nuncioref04_one.l0 kq a0 a1 x6_1 = some (r1, r2)) ∧ Aside0 (kq ≤ k) ∧ Aside0 (Below w.heap.size w w'))
 case atStart => exact ⟨(0), (by first | rfl | (simp; done) | (simp [*]; done)), H', ⟨Nat.le_refl _⟩, ⟨by repeat (first | (with_reducible first | exact HB.out | apply below_alloc | apply pw_below_drewN | apply below_drew1) | exact HB.out)⟩⟩
 case round =>
  clear H'
  try clear p2
  obtain ⟨x6_1, rfl, HA, HK1, HB⟩ := hrel
  cases gk with
  | zero => exact absurd HA.out (by simp [nuncioref04_one.l0])
  | succ k1 =>
   have H := HA.out
   clear HA
   simp only [nuncioref04_one.l0] at H
   by_cases c3 : x6_1 < 256
   ·
    rw [if_pos c3] at H
    have c3b0 : decide (x6_1 < 256) = true := decide_eq_true c3
    clear c3
    replace H := Option.bind_eq_some_iff.mp H
    obtain ⟨t297, A40, H⟩ := H
    replace H : (if (t297.size : Int) ≤ (wrap64 ((a0.size : Int) - a1)) then (if 0 ≤ a1 then (if a1 ≤ (wrap64 (a1 + (t297.size : Int))) then (if (wrap64 (a1 + (t297.size : Int))) ≤ (a0.size : Int) then (if (a0.extract (a1 : Int).toNat ((wrap64 (a1 + (t297.size : Int))) : Int).toNat).toList = t297.toList then (some ((x6_1) % 256, true)) else (nuncioref04_one.l0 k1 a0 a1 (wrap64 (x6_1 + 1)))) else (none)) else (none)) else (none)) else (nuncioref04_one.l0 k1 a0 a1 (wrap64 (x6_1 + 1)))) = some (r1, r2) := H
    have A4 := Aside0.mk A40
    clear A40
    by_cases c5 : (t297.size : Int) ≤ (wrap64 ((a0.size : Int) - a1))
    ·
     rw [if_pos c5] at H
     have c5b0 : decide ((t297.size : Int) ≤ (wrap64 ((a0.size : Int) - a1))) = true := decide_eq_true c5
     clear c5
     by_cases c6 : 0 ≤ a1
     ·
      rw [if_pos c6] at H
      have c6b0 := eq_true c6
      have c6b1 : decide (0 ≤ a1) = true := decide_eq_true c6
      clear c6
      by_cases c7 : a1 ≤ (wrap64 (a1 + (t297.size : Int)))
      ·
       rw [if_pos c7] at H
       have c7b0 := eq_true c7
       have c7b1 : decide (a1 ≤ (wrap64 (a1 + (t297.size : Int)))) = true := decide_eq_true c7
       by_cases c8 : (wrap64 (a1 + (t297.size : Int))) ≤ (a0.size : Int)
       ·
        rw [if_pos c8] at H
        have c8b0 := eq_true c8
        have c8b1 : decide ((wrap64 (a1 + (t297.size : Int))) ≤ (a0.size : Int)) = true := decide_eq_true c8
        by_cases c9 : (a0.extract (a1 : Int).toNat ((wrap64 (a1 + (t297.size : Int))) : Int).toNat).toList = t297.toList
        ·
         rw [if_pos c9] at H
         have c9b0 : ((a0.extract (a1 : Int).toNat ((wrap64 (a1 + (t297.size : Int))) : Int).toNat).toList == t297.toList) = true := beq_iff_eq.mpr c9
         have c9b1 : ((a0.extract (a1 : Int).toNat ((wrap64 (a1 + (t297.size : Int))) : Int).toNat).toList != t297.toList) = false := bne_eq_false_iff_eq.mpr c9
         clear c9
         simp only [Option.some.injEq, Prod.mk.injEq] at H
         obtain ⟨rfl, rfl⟩ := H
         go_wp2_with (first | ((with_reducible refine gate_callee (f := 36) rfl ?_); refine goesL_ (some 14) rfl rfl Try.func36 (by kernel_rfl) rfl #[.int .u8 ((x6_1) % 256)] rfl (by (try simp only [List.map_toArray, List.map_cons, List.map_nil]); first | done | rfl | (simp only [List.length_drop, List.length_take]; rfl)) ?_; (with_reducible refine (nuncioref04_sign.calls k1 ((x6_1) % 256) t297 _ A4.out).mono ?_); rintro e w10 ⟨rfl, hb⟩; refine ⟨_, rfl, ?_⟩; have n0_ := Aside0.mk (below_step (by repeat (first | (with_reducible first | exact HB.out | apply below_alloc | apply pw_below_drewN | apply below_drew1) | exact HB.out)) hb); clear HB; have HB := n0_; clear n0_; (try clear hb); (try clear hb2); (try clear hk); (try clear hi)))
         go_ret2
         exact ⟨by first | rfl | (simp [errW_none, errW_some] <;> rfl) | (simp [*, errW_none, errW_some] <;> rfl), by repeat (first | (with_reducible first | exact HB.out | apply below_alloc | apply pw_below_drewN | apply below_drew1) | exact HB.out)⟩
        ·
         rw [if_neg c9] at H
         have c9b0 : ((a0.extract (a1 : Int).toNat ((wrap64 (a1 + (t297.size : Int))) : Int).toNat).toList == t297.toList) = false := beq_eq_false_iff_ne.mpr c9
         have c9b1 : ((a0.extract (a1 : Int).toNat ((wrap64 (a1 + (t297.size : Int))) : Int).toNat).toList != t297.toList) = true := bne_iff_ne.mpr c9
         have H' := Aside0.mk H
         clear H
         go_wp2_with (first | ((with_reducible refine gate_callee (f := 36) rfl ?_); refine goesL_ (some 14) rfl rfl Try.func36 (by kernel_rfl) rfl #[.int .u8 ((x6_1) % 256)] rfl (by (try simp only [List.map_toArray, List.map_cons, List.map_nil]); first | done | rfl | (simp only [List.length_drop, List.length_take]; rfl)) ?_; (with_reducible refine (nuncioref04_sign.calls k1 ((x6_1) % 256) t297 _ A4.out).mono ?_); rintro e w11 ⟨rfl, hb⟩; refine ⟨_, rfl, ?_⟩; have n0_ := Aside0.mk (below_step (by repeat (first | (with_reducible first | exact HB.out | apply below_alloc | apply pw_below_drewN | apply below_drew1) | exact HB.out)) hb); clear HB; have HB := n0_; clear n0_; (try clear hb); (try clear hb2); (try clear hk); (try clear hi)))
         go_roundg k1
         case measure => have := HK1.out; omega
         case rel => exact ⟨(wrap64 (x6_1 + 1)), (by first | rfl | (simp; done) | (simp [*]; done)), H', ⟨by have := HK1.out; omega⟩, ⟨by repeat (first | (with_reducible first | exact HB.out | apply below_alloc | apply pw_below_drewN | apply below_drew1) | exact HB.out)⟩⟩
       ·
        rw [if_neg c8] at H
        exact absurd H (by simp)
      ·
       rw [if_neg c7] at H
       exact absurd H (by simp)
     ·
      rw [if_neg c6] at H
      exact absurd H (by simp)
    ·
     rw [if_neg c5] at H
     have c5b0 : decide ((t297.size : Int) ≤ (wrap64 ((a0.size : Int) - a1))) = false := decide_eq_false c5
     clear c5
     have H' := Aside0.mk H
     clear H
     go_wp2_with (first | ((with_reducible refine gate_callee (f := 36) rfl ?_); refine goesL_ (some 14) rfl rfl Try.func36 (by kernel_rfl) rfl #[.int .u8 ((x6_1) % 256)] rfl (by (try simp only [List.map_toArray, List.map_cons, List.map_nil]); first | done | rfl | (simp only [List.length_drop, List.length_take]; rfl)) ?_; (with_reducible refine (nuncioref04_sign.calls k1 ((x6_1) % 256) t297 _ A4.out).mono ?_); rintro e w12 ⟨rfl, hb⟩; refine ⟨_, rfl, ?_⟩; have n0_ := Aside0.mk (below_step (by repeat (first | (with_reducible first | exact HB.out | apply below_alloc | apply pw_below_drewN | apply below_drew1) | exact HB.out)) hb); clear HB; have HB := n0_; clear n0_; (try clear hb); (try clear hb2); (try clear hk); (try clear hi)))
     go_roundg k1
     case measure => have := HK1.out; omega
     case rel => exact ⟨(wrap64 (x6_1 + 1)), (by first | rfl | (simp; done) | (simp [*]; done)), H', ⟨by have := HK1.out; omega⟩, ⟨by repeat (first | (with_reducible first | exact HB.out | apply below_alloc | apply pw_below_drewN | apply below_drew1) | exact HB.out)⟩⟩
   ·
    rw [if_neg c3] at H
    have c3b0 : decide (x6_1 < 256) = false := decide_eq_false c3
    clear c3
    simp only [Option.some.injEq, Prod.mk.injEq] at H
    obtain ⟨rfl, rfl⟩ := H
    go_wp2
    go_ret2
    exact ⟨by first | rfl | (simp [errW_none, errW_some] <;> rfl) | (simp [*, errW_none, errW_some] <;> rfl), by repeat (first | (with_reducible first | exact HB.out | apply below_alloc | apply pw_below_drewN | apply below_drew1) | exact HB.out)⟩

end Go.Proofs.Ytpnflloamidecaa.Mine
