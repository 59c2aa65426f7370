-- Written by this repo's own printer (wip/print), which builds on the kit's.
import Derived.Test.YtpnflloamidecaaMinex0
import Derived.Test.YtpnflloamidecaaMinex10
import Derived.Test.YtpnflloamidecaaMinex18
namespace Go.Proofs.Ytpnflloamidecaa.Mine
open Go.RowKit Go.Proofs.YtpnflloamidecaaW.PrintWords Go.Proofs.YtpnflloamidecaaW.PrintLast Go.Proofs.YtpnflloamidecaaW.PrintMore
attribute [local go_sem] max2_int min2_int max_two min_two max_three min_three max_four min_four   -- for this text's walks alone
set_option linter.unusedVariables false
set_option linter.unusedSimpArgs false

/-! ### nuncioref04_Read: function 23 -/
def nuncioref04_Read.l0 : Nat → ByteArray → List ByteArray → ByteArray → Int → Option (ByteArray × Int)
 | 0, _, _, _, _ => none
 | k + 1, x0, x4, x5, x6 => if x6 < (x0.size : Int) then (if 0 ≤ x6 then (if (bt x0 x6) = 46 then (if x5.toList = ([] : List UInt8) then (some ((⟨#[]⟩ : ByteArray), 4)) else (if x4.length < 8796093022208 then (nuncioref04_Read.l0 k x0 (x4 ++ [x5]) (⟨#[]⟩ : ByteArray) (wrap64 (x6 + 1))) else (none))) else ((nuncioref04_one.f k x0 x6).bind fun bt303 => (if bt303.2 = true then ((some (([bt303.1] : List Int) : List Int)).bind fun y305 => (if x5.size + (strOfNums y305).size ≤ 9223372036854775807 then ((nuncioref04_sign.f k bt303.1).bind fun t308 => (nuncioref04_Read.l0 k x0 x4 (x5 ++ (strOfNums y305)) (wrap64 (x6 + (t308.size : Int))))) else (none))) else (some ((⟨#[]⟩ : ByteArray), 4))))) else (none)) else (if x5.toList = ([] : List UInt8) then (if (x4.length : Int) = 0 then (some ((⟨#[]⟩ : ByteArray), 4)) else ((nuncioref04_Make.f k x4).bind fun bt298 => (some (bt298.1, bt298.2)))) else (some ((⟨#[]⟩ : ByteArray), 4)))
def nuncioref04_Read.f (k : Nat) (a0 : ByteArray) : Option (ByteArray × Int) := if a0.toList = ([46] : List UInt8) then (some ((⟨#[0]⟩ : ByteArray), 0)) else (nuncioref04_Read.l0 k a0 ([] : List ByteArray) (⟨#[]⟩ : ByteArray) 0)
theorem nuncioref04_Read.mono_l : ∀ k, (∀ y0 y1 y2 y3, LeO (nuncioref04_Read.l0 k y0 y1 y2 y3) (nuncioref04_Read.l0 (k + 1) y0 y1 y2 y3))
 | 0 => fun _ _ _ _ r h => by simp [nuncioref04_Read.l0] at h
 | k + 1 => by
  have ih0 := nuncioref04_Read.mono_l k
  ·
   intro y0 y1 y2 y3
   unfold nuncioref04_Read.l0
   repeat' first
   | (with_reducible exact ih0 _ _ _ _)
   | (with_reducible exact nuncioref04_Make.mono _ _)
   | (with_reducible exact nuncioref04_one.mono _ _ _)
   | (with_reducible exact nuncioref04_sign.mono _ _)
   | (with_reducible exact LeO.refl _)
   | (with_reducible exact LeO.none _)
   | (with_reducible refine LeO.ite ?_ ?_)
   | (with_reducible refine LeO.bind ?_ (fun _ => ?_))
   | exact ih0 _ _ _ _
   | exact nuncioref04_Make.mono _ _
   | exact nuncioref04_one.mono _ _ _
   | exact nuncioref04_sign.mono _ _
   | exact LeO.none _
   | refine LeO.ite ?_ ?_
   | refine LeO.bind ?_ (fun _ => ?_)
theorem nuncioref04_Read.mono : ∀ a0 k, LeO (nuncioref04_Read.f k a0) (nuncioref04_Read.f (k + 1) a0) := by
 intro a0 k
 have ih0 := nuncioref04_Read.mono_l k
 unfold nuncioref04_Read.f
 repeat' first
   | (with_reducible exact ih0 _ _ _ _)
   | (with_reducible exact nuncioref04_Make.mono _ _)
   | (with_reducible exact nuncioref04_one.mono _ _ _)
   | (with_reducible exact nuncioref04_sign.mono _ _)
   | (with_reducible exact LeO.refl _)
   | (with_reducible exact LeO.none _)
   | (with_reducible refine LeO.ite ?_ ?_)
   | (with_reducible refine LeO.bind ?_ (fun _ => ?_))
   | exact ih0 _ _ _ _
   | exact nuncioref04_Make.mono _ _
   | exact nuncioref04_one.mono _ _ _
   | exact nuncioref04_sign.mono _ _
   | exact LeO.none _
   | refine LeO.ite ?_ ?_
   | refine LeO.bind ?_ (fun _ => ?_)
set_option maxHeartbeats 8000000 in
set_option maxRecDepth 100000 in
theorem nuncioref04_Read.calls (k : Nat) (a0 : ByteArray) (r1 : ByteArray) (r2 : Int) (w : World) (h : nuncioref04_Read.f k a0 = some (r1, r2)) :
  Calls Try.prog 23 #[.string a0] w fun e w' => e = .returned (.tuple #[.string r1, .int .i64 r2]) ∧ Below w.heap.size w w' := by
 have HB := Aside0.mk (Below.refl w.heap.size w)
 have H : (if a0.toList = ([46] : List UInt8) then (some ((⟨#[0]⟩ : ByteArray), 0)) else (nuncioref04_Read.l0 k a0 ([] : List ByteArray) (⟨#[]⟩ : ByteArray) 0)) = some (r1, r2) := h
 clear h
 by_cases c2 : a0.toList = ([46] : List UInt8)
 ·
  rw [if_pos c2] at H
  have c2b0 : (a0.toList == ([46] : List UInt8)) = true := beq_iff_eq.mpr c2
  have c2b1 : (a0.toList != ([46] : List UInt8)) = false := bne_eq_false_iff_eq.mpr c2
  clear c2
  simp only [Option.some.injEq, Prod.mk.injEq] at H
  obtain ⟨rfl, rfl⟩ := H
  go_enter Try.func23, Try.ntmps23
  go_wp2
  go_ret2
  exact ⟨by first | rfl | (simp [errW_none, errW_some] <;> rfl) | (simp [*, errW_none, errW_some] <;> rfl), by repeat (first | (with_reducible first | exact HB.out | apply below_alloc | apply pw_below_drewN | apply below_drew1) | exact HB.out)⟩
 ·
  rw [if_neg c2] at H
  have c2b0 : (a0.toList == ([46] : List UInt8)) = false := beq_eq_false_iff_ne.mpr c2
  have c2b1 : (a0.toList != ([46] : List UInt8)) = true := bne_iff_ne.mpr c2
  have H' := Aside0.mk H
  clear H
  go_enter Try.func23, Try.ntmps23
  go_wp2
  go_loopg [4, 5, 6] k (fun kq v4 v5 v6 w' => ∃ (x4_1 : List ByteArray) (x5_1 : ByteArray) (x6_1 : Int), v5 = .string x5_1 ∧ v6 = .int .i64 x6_1 ∧ Aside0 (nuncioref04_Read.l0 kq a0 x4_1 x5_1 x6_1 = some (r1, r2)) ∧ Aside0 (kq ≤ k) ∧ Aside0 (Kd.R Kd.string 9 w' w.heap.size (fun _ => True) v4 x4_1) ∧ Aside0 (Below w.heap.size w w'))
  case atStart => exact ⟨(([] : List ByteArray)), ((⟨#[]⟩ : ByteArray)), (0), (by first | rfl | (simp; done) | (simp [*]; done)), (by first | rfl | (simp; done) | (simp [*]; done)), H', ⟨Nat.le_refl _⟩, ⟨by first | exact Kd.R_nil _ _ _ _ _ | exact Kd.N_nil _ _ _ _ _ | exact Kd.V_nil _ _ _ _ _ | exact Kd.Q_nil _ _ _ _ _ | exact Kd.S_nil _ _ _ _ _⟩, ⟨by repeat (first | (with_reducible first | exact HB.out | apply below_alloc | apply pw_below_drewN | apply below_drew1) | exact HB.out)⟩⟩
  case round =>
   clear H'
   try clear c2
   try clear c2b0
   try clear c2b1
   try clear p2
   obtain ⟨x4_1, x5_1, x6_1, rfl, rfl, HA, HK1, HO_4, HB⟩ := hrel
   cases gk with
   | zero => exact absurd HA.out (by simp [nuncioref04_Read.l0])
   | succ k1 =>
    have H := HA.out
    clear HA
    simp only [nuncioref04_Read.l0] at H
    by_cases c3 : x6_1 < (a0.size : Int)
    ·
     rw [if_pos c3] at H
     have c3b0 : decide (x6_1 < (a0.size : Int)) = true := decide_eq_true c3
     clear c3
     by_cases c4 : 0 ≤ x6_1
     ·
      rw [if_pos c4] at H
      have c4b0 : decide (0 ≤ x6_1) = true := decide_eq_true c4
      clear c4
      by_cases c6 : (bt a0 x6_1) = 46
      ·
       rw [if_pos c6] at H
       have c6b0 : ((bt a0 x6_1) == 46) = true := beq_iff_eq.mpr c6
       have c6b1 : ((bt a0 x6_1) != 46) = false := bne_eq_false_iff_eq.mpr c6
       clear c6
       by_cases c7 : x5_1.toList = ([] : List UInt8)
       ·
        rw [if_pos c7] at H
        have c7b0 : (x5_1.toList == ([] : List UInt8)) = true := beq_iff_eq.mpr c7
        have c7b1 : (x5_1.toList != ([] : List UInt8)) = false := bne_eq_false_iff_eq.mpr c7
        clear c7
        simp only [Option.some.injEq, Prod.mk.injEq] at H
        obtain ⟨rfl, rfl⟩ := H
        have p5 : 0 ≤ (x6_1 : Int) := of_decide_eq_true (by first | (with_reducible assumption) | assumption)
        have q5 : x6_1 < (a0.size : Int) := of_decide_eq_true (by first | (with_reducible assumption) | assumption)
        have hx5 := bt_at a0 x6_1
        replace p5 := eq_true p5
        replace q5 := eq_true q5
        go_wp2
        go_ret2
        exact ⟨by first | rfl | (simp [errW_none, errW_some] <;> rfl) | (simp [*, errW_none, errW_some] <;> rfl), by repeat (first | (with_reducible first | exact HB.out | apply below_alloc | apply pw_below_drewN | apply below_drew1) | exact HB.out)⟩
       ·
        rw [if_neg c7] at H
        have c7b0 : (x5_1.toList == ([] : List UInt8)) = false := beq_eq_false_iff_ne.mpr c7
        have c7b1 : (x5_1.toList != ([] : List UInt8)) = true := bne_iff_ne.mpr c7
        by_cases c8 : x4_1.length < 8796093022208
        ·
         rw [if_pos c8] at H
         have LMc8 := Aside0.mk c8
         clear c8
         obtain ⟨y300, hy300⟩ : ∃ y_ : List ByteArray, y_ = (x4_1 ++ [x5_1]) := ⟨_, rfl⟩
         replace H : (nuncioref04_Read.l0 k1 a0 y300 (⟨#[]⟩ : ByteArray) (wrap64 (x6_1 + 1))) = some (r1, r2) := by first | (rw [hy300]; with_reducible exact H) | (have H2_ := (Option.bind_some _ _).symm.trans H; rw [hy300]; with_reducible exact H2_) | (have H2_ := (Option.bind_some _ _).symm.trans H; with_reducible exact H2_) | with_reducible exact H | (rw [hy300]; exact H) | exact H
         have Ny300 := Aside0.mk hy300
         clear hy300
         have H' := Aside0.mk H
         clear H
         have p5 : 0 ≤ (x6_1 : Int) := of_decide_eq_true (by first | (with_reducible assumption) | assumption)
         have q5 : x6_1 < (a0.size : Int) := of_decide_eq_true (by first | (with_reducible assumption) | assumption)
         have hx5 := bt_at a0 x6_1
         replace p5 := eq_true p5
         replace q5 := eq_true q5
         go_wp2_with (first | ((with_reducible refine gate_builtin (b := .append) (xs := #[.tmp 21, .tmp 23]) rfl ?_); (try (refine gate_guard (by rfl) ?_; dsimp only)); at_builtin; refine Kd.R_append Kd.string (w0 := w) w.heap.size rfl (.tmp 21) (.tmp 23) 22 9 (.string ⟨#[]⟩) 16 rfl Try.underlying22 info9 rfl (by decide) (by omega) u4 x4_1 x5_1 [.string x5_1] (fun _ => True) (fun _ => False) rfl rfl ?aP (fun _ hk => hk.elim) ?aF ?aO ?aB ?aS ?aL ?_; (case aP => exact rfl); (case aB => exact (by repeat (first | (with_reducible first | exact HB.out | apply below_alloc | apply pw_below_drewN | apply below_drew1) | exact HB.out))); (case aF => exact (fun _ _ => trivial)); (case aO => exact (by (with_reducible repeat (first | apply Kd.R_alloc | apply Kd.R_drewN | apply Kd.R_drew)); exact HO_4.out)); (case aS => exact (below_size (by repeat (first | (with_reducible first | exact HB.out | apply below_alloc | apply pw_below_drewN | apply below_drew1) | exact HB.out)))); (case aL => have := LMc8.out; omega); intro v301 w9 ho hb hg hat; rw [← Ny300.out] at ho; have n0_ := Aside0.mk (hb); have n1_ := Aside0.mk (ho); clear HB; clear HO_4; have HB := n0_; have HO302 := n1_; clear n0_ n1_; clear ho hb hg hat))
         go_roundg k1
         case measure => have := HK1.out; omega
         case rel => exact ⟨(y300), ((⟨#[]⟩ : ByteArray)), (wrap64 (x6_1 + 1)), (by first | rfl | (simp; done) | (simp [*]; done)), (by first | rfl | (simp; done) | (simp [*]; done)), H', ⟨by have := HK1.out; omega⟩, ⟨by (with_reducible repeat (first | apply Kd.R_alloc | apply Kd.R_drewN | apply Kd.R_drew)); exact HO302.out⟩, ⟨by repeat (first | (with_reducible first | exact HB.out | apply below_alloc | apply pw_below_drewN | apply below_drew1) | exact HB.out)⟩⟩
        ·
         rw [if_neg c8] at H
         exact absurd H (by simp)
      ·
       rw [if_neg c6] at H
       have c6b0 : ((bt a0 x6_1) == 46) = false := beq_eq_false_iff_ne.mpr c6
       have c6b1 : ((bt a0 x6_1) != 46) = true := bne_iff_ne.mpr c6
       replace H := Option.bind_eq_some_iff.mp H
       obtain ⟨⟨t303, t304⟩, A100, H⟩ := H
       replace H : (if t304 = true then ((some (([t303] : List Int) : List Int)).bind fun y305 => (if x5_1.size + (strOfNums y305).size ≤ 9223372036854775807 then ((nuncioref04_sign.f k1 t303).bind fun t308 => (nuncioref04_Read.l0 k1 a0 x4_1 (x5_1 ++ (strOfNums y305)) (wrap64 (x6_1 + (t308.size : Int))))) else (none))) else (some ((⟨#[]⟩ : ByteArray), 4))) = some (r1, r2) := H
       have A10 := Aside0.mk A100
       clear A100
       by_cases c11 : t304 = true
       ·
        subst c11
        have H1 : ((some (([t303] : List Int) : List Int)).bind fun y305 => (if x5_1.size + (strOfNums y305).size ≤ 9223372036854775807 then ((nuncioref04_sign.f k1 t303).bind fun t308 => (nuncioref04_Read.l0 k1 a0 x4_1 (x5_1 ++ (strOfNums y305)) (wrap64 (x6_1 + (t308.size : Int))))) else (none))) = some (r1, r2) := by rw [if_pos rfl] at H; exact H
        clear H
        have H := H1
        clear H1
        obtain ⟨y305, hy305⟩ : ∃ y_ : List Int, y_ = (([t303] : List Int)) := ⟨_, rfl⟩
        replace H : (if x5_1.size + (strOfNums y305).size ≤ 9223372036854775807 then ((nuncioref04_sign.f k1 t303).bind fun t308 => (nuncioref04_Read.l0 k1 a0 x4_1 (x5_1 ++ (strOfNums y305)) (wrap64 (x6_1 + (t308.size : Int))))) else (none)) = some (r1, r2) := by first | (rw [hy305]; with_reducible exact H) | (have H2_ := (Option.bind_some _ _).symm.trans H; rw [hy305]; with_reducible exact H2_) | (have H2_ := (Option.bind_some _ _).symm.trans H; with_reducible exact H2_) | with_reducible exact H | (rw [hy305]; exact H) | exact H
        have Ny305 := Aside0.mk hy305
        clear hy305
        by_cases c12 : x5_1.size + (strOfNums y305).size ≤ 9223372036854775807
        ·
         rw [if_pos c12] at H
         have c12b0 := eq_true c12
         have c12b1 : decide (x5_1.size + (strOfNums y305).size ≤ 9223372036854775807) = true := decide_eq_true c12
         try have c12b2 : (9223372036854775807 < x5_1.size + (strOfNums y305).size) = False := eq_false (Nat.not_lt.2 c12)
         replace H := Option.bind_eq_some_iff.mp H
         obtain ⟨t308, A130, H⟩ := H
         replace H : (nuncioref04_Read.l0 k1 a0 x4_1 (x5_1 ++ (strOfNums y305)) (wrap64 (x6_1 + (t308.size : Int)))) = some (r1, r2) := H
         have A13 := Aside0.mk A130
         clear A130
         have H' := Aside0.mk H
         clear H
         have p5 : 0 ≤ (x6_1 : Int) := of_decide_eq_true (by first | (with_reducible assumption) | assumption)
         have q5 : x6_1 < (a0.size : Int) := of_decide_eq_true (by first | (with_reducible assumption) | assumption)
         have hx5 := bt_at a0 x6_1
         replace p5 := eq_true p5
         replace q5 := eq_true q5
         go_wp2_with (first | ((with_reducible refine gate_callee (f := 35) rfl ?_); refine goesL_ (some 30) rfl rfl Try.func35 (by kernel_rfl) rfl #[.string a0, .int .i64 x6_1] rfl (by (try simp only [List.map_toArray, List.map_cons, List.map_nil]); first | done | rfl | (simp only [List.length_drop, List.length_take]; rfl)) ?_; (with_reducible refine (nuncioref04_one.calls k1 a0 x6_1 t303 true _ A10.out).mono ?_); rintro e w14 ⟨rfl, hb⟩; refine ⟨_, rfl, ?_⟩; have n0_ := Aside0.mk (Kd.R_below (by (with_reducible repeat (first | apply Kd.R_alloc | apply Kd.R_drewN | apply Kd.R_drew)); exact HO_4.out) hb); have n1_ := Aside0.mk (below_step (by repeat (first | (with_reducible first | exact HB.out | apply below_alloc | apply pw_below_drewN | apply below_drew1) | exact HB.out)) hb); clear HO_4; clear HB; have HO_4 := n0_; have HB := n1_; clear n0_ n1_; (try clear hb); (try clear hb2); (try clear hk); (try clear hi)) | ((with_reducible refine gate_dst (N := 37) rfl ?_); (try (refine gate_guard (by rfl) ?_; dsimp only)); refine Kd.R_lit (Kd.int .u8) _ 5 ?hg (N := 37) ?hd (xs := ([t303] : List Int)) (inner := [.int .u8 t303]) (ok := fun _ => True) (okp := fun _ => True) ?hr ?hp (fun _ hk => hk) trivial (Below.refl _ _) (Nat.le_refl _) (by simp) ?_; (case hd => rfl); (case hg => rfl); (case hr => first | (go_simp; done) | (go_simp; rfl)); (case hp => exact (Reps.one (show Kd.M (Kd.int .u8) _ _ _ t303 [.int .u8 t303] from rfl) (Reps.none _ _))); intro v306 w15 ho16 hb hg_ hnew_; clear hg_ hnew_; (first | rw [← Ny305.out] at ho16 | (simp only [Int.reduceToNat] at ho16; rw [← Ny305.out] at ho16)); have n0_ := Aside0.mk (Kd.R_below (by (with_reducible repeat (first | apply Kd.R_alloc | apply Kd.R_drewN | apply Kd.R_drew)); exact HO_4.out) hb); have n1_ := Aside0.mk (Kd.R_lower ho16 (below_size (by repeat (first | (with_reducible first | exact HB.out | apply below_alloc | apply pw_below_drewN | apply below_drew1) | exact HB.out)))); have n2_ := Aside0.mk (below_step (by repeat (first | (with_reducible first | exact HB.out | apply below_alloc | apply pw_below_drewN | apply below_drew1) | exact HB.out)) hb); clear HO_4; clear HB; have HO_4 := n0_; have HO307 := n1_; have HB := n2_; clear n0_ n1_ n2_; clear hb ho16; have hcv17 := own_string (P := Try.prog) Try.underlying41 Try.underlying5 Try.underlying9 (Kd.own_of_R HO307.out)) | ((with_reducible refine gate_callee (f := 36) rfl ?_); refine goesL_ (some 42) rfl rfl Try.func36 (by kernel_rfl) rfl #[.int .u8 t303] rfl (by (try simp only [List.map_toArray, List.map_cons, List.map_nil]); first | done | rfl | (simp only [List.length_drop, List.length_take]; rfl)) ?_; (with_reducible refine (nuncioref04_sign.calls k1 t303 t308 _ A13.out).mono ?_); rintro e w18 ⟨rfl, hb⟩; refine ⟨_, rfl, ?_⟩; have n0_ := Aside0.mk (Kd.R_below (by (with_reducible repeat (first | apply Kd.R_alloc | apply Kd.R_drewN | apply Kd.R_drew)); exact HO_4.out) hb); have n1_ := Aside0.mk (Kd.R_below (by (with_reducible repeat (first | apply Kd.R_alloc | apply Kd.R_drewN | apply Kd.R_drew)); exact HO307.out) hb); have n2_ := Aside0.mk (below_step (by repeat (first | (with_reducible first | exact HB.out | apply below_alloc | apply pw_below_drewN | apply below_drew1) | exact HB.out)) hb); clear HO_4; clear HO307; clear HB; have HO_4 := n0_; have HO307 := n1_; have HB := n2_; clear n0_ n1_ n2_; (try clear hb); (try clear hb2); (try clear hk); (try clear hi)))
         go_roundg k1
         case measure => have := HK1.out; omega
         case rel => exact ⟨(x4_1), (x5_1 ++ (strOfNums y305)), (wrap64 (x6_1 + (t308.size : Int))), (by first | rfl | (simp; done) | (simp [*]; done)), (by first | rfl | (simp; done) | (simp [*]; done)), H', ⟨by have := HK1.out; omega⟩, ⟨by (with_reducible repeat (first | apply Kd.R_alloc | apply Kd.R_drewN | apply Kd.R_drew)); exact HO_4.out⟩, ⟨by repeat (first | (with_reducible first | exact HB.out | apply below_alloc | apply pw_below_drewN | apply below_drew1) | exact HB.out)⟩⟩
        ·
         rw [if_neg c12] at H
         exact absurd H (by simp)
       ·
        replace c11 := Bool.eq_false_iff.mpr c11
        subst c11
        have H1 : (some ((⟨#[]⟩ : ByteArray), 4)) = some (r1, r2) := by rw [if_neg (show ¬ (false = true) by decide)] at H; exact H
        clear H
        have H := H1
        clear H1
        simp only [Option.some.injEq, Prod.mk.injEq] at H
        obtain ⟨rfl, rfl⟩ := H
        have p5 : 0 ≤ (x6_1 : Int) := of_decide_eq_true (by first | (with_reducible assumption) | assumption)
        have q5 : x6_1 < (a0.size : Int) := of_decide_eq_true (by first | (with_reducible assumption) | assumption)
        have hx5 := bt_at a0 x6_1
        replace p5 := eq_true p5
        replace q5 := eq_true q5
        go_wp2_with (first | ((with_reducible refine gate_callee (f := 35) rfl ?_); refine goesL_ (some 30) rfl rfl Try.func35 (by kernel_rfl) rfl #[.string a0, .int .i64 x6_1] rfl (by (try simp only [List.map_toArray, List.map_cons, List.map_nil]); first | done | rfl | (simp only [List.length_drop, List.length_take]; rfl)) ?_; (with_reducible refine (nuncioref04_one.calls k1 a0 x6_1 t303 false _ A10.out).mono ?_); rintro e w19 ⟨rfl, hb⟩; refine ⟨_, rfl, ?_⟩; have n0_ := Aside0.mk (Kd.R_below (by (with_reducible repeat (first | apply Kd.R_alloc | apply Kd.R_drewN | apply Kd.R_drew)); exact HO_4.out) hb); have n1_ := Aside0.mk (below_step (by repeat (first | (with_reducible first | exact HB.out | apply below_alloc | apply pw_below_drewN | apply below_drew1) | exact HB.out)) hb); clear HO_4; clear HB; have HO_4 := n0_; have HB := n1_; clear n0_ n1_; (try clear hb); (try clear hb2); (try clear hk); (try clear hi)))
        go_ret2
        exact ⟨by first | rfl | (simp [errW_none, errW_some] <;> rfl) | (simp [*, errW_none, errW_some] <;> rfl), by repeat (first | (with_reducible first | exact HB.out | apply below_alloc | apply pw_below_drewN | apply below_drew1) | exact HB.out)⟩
     ·
      rw [if_neg c4] at H
      exact absurd H (by simp)
    ·
     rw [if_neg c3] at H
     have c3b0 : decide (x6_1 < (a0.size : Int)) = false := decide_eq_false c3
     clear c3
     by_cases c20 : x5_1.toList = ([] : List UInt8)
     ·
      rw [if_pos c20] at H
      have c20b0 : (x5_1.toList == ([] : List UInt8)) = true := beq_iff_eq.mpr c20
      have c20b1 : (x5_1.toList != ([] : List UInt8)) = false := bne_eq_false_iff_eq.mpr c20
      clear c20
      by_cases c21 : (x4_1.length : Int) = 0
      ·
       rw [if_pos c21] at H
       have c21b0 : ((x4_1.length : Int) == 0) = true := beq_iff_eq.mpr c21
       have c21b1 : ((x4_1.length : Int) != 0) = false := bne_eq_false_iff_eq.mpr c21
       clear c21
       simp only [Option.some.injEq, Prod.mk.injEq] at H
       obtain ⟨rfl, rfl⟩ := H
       obtain ⟨Ao22, co22, eo22⟩ := Kd.R_slice HO_4.out
       subst eo22
       go_wp2
       go_ret2
       exact ⟨by first | rfl | (simp [errW_none, errW_some] <;> rfl) | (simp [*, errW_none, errW_some] <;> rfl), by repeat (first | (with_reducible first | exact HB.out | apply below_alloc | apply pw_below_drewN | apply below_drew1) | exact HB.out)⟩
      ·
       rw [if_neg c21] at H
       have c21b0 : ((x4_1.length : Int) == 0) = false := beq_eq_false_iff_ne.mpr c21
       have c21b1 : ((x4_1.length : Int) != 0) = true := bne_iff_ne.mpr c21
       have c21b2 : ¬ (x4_1 = []) := fun h_ => c21 (by rw [h_]; rfl)
       replace H := Option.bind_eq_some_iff.mp H
       obtain ⟨⟨t298, t299⟩, A230, H⟩ := H
       replace H : (some (t298, t299)) = some (r1, r2) := H
       have A23 := Aside0.mk A230
       clear A230
       simp only [Option.some.injEq, Prod.mk.injEq] at H
       obtain ⟨rfl, rfl⟩ := H
       obtain ⟨Ao24, co24, eo24⟩ := Kd.R_slice HO_4.out
       subst eo24
       go_wp2_with (first | ((with_reducible refine gate_callee (f := 11) rfl ?_); refine goesL_ (some 53) rfl rfl Try.func11 (by kernel_rfl) rfl #[.slice Ao24 x4_1.length co24] rfl (by (try simp only [List.map_toArray, List.map_cons, List.map_nil]); first | done | rfl | (simp only [List.length_drop, List.length_take]; rfl)) ?_; (with_reducible refine (nuncioref04_Make.calls k1 _ _ x4_1 t298 t299 _ ?side1 ?side2 A23.out).mono ?_); (case side1 => repeat (first | exact (Kd.R_reads' HO_4.out).2.2 | (with_reducible refine Kd.C_alloc ?_ _) | (with_reducible refine Kd.C_drewN ?_ _) | (with_reducible refine Kd.C_drew ?_))); (case side2 => exact (Kd.R_reads' HO_4.out).2.1); rintro e w25 ⟨rfl, hb⟩; refine ⟨_, rfl, ?_⟩; have n0_ := Aside0.mk (Kd.R_below (by (with_reducible repeat (first | apply Kd.R_alloc | apply Kd.R_drewN | apply Kd.R_drew)); exact HO_4.out) hb); have n1_ := Aside0.mk (below_step (by repeat (first | (with_reducible first | exact HB.out | apply below_alloc | apply pw_below_drewN | apply below_drew1) | exact HB.out)) hb); clear HO_4; clear HB; have HO_4 := n0_; have HB := n1_; clear n0_ n1_; (try clear hb); (try clear hb2); (try clear hk); (try clear hi)))
       go_ret2
       exact ⟨by first | rfl | (simp [errW_none, errW_some] <;> rfl) | (simp [*, errW_none, errW_some] <;> rfl), by repeat (first | (with_reducible first | exact HB.out | apply below_alloc | apply pw_below_drewN | apply below_drew1) | exact HB.out)⟩
     ·
      rw [if_neg c20] at H
      have c20b0 : (x5_1.toList == ([] : List UInt8)) = false := beq_eq_false_iff_ne.mpr c20
      have c20b1 : (x5_1.toList != ([] : List UInt8)) = true := bne_iff_ne.mpr c20
      simp only [Option.some.injEq, Prod.mk.injEq] at H
      obtain ⟨rfl, rfl⟩ := H
      go_wp2
      go_ret2
      exact ⟨by first | rfl | (simp [errW_none, errW_some] <;> rfl) | (simp [*, errW_none, errW_some] <;> rfl), by repeat (first | (with_reducible first | exact HB.out | apply below_alloc | apply pw_below_drewN | apply below_drew1) | exact HB.out)⟩

end Go.Proofs.Ytpnflloamidecaa.Mine
