-- Written by this repo's own printer (wip/print), which builds on the kit's.
import Derived.Test.YtimhhacnpjcjnaaMinex0
import Derived.Test.YtimhhacnpjcjnaaMinex1
import Derived.Test.YtimhhacnpjcjnaaMinex12
import Derived.Test.YtimhhacnpjcjnaaMinex13
import Derived.Test.YtimhhacnpjcjnaaMinex16
import Derived.Test.YtimhhacnpjcjnaaMinex24
namespace Go.Proofs.Ytimhhacnpjcjnaa.Mine
open Go.RowKit Go.Proofs.YtimhhacnpjcjnaaW.PrintWords Go.Proofs.YtimhhacnpjcjnaaW.PrintLast Go.Proofs.YtimhhacnpjcjnaaW.PrintMore
attribute [local go_sem] max2_int min2_int max_two min_two max_three min_three max_four min_four   -- for this text's walks alone
set_option linter.unusedVariables false
set_option linter.unusedSimpArgs false

attribute [local go_sem high] eqA24
/-! ### nunciolaw14_FrameMakes: function 7 -/
def nunciolaw14_FrameMakes.l0 : Nat → List (S50) → Int → Int → ByteArray → Int → Option (Bool)
  | 0, _, _, _, _, _ => none
  | k + 1, x0, x1, x2, x7, x8 => if x8 < (x0.length : Int) then (if 0 ≤ x8 then ((nuncioref01_Put.f k x7 (IntKind.u64.wrap ((rd_T50 x0 x8).f0)) 2).bind fun t312 => ((nuncioref01_Put.f k t312 (IntKind.u64.wrap ((rd_T50 x0 x8).f1)) 4).bind fun t314 => (nunciolaw14_FrameMakes.l0 k x0 x1 x2 t314 (wrap64 (x8 + 1))))) else (none)) else ((nuncioref01_Put.f k (⟨#[]⟩ : ByteArray) (IntKind.u64.wrap (x2)) 4).bind fun t315 => ((some (([] : List (S50)) : List (S50))).bind fun y316 => (if y316.length + x0.length < 17592186044416 then ((frame_Settings.f k (y316 ++ x0)).bind fun bt322 => (if (bt322.1 == 4 && (bt322.2.1 == 0 && (bt322.2.2.1 == 0 && (bt322.2.2.2.toList == x7.toList)))) = true then ((frame_Reset.f k x1 x2).bind fun bt327 => (if (bt327.1 == 3 && (bt327.2.1 == 0 && (bt327.2.2.1 == (Int.tmod x1 2147483648) && (bt327.2.2.2.toList == t315.toList)))) = true then ((frame_Goaway.f k x1 x2).bind fun bt331 => ((nuncioref01_Put.f k (⟨#[]⟩ : ByteArray) (IntKind.u64.wrap (Int.tmod x1 2147483648)) 4).bind fun t335 => (if t335.size + t315.size ≤ 9223372036854775807 then (if (bt331.1 == 7 && (bt331.2.1 == 0 && (bt331.2.2.1 == 0 && (bt331.2.2.2.toList == ((t335 ++ t315).toList))))) = true then ((frame_Window.f k x2 x1).bind fun bt336 => ((nuncioref01_Put.f k (⟨#[]⟩ : ByteArray) (IntKind.u64.wrap (Int.tmod x1 2147483648)) 4).bind fun t340 => (some (bt336.1 == 8 && (bt336.2.1 == 0 && (bt336.2.2.1 == (Int.tmod x2 2147483648) && (bt336.2.2.2.toList == t340.toList))))))) else (some false)) else (none)))) else (some false))) else (some false))) else (none))))
def nunciolaw14_FrameMakes.f (k : Nat) (l0 : List (S50)) (a1 : Int) (a2 : Int) : Option (Bool) := (nunciolaw14_awake.f k).bind fun t310 => (if t310 = true then (if (l0.length : Int) > 2000 then (some true) else (nunciolaw14_FrameMakes.l0 k l0 a1 a2 (⟨#[]⟩ : ByteArray) 0)) else (some false))
theorem nunciolaw14_FrameMakes.mono_l : ∀ k, (∀ y0 y1 y2 y3 y4, LeO (nunciolaw14_FrameMakes.l0 k y0 y1 y2 y3 y4) (nunciolaw14_FrameMakes.l0 (k + 1) y0 y1 y2 y3 y4))
  | 0 => fun _ _ _ _ _ r h => by simp [nunciolaw14_FrameMakes.l0] at h
  | k + 1 => by
    have ih0 := nunciolaw14_FrameMakes.mono_l k
    · intro y0 y1 y2 y3 y4
      unfold nunciolaw14_FrameMakes.l0
      repeat' first
      | (with_reducible exact ih0 _ _ _ _ _)
      | (with_reducible exact frame_Goaway.mono _ _ _)
      | (with_reducible exact frame_Reset.mono _ _ _)
      | (with_reducible exact frame_Settings.mono _ _)
      | (with_reducible exact frame_Window.mono _ _ _)
      | (with_reducible exact nunciolaw14_awake.mono _)
      | (with_reducible exact nuncioref01_Put.mono _ _ _ _)
      | (with_reducible exact LeO.refl _)
      | (with_reducible exact LeO.none _)
      | (with_reducible refine LeO.ite ?_ ?_)
      | (with_reducible refine LeO.bind ?_ (fun _ => ?_))
      | exact ih0 _ _ _ _ _
      | exact frame_Goaway.mono _ _ _
      | exact frame_Reset.mono _ _ _
      | exact frame_Settings.mono _ _
      | exact frame_Window.mono _ _ _
      | exact nunciolaw14_awake.mono _
      | exact nuncioref01_Put.mono _ _ _ _
      | exact LeO.none _
      | refine LeO.ite ?_ ?_
      | refine LeO.bind ?_ (fun _ => ?_)
theorem nunciolaw14_FrameMakes.mono : ∀ a0 a1 a2 k, LeO (nunciolaw14_FrameMakes.f k a0 a1 a2) (nunciolaw14_FrameMakes.f (k + 1) a0 a1 a2) := by
  intro a0 a1 a2 k
  have ih0 := nunciolaw14_FrameMakes.mono_l k
  unfold nunciolaw14_FrameMakes.f
  repeat' first
      | (with_reducible exact ih0 _ _ _ _ _)
      | (with_reducible exact frame_Goaway.mono _ _ _)
      | (with_reducible exact frame_Reset.mono _ _ _)
      | (with_reducible exact frame_Settings.mono _ _)
      | (with_reducible exact frame_Window.mono _ _ _)
      | (with_reducible exact nunciolaw14_awake.mono _)
      | (with_reducible exact nuncioref01_Put.mono _ _ _ _)
      | (with_reducible exact LeO.refl _)
      | (with_reducible exact LeO.none _)
      | (with_reducible refine LeO.ite ?_ ?_)
      | (with_reducible refine LeO.bind ?_ (fun _ => ?_))
      | exact ih0 _ _ _ _ _
      | exact frame_Goaway.mono _ _ _
      | exact frame_Reset.mono _ _ _
      | exact frame_Settings.mono _ _
      | exact frame_Window.mono _ _ _
      | exact nunciolaw14_awake.mono _
      | exact nuncioref01_Put.mono _ _ _ _
      | exact LeO.none _
      | refine LeO.ite ?_ ?_
      | refine LeO.bind ?_ (fun _ => ?_)
def nunciolaw14_FrameMakes.T9 : Bool × List (List Nat × List Nat) := (true, [([], []), ([], []), ([], []), ([1, 2], [1, 2]), ([3], [3]), ([4], [4]), ([5], [5]), ([0, 6], [0, 6]), ([], []), ([], []), ([8, 9], [8, 9]), ([10], [10]), ([11], [11]), ([12], [12]), ([7, 13, 7], [7, 13]), ([14, 14, 0, 1, 2, 3, 4, 5, 6, 7, 8, 9, 10, 11, 12, 13, 14], [0, 14])])
def nunciolaw14_FrameMakes.B9 : List Nat := [0, 0, 0, 6, 14, 30, 62, 127, 0, 0, 768, 1792, 3840, 7936, 16383, 32767]
theorem nunciolaw14_FrameMakes.tab9 : rtab .any (opsOf Try.f7 9) = nunciolaw14_FrameMakes.T9 := by kernel_rfl
theorem nunciolaw14_FrameMakes.bits9 : waitsOk nunciolaw14_FrameMakes.T9.2 nunciolaw14_FrameMakes.B9 = true := by kernel_rfl
set_option maxHeartbeats 8000000 in
set_option maxRecDepth 100000 in
theorem nunciolaw14_FrameMakes.calls (k : Nat) (A0 : Option Addr) (c0 : Nat) (l0 : List (S50)) (a1 : Int) (a2 : Int) (r : Bool) (w : World) (hr0 : Kd.C k50 w A0 l0.length l0) (hc0 : l0.length ≤ c0) (h : nunciolaw14_FrameMakes.f k l0 a1 a2 = some r) :
    Calls Try.prog 7 #[.slice A0 l0.length c0, .int .u32 a1, .int .u32 a2] w fun e w' => e = .returned (.bool r) ∧ Below w.heap.size w w' := by
  have hu24 := Try.underlying24
  have HR0 := Aside0.mk hr0
  have HC0 := Aside0.mk hc0
  clear hr0 hc0
  have HB := Aside0.mk (Below.refl w.heap.size w)
  have H : ((nunciolaw14_awake.f k).bind fun t310 => (if t310 = true then (if (l0.length : Int) > 2000 then (some true) else (nunciolaw14_FrameMakes.l0 k l0 a1 a2 (⟨#[]⟩ : ByteArray) 0)) else (some false))) = some r := h
  clear h
  replace H := Option.bind_eq_some_iff.mp H
  obtain ⟨t310, A40, H⟩ := H
  replace H : (if t310 = true then (if (l0.length : Int) > 2000 then (some true) else (nunciolaw14_FrameMakes.l0 k l0 a1 a2 (⟨#[]⟩ : ByteArray) 0)) else (some false)) = some r := H
  have A4 := Aside0.mk A40
  clear A40
  by_cases c5 : t310 = true
  · subst c5
    have H1 : (if (l0.length : Int) > 2000 then (some true) else (nunciolaw14_FrameMakes.l0 k l0 a1 a2 (⟨#[]⟩ : ByteArray) 0)) = some r := by rw [if_pos rfl] at H; exact H
    clear H
    have H := H1
    clear H1
    by_cases c6 : (l0.length : Int) > 2000
    · rw [if_pos c6] at H
      have c6b0 : decide (2000 < (l0.length : Int)) = true := decide_eq_true c6
      have c6b1 : decide (2000 < l0.length) = true := decide_eq_true (by omega)
      clear c6
      obtain rfl := Option.some.inj H
      go_enter Try.func7, Try.ntmps7
      go_wp2_with (first | ((with_reducible refine gate_callee (f := 8) rfl ?_); refine goesL_ (some 12) rfl rfl Try.func8 (by kernel_rfl) rfl #[] rfl (by (try simp only [List.map_toArray, List.map_cons, List.map_nil]); first | done | rfl | (simp only [List.length_drop, List.length_take]; rfl)) ?_; (with_reducible refine (nunciolaw14_awake.calls k  true _ A4.out).mono ?_); rintro e w7 ⟨rfl, hb⟩; refine ⟨_, rfl, ?_⟩; have n0_ := Aside0.mk (below_step (by repeat (first | (with_reducible first | exact HB.out | apply below_alloc | apply pw_below_drewN | apply below_drew1) | exact HB.out)) hb); clear HB; have HB := n0_; clear n0_; (try clear hb); (try clear hb2); (try clear hk); (try clear hi)))
      go_ret
      exact ⟨by first | rfl | (simp [errW_none, errW_some] <;> rfl) | (simp [*, errW_none, errW_some] <;> rfl), by repeat (first | (with_reducible first | exact HB.out | apply below_alloc | apply pw_below_drewN | apply below_drew1) | exact HB.out)⟩
    · rw [if_neg c6] at H
      have c6b0 : decide (2000 < (l0.length : Int)) = false := decide_eq_false c6
      have c6b1 : decide (2000 < l0.length) = false := decide_eq_false (by omega)
      clear c6
      have H' := Aside0.mk H
      clear H
      go_enter Try.func7, Try.ntmps7
      go_wp2_with (first | ((with_reducible refine gate_callee (f := 8) rfl ?_); refine goesL_ (some 12) rfl rfl Try.func8 (by kernel_rfl) rfl #[] rfl (by (try simp only [List.map_toArray, List.map_cons, List.map_nil]); first | done | rfl | (simp only [List.length_drop, List.length_take]; rfl)) ?_; (with_reducible refine (nunciolaw14_awake.calls k  true _ A4.out).mono ?_); rintro e w8 ⟨rfl, hb⟩; refine ⟨_, rfl, ?_⟩; have n0_ := Aside0.mk (below_step (by repeat (first | (with_reducible first | exact HB.out | apply below_alloc | apply pw_below_drewN | apply below_drew1) | exact HB.out)) hb); clear HB; have HB := n0_; clear n0_; (try clear hb); (try clear hb2); (try clear hk); (try clear hi)))
      go_loopg [7, 8] k (fun kq v7 v8 w' => ∃ (x7_1 : ByteArray) (x8_1 : Int), v7 = .string x7_1 ∧ v8 = .int .i64 x8_1 ∧ Aside0 (nunciolaw14_FrameMakes.l0 kq l0 a1 a2 x7_1 x8_1 = some r) ∧ Aside0 (kq ≤ k) ∧ Aside0 (Below w.heap.size w w'))
      case atStart => exact ⟨((⟨#[]⟩ : ByteArray)), (0), (by first | rfl | (simp; done) | (simp [*]; done)), (by first | rfl | (simp; done) | (simp [*]; done)), H', ⟨Nat.le_refl _⟩, ⟨by repeat (first | (with_reducible first | exact HB.out | apply below_alloc | apply pw_below_drewN | apply below_drew1) | exact HB.out)⟩⟩
      case round =>
        clear H'
        try clear p2
        try clear c5
        try clear c6
        try clear c6b0
        try clear c6b1
        try clear c7
        try clear c8
        obtain ⟨x7_1, x8_1, rfl, rfl, HA, HK1, HB⟩ := hrel
        cases gk with
        | zero => exact absurd HA.out (by simp [nunciolaw14_FrameMakes.l0])
        | succ k1 =>
          have H := HA.out
          clear HA
          simp only [nunciolaw14_FrameMakes.l0] at H
          by_cases c9 : x8_1 < (l0.length : Int)
          · rw [if_pos c9] at H
            have c9b0 : decide (x8_1 < (l0.length : Int)) = true := decide_eq_true c9
            clear c9
            by_cases c10 : 0 ≤ x8_1
            · rw [if_pos c10] at H
              have c10b0 : decide (0 ≤ x8_1) = true := decide_eq_true c10
              clear c10
              replace H := Option.bind_eq_some_iff.mp H
              obtain ⟨t312, A110, H⟩ := H
              replace H : ((nuncioref01_Put.f k1 t312 (IntKind.u64.wrap ((rd_T50 l0 x8_1).f1)) 4).bind fun t314 => (nunciolaw14_FrameMakes.l0 k1 l0 a1 a2 t314 (wrap64 (x8_1 + 1)))) = some r := H
              have A11 := Aside0.mk A110
              clear A110
              replace H := Option.bind_eq_some_iff.mp H
              obtain ⟨t314, A120, H⟩ := H
              replace H : (nunciolaw14_FrameMakes.l0 k1 l0 a1 a2 t314 (wrap64 (x8_1 + 1))) = some r := H
              have A12 := Aside0.mk A120
              clear A120
              have H' := Aside0.mk H
              clear H
              try go_wp2
              have n0_ := Aside0.mk (below_drew1 HB.out)
              clear HB
              have HB := n0_
              clear n0_
              have p311 : 0 ≤ (x8_1 : Int) := of_decide_eq_true (by first | (with_reducible assumption) | assumption)
              have q311 : x8_1 < (l0.length : Int) := of_decide_eq_true (by first | (with_reducible assumption) | assumption)
              obtain ⟨ad311, e311, hx311_0, hx311_1⟩ := at_T50 HR0.out x8_1 p311 q311
              have hw311_1 := hx311_1
              have hw311_0 := hx311_0
              cases e311
              replace hx311_0 := (HB.out.cell (World.block_lt_of_cell? w _ hx311_0)).trans hx311_0
              replace hx311_1 := (HB.out.cell (World.block_lt_of_cell? w _ hx311_1)).trans hx311_1
              replace p311 := eq_true p311
              replace q311 := eq_true q311
              have p313 : 0 ≤ (x8_1 : Int) := of_decide_eq_true (by first | (with_reducible assumption) | assumption)
              have q313 : x8_1 < (l0.length : Int) := of_decide_eq_true (by first | (with_reducible assumption) | assumption)
              obtain ⟨ad313, e313, hx313_0, hx313_1⟩ := at_T50 HR0.out x8_1 p313 q313
              have hw313_1 := hx313_1
              have hw313_0 := hx313_0
              obtain rfl : ad311 = ad313 := (by injection e313)
              replace hx313_0 := (HB.out.cell (World.block_lt_of_cell? w _ hx313_0)).trans hx313_0
              replace hx313_1 := (HB.out.cell (World.block_lt_of_cell? w _ hx313_1)).trans hx313_1
              replace p313 := eq_true p313
              replace q313 := eq_true q313
              refine start_ (n := 16) (S := fun w' => w'.cell? (ad311.add ((x8_1).toNat * 2)) = some (.int .u16 ((rd_T50 l0 x8_1).f0)) ∧ w'.cell? ⟨(ad311.add ((x8_1).toNat * 2)).block, (ad311.add ((x8_1).toNat * 2)).off + 1, none⟩ = some (.int .u32 ((rd_T50 l0 x8_1).f1)) ∧ w'.cell? (ad311.add ((x8_1).toNat * 2)) = some (.int .u16 ((rd_T50 l0 x8_1).f0)) ∧ w'.cell? ⟨(ad311.add ((x8_1).toNat * 2)).block, (ad311.add ((x8_1).toNat * 2)).off + 1, none⟩ = some (.int .u32 ((rd_T50 l0 x8_1).f1))) (ds := []) #[false, false, false, false, false, false, false, false, false, false, false, false, false, false, false, false] (by kernel_rfl) rfl rfl ⟨((HB.out.cell (World.block_lt_of_cell? w _ hw311_0)).trans hw311_0), ((HB.out.cell (World.block_lt_of_cell? w _ hw311_1)).trans hw311_1), ((HB.out.cell (World.block_lt_of_cell? w _ hw313_0)).trans hw313_0), ((HB.out.cell (World.block_lt_of_cell? w _ hw313_1)).trans hw313_1)⟩ (fun hHeld => ?_); refine with_tabW nunciolaw14_FrameMakes.tab9 nunciolaw14_FrameMakes.bits9 (fun HT_ HW_ => ?_)
              generalize wr.drew = w13 at HB hx311_0 hx311_1 hx313_0 hx313_1 hHeld ⊢
              refine pure_ (i := 0) (N := some 23) (v := ?_) (a' := ?_) #[true, false, false, false, false, false, false, false, false, false, false, false, false, false, false, false] rfl rfl (any_of HT_.out (by kernel_rfl)) (fun _ _ _ h => h) (Or.inl ⟨by rfl, ?_⟩) ?_ ?_
              rotate_left
              · intro w'
                go_simp
                with_reducible rfl
              rotate_left
              · simp only [Act.put, List.setIfInBounds_toArray, List.set_cons_zero, List.set_cons_succ, i64_w, i32_w]
                rfl
              refine pure_ (i := 1) (N := some 24) (v := ?_) (a' := ?_) #[true, true, false, false, false, false, false, false, false, false, false, false, false, false, false, false] rfl rfl (any_of HT_.out (by kernel_rfl)) (fun _ _ _ h => h) (Or.inl ⟨by rfl, ?_⟩) ?_ ?_
              rotate_left
              · intro w'
                go_simp
                with_reducible rfl
              rotate_left
              · simp only [Act.put, List.setIfInBounds_toArray, List.set_cons_zero, List.set_cons_succ, i64_w, i32_w]
                rfl
              refine pure_ (i := 2) (N := some 25) (v := ?_) (a' := ?_) #[true, true, true, false, false, false, false, false, false, false, false, false, false, false, false, false] rfl rfl (any_of HT_.out (by kernel_rfl)) (fun _ _ _ h => h) (Or.inl ⟨by rfl, ?_⟩) ?_ ?_
              rotate_left
              · intro w'
                go_simp
                with_reducible rfl
              rotate_left
              · simp only [Act.put, List.setIfInBounds_toArray, List.set_cons_zero, List.set_cons_succ, i64_w, i32_w]
                rfl
              refine pure_ (i := 3) (N := some 26) (v := ?_) (a' := ?_) #[true, true, true, true, false, false, false, false, false, false, false, false, false, false, false, false] rfl rfl (any_of HT_.out (by kernel_rfl)) (fun _ _ _ h => h) (Or.inl ⟨by rfl, ?_⟩) ?_ ?_
              rotate_left
              · intro w'
                go_simp
                with_reducible rfl
              rotate_left
              · simp only [Act.put, List.setIfInBounds_toArray, List.set_cons_zero, List.set_cons_succ, i64_w, i32_w]
                rfl
              refine pure_ (i := 4) (N := some 27) (v := ?_) (a' := ?_) #[true, true, true, true, true, false, false, false, false, false, false, false, false, false, false, false] rfl rfl (any_of HT_.out (by kernel_rfl)) (fun _ _ _ h => h) (Or.inl ⟨by rfl, ?_⟩) ?_ ?_
              rotate_left
              · intro w'
                go_simp
                with_reducible rfl
              rotate_left
              · simp only [Act.put, List.setIfInBounds_toArray, List.set_cons_zero, List.set_cons_succ, i64_w, i32_w]
                rfl
              refine pure_ (i := 8) (N := some 31) (v := ?_) (a' := ?_) #[true, true, true, true, true, false, false, false, true, false, false, false, false, false, false, false] rfl rfl (any_of HT_.out (by kernel_rfl)) (fun _ _ _ h => h) (Or.inl ⟨by rfl, ?_⟩) ?_ ?_
              rotate_left
              · intro w'
                go_simp
                with_reducible rfl
              rotate_left
              · simp only [Act.put, List.setIfInBounds_toArray, List.set_cons_zero, List.set_cons_succ, i64_w, i32_w]
                rfl
              refine pure_ (i := 9) (N := some 32) (v := ?_) (a' := ?_) #[true, true, true, true, true, false, false, false, true, true, false, false, false, false, false, false] rfl rfl (any_of HT_.out (by kernel_rfl)) (fun _ _ _ h => h) (Or.inl ⟨by rfl, ?_⟩) ?_ ?_
              rotate_left
              · intro w'
                go_simp
                with_reducible rfl
              rotate_left
              · simp only [Act.put, List.setIfInBounds_toArray, List.set_cons_zero, List.set_cons_succ, i64_w, i32_w]
                rfl
              refine pure_ (i := 10) (N := some 33) (v := ?_) (a' := ?_) #[true, true, true, true, true, false, false, false, true, true, true, false, false, false, false, false] rfl rfl (any_of HT_.out (by kernel_rfl)) (fun _ _ _ h => h) (Or.inl ⟨by rfl, ?_⟩) ?_ ?_
              rotate_left
              · intro w'
                go_simp
                with_reducible rfl
              rotate_left
              · simp only [Act.put, List.setIfInBounds_toArray, List.set_cons_zero, List.set_cons_succ, i64_w, i32_w]
                rfl
              refine pure_ (i := 11) (N := some 34) (v := ?_) (a' := ?_) #[true, true, true, true, true, false, false, false, true, true, true, true, false, false, false, false] rfl rfl (any_of HT_.out (by kernel_rfl)) (fun _ _ _ h => h) (Or.inl ⟨by rfl, ?_⟩) ?_ ?_
              rotate_left
              · intro w'
                go_simp
                with_reducible rfl
              rotate_left
              · simp only [Act.put, List.setIfInBounds_toArray, List.set_cons_zero, List.set_cons_succ, i64_w, i32_w]
                rfl
              refine take_ (i := 5) (N := some 28) (v := ?_) (a' := ?_) #[true, true, true, true, true, true, false, false, true, true, true, true, false, false, false, false] rfl rfl (take_ofW HT_.out HW_.out (by kernel_rfl)) (fun _ _ _ h => h) (Or.inl ⟨by rfl, ?_⟩) hHeld ?_ ?_
              rotate_left
              · rintro w' ⟨s0, s1, s2, s3⟩
                go_simp
                with_reducible rfl
              rotate_left
              · simp only [Act.put, List.setIfInBounds_toArray, List.set_cons_zero, List.set_cons_succ, i64_w, i32_w]
                rfl
              refine pure_ (i := 6) (N := some 29) (v := ?_) (a' := ?_) #[true, true, true, true, true, true, true, false, true, true, true, true, false, false, false, false] rfl rfl (any_of HT_.out (by kernel_rfl)) (fun _ _ _ h => h) (Or.inl ⟨by rfl, ?_⟩) ?_ ?_
              rotate_left
              · intro w'
                go_simp
                with_reducible rfl
              rotate_left
              · simp only [Act.put, List.setIfInBounds_toArray, List.set_cons_zero, List.set_cons_succ, i64_w, i32_w]
                rfl
              refine take_ (i := 12) (N := some 35) (v := ?_) (a' := ?_) #[true, true, true, true, true, true, true, false, true, true, true, true, true, false, false, false] rfl rfl (take_ofW HT_.out HW_.out (by kernel_rfl)) (fun _ _ _ h => h) (Or.inl ⟨by rfl, ?_⟩) hHeld ?_ ?_
              rotate_left
              · rintro w' ⟨s0, s1, s2, s3⟩
                go_simp
                with_reducible rfl
              rotate_left
              · simp only [Act.put, List.setIfInBounds_toArray, List.set_cons_zero, List.set_cons_succ, i64_w, i32_w]
                rfl
              refine pure_ (i := 13) (N := some 36) (v := ?_) (a' := ?_) #[true, true, true, true, true, true, true, false, true, true, true, true, true, true, false, false] rfl rfl (any_of HT_.out (by kernel_rfl)) (fun _ _ _ h => h) (Or.inl ⟨by rfl, ?_⟩) ?_ ?_
              rotate_left
              · intro w'
                go_simp
                with_reducible rfl
              rotate_left
              · simp only [Act.put, List.setIfInBounds_toArray, List.set_cons_zero, List.set_cons_succ, i64_w, i32_w]
                rfl
              refine one_ (i := 7) (N := some 30) #[true, true, true, true, true, true, true, true, true, true, true, true, true, true, false, false] rfl rfl (one_of HT_.out (by kernel_rfl)) (by decide) (fun K hK => ?_)
              refine goes_ Try.func17 (by kernel_rfl) rfl #[.string x7_1, .int .u64 (IntKind.u64.wrap ((rd_T50 l0 x8_1).f0)), .int .i64 2] (by rfl) rfl rfl (by (try simp only [List.map_toArray, List.map_cons, List.map_nil]); first | done | rfl | (simp only [List.length_drop, List.length_take]; rfl)) ?_
              with_reducible refine (nuncioref01_Put.calls k1 x7_1 (IntKind.u64.wrap ((rd_T50 l0 x8_1).f0)) 2 t312 _ A11.out).mono ?_
              rintro e w14 ⟨rfl, hb⟩
              refine ⟨_, rfl, ?_⟩
              have n0_ := Aside0.mk (below_step (by repeat (first | (with_reducible first | exact HB.out | apply below_alloc | apply pw_below_drewN | apply below_drew1) | exact HB.out)) hb)
              clear HB
              have HB := n0_
              clear n0_
              (try clear hb)
              (try clear hb2)
              (try clear hk)
              (try clear hi)
              refine hK.out _ _ ⟨((HB.out.cell (World.block_lt_of_cell? w _ hw311_0)).trans hw311_0), ((HB.out.cell (World.block_lt_of_cell? w _ hw311_1)).trans hw311_1), ((HB.out.cell (World.block_lt_of_cell? w _ hw313_0)).trans hw313_0), ((HB.out.cell (World.block_lt_of_cell? w _ hw313_1)).trans hw313_1)⟩ (fun hHeld => ?_)
              clear hK K
              refine norm_ (a' := ?_) ?_ ?_
              rotate_left
              · show Act.put _ (some 30) _ = _
                simp only [Act.put, List.setIfInBounds_toArray, List.set_cons_zero, List.set_cons_succ, i64_w, i32_w]
                rfl
              refine one_ (i := 14) (N := some 37) #[true, true, true, true, true, true, true, true, true, true, true, true, true, true, true, false] rfl rfl (one_of HT_.out (by kernel_rfl)) (by decide) (fun K hK => ?_)
              refine goes_ Try.func17 (by kernel_rfl) rfl #[.string t312, .int .u64 (IntKind.u64.wrap ((rd_T50 l0 x8_1).f1)), .int .i64 4] (by rfl) rfl rfl (by (try simp only [List.map_toArray, List.map_cons, List.map_nil]); first | done | rfl | (simp only [List.length_drop, List.length_take]; rfl)) ?_
              with_reducible refine (nuncioref01_Put.calls k1 t312 (IntKind.u64.wrap ((rd_T50 l0 x8_1).f1)) 4 t314 _ A12.out).mono ?_
              rintro e w15 ⟨rfl, hb⟩
              refine ⟨_, rfl, ?_⟩
              have n0_ := Aside0.mk (below_step (by repeat (first | (with_reducible first | exact HB.out | apply below_alloc | apply pw_below_drewN | apply below_drew1) | exact HB.out)) hb)
              clear HB
              have HB := n0_
              clear n0_
              (try clear hb)
              (try clear hb2)
              (try clear hk)
              (try clear hi)
              refine hK.out _ _ ⟨((HB.out.cell (World.block_lt_of_cell? w _ hw311_0)).trans hw311_0), ((HB.out.cell (World.block_lt_of_cell? w _ hw311_1)).trans hw311_1), ((HB.out.cell (World.block_lt_of_cell? w _ hw313_0)).trans hw313_0), ((HB.out.cell (World.block_lt_of_cell? w _ hw313_1)).trans hw313_1)⟩ (fun hHeld => ?_)
              clear hK K
              refine norm_ (a' := ?_) ?_ ?_
              rotate_left
              · show Act.put _ (some 37) _ = _
                simp only [Act.put, List.setIfInBounds_toArray, List.set_cons_zero, List.set_cons_succ, i64_w, i32_w]
                rfl
              refine pure_ (i := 15) (N := some 7) (v := ?_) (a' := ?_) #[true, true, true, true, true, true, true, true, true, true, true, true, true, true, true, true] rfl rfl (any_of HT_.out (by kernel_rfl)) (fun _ _ _ h => h) (Or.inl ⟨by rfl, ?_⟩) ?_ ?_
              rotate_left
              · intro w'
                go_simp
                with_reducible rfl
              rotate_left
              · simp only [Act.put, List.setIfInBounds_toArray, List.set_cons_zero, List.set_cons_succ, i64_w, i32_w]
                rfl
              refine done_ (done_of HT_.out (by kernel_rfl)) ?_
              try go_wp2
              go_roundg k1
              case measure => have := HK1.out; omega
              case rel => exact ⟨(t314), (wrap64 (x8_1 + 1)), (by first | rfl | (simp; done) | (simp [*]; done)), (by first | rfl | (simp; done) | (simp [*]; done)), H', ⟨by have := HK1.out; omega⟩, ⟨by repeat (first | (with_reducible first | exact HB.out | apply below_alloc | apply pw_below_drewN | apply below_drew1) | exact HB.out)⟩⟩
            · rw [if_neg c10] at H
              exact absurd H (by simp)
          · rw [if_neg c9] at H
            have c9b0 : decide (x8_1 < (l0.length : Int)) = false := decide_eq_false c9
            clear c9
            replace H := Option.bind_eq_some_iff.mp H
            obtain ⟨t315, A160, H⟩ := H
            replace H : ((some (([] : List (S50)) : List (S50))).bind fun y316 => (if y316.length + l0.length < 17592186044416 then ((frame_Settings.f k1 (y316 ++ l0)).bind fun bt322 => (if (bt322.1 == 4 && (bt322.2.1 == 0 && (bt322.2.2.1 == 0 && (bt322.2.2.2.toList == x7_1.toList)))) = true then ((frame_Reset.f k1 a1 a2).bind fun bt327 => (if (bt327.1 == 3 && (bt327.2.1 == 0 && (bt327.2.2.1 == (Int.tmod a1 2147483648) && (bt327.2.2.2.toList == t315.toList)))) = true then ((frame_Goaway.f k1 a1 a2).bind fun bt331 => ((nuncioref01_Put.f k1 (⟨#[]⟩ : ByteArray) (IntKind.u64.wrap (Int.tmod a1 2147483648)) 4).bind fun t335 => (if t335.size + t315.size ≤ 9223372036854775807 then (if (bt331.1 == 7 && (bt331.2.1 == 0 && (bt331.2.2.1 == 0 && (bt331.2.2.2.toList == ((t335 ++ t315).toList))))) = true then ((frame_Window.f k1 a2 a1).bind fun bt336 => ((nuncioref01_Put.f k1 (⟨#[]⟩ : ByteArray) (IntKind.u64.wrap (Int.tmod a1 2147483648)) 4).bind fun t340 => (some (bt336.1 == 8 && (bt336.2.1 == 0 && (bt336.2.2.1 == (Int.tmod a2 2147483648) && (bt336.2.2.2.toList == t340.toList))))))) else (some false)) else (none)))) else (some false))) else (some false))) else (none))) = some r := H
            have A16 := Aside0.mk A160
            clear A160
            obtain ⟨y316, hy316⟩ : ∃ y_ : List (S50), y_ = (([] : List (S50))) := ⟨_, rfl⟩
            replace H : (if y316.length + l0.length < 17592186044416 then ((frame_Settings.f k1 (y316 ++ l0)).bind fun bt322 => (if (bt322.1 == 4 && (bt322.2.1 == 0 && (bt322.2.2.1 == 0 && (bt322.2.2.2.toList == x7_1.toList)))) = true then ((frame_Reset.f k1 a1 a2).bind fun bt327 => (if (bt327.1 == 3 && (bt327.2.1 == 0 && (bt327.2.2.1 == (Int.tmod a1 2147483648) && (bt327.2.2.2.toList == t315.toList)))) = true then ((frame_Goaway.f k1 a1 a2).bind fun bt331 => ((nuncioref01_Put.f k1 (⟨#[]⟩ : ByteArray) (IntKind.u64.wrap (Int.tmod a1 2147483648)) 4).bind fun t335 => (if t335.size + t315.size ≤ 9223372036854775807 then (if (bt331.1 == 7 && (bt331.2.1 == 0 && (bt331.2.2.1 == 0 && (bt331.2.2.2.toList == ((t335 ++ t315).toList))))) = true then ((frame_Window.f k1 a2 a1).bind fun bt336 => ((nuncioref01_Put.f k1 (⟨#[]⟩ : ByteArray) (IntKind.u64.wrap (Int.tmod a1 2147483648)) 4).bind fun t340 => (some (bt336.1 == 8 && (bt336.2.1 == 0 && (bt336.2.2.1 == (Int.tmod a2 2147483648) && (bt336.2.2.2.toList == t340.toList))))))) else (some false)) else (none)))) else (some false))) else (some false))) else (none)) = some r := by first | (rw [hy316]; with_reducible exact H) | (have H2_ := (Option.bind_some _ _).symm.trans H; rw [hy316]; with_reducible exact H2_) | (have H2_ := (Option.bind_some _ _).symm.trans H; with_reducible exact H2_) | with_reducible exact H | (rw [hy316]; exact H) | exact H
            have Ny316 := Aside0.mk hy316
            clear hy316
            by_cases c17 : y316.length + l0.length < 17592186044416
            · rw [if_pos c17] at H
              have LMc17 := Aside0.mk c17
              clear c17
              obtain ⟨y319, hy319⟩ : ∃ y_ : List (S50), y_ = (y316 ++ l0) := ⟨_, rfl⟩
              replace H : ((frame_Settings.f k1 y319).bind fun bt322 => (if (bt322.1 == 4 && (bt322.2.1 == 0 && (bt322.2.2.1 == 0 && (bt322.2.2.2.toList == x7_1.toList)))) = true then ((frame_Reset.f k1 a1 a2).bind fun bt327 => (if (bt327.1 == 3 && (bt327.2.1 == 0 && (bt327.2.2.1 == (Int.tmod a1 2147483648) && (bt327.2.2.2.toList == t315.toList)))) = true then ((frame_Goaway.f k1 a1 a2).bind fun bt331 => ((nuncioref01_Put.f k1 (⟨#[]⟩ : ByteArray) (IntKind.u64.wrap (Int.tmod a1 2147483648)) 4).bind fun t335 => (if t335.size + t315.size ≤ 9223372036854775807 then (if (bt331.1 == 7 && (bt331.2.1 == 0 && (bt331.2.2.1 == 0 && (bt331.2.2.2.toList == ((t335 ++ t315).toList))))) = true then ((frame_Window.f k1 a2 a1).bind fun bt336 => ((nuncioref01_Put.f k1 (⟨#[]⟩ : ByteArray) (IntKind.u64.wrap (Int.tmod a1 2147483648)) 4).bind fun t340 => (some (bt336.1 == 8 && (bt336.2.1 == 0 && (bt336.2.2.1 == (Int.tmod a2 2147483648) && (bt336.2.2.2.toList == t340.toList))))))) else (some false)) else (none)))) else (some false))) else (some false))) = some r := by first | (rw [hy319]; with_reducible exact H) | (have H2_ := (Option.bind_some _ _).symm.trans H; rw [hy319]; with_reducible exact H2_) | (have H2_ := (Option.bind_some _ _).symm.trans H; with_reducible exact H2_) | with_reducible exact H | (rw [hy319]; exact H) | exact H
              have Ny319 := Aside0.mk hy319
              clear hy319
              replace H := Option.bind_eq_some_iff.mp H
              obtain ⟨⟨t322, t323, t324, t325⟩, A180, H⟩ := H
              replace H : (if (t322 == 4 && (t323 == 0 && (t324 == 0 && (t325.toList == x7_1.toList)))) = true then ((frame_Reset.f k1 a1 a2).bind fun bt327 => (if (bt327.1 == 3 && (bt327.2.1 == 0 && (bt327.2.2.1 == (Int.tmod a1 2147483648) && (bt327.2.2.2.toList == t315.toList)))) = true then ((frame_Goaway.f k1 a1 a2).bind fun bt331 => ((nuncioref01_Put.f k1 (⟨#[]⟩ : ByteArray) (IntKind.u64.wrap (Int.tmod a1 2147483648)) 4).bind fun t335 => (if t335.size + t315.size ≤ 9223372036854775807 then (if (bt331.1 == 7 && (bt331.2.1 == 0 && (bt331.2.2.1 == 0 && (bt331.2.2.2.toList == ((t335 ++ t315).toList))))) = true then ((frame_Window.f k1 a2 a1).bind fun bt336 => ((nuncioref01_Put.f k1 (⟨#[]⟩ : ByteArray) (IntKind.u64.wrap (Int.tmod a1 2147483648)) 4).bind fun t340 => (some (bt336.1 == 8 && (bt336.2.1 == 0 && (bt336.2.2.1 == (Int.tmod a2 2147483648) && (bt336.2.2.2.toList == t340.toList))))))) else (some false)) else (none)))) else (some false))) else (some false)) = some r := H
              have A18 := Aside0.mk A180
              clear A180
              by_cases c19 : (t322 == 4 && (t323 == 0 && (t324 == 0 && (t325.toList == x7_1.toList)))) = true
              · rw [if_pos c19] at H
                have c19b0 : (t322 == 4 && (t323 == 0 && (t324 == 0 && (t325.toList == x7_1.toList)))) = true := c19
                (try (have c19b1 : decide (t322 = 4 && (t323 == 0 && (t324 == 0 && (t325.toList == x7_1.toList)))) = true := by simpa using c19))
                (try (have c19b2 : (t322 == 4 && (t323 == 0 && (t324 == 0 && (t325.toList == x7_1.toList)))) = true := by simpa using c19))
                clear c19
                (try (have c19b9 := c19b0; simp only [beq_true, beq_false] at c19b9))
                replace H := Option.bind_eq_some_iff.mp H
                obtain ⟨⟨t327, t328, t329, t330⟩, A200, H⟩ := H
                replace H : (if (t327 == 3 && (t328 == 0 && (t329 == (Int.tmod a1 2147483648) && (t330.toList == t315.toList)))) = true then ((frame_Goaway.f k1 a1 a2).bind fun bt331 => ((nuncioref01_Put.f k1 (⟨#[]⟩ : ByteArray) (IntKind.u64.wrap (Int.tmod a1 2147483648)) 4).bind fun t335 => (if t335.size + t315.size ≤ 9223372036854775807 then (if (bt331.1 == 7 && (bt331.2.1 == 0 && (bt331.2.2.1 == 0 && (bt331.2.2.2.toList == ((t335 ++ t315).toList))))) = true then ((frame_Window.f k1 a2 a1).bind fun bt336 => ((nuncioref01_Put.f k1 (⟨#[]⟩ : ByteArray) (IntKind.u64.wrap (Int.tmod a1 2147483648)) 4).bind fun t340 => (some (bt336.1 == 8 && (bt336.2.1 == 0 && (bt336.2.2.1 == (Int.tmod a2 2147483648) && (bt336.2.2.2.toList == t340.toList))))))) else (some false)) else (none)))) else (some false)) = some r := H
                have A20 := Aside0.mk A200
                clear A200
                by_cases c21 : (t327 == 3 && (t328 == 0 && (t329 == (Int.tmod a1 2147483648) && (t330.toList == t315.toList)))) = true
                · rw [if_pos c21] at H
                  have c21b0 : (t327 == 3 && (t328 == 0 && (t329 == (Int.tmod a1 2147483648) && (t330.toList == t315.toList)))) = true := c21
                  (try (have c21b1 : decide (t327 = 3 && (t328 == 0 && (t329 == (Int.tmod a1 2147483648) && (t330.toList == t315.toList)))) = true := by simpa using c21))
                  (try (have c21b2 : (t327 == 3 && (t328 == 0 && (t329 == (Int.tmod a1 2147483648) && (t330.toList == t315.toList)))) = true := by simpa using c21))
                  clear c21
                  (try (have c21b7 := c21b0; rw [Int.tmod_eq_emod_of_nonneg (Int.natCast_nonneg _)] at c21b7))
                  (try (have c21b6 := c21b1; rw [Int.tmod_eq_emod_of_nonneg (Int.natCast_nonneg _)] at c21b6))
                  (try (have c21b9 := c21b0; simp only [beq_true, beq_false] at c21b9))
                  replace H := Option.bind_eq_some_iff.mp H
                  obtain ⟨⟨t331, t332, t333, t334⟩, A220, H⟩ := H
                  replace H : ((nuncioref01_Put.f k1 (⟨#[]⟩ : ByteArray) (IntKind.u64.wrap (Int.tmod a1 2147483648)) 4).bind fun t335 => (if t335.size + t315.size ≤ 9223372036854775807 then (if (t331 == 7 && (t332 == 0 && (t333 == 0 && (t334.toList == ((t335 ++ t315).toList))))) = true then ((frame_Window.f k1 a2 a1).bind fun bt336 => ((nuncioref01_Put.f k1 (⟨#[]⟩ : ByteArray) (IntKind.u64.wrap (Int.tmod a1 2147483648)) 4).bind fun t340 => (some (bt336.1 == 8 && (bt336.2.1 == 0 && (bt336.2.2.1 == (Int.tmod a2 2147483648) && (bt336.2.2.2.toList == t340.toList))))))) else (some false)) else (none))) = some r := H
                  have A22 := Aside0.mk A220
                  clear A220
                  replace H := Option.bind_eq_some_iff.mp H
                  obtain ⟨t335, A230, H⟩ := H
                  replace H : (if t335.size + t315.size ≤ 9223372036854775807 then (if (t331 == 7 && (t332 == 0 && (t333 == 0 && (t334.toList == ((t335 ++ t315).toList))))) = true then ((frame_Window.f k1 a2 a1).bind fun bt336 => ((nuncioref01_Put.f k1 (⟨#[]⟩ : ByteArray) (IntKind.u64.wrap (Int.tmod a1 2147483648)) 4).bind fun t340 => (some (bt336.1 == 8 && (bt336.2.1 == 0 && (bt336.2.2.1 == (Int.tmod a2 2147483648) && (bt336.2.2.2.toList == t340.toList))))))) else (some false)) else (none)) = some r := H
                  have A23 := Aside0.mk A230
                  clear A230
                  by_cases c24 : t335.size + t315.size ≤ 9223372036854775807
                  · rw [if_pos c24] at H
                    have c24b0 := eq_true c24
                    have c24b1 : decide (t335.size + t315.size ≤ 9223372036854775807) = true := decide_eq_true c24
                    try have c24b2 : (9223372036854775807 < t335.size + t315.size) = False := eq_false (Nat.not_lt.2 c24)
                    by_cases c25 : (t331 == 7 && (t332 == 0 && (t333 == 0 && (t334.toList == ((t335 ++ t315).toList))))) = true
                    · rw [if_pos c25] at H
                      have c25b0 : (t331 == 7 && (t332 == 0 && (t333 == 0 && (t334.toList == ((t335 ++ t315).toList))))) = true := c25
                      (try (have c25b1 : decide (t331 = 7 && (t332 == 0 && (t333 == 0 && (t334.toList == ((t335 ++ t315).toList))))) = true := by simpa using c25))
                      (try (have c25b2 : (t331 == 7 && (t332 == 0 && (t333 == 0 && (t334.toList == ((t335 ++ t315).toList))))) = true := by simpa using c25))
                      clear c25
                      (try (have c25b9 := c25b0; simp only [beq_true, beq_false] at c25b9))
                      replace H := Option.bind_eq_some_iff.mp H
                      obtain ⟨⟨t336, t337, t338, t339⟩, A260, H⟩ := H
                      replace H : ((nuncioref01_Put.f k1 (⟨#[]⟩ : ByteArray) (IntKind.u64.wrap (Int.tmod a1 2147483648)) 4).bind fun t340 => (some (t336 == 8 && (t337 == 0 && (t338 == (Int.tmod a2 2147483648) && (t339.toList == t340.toList)))))) = some r := H
                      have A26 := Aside0.mk A260
                      clear A260
                      replace H := Option.bind_eq_some_iff.mp H
                      obtain ⟨t340, A270, H⟩ := H
                      replace H : (some (t336 == 8 && (t337 == 0 && (t338 == (Int.tmod a2 2147483648) && (t339.toList == t340.toList))))) = some r := H
                      have A27 := Aside0.mk A270
                      clear A270
                      (try (have EA27 := Aside0.mk (Option.some.inj (A23.out.symm.trans A27.out))))
                      obtain rfl := Option.some.inj H
                      go_wp2_with (first | ((with_reducible refine gate_callee (f := 17) rfl ?_); refine goesL_ (some 42) rfl rfl Try.func17 (by kernel_rfl) rfl #[.string (⟨#[]⟩ : ByteArray), .int .u64 (IntKind.u64.wrap (a2)), .int .i64 4] rfl (by (try simp only [List.map_toArray, List.map_cons, List.map_nil]); first | done | rfl | (simp only [List.length_drop, List.length_take]; rfl)) ?_; (with_reducible refine (nuncioref01_Put.calls k1 (⟨#[]⟩ : ByteArray) (IntKind.u64.wrap (a2)) 4 t315 _ A16.out).mono ?_); rintro e w28 ⟨rfl, hb⟩; refine ⟨_, rfl, ?_⟩; have n0_ := Aside0.mk (below_step (by repeat (first | (with_reducible first | exact HB.out | apply below_alloc | apply pw_below_drewN | apply below_drew1) | exact HB.out)) hb); clear HB; have HB := n0_; clear n0_; (try clear hb); (try clear hb2); (try clear hk); (try clear hi)) | ((with_reducible refine gate_dst (N := 43) rfl ?_); refine Kd.R_lit k50 _ 50 ?hg (N := 43) ?hd (xs := ([] : List (S50))) (inner := []) (ok := fun _ => True) (okp := fun _ => True) ?hr ?hp (fun _ hk => hk) trivial (Below.refl _ _) (Nat.le_refl _) (by simp) ?_; (case hd => rfl); (case hg => rfl); (case hr => first | (go_simp; done) | (go_simp; rfl)); (case hp => exact (Reps.none _ _)); intro v317 w29 ho30 hb hg_ hnew_; clear hg_ hnew_; (first | rw [← Ny316.out] at ho30 | (simp only [Int.reduceToNat] at ho30; rw [← Ny316.out] at ho30)); have n0_ := Aside0.mk (Kd.R_lower ho30 (below_size (by repeat (first | (with_reducible first | exact HB.out | apply below_alloc | apply pw_below_drewN | apply below_drew1) | exact HB.out)))); have n1_ := Aside0.mk (below_step (by repeat (first | (with_reducible first | exact HB.out | apply below_alloc | apply pw_below_drewN | apply below_drew1) | exact HB.out)) hb); clear HB; have HO318 := n0_; have HB := n1_; clear n0_ n1_; clear hb ho30) | ((with_reducible refine gate_builtin (b := .append) (xs := #[.tmp 43, .tmp 44]) rfl ?_); at_builtin; refine Kd.R_append_rows k50 (w0 := w) w.heap.size rfl (.tmp 43) (.tmp 44) 47 50 (.agg #[(.int .u16 0), (.int .u32 0)]) 8 rfl Try.underlying47 info50 rfl (by decide) (by omega) v317 y316 l0 _ _ _ (fun _ => True) (fun _ => False) rfl rfl ?aO ?aR (fun _ _ h => h) (fun _ h => h.elim) ?aF ?aB ?aS ?aL ?_; (case aR => repeat (first | exact (Kd.C_below HR0.out HB.out) | (with_reducible refine Kd.C_alloc ?_ _) | (with_reducible refine Kd.C_drewN ?_ _) | (with_reducible refine Kd.C_drew ?_))); (case aB => exact (by repeat (first | (with_reducible first | exact HB.out | apply below_alloc | apply pw_below_drewN | apply below_drew1) | exact HB.out))); (case aF => exact (fun _ _ => trivial)); (case aO => exact (by (with_reducible repeat (first | apply Kd.R_alloc | apply Kd.R_drewN | apply Kd.R_drew)); exact HO318.out)); (case aS => exact (below_size (by repeat (first | (with_reducible first | exact HB.out | apply below_alloc | apply pw_below_drewN | apply below_drew1) | exact HB.out)))); (case aL => have := LMc17.out; omega); intro v320 w31 ho hb hg hat; rw [← Ny319.out] at ho; have n0_ := Aside0.mk (hb); have n1_ := Aside0.mk (ho); clear HB; clear HO318; have HB := n0_; have HO321 := n1_; clear n0_ n1_; clear ho hb hg hat; obtain ⟨Ao32, co32, eo32⟩ := Kd.R_slice HO321.out; subst eo32) | ((with_reducible refine gate_callee (f := 18) rfl ?_); refine goesL_ (some 46) rfl rfl Try.func18 (by kernel_rfl) rfl #[.slice Ao32 y319.length co32] rfl (by (try simp only [List.map_toArray, List.map_cons, List.map_nil]); first | done | rfl | (simp only [List.length_drop, List.length_take]; rfl)) ?_; (with_reducible refine (frame_Settings.calls k1 _ _ y319 t322 t323 t324 t325 _ ?side1 ?side2 A18.out).mono ?_); (case side1 => repeat (first | exact (Kd.R_reads' HO321.out).2.2 | (with_reducible refine Kd.C_alloc ?_ _) | (with_reducible refine Kd.C_drewN ?_ _) | (with_reducible refine Kd.C_drew ?_))); (case side2 => exact (Kd.R_reads' HO321.out).2.1); rintro e w33 ⟨rfl, hb⟩; refine ⟨_, rfl, ?_⟩; have n0_ := Aside0.mk (Kd.R_below (by (with_reducible repeat (first | apply Kd.R_alloc | apply Kd.R_drewN | apply Kd.R_drew)); exact HO321.out) hb); have n1_ := Aside0.mk (below_step (by repeat (first | (with_reducible first | exact HB.out | apply below_alloc | apply pw_below_drewN | apply below_drew1) | exact HB.out)) hb); clear HO321; clear HB; have HO321 := n0_; have HB := n1_; clear n0_ n1_; (try clear hb); (try clear hb2); (try clear hk); (try clear hi)) | ((with_reducible refine gate_dst (N := 11) rfl ?_); refine box_event ?hg (N := 11) ?hd (cs := #[.int .u8 0, .int .u8 0, .int .u32 0, .string (⟨#[]⟩ : ByteArray)]) (t := 24) ?hr ?_; (case hd => rfl); (case hg => rfl); (case hr => first | (go_simp; done) | (go_simp; rfl)); intro gb326 hg w34 hbox hb; have n0_ := Aside0.mk (Kd.R_below (by (with_reducible repeat (first | apply Kd.R_alloc | apply Kd.R_drewN | apply Kd.R_drew)); exact HO321.out) hb); have n1_ := Aside0.mk (below_step (by repeat (first | (with_reducible first | exact HB.out | apply below_alloc | apply pw_below_drewN | apply below_drew1) | exact HB.out)) hb); have n2_ := Aside0.mk (hbox); have n3_ := Aside0.mk ((by rw [hg]; exact (below_size (by repeat (first | (with_reducible first | exact HB.out | apply below_alloc | apply pw_below_drewN | apply below_drew1) | exact HB.out))) : w.heap.size ≤ gb326)); have n4_ := Aside0.mk ((by rw [hg]; exact (below_size (by repeat (first | (with_reducible first | exact HB.out | apply below_alloc | apply pw_below_drewN | apply below_drew1) | exact HB.out))) : w.heap.size ≤ gb326)); clear HO321; clear HB; have HO321 := n0_; have HB := n1_; have BK326 := n2_; have GW326 := n3_; have GE326 := n4_; clear n0_ n1_ n2_ n3_ n4_; clear hb hbox hg; have hcz35_0 : w34.cell? ⟨gb326, 0, none⟩ = some (.int .u8 0) := (blk_cell BK326.out 0).trans rfl; have hcz35_1 : w34.cell? ⟨gb326, 1, none⟩ = some (.int .u8 0) := (blk_cell BK326.out 1).trans rfl; have hcz35_2 : w34.cell? ⟨gb326, 2, none⟩ = some (.int .u32 0) := (blk_cell BK326.out 2).trans rfl; have hcz35_3 : w34.cell? ⟨gb326, 3, none⟩ = some (.string (⟨#[]⟩ : ByteArray)) := (blk_cell BK326.out 3).trans rfl; have hfz35_0 := blk_frozen BK326.out 0; have hfz35_1 := blk_frozen BK326.out 1; have hfz35_2 := blk_frozen BK326.out 2; have hfz35_3 := blk_frozen BK326.out 3) | (go_at_call 19; (with_reducible refine (frame_Reset.calls k1 a1 a2 t327 t328 t329 t330 _ A20.out).mono ?_); rintro e w36 ⟨rfl, hb⟩; have n0_ := Aside0.mk (Kd.R_below (by (with_reducible repeat (first | apply Kd.R_alloc | apply Kd.R_drewN | apply Kd.R_drew)); exact (Kd.R_mono (Kd.R_far (p := ⟨gb326, 3, none⟩) (Kd.R_far (p := ⟨gb326, 2, none⟩) (Kd.R_far (p := ⟨gb326, 1, none⟩) (Kd.R_far (p := ⟨gb326, 0, none⟩) (Kd.R_types HO321.out BK326.out (by decide)) (fun _ hk => hk.2) (.int .u8 t322)) (fun _ hk => hk.2) (.int .u8 t323)) (fun _ hk => hk.2) (.int .u32 t324)) (fun _ hk => hk.2) (.string t325)) (fun _ h_ => h_.1))) hb); have n1_ := Aside0.mk (blk_below (g := gb326) (o := .cells #[.int .u8 t322, .int .u8 t323, .int .u32 t324, .string t325] 24 (0, 0)) (by (with_reducible repeat (first | refine blk_drewN ?_ _ | refine blk_drew ?_ | refine blk_alloc ?_ _)); refine blk_put (cs := #[.int .u8 t322, .int .u8 t323, .int .u32 t324, .string (⟨#[]⟩ : ByteArray)]) ?_ 3 _ rfl; (with_reducible repeat (first | refine blk_drewN ?_ _ | refine blk_drew ?_ | refine blk_alloc ?_ _)); refine blk_put (cs := #[.int .u8 t322, .int .u8 t323, .int .u32 0, .string (⟨#[]⟩ : ByteArray)]) ?_ 2 _ rfl; (with_reducible repeat (first | refine blk_drewN ?_ _ | refine blk_drew ?_ | refine blk_alloc ?_ _)); refine blk_put (cs := #[.int .u8 t322, .int .u8 0, .int .u32 0, .string (⟨#[]⟩ : ByteArray)]) ?_ 1 _ rfl; (with_reducible repeat (first | refine blk_drewN ?_ _ | refine blk_drew ?_ | refine blk_alloc ?_ _)); refine blk_put (cs := #[.int .u8 0, .int .u8 0, .int .u32 0, .string (⟨#[]⟩ : ByteArray)]) ?_ 0 _ rfl; (with_reducible repeat (first | refine blk_drewN ?_ _ | refine blk_drew ?_ | refine blk_alloc ?_ _)); exact BK326.out) hb); have n2_ := Aside0.mk (below_step (by repeat (first | (with_reducible first | exact HB.out | apply below_alloc | apply pw_below_drewN | apply below_drew1 | refine below_set ?_ GE326.out) | exact HB.out)) hb); clear HO321; clear BK326; clear HB; have HO321 := n0_; have BK326 := n1_; have HB := n2_; clear n0_ n1_ n2_; (try clear hb); (try clear hb2); (try clear hk); (try clear hi)) | (go_at_call 20; (with_reducible refine (frame_Goaway.calls k1 a1 a2 t331 t332 t333 t334 _ A22.out).mono ?_); rintro e w37 ⟨rfl, hb⟩; have n0_ := Aside0.mk (Kd.R_below (by (with_reducible repeat (first | apply Kd.R_alloc | apply Kd.R_drewN | apply Kd.R_drew)); exact HO321.out) hb); have n1_ := Aside0.mk (blk_below (g := gb326) (o := .cells #[.int .u8 t322, .int .u8 t323, .int .u32 t324, .string t325] 24 (0, 0)) (by (with_reducible repeat (first | refine blk_drewN ?_ _ | refine blk_drew ?_ | refine blk_alloc ?_ _)); exact BK326.out) hb); have n2_ := Aside0.mk (below_step (by repeat (first | (with_reducible first | exact HB.out | apply below_alloc | apply pw_below_drewN | apply below_drew1 | refine below_set ?_ GE326.out) | exact HB.out)) hb); clear HO321; clear BK326; clear HB; have HO321 := n0_; have BK326 := n1_; have HB := n2_; clear n0_ n1_ n2_; (try clear hb); (try clear hb2); (try clear hk); (try clear hi)) | (go_at_call 17; (with_reducible refine (nuncioref01_Put.calls k1 (⟨#[]⟩ : ByteArray) (IntKind.u64.wrap (Int.tmod a1 2147483648)) 4 t335 _ A23.out).mono ?_); rintro e w38 ⟨rfl, hb⟩; have n0_ := Aside0.mk (Kd.R_below (by (with_reducible repeat (first | apply Kd.R_alloc | apply Kd.R_drewN | apply Kd.R_drew)); exact HO321.out) hb); have n1_ := Aside0.mk (blk_below (g := gb326) (o := .cells #[.int .u8 t322, .int .u8 t323, .int .u32 t324, .string t325] 24 (0, 0)) (by (with_reducible repeat (first | refine blk_drewN ?_ _ | refine blk_drew ?_ | refine blk_alloc ?_ _)); exact BK326.out) hb); have n2_ := Aside0.mk (below_step (by repeat (first | (with_reducible first | exact HB.out | apply below_alloc | apply pw_below_drewN | apply below_drew1 | refine below_set ?_ GE326.out) | exact HB.out)) hb); clear HO321; clear BK326; clear HB; have HO321 := n0_; have BK326 := n1_; have HB := n2_; clear n0_ n1_ n2_; (try clear hb); (try clear hb2); (try clear hk); (try clear hi)) | (go_at_call 21; (with_reducible refine (frame_Window.calls k1 a2 a1 t336 t337 t338 t339 _ A26.out).mono ?_); rintro e w39 ⟨rfl, hb⟩; have n0_ := Aside0.mk (Kd.R_below (by (with_reducible repeat (first | apply Kd.R_alloc | apply Kd.R_drewN | apply Kd.R_drew)); exact HO321.out) hb); have n1_ := Aside0.mk (blk_below (g := gb326) (o := .cells #[.int .u8 t322, .int .u8 t323, .int .u32 t324, .string t325] 24 (0, 0)) (by (with_reducible repeat (first | refine blk_drewN ?_ _ | refine blk_drew ?_ | refine blk_alloc ?_ _)); exact BK326.out) hb); have n2_ := Aside0.mk (below_step (by repeat (first | (with_reducible first | exact HB.out | apply below_alloc | apply pw_below_drewN | apply below_drew1 | refine below_set ?_ GE326.out) | exact HB.out)) hb); clear HO321; clear BK326; clear HB; have HO321 := n0_; have BK326 := n1_; have HB := n2_; clear n0_ n1_ n2_; (try clear hb); (try clear hb2); (try clear hk); (try clear hi)) | (go_at_call 17; (with_reducible refine (nuncioref01_Put.calls k1 (⟨#[]⟩ : ByteArray) (IntKind.u64.wrap (Int.tmod a1 2147483648)) 4 t340 _ A27.out).mono ?_); rintro e w40 ⟨rfl, hb⟩; have n0_ := Aside0.mk (Kd.R_below (by (with_reducible repeat (first | apply Kd.R_alloc | apply Kd.R_drewN | apply Kd.R_drew)); exact HO321.out) hb); have n1_ := Aside0.mk (blk_below (g := gb326) (o := .cells #[.int .u8 t322, .int .u8 t323, .int .u32 t324, .string t325] 24 (0, 0)) (by (with_reducible repeat (first | refine blk_drewN ?_ _ | refine blk_drew ?_ | refine blk_alloc ?_ _)); exact BK326.out) hb); have n2_ := Aside0.mk (below_step (by repeat (first | (with_reducible first | exact HB.out | apply below_alloc | apply pw_below_drewN | apply below_drew1 | refine below_set ?_ GE326.out) | exact HB.out)) hb); clear HO321; clear BK326; clear HB; have HO321 := n0_; have BK326 := n1_; have HB := n2_; clear n0_ n1_ n2_; (try clear hb); (try clear hb2); (try clear hk); (try clear hi)))
                      go_ret
                      exact ⟨by first | rfl | (simp [errW_none, errW_some] <;> rfl) | (simp [*, errW_none, errW_some] <;> rfl) | (have e_ := EA27.out; subst e_; rfl), by repeat (first | (with_reducible first | exact HB.out | apply below_alloc | apply pw_below_drewN | apply below_drew1 | refine below_set ?_ GE326.out) | exact HB.out)⟩
                    · rw [if_neg c25] at H
                      have c25b0 : (t331 == 7 && (t332 == 0 && (t333 == 0 && (t334.toList == ((t335 ++ t315).toList))))) = false := by simpa using c25
                      (try (have c25b1 : decide (t331 = 7 && (t332 == 0 && (t333 == 0 && (t334.toList == ((t335 ++ t315).toList))))) = false := by simpa using c25))
                      (try (have c25b2 : (t331 == 7 && (t332 == 0 && (t333 == 0 && (t334.toList == ((t335 ++ t315).toList))))) = false := by simpa using c25))
                      (try (have c25b3 : ¬ (t331 = 7 && (t332 == 0 && (t333 == 0 && (t334.toList == ((t335 ++ t315).toList))))) := by simpa using c25))
                      clear c25
                      (try (have c25b9 := c25b0; simp only [beq_true, beq_false] at c25b9))
                      obtain rfl := Option.some.inj H
                      go_wp2_with (first | ((with_reducible refine gate_callee (f := 17) rfl ?_); refine goesL_ (some 42) rfl rfl Try.func17 (by kernel_rfl) rfl #[.string (⟨#[]⟩ : ByteArray), .int .u64 (IntKind.u64.wrap (a2)), .int .i64 4] rfl (by (try simp only [List.map_toArray, List.map_cons, List.map_nil]); first | done | rfl | (simp only [List.length_drop, List.length_take]; rfl)) ?_; (with_reducible refine (nuncioref01_Put.calls k1 (⟨#[]⟩ : ByteArray) (IntKind.u64.wrap (a2)) 4 t315 _ A16.out).mono ?_); rintro e w41 ⟨rfl, hb⟩; refine ⟨_, rfl, ?_⟩; have n0_ := Aside0.mk (below_step (by repeat (first | (with_reducible first | exact HB.out | apply below_alloc | apply pw_below_drewN | apply below_drew1) | exact HB.out)) hb); clear HB; have HB := n0_; clear n0_; (try clear hb); (try clear hb2); (try clear hk); (try clear hi)) | ((with_reducible refine gate_dst (N := 43) rfl ?_); refine Kd.R_lit k50 _ 50 ?hg (N := 43) ?hd (xs := ([] : List (S50))) (inner := []) (ok := fun _ => True) (okp := fun _ => True) ?hr ?hp (fun _ hk => hk) trivial (Below.refl _ _) (Nat.le_refl _) (by simp) ?_; (case hd => rfl); (case hg => rfl); (case hr => first | (go_simp; done) | (go_simp; rfl)); (case hp => exact (Reps.none _ _)); intro v317 w42 ho43 hb hg_ hnew_; clear hg_ hnew_; (first | rw [← Ny316.out] at ho43 | (simp only [Int.reduceToNat] at ho43; rw [← Ny316.out] at ho43)); have n0_ := Aside0.mk (Kd.R_lower ho43 (below_size (by repeat (first | (with_reducible first | exact HB.out | apply below_alloc | apply pw_below_drewN | apply below_drew1) | exact HB.out)))); have n1_ := Aside0.mk (below_step (by repeat (first | (with_reducible first | exact HB.out | apply below_alloc | apply pw_below_drewN | apply below_drew1) | exact HB.out)) hb); clear HB; have HO318 := n0_; have HB := n1_; clear n0_ n1_; clear hb ho43) | ((with_reducible refine gate_builtin (b := .append) (xs := #[.tmp 43, .tmp 44]) rfl ?_); at_builtin; refine Kd.R_append_rows k50 (w0 := w) w.heap.size rfl (.tmp 43) (.tmp 44) 47 50 (.agg #[(.int .u16 0), (.int .u32 0)]) 8 rfl Try.underlying47 info50 rfl (by decide) (by omega) v317 y316 l0 _ _ _ (fun _ => True) (fun _ => False) rfl rfl ?aO ?aR (fun _ _ h => h) (fun _ h => h.elim) ?aF ?aB ?aS ?aL ?_; (case aR => repeat (first | exact (Kd.C_below HR0.out HB.out) | (with_reducible refine Kd.C_alloc ?_ _) | (with_reducible refine Kd.C_drewN ?_ _) | (with_reducible refine Kd.C_drew ?_))); (case aB => exact (by repeat (first | (with_reducible first | exact HB.out | apply below_alloc | apply pw_below_drewN | apply below_drew1) | exact HB.out))); (case aF => exact (fun _ _ => trivial)); (case aO => exact (by (with_reducible repeat (first | apply Kd.R_alloc | apply Kd.R_drewN | apply Kd.R_drew)); exact HO318.out)); (case aS => exact (below_size (by repeat (first | (with_reducible first | exact HB.out | apply below_alloc | apply pw_below_drewN | apply below_drew1) | exact HB.out)))); (case aL => have := LMc17.out; omega); intro v320 w44 ho hb hg hat; rw [← Ny319.out] at ho; have n0_ := Aside0.mk (hb); have n1_ := Aside0.mk (ho); clear HB; clear HO318; have HB := n0_; have HO321 := n1_; clear n0_ n1_; clear ho hb hg hat; obtain ⟨Ao45, co45, eo45⟩ := Kd.R_slice HO321.out; subst eo45) | ((with_reducible refine gate_callee (f := 18) rfl ?_); refine goesL_ (some 46) rfl rfl Try.func18 (by kernel_rfl) rfl #[.slice Ao45 y319.length co45] rfl (by (try simp only [List.map_toArray, List.map_cons, List.map_nil]); first | done | rfl | (simp only [List.length_drop, List.length_take]; rfl)) ?_; (with_reducible refine (frame_Settings.calls k1 _ _ y319 t322 t323 t324 t325 _ ?side1 ?side2 A18.out).mono ?_); (case side1 => repeat (first | exact (Kd.R_reads' HO321.out).2.2 | (with_reducible refine Kd.C_alloc ?_ _) | (with_reducible refine Kd.C_drewN ?_ _) | (with_reducible refine Kd.C_drew ?_))); (case side2 => exact (Kd.R_reads' HO321.out).2.1); rintro e w46 ⟨rfl, hb⟩; refine ⟨_, rfl, ?_⟩; have n0_ := Aside0.mk (Kd.R_below (by (with_reducible repeat (first | apply Kd.R_alloc | apply Kd.R_drewN | apply Kd.R_drew)); exact HO321.out) hb); have n1_ := Aside0.mk (below_step (by repeat (first | (with_reducible first | exact HB.out | apply below_alloc | apply pw_below_drewN | apply below_drew1) | exact HB.out)) hb); clear HO321; clear HB; have HO321 := n0_; have HB := n1_; clear n0_ n1_; (try clear hb); (try clear hb2); (try clear hk); (try clear hi)) | ((with_reducible refine gate_dst (N := 11) rfl ?_); refine box_event ?hg (N := 11) ?hd (cs := #[.int .u8 0, .int .u8 0, .int .u32 0, .string (⟨#[]⟩ : ByteArray)]) (t := 24) ?hr ?_; (case hd => rfl); (case hg => rfl); (case hr => first | (go_simp; done) | (go_simp; rfl)); intro gb326 hg w47 hbox hb; have n0_ := Aside0.mk (Kd.R_below (by (with_reducible repeat (first | apply Kd.R_alloc | apply Kd.R_drewN | apply Kd.R_drew)); exact HO321.out) hb); have n1_ := Aside0.mk (below_step (by repeat (first | (with_reducible first | exact HB.out | apply below_alloc | apply pw_below_drewN | apply below_drew1) | exact HB.out)) hb); have n2_ := Aside0.mk (hbox); have n3_ := Aside0.mk ((by rw [hg]; exact (below_size (by repeat (first | (with_reducible first | exact HB.out | apply below_alloc | apply pw_below_drewN | apply below_drew1) | exact HB.out))) : w.heap.size ≤ gb326)); have n4_ := Aside0.mk ((by rw [hg]; exact (below_size (by repeat (first | (with_reducible first | exact HB.out | apply below_alloc | apply pw_below_drewN | apply below_drew1) | exact HB.out))) : w.heap.size ≤ gb326)); clear HO321; clear HB; have HO321 := n0_; have HB := n1_; have BK326 := n2_; have GW326 := n3_; have GE326 := n4_; clear n0_ n1_ n2_ n3_ n4_; clear hb hbox hg; have hcz48_0 : w47.cell? ⟨gb326, 0, none⟩ = some (.int .u8 0) := (blk_cell BK326.out 0).trans rfl; have hcz48_1 : w47.cell? ⟨gb326, 1, none⟩ = some (.int .u8 0) := (blk_cell BK326.out 1).trans rfl; have hcz48_2 : w47.cell? ⟨gb326, 2, none⟩ = some (.int .u32 0) := (blk_cell BK326.out 2).trans rfl; have hcz48_3 : w47.cell? ⟨gb326, 3, none⟩ = some (.string (⟨#[]⟩ : ByteArray)) := (blk_cell BK326.out 3).trans rfl; have hfz48_0 := blk_frozen BK326.out 0; have hfz48_1 := blk_frozen BK326.out 1; have hfz48_2 := blk_frozen BK326.out 2; have hfz48_3 := blk_frozen BK326.out 3) | (go_at_call 19; (with_reducible refine (frame_Reset.calls k1 a1 a2 t327 t328 t329 t330 _ A20.out).mono ?_); rintro e w49 ⟨rfl, hb⟩; have n0_ := Aside0.mk (Kd.R_below (by (with_reducible repeat (first | apply Kd.R_alloc | apply Kd.R_drewN | apply Kd.R_drew)); exact (Kd.R_mono (Kd.R_far (p := ⟨gb326, 3, none⟩) (Kd.R_far (p := ⟨gb326, 2, none⟩) (Kd.R_far (p := ⟨gb326, 1, none⟩) (Kd.R_far (p := ⟨gb326, 0, none⟩) (Kd.R_types HO321.out BK326.out (by decide)) (fun _ hk => hk.2) (.int .u8 t322)) (fun _ hk => hk.2) (.int .u8 t323)) (fun _ hk => hk.2) (.int .u32 t324)) (fun _ hk => hk.2) (.string t325)) (fun _ h_ => h_.1))) hb); have n1_ := Aside0.mk (blk_below (g := gb326) (o := .cells #[.int .u8 t322, .int .u8 t323, .int .u32 t324, .string t325] 24 (0, 0)) (by (with_reducible repeat (first | refine blk_drewN ?_ _ | refine blk_drew ?_ | refine blk_alloc ?_ _)); refine blk_put (cs := #[.int .u8 t322, .int .u8 t323, .int .u32 t324, .string (⟨#[]⟩ : ByteArray)]) ?_ 3 _ rfl; (with_reducible repeat (first | refine blk_drewN ?_ _ | refine blk_drew ?_ | refine blk_alloc ?_ _)); refine blk_put (cs := #[.int .u8 t322, .int .u8 t323, .int .u32 0, .string (⟨#[]⟩ : ByteArray)]) ?_ 2 _ rfl; (with_reducible repeat (first | refine blk_drewN ?_ _ | refine blk_drew ?_ | refine blk_alloc ?_ _)); refine blk_put (cs := #[.int .u8 t322, .int .u8 0, .int .u32 0, .string (⟨#[]⟩ : ByteArray)]) ?_ 1 _ rfl; (with_reducible repeat (first | refine blk_drewN ?_ _ | refine blk_drew ?_ | refine blk_alloc ?_ _)); refine blk_put (cs := #[.int .u8 0, .int .u8 0, .int .u32 0, .string (⟨#[]⟩ : ByteArray)]) ?_ 0 _ rfl; (with_reducible repeat (first | refine blk_drewN ?_ _ | refine blk_drew ?_ | refine blk_alloc ?_ _)); exact BK326.out) hb); have n2_ := Aside0.mk (below_step (by repeat (first | (with_reducible first | exact HB.out | apply below_alloc | apply pw_below_drewN | apply below_drew1 | refine below_set ?_ GE326.out) | exact HB.out)) hb); clear HO321; clear BK326; clear HB; have HO321 := n0_; have BK326 := n1_; have HB := n2_; clear n0_ n1_ n2_; (try clear hb); (try clear hb2); (try clear hk); (try clear hi)) | (go_at_call 20; (with_reducible refine (frame_Goaway.calls k1 a1 a2 t331 t332 t333 t334 _ A22.out).mono ?_); rintro e w50 ⟨rfl, hb⟩; have n0_ := Aside0.mk (Kd.R_below (by (with_reducible repeat (first | apply Kd.R_alloc | apply Kd.R_drewN | apply Kd.R_drew)); exact HO321.out) hb); have n1_ := Aside0.mk (blk_below (g := gb326) (o := .cells #[.int .u8 t322, .int .u8 t323, .int .u32 t324, .string t325] 24 (0, 0)) (by (with_reducible repeat (first | refine blk_drewN ?_ _ | refine blk_drew ?_ | refine blk_alloc ?_ _)); exact BK326.out) hb); have n2_ := Aside0.mk (below_step (by repeat (first | (with_reducible first | exact HB.out | apply below_alloc | apply pw_below_drewN | apply below_drew1 | refine below_set ?_ GE326.out) | exact HB.out)) hb); clear HO321; clear BK326; clear HB; have HO321 := n0_; have BK326 := n1_; have HB := n2_; clear n0_ n1_ n2_; (try clear hb); (try clear hb2); (try clear hk); (try clear hi)) | (go_at_call 17; (with_reducible refine (nuncioref01_Put.calls k1 (⟨#[]⟩ : ByteArray) (IntKind.u64.wrap (Int.tmod a1 2147483648)) 4 t335 _ A23.out).mono ?_); rintro e w51 ⟨rfl, hb⟩; have n0_ := Aside0.mk (Kd.R_below (by (with_reducible repeat (first | apply Kd.R_alloc | apply Kd.R_drewN | apply Kd.R_drew)); exact HO321.out) hb); have n1_ := Aside0.mk (blk_below (g := gb326) (o := .cells #[.int .u8 t322, .int .u8 t323, .int .u32 t324, .string t325] 24 (0, 0)) (by (with_reducible repeat (first | refine blk_drewN ?_ _ | refine blk_drew ?_ | refine blk_alloc ?_ _)); exact BK326.out) hb); have n2_ := Aside0.mk (below_step (by repeat (first | (with_reducible first | exact HB.out | apply below_alloc | apply pw_below_drewN | apply below_drew1 | refine below_set ?_ GE326.out) | exact HB.out)) hb); clear HO321; clear BK326; clear HB; have HO321 := n0_; have BK326 := n1_; have HB := n2_; clear n0_ n1_ n2_; (try clear hb); (try clear hb2); (try clear hk); (try clear hi)))
                      go_ret
                      exact ⟨by first | rfl | (simp [errW_none, errW_some] <;> rfl) | (simp [*, errW_none, errW_some] <;> rfl), by repeat (first | (with_reducible first | exact HB.out | apply below_alloc | apply pw_below_drewN | apply below_drew1 | refine below_set ?_ GE326.out) | exact HB.out)⟩
                  · rw [if_neg c24] at H
                    exact absurd H (by simp)
                · rw [if_neg c21] at H
                  have c21b0 : (t327 == 3 && (t328 == 0 && (t329 == (Int.tmod a1 2147483648) && (t330.toList == t315.toList)))) = false := by simpa using c21
                  (try (have c21b1 : decide (t327 = 3 && (t328 == 0 && (t329 == (Int.tmod a1 2147483648) && (t330.toList == t315.toList)))) = false := by simpa using c21))
                  (try (have c21b2 : (t327 == 3 && (t328 == 0 && (t329 == (Int.tmod a1 2147483648) && (t330.toList == t315.toList)))) = false := by simpa using c21))
                  (try (have c21b3 : ¬ (t327 = 3 && (t328 == 0 && (t329 == (Int.tmod a1 2147483648) && (t330.toList == t315.toList)))) := by simpa using c21))
                  clear c21
                  (try (have c21b7 := c21b0; rw [Int.tmod_eq_emod_of_nonneg (Int.natCast_nonneg _)] at c21b7))
                  (try (have c21b6 := c21b1; rw [Int.tmod_eq_emod_of_nonneg (Int.natCast_nonneg _)] at c21b6))
                  (try (have c21b9 := c21b0; simp only [beq_true, beq_false] at c21b9))
                  obtain rfl := Option.some.inj H
                  go_wp2_with (first | ((with_reducible refine gate_callee (f := 17) rfl ?_); refine goesL_ (some 42) rfl rfl Try.func17 (by kernel_rfl) rfl #[.string (⟨#[]⟩ : ByteArray), .int .u64 (IntKind.u64.wrap (a2)), .int .i64 4] rfl (by (try simp only [List.map_toArray, List.map_cons, List.map_nil]); first | done | rfl | (simp only [List.length_drop, List.length_take]; rfl)) ?_; (with_reducible refine (nuncioref01_Put.calls k1 (⟨#[]⟩ : ByteArray) (IntKind.u64.wrap (a2)) 4 t315 _ A16.out).mono ?_); rintro e w52 ⟨rfl, hb⟩; refine ⟨_, rfl, ?_⟩; have n0_ := Aside0.mk (below_step (by repeat (first | (with_reducible first | exact HB.out | apply below_alloc | apply pw_below_drewN | apply below_drew1) | exact HB.out)) hb); clear HB; have HB := n0_; clear n0_; (try clear hb); (try clear hb2); (try clear hk); (try clear hi)) | ((with_reducible refine gate_dst (N := 43) rfl ?_); refine Kd.R_lit k50 _ 50 ?hg (N := 43) ?hd (xs := ([] : List (S50))) (inner := []) (ok := fun _ => True) (okp := fun _ => True) ?hr ?hp (fun _ hk => hk) trivial (Below.refl _ _) (Nat.le_refl _) (by simp) ?_; (case hd => rfl); (case hg => rfl); (case hr => first | (go_simp; done) | (go_simp; rfl)); (case hp => exact (Reps.none _ _)); intro v317 w53 ho54 hb hg_ hnew_; clear hg_ hnew_; (first | rw [← Ny316.out] at ho54 | (simp only [Int.reduceToNat] at ho54; rw [← Ny316.out] at ho54)); have n0_ := Aside0.mk (Kd.R_lower ho54 (below_size (by repeat (first | (with_reducible first | exact HB.out | apply below_alloc | apply pw_below_drewN | apply below_drew1) | exact HB.out)))); have n1_ := Aside0.mk (below_step (by repeat (first | (with_reducible first | exact HB.out | apply below_alloc | apply pw_below_drewN | apply below_drew1) | exact HB.out)) hb); clear HB; have HO318 := n0_; have HB := n1_; clear n0_ n1_; clear hb ho54) | ((with_reducible refine gate_builtin (b := .append) (xs := #[.tmp 43, .tmp 44]) rfl ?_); at_builtin; refine Kd.R_append_rows k50 (w0 := w) w.heap.size rfl (.tmp 43) (.tmp 44) 47 50 (.agg #[(.int .u16 0), (.int .u32 0)]) 8 rfl Try.underlying47 info50 rfl (by decide) (by omega) v317 y316 l0 _ _ _ (fun _ => True) (fun _ => False) rfl rfl ?aO ?aR (fun _ _ h => h) (fun _ h => h.elim) ?aF ?aB ?aS ?aL ?_; (case aR => repeat (first | exact (Kd.C_below HR0.out HB.out) | (with_reducible refine Kd.C_alloc ?_ _) | (with_reducible refine Kd.C_drewN ?_ _) | (with_reducible refine Kd.C_drew ?_))); (case aB => exact (by repeat (first | (with_reducible first | exact HB.out | apply below_alloc | apply pw_below_drewN | apply below_drew1) | exact HB.out))); (case aF => exact (fun _ _ => trivial)); (case aO => exact (by (with_reducible repeat (first | apply Kd.R_alloc | apply Kd.R_drewN | apply Kd.R_drew)); exact HO318.out)); (case aS => exact (below_size (by repeat (first | (with_reducible first | exact HB.out | apply below_alloc | apply pw_below_drewN | apply below_drew1) | exact HB.out)))); (case aL => have := LMc17.out; omega); intro v320 w55 ho hb hg hat; rw [← Ny319.out] at ho; have n0_ := Aside0.mk (hb); have n1_ := Aside0.mk (ho); clear HB; clear HO318; have HB := n0_; have HO321 := n1_; clear n0_ n1_; clear ho hb hg hat; obtain ⟨Ao56, co56, eo56⟩ := Kd.R_slice HO321.out; subst eo56) | ((with_reducible refine gate_callee (f := 18) rfl ?_); refine goesL_ (some 46) rfl rfl Try.func18 (by kernel_rfl) rfl #[.slice Ao56 y319.length co56] rfl (by (try simp only [List.map_toArray, List.map_cons, List.map_nil]); first | done | rfl | (simp only [List.length_drop, List.length_take]; rfl)) ?_; (with_reducible refine (frame_Settings.calls k1 _ _ y319 t322 t323 t324 t325 _ ?side1 ?side2 A18.out).mono ?_); (case side1 => repeat (first | exact (Kd.R_reads' HO321.out).2.2 | (with_reducible refine Kd.C_alloc ?_ _) | (with_reducible refine Kd.C_drewN ?_ _) | (with_reducible refine Kd.C_drew ?_))); (case side2 => exact (Kd.R_reads' HO321.out).2.1); rintro e w57 ⟨rfl, hb⟩; refine ⟨_, rfl, ?_⟩; have n0_ := Aside0.mk (Kd.R_below (by (with_reducible repeat (first | apply Kd.R_alloc | apply Kd.R_drewN | apply Kd.R_drew)); exact HO321.out) hb); have n1_ := Aside0.mk (below_step (by repeat (first | (with_reducible first | exact HB.out | apply below_alloc | apply pw_below_drewN | apply below_drew1) | exact HB.out)) hb); clear HO321; clear HB; have HO321 := n0_; have HB := n1_; clear n0_ n1_; (try clear hb); (try clear hb2); (try clear hk); (try clear hi)) | ((with_reducible refine gate_dst (N := 11) rfl ?_); refine box_event ?hg (N := 11) ?hd (cs := #[.int .u8 0, .int .u8 0, .int .u32 0, .string (⟨#[]⟩ : ByteArray)]) (t := 24) ?hr ?_; (case hd => rfl); (case hg => rfl); (case hr => first | (go_simp; done) | (go_simp; rfl)); intro gb326 hg w58 hbox hb; have n0_ := Aside0.mk (Kd.R_below (by (with_reducible repeat (first | apply Kd.R_alloc | apply Kd.R_drewN | apply Kd.R_drew)); exact HO321.out) hb); have n1_ := Aside0.mk (below_step (by repeat (first | (with_reducible first | exact HB.out | apply below_alloc | apply pw_below_drewN | apply below_drew1) | exact HB.out)) hb); have n2_ := Aside0.mk (hbox); have n3_ := Aside0.mk ((by rw [hg]; exact (below_size (by repeat (first | (with_reducible first | exact HB.out | apply below_alloc | apply pw_below_drewN | apply below_drew1) | exact HB.out))) : w.heap.size ≤ gb326)); have n4_ := Aside0.mk ((by rw [hg]; exact (below_size (by repeat (first | (with_reducible first | exact HB.out | apply below_alloc | apply pw_below_drewN | apply below_drew1) | exact HB.out))) : w.heap.size ≤ gb326)); clear HO321; clear HB; have HO321 := n0_; have HB := n1_; have BK326 := n2_; have GW326 := n3_; have GE326 := n4_; clear n0_ n1_ n2_ n3_ n4_; clear hb hbox hg; have hcz59_0 : w58.cell? ⟨gb326, 0, none⟩ = some (.int .u8 0) := (blk_cell BK326.out 0).trans rfl; have hcz59_1 : w58.cell? ⟨gb326, 1, none⟩ = some (.int .u8 0) := (blk_cell BK326.out 1).trans rfl; have hcz59_2 : w58.cell? ⟨gb326, 2, none⟩ = some (.int .u32 0) := (blk_cell BK326.out 2).trans rfl; have hcz59_3 : w58.cell? ⟨gb326, 3, none⟩ = some (.string (⟨#[]⟩ : ByteArray)) := (blk_cell BK326.out 3).trans rfl; have hfz59_0 := blk_frozen BK326.out 0; have hfz59_1 := blk_frozen BK326.out 1; have hfz59_2 := blk_frozen BK326.out 2; have hfz59_3 := blk_frozen BK326.out 3) | (go_at_call 19; (with_reducible refine (frame_Reset.calls k1 a1 a2 t327 t328 t329 t330 _ A20.out).mono ?_); rintro e w60 ⟨rfl, hb⟩; have n0_ := Aside0.mk (Kd.R_below (by (with_reducible repeat (first | apply Kd.R_alloc | apply Kd.R_drewN | apply Kd.R_drew)); exact (Kd.R_mono (Kd.R_far (p := ⟨gb326, 3, none⟩) (Kd.R_far (p := ⟨gb326, 2, none⟩) (Kd.R_far (p := ⟨gb326, 1, none⟩) (Kd.R_far (p := ⟨gb326, 0, none⟩) (Kd.R_types HO321.out BK326.out (by decide)) (fun _ hk => hk.2) (.int .u8 t322)) (fun _ hk => hk.2) (.int .u8 t323)) (fun _ hk => hk.2) (.int .u32 t324)) (fun _ hk => hk.2) (.string t325)) (fun _ h_ => h_.1))) hb); have n1_ := Aside0.mk (blk_below (g := gb326) (o := .cells #[.int .u8 t322, .int .u8 t323, .int .u32 t324, .string t325] 24 (0, 0)) (by (with_reducible repeat (first | refine blk_drewN ?_ _ | refine blk_drew ?_ | refine blk_alloc ?_ _)); refine blk_put (cs := #[.int .u8 t322, .int .u8 t323, .int .u32 t324, .string (⟨#[]⟩ : ByteArray)]) ?_ 3 _ rfl; (with_reducible repeat (first | refine blk_drewN ?_ _ | refine blk_drew ?_ | refine blk_alloc ?_ _)); refine blk_put (cs := #[.int .u8 t322, .int .u8 t323, .int .u32 0, .string (⟨#[]⟩ : ByteArray)]) ?_ 2 _ rfl; (with_reducible repeat (first | refine blk_drewN ?_ _ | refine blk_drew ?_ | refine blk_alloc ?_ _)); refine blk_put (cs := #[.int .u8 t322, .int .u8 0, .int .u32 0, .string (⟨#[]⟩ : ByteArray)]) ?_ 1 _ rfl; (with_reducible repeat (first | refine blk_drewN ?_ _ | refine blk_drew ?_ | refine blk_alloc ?_ _)); refine blk_put (cs := #[.int .u8 0, .int .u8 0, .int .u32 0, .string (⟨#[]⟩ : ByteArray)]) ?_ 0 _ rfl; (with_reducible repeat (first | refine blk_drewN ?_ _ | refine blk_drew ?_ | refine blk_alloc ?_ _)); exact BK326.out) hb); have n2_ := Aside0.mk (below_step (by repeat (first | (with_reducible first | exact HB.out | apply below_alloc | apply pw_below_drewN | apply below_drew1 | refine below_set ?_ GE326.out) | exact HB.out)) hb); clear HO321; clear BK326; clear HB; have HO321 := n0_; have BK326 := n1_; have HB := n2_; clear n0_ n1_ n2_; (try clear hb); (try clear hb2); (try clear hk); (try clear hi)))
                  go_ret
                  exact ⟨by first | rfl | (simp [errW_none, errW_some] <;> rfl) | (simp [*, errW_none, errW_some] <;> rfl), by repeat (first | (with_reducible first | exact HB.out | apply below_alloc | apply pw_below_drewN | apply below_drew1 | refine below_set ?_ GE326.out) | exact HB.out)⟩
              · rw [if_neg c19] at H
                have c19b0 : (t322 == 4 && (t323 == 0 && (t324 == 0 && (t325.toList == x7_1.toList)))) = false := by simpa using c19
                (try (have c19b1 : decide (t322 = 4 && (t323 == 0 && (t324 == 0 && (t325.toList == x7_1.toList)))) = false := by simpa using c19))
                (try (have c19b2 : (t322 == 4 && (t323 == 0 && (t324 == 0 && (t325.toList == x7_1.toList)))) = false := by simpa using c19))
                (try (have c19b3 : ¬ (t322 = 4 && (t323 == 0 && (t324 == 0 && (t325.toList == x7_1.toList)))) := by simpa using c19))
                clear c19
                (try (have c19b9 := c19b0; simp only [beq_true, beq_false] at c19b9))
                obtain rfl := Option.some.inj H
                go_wp2_with (first | ((with_reducible refine gate_callee (f := 17) rfl ?_); refine goesL_ (some 42) rfl rfl Try.func17 (by kernel_rfl) rfl #[.string (⟨#[]⟩ : ByteArray), .int .u64 (IntKind.u64.wrap (a2)), .int .i64 4] rfl (by (try simp only [List.map_toArray, List.map_cons, List.map_nil]); first | done | rfl | (simp only [List.length_drop, List.length_take]; rfl)) ?_; (with_reducible refine (nuncioref01_Put.calls k1 (⟨#[]⟩ : ByteArray) (IntKind.u64.wrap (a2)) 4 t315 _ A16.out).mono ?_); rintro e w61 ⟨rfl, hb⟩; refine ⟨_, rfl, ?_⟩; have n0_ := Aside0.mk (below_step (by repeat (first | (with_reducible first | exact HB.out | apply below_alloc | apply pw_below_drewN | apply below_drew1) | exact HB.out)) hb); clear HB; have HB := n0_; clear n0_; (try clear hb); (try clear hb2); (try clear hk); (try clear hi)) | ((with_reducible refine gate_dst (N := 43) rfl ?_); refine Kd.R_lit k50 _ 50 ?hg (N := 43) ?hd (xs := ([] : List (S50))) (inner := []) (ok := fun _ => True) (okp := fun _ => True) ?hr ?hp (fun _ hk => hk) trivial (Below.refl _ _) (Nat.le_refl _) (by simp) ?_; (case hd => rfl); (case hg => rfl); (case hr => first | (go_simp; done) | (go_simp; rfl)); (case hp => exact (Reps.none _ _)); intro v317 w62 ho63 hb hg_ hnew_; clear hg_ hnew_; (first | rw [← Ny316.out] at ho63 | (simp only [Int.reduceToNat] at ho63; rw [← Ny316.out] at ho63)); have n0_ := Aside0.mk (Kd.R_lower ho63 (below_size (by repeat (first | (with_reducible first | exact HB.out | apply below_alloc | apply pw_below_drewN | apply below_drew1) | exact HB.out)))); have n1_ := Aside0.mk (below_step (by repeat (first | (with_reducible first | exact HB.out | apply below_alloc | apply pw_below_drewN | apply below_drew1) | exact HB.out)) hb); clear HB; have HO318 := n0_; have HB := n1_; clear n0_ n1_; clear hb ho63) | ((with_reducible refine gate_builtin (b := .append) (xs := #[.tmp 43, .tmp 44]) rfl ?_); at_builtin; refine Kd.R_append_rows k50 (w0 := w) w.heap.size rfl (.tmp 43) (.tmp 44) 47 50 (.agg #[(.int .u16 0), (.int .u32 0)]) 8 rfl Try.underlying47 info50 rfl (by decide) (by omega) v317 y316 l0 _ _ _ (fun _ => True) (fun _ => False) rfl rfl ?aO ?aR (fun _ _ h => h) (fun _ h => h.elim) ?aF ?aB ?aS ?aL ?_; (case aR => repeat (first | exact (Kd.C_below HR0.out HB.out) | (with_reducible refine Kd.C_alloc ?_ _) | (with_reducible refine Kd.C_drewN ?_ _) | (with_reducible refine Kd.C_drew ?_))); (case aB => exact (by repeat (first | (with_reducible first | exact HB.out | apply below_alloc | apply pw_below_drewN | apply below_drew1) | exact HB.out))); (case aF => exact (fun _ _ => trivial)); (case aO => exact (by (with_reducible repeat (first | apply Kd.R_alloc | apply Kd.R_drewN | apply Kd.R_drew)); exact HO318.out)); (case aS => exact (below_size (by repeat (first | (with_reducible first | exact HB.out | apply below_alloc | apply pw_below_drewN | apply below_drew1) | exact HB.out)))); (case aL => have := LMc17.out; omega); intro v320 w64 ho hb hg hat; rw [← Ny319.out] at ho; have n0_ := Aside0.mk (hb); have n1_ := Aside0.mk (ho); clear HB; clear HO318; have HB := n0_; have HO321 := n1_; clear n0_ n1_; clear ho hb hg hat; obtain ⟨Ao65, co65, eo65⟩ := Kd.R_slice HO321.out; subst eo65) | ((with_reducible refine gate_callee (f := 18) rfl ?_); refine goesL_ (some 46) rfl rfl Try.func18 (by kernel_rfl) rfl #[.slice Ao65 y319.length co65] rfl (by (try simp only [List.map_toArray, List.map_cons, List.map_nil]); first | done | rfl | (simp only [List.length_drop, List.length_take]; rfl)) ?_; (with_reducible refine (frame_Settings.calls k1 _ _ y319 t322 t323 t324 t325 _ ?side1 ?side2 A18.out).mono ?_); (case side1 => repeat (first | exact (Kd.R_reads' HO321.out).2.2 | (with_reducible refine Kd.C_alloc ?_ _) | (with_reducible refine Kd.C_drewN ?_ _) | (with_reducible refine Kd.C_drew ?_))); (case side2 => exact (Kd.R_reads' HO321.out).2.1); rintro e w66 ⟨rfl, hb⟩; refine ⟨_, rfl, ?_⟩; have n0_ := Aside0.mk (Kd.R_below (by (with_reducible repeat (first | apply Kd.R_alloc | apply Kd.R_drewN | apply Kd.R_drew)); exact HO321.out) hb); have n1_ := Aside0.mk (below_step (by repeat (first | (with_reducible first | exact HB.out | apply below_alloc | apply pw_below_drewN | apply below_drew1) | exact HB.out)) hb); clear HO321; clear HB; have HO321 := n0_; have HB := n1_; clear n0_ n1_; (try clear hb); (try clear hb2); (try clear hk); (try clear hi)) | ((with_reducible refine gate_dst (N := 11) rfl ?_); refine box_event ?hg (N := 11) ?hd (cs := #[.int .u8 0, .int .u8 0, .int .u32 0, .string (⟨#[]⟩ : ByteArray)]) (t := 24) ?hr ?_; (case hd => rfl); (case hg => rfl); (case hr => first | (go_simp; done) | (go_simp; rfl)); intro gb326 hg w67 hbox hb; have n0_ := Aside0.mk (Kd.R_below (by (with_reducible repeat (first | apply Kd.R_alloc | apply Kd.R_drewN | apply Kd.R_drew)); exact HO321.out) hb); have n1_ := Aside0.mk (below_step (by repeat (first | (with_reducible first | exact HB.out | apply below_alloc | apply pw_below_drewN | apply below_drew1) | exact HB.out)) hb); have n2_ := Aside0.mk (hbox); have n3_ := Aside0.mk ((by rw [hg]; exact (below_size (by repeat (first | (with_reducible first | exact HB.out | apply below_alloc | apply pw_below_drewN | apply below_drew1) | exact HB.out))) : w.heap.size ≤ gb326)); have n4_ := Aside0.mk ((by rw [hg]; exact (below_size (by repeat (first | (with_reducible first | exact HB.out | apply below_alloc | apply pw_below_drewN | apply below_drew1) | exact HB.out))) : w.heap.size ≤ gb326)); clear HO321; clear HB; have HO321 := n0_; have HB := n1_; have BK326 := n2_; have GW326 := n3_; have GE326 := n4_; clear n0_ n1_ n2_ n3_ n4_; clear hb hbox hg; have hcz68_0 : w67.cell? ⟨gb326, 0, none⟩ = some (.int .u8 0) := (blk_cell BK326.out 0).trans rfl; have hcz68_1 : w67.cell? ⟨gb326, 1, none⟩ = some (.int .u8 0) := (blk_cell BK326.out 1).trans rfl; have hcz68_2 : w67.cell? ⟨gb326, 2, none⟩ = some (.int .u32 0) := (blk_cell BK326.out 2).trans rfl; have hcz68_3 : w67.cell? ⟨gb326, 3, none⟩ = some (.string (⟨#[]⟩ : ByteArray)) := (blk_cell BK326.out 3).trans rfl; have hfz68_0 := blk_frozen BK326.out 0; have hfz68_1 := blk_frozen BK326.out 1; have hfz68_2 := blk_frozen BK326.out 2; have hfz68_3 := blk_frozen BK326.out 3))
                go_ret
                exact ⟨by first | rfl | (simp [errW_none, errW_some] <;> rfl) | (simp [*, errW_none, errW_some] <;> rfl), by repeat (first | (with_reducible first | exact HB.out | apply below_alloc | apply pw_below_drewN | apply below_drew1 | refine below_set ?_ GE326.out) | exact HB.out)⟩
            · rw [if_neg c17] at H
              exact absurd H (by simp)
  · replace c5 := Bool.eq_false_iff.mpr c5
    subst c5
    have H1 : (some false) = some r := by rw [if_neg (show ¬ (false = true) by decide)] at H; exact H
    clear H
    have H := H1
    clear H1
    obtain rfl := Option.some.inj H
    go_enter Try.func7, Try.ntmps7
    go_wp2_with (first | ((with_reducible refine gate_callee (f := 8) rfl ?_); refine goesL_ (some 12) rfl rfl Try.func8 (by kernel_rfl) rfl #[] rfl (by (try simp only [List.map_toArray, List.map_cons, List.map_nil]); first | done | rfl | (simp only [List.length_drop, List.length_take]; rfl)) ?_; (with_reducible refine (nunciolaw14_awake.calls k  false _ A4.out).mono ?_); rintro e w69 ⟨rfl, hb⟩; refine ⟨_, rfl, ?_⟩; have n0_ := Aside0.mk (below_step (by repeat (first | (with_reducible first | exact HB.out | apply below_alloc | apply pw_below_drewN | apply below_drew1) | exact HB.out)) hb); clear HB; have HB := n0_; clear n0_; (try clear hb); (try clear hb2); (try clear hk); (try clear hi)))
    go_ret
    exact ⟨by first | rfl | (simp [errW_none, errW_some] <;> rfl) | (simp [*, errW_none, errW_some] <;> rfl), by repeat (first | (with_reducible first | exact HB.out | apply below_alloc | apply pw_below_drewN | apply below_drew1) | exact HB.out)⟩

def k50_wf (x : S50) : Prop := ((Lit.int .u16 x.f0).wf = true) ∧ ((Lit.int .u32 x.f1).wf = true)
theorem k50_opens : Opens Try.prog 50 k50 k50_wf := by
  refine Opens.struct (P := Try.prog) (d := (Kd.pair (Kd.int .u16) (Kd.int .u32))) (wf := (fun x => ((Lit.int .u16 x.1).wf = true) ∧ (fun x => (Lit.int .u32 x).wf = true) x.2)) (f := fun x : S50 => (x.f0, x.f1)) (g := fun y => (⟨y.1, y.2⟩ : S50)) ?_ Try.underlying50 (by kernel_rfl) (fun _ => rfl)
  exact (OpensCells.cons (Opens.int Try.underlying48) (by kernel_rfl) (OpensCells.one (Opens.int Try.underlying22) (by kernel_rfl)) rfl)
/-- THE ONE PURE STATEMENT of nunciolaw14_FrameMakes: yours. -/
def nunciolaw14_FrameMakes.Pure : Prop := ∀ (l0 : List (S50)) (a1 : Int) (a2 : Int), (l0.length ≤ 9223372036854775807 ∧ l0.length * 8 ≤ 140737488351232 ∧ ∀ x_ ∈ l0, k50_wf x_) → ((Lit.int .u32 a1).wf = true) → ((Lit.int .u32 a2).wf = true) → ∃ k, nunciolaw14_FrameMakes.f k l0 a1 a2 = some true
theorem nunciolaw14_FrameMakes.walk (P : nunciolaw14_FrameMakes.Pure) (A0 : Option Addr) (c0 : Nat) (l0 : List (S50)) (a1 : Int) (a2 : Int) (w : World) (hr0 : Kd.C k50 w A0 l0.length l0) (hc0 : l0.length ≤ c0) (w0 : l0.length ≤ 9223372036854775807 ∧ l0.length * 8 ≤ 140737488351232 ∧ ∀ x_ ∈ l0, k50_wf x_) (w1 : (Lit.int .u32 a1).wf = true) (w2 : (Lit.int .u32 a2).wf = true) :
    Calls Try.prog 7 #[.slice A0 l0.length c0, .int .u32 a1, .int .u32 a2] w fun e w' => e = .returned (.bool true) ∧ Below w.heap.size w w' := by
  obtain ⟨k, h⟩ := P l0 a1 a2 w0 w1 w2
  refine (nunciolaw14_FrameMakes.calls k _ _ l0 a1 a2 true w hr0 hc0 h).mono ?_
  rintro e w' ⟨rfl, hd⟩
  exact ⟨rfl, hd⟩

end Go.Proofs.Ytimhhacnpjcjnaa.Mine
