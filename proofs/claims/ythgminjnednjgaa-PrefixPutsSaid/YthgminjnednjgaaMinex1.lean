-- Written by this repo's own printer (wip/print), which builds on the kit's.
import Derived.Test.YthgminjnednjgaaMinex0
namespace Go.Proofs.Ythgminjnednjgaa.Mine
open Go.RowKit Go.Proofs.YthgminjnednjgaaW.PrintWords Go.Proofs.YthgminjnednjgaaW.PrintLast Go.Proofs.YthgminjnednjgaaW.PrintMore
attribute [local go_sem] max2_int min2_int max_two min_two max_three min_three max_four min_four   -- for this text's walks alone
set_option linter.unusedVariables false
set_option linter.unusedSimpArgs false

/-! ### prefix_full: function 13 -/
def prefix_full.f (a0 : Int) : Option (Int) := some (IntKind.u64.wrap ((IntKind.u64.wrap (2 ^ (mn (mx a0 1) 8).toNat)) - 1))
set_option maxHeartbeats 8000000 in
set_option maxRecDepth 100000 in
theorem prefix_full.calls (a0 : Int) (r : Int) (w : World) (h : prefix_full.f a0 = some r) :
  Calls Try.prog 13 #[.int .i64 a0] w fun e w' => e = .returned (.int .u64 r) ∧ Below w.heap.size w w' := by
 have HB := Aside0.mk (Below.refl w.heap.size w)
 have H : (some (IntKind.u64.wrap ((IntKind.u64.wrap (2 ^ (mn (mx a0 1) 8).toNat)) - 1))) = some r := h
 clear h
 obtain ⟨ji2, hji2⟩ : ∃ j_ : Int, (mx a0 1) = j_ := ⟨_, rfl⟩
 replace H : (some (IntKind.u64.wrap ((IntKind.u64.wrap (2 ^ (mn (ji2) 8).toNat)) - 1))) = some r := by first | (rw [hji2] at H; exact H) | (simp only [hji2] at H ⊢; exact H)
 (try (have hji2l : 1 ≤ ji2 := by (rw [← hji2]; unfold mx; (repeat' split) <;> omega)))
 (try (have hji2m : 0 ≤ ji2 := by omega))
 have hji2_ : (if a0 < 1 then 1 else a0) = ji2 := hji2
 obtain ⟨ji3, hji3⟩ : ∃ j_ : Int, (mn (ji2) 8) = j_ := ⟨_, rfl⟩
 replace H : (some (IntKind.u64.wrap ((IntKind.u64.wrap (2 ^ (ji3).toNat)) - 1))) = some r := by first | (rw [hji3] at H; exact H) | (simp only [hji3] at H ⊢; exact H)
 have hji3_ : (if 8 < (ji2) then 8 else (ji2)) = ji3 := hji3
 obtain rfl := Option.some.inj H
 go_enter Try.func13, Try.ntmps13
 go_wp2
 go_ret
 exact ⟨by first | rfl | (simp [errW_none, errW_some] <;> rfl) | (simp only [← hji2, ← hji3]; first | rfl | (simp [errW_none, errW_some] <;> rfl)) | (simp [*, errW_none, errW_some] <;> rfl), by repeat (first | (with_reducible first | exact HB.out | apply below_alloc | apply pw_below_drewN | apply below_drew1) | exact HB.out)⟩

/-! ### prefix_Put: function 9 -/
def prefix_Put.l0 : Nat → Int → List Int → Option (List Int)
 | 0, _, _ => none
 | k + 1, x3, x9 => if x3 ≥ 128 then (if x9.length < 140737488355328 then (prefix_Put.l0 k (x3 / 128) (x9 ++ [Go.bits .or .u8 ((x3) % 256) 128])) else (none)) else (if x9.length < 140737488355328 then (some (x9 ++ [(x3) % 256])) else (none))
def prefix_Put.f (k : Nat) (l0 : List Int) (a1 : Int) (a2 : Int) (a3 : Int) : Option (List Int) := (prefix_full.f a2).bind fun t102 => (if a3 < t102 then (if l0.length < 140737488355328 then (some (l0 ++ [Go.bits .or .u8 (Go.bits .andNot .u8 a1 ((t102) % 256)) ((a3) % 256)])) else (none)) else (if l0.length < 140737488355328 then (prefix_Put.l0 k (IntKind.u64.wrap (a3 - t102)) (l0 ++ [Go.bits .or .u8 (Go.bits .andNot .u8 a1 ((t102) % 256)) ((t102) % 256)])) else (none)))
theorem prefix_Put.mono_l : ∀ k, (∀ y0 y1, LeO (prefix_Put.l0 k y0 y1) (prefix_Put.l0 (k + 1) y0 y1))
 | 0 => fun _ _ r h => by simp [prefix_Put.l0] at h
 | k + 1 => by
  have ih0 := prefix_Put.mono_l k
  ·
   intro y0 y1
   unfold prefix_Put.l0
   repeat' first
   | (with_reducible exact ih0 _ _)
   | (with_reducible exact LeO.refl _)
   | (with_reducible exact LeO.none _)
   | (with_reducible refine LeO.ite ?_ ?_)
   | (with_reducible refine LeO.bind ?_ (fun _ => ?_))
   | exact ih0 _ _
   | exact LeO.none _
   | refine LeO.ite ?_ ?_
   | refine LeO.bind ?_ (fun _ => ?_)
theorem prefix_Put.mono : ∀ a0 a1 a2 a3 k, LeO (prefix_Put.f k a0 a1 a2 a3) (prefix_Put.f (k + 1) a0 a1 a2 a3) := by
 intro a0 a1 a2 a3 k
 have ih0 := prefix_Put.mono_l k
 unfold prefix_Put.f
 repeat' first
   | (with_reducible exact ih0 _ _)
   | (with_reducible exact LeO.refl _)
   | (with_reducible exact LeO.none _)
   | (with_reducible refine LeO.ite ?_ ?_)
   | (with_reducible refine LeO.bind ?_ (fun _ => ?_))
   | exact ih0 _ _
   | exact LeO.none _
   | refine LeO.ite ?_ ?_
   | refine LeO.bind ?_ (fun _ => ?_)
set_option maxHeartbeats 8000000 in
set_option maxRecDepth 100000 in
theorem prefix_Put.calls (k : Nat) (A0 : Option Addr) (c0 : Nat) (l0 : List Int) (a1 : Int) (a2 : Int) (a3 : Int) (r : List Int) (w : World) (hr0 : Kd.C (Kd.int .u8) w A0 l0.length l0) (hc0 : l0.length ≤ c0) (h : prefix_Put.f k l0 a1 a2 a3 = some r) :
  Calls Try.prog 9 #[.slice A0 l0.length c0, .int .u8 a1, .int .i64 a2, .int .u64 a3] w fun e w' => ∃ v0_ : Value, e = .returned (v0_) ∧ Kd.R (Kd.int .u8) 5 w' w.heap.size (fun _ => True) v0_ r ∧ Below w.heap.size w w' := by
 have HR0 := Aside0.mk hr0
 have HC0 := Aside0.mk hc0
 clear hr0 hc0
 have HB := Aside0.mk (Below.refl w.heap.size w)
 have H : ((prefix_full.f a2).bind fun t102 => (if a3 < t102 then (if l0.length < 140737488355328 then (some (l0 ++ [Go.bits .or .u8 (Go.bits .andNot .u8 a1 ((t102) % 256)) ((a3) % 256)])) else (none)) else (if l0.length < 140737488355328 then (prefix_Put.l0 k (IntKind.u64.wrap (a3 - t102)) (l0 ++ [Go.bits .or .u8 (Go.bits .andNot .u8 a1 ((t102) % 256)) ((t102) % 256)])) else (none)))) = some r := h
 clear h
 replace H := Option.bind_eq_some_iff.mp H
 obtain ⟨t102, A50, H⟩ := H
 replace H : (if a3 < t102 then (if l0.length < 140737488355328 then (some (l0 ++ [Go.bits .or .u8 (Go.bits .andNot .u8 a1 ((t102) % 256)) ((a3) % 256)])) else (none)) else (if l0.length < 140737488355328 then (prefix_Put.l0 k (IntKind.u64.wrap (a3 - t102)) (l0 ++ [Go.bits .or .u8 (Go.bits .andNot .u8 a1 ((t102) % 256)) ((t102) % 256)])) else (none))) = some r := H
 have A5 := Aside0.mk A50
 clear A50
 by_cases c6 : a3 < t102
 ·
  rw [if_pos c6] at H
  have c6b0 : decide (a3 < t102) = true := decide_eq_true c6
  clear c6
  by_cases c7 : l0.length < 140737488355328
  ·
   rw [if_pos c7] at H
   have c7b0 := eq_true c7
   have c7b1 : decide (l0.length < 140737488355328) = true := decide_eq_true c7
   clear c7
   obtain ⟨y103, hy103⟩ : ∃ y_ : List Int, y_ = (l0 ++ [Go.bits .or .u8 (Go.bits .andNot .u8 a1 ((t102) % 256)) ((a3) % 256)]) := ⟨_, rfl⟩
   replace H : (some y103) = some r := by first | (rw [hy103]; with_reducible exact H) | (have H2_ := (Option.bind_some _ _).symm.trans H; rw [hy103]; with_reducible exact H2_) | (have H2_ := (Option.bind_some _ _).symm.trans H; with_reducible exact H2_) | with_reducible exact H | (rw [hy103]; exact H) | exact H
   have Ny103 := Aside0.mk hy103
   clear hy103
   obtain rfl := Option.some.inj H
   have hfull8 := print_full_of (P := Try.prog) 22 5 Try.underlying22 info5 A0 l0.length c0 (Nat.le_trans (Nat.le_of_eq rfl) HC0.out)
   go_enter Try.func9, Try.ntmps9
   go_wp2_with (first | ((with_reducible refine gate_callee (f := 13) rfl ?_); refine goesL_ (some 19) rfl rfl Try.func13 (by kernel_rfl) rfl #[.int .i64 a2] rfl (by (try simp only [List.map_toArray, List.map_cons, List.map_nil]); first | done | rfl | (simp only [List.length_drop, List.length_take]; rfl)) ?_; (with_reducible refine (prefix_full.calls a2 t102 _ A5.out).mono ?_); rintro e w9 ⟨rfl, hb⟩; refine ⟨_, rfl, ?_⟩; have n0_ := Aside0.mk (below_step (by repeat (first | (with_reducible first | exact HB.out | apply below_alloc | apply pw_below_drewN | apply below_drew1) | exact HB.out)) hb); clear HB; have HB := n0_; clear n0_; (try clear hb); (try clear hb2); (try clear hk); (try clear hi)) | ((with_reducible refine gate_builtin (b := .append) (xs := #[.tmp 27, .tmp 32]) rfl ?_); at_builtin; refine Kd.R_append_full (enc := Value.int .u8) (h1 := fun _ => rfl) (P := Try.prog) _ rfl (.tmp 27) (.tmp 32) 22 5 (.int .u8 0) 1 rfl Try.underlying22 info5 rfl (by omega) A0 l0 (Go.bits .or .u8 (Go.bits .andNot .u8 a1 ((t102) % 256)) ((a3) % 256)) (ok := fun _ => True) rfl rfl ?aC (fun _ _ => trivial) (by have h_ : l0.length < 140737488355328 := of_decide_eq_true (by first | (with_reducible assumption) | assumption); omega) (Below.refl _ _) (Nat.le_refl _) ?_; (case aC => repeat (first | exact (Kd.C_below HR0.out HB.out) | (with_reducible refine Kd.C_alloc ?_ _) | (with_reducible refine Kd.C_drewN ?_ _) | (with_reducible refine Kd.C_drew ?_))); intro v104 w10 ho11 hb hg_ hnew_; clear hg_ hnew_; (first | rw [← Ny103.out] at ho11 | (simp only [Int.reduceToNat] at ho11; rw [← Ny103.out] at ho11)); have n0_ := Aside0.mk (Kd.R_lower ho11 (below_size (by repeat (first | (with_reducible first | exact HB.out | apply below_alloc | apply pw_below_drewN | apply below_drew1) | exact HB.out)))); have n1_ := Aside0.mk (below_step (by repeat (first | (with_reducible first | exact HB.out | apply below_alloc | apply pw_below_drewN | apply below_drew1) | exact HB.out)) hb); clear HB; have HO105 := n0_; have HB := n1_; clear n0_ n1_; clear hb ho11))
   go_ret
   exact ⟨_, by first | rfl | (simp [errW_none, errW_some] <;> rfl) | (simp [*, errW_none, errW_some] <;> rfl), by (with_reducible repeat (first | apply Kd.R_alloc | apply Kd.R_drewN | apply Kd.R_drew)); exact HO105.out, by repeat (first | (with_reducible first | exact HB.out | apply below_alloc | apply pw_below_drewN | apply below_drew1) | exact HB.out)⟩
  ·
   rw [if_neg c7] at H
   exact absurd H (by simp)
 ·
  rw [if_neg c6] at H
  have c6b0 : decide (a3 < t102) = false := decide_eq_false c6
  clear c6
  by_cases c12 : l0.length < 140737488355328
  ·
   rw [if_pos c12] at H
   have c12b0 := eq_true c12
   have c12b1 : decide (l0.length < 140737488355328) = true := decide_eq_true c12
   clear c12
   obtain ⟨y106, hy106⟩ : ∃ y_ : List Int, y_ = (l0 ++ [Go.bits .or .u8 (Go.bits .andNot .u8 a1 ((t102) % 256)) ((t102) % 256)]) := ⟨_, rfl⟩
   replace H : (prefix_Put.l0 k (IntKind.u64.wrap (a3 - t102)) y106) = some r := by first | (rw [hy106]; with_reducible exact H) | (have H2_ := (Option.bind_some _ _).symm.trans H; rw [hy106]; with_reducible exact H2_) | (have H2_ := (Option.bind_some _ _).symm.trans H; with_reducible exact H2_) | with_reducible exact H | (rw [hy106]; exact H) | exact H
   have Ny106 := Aside0.mk hy106
   clear hy106
   have H' := Aside0.mk H
   clear H
   have hfull13 := print_full_of (P := Try.prog) 22 5 Try.underlying22 info5 A0 l0.length c0 (Nat.le_trans (Nat.le_of_eq rfl) HC0.out)
   go_enter Try.func9, Try.ntmps9
   go_wp2_with (first | ((with_reducible refine gate_callee (f := 13) rfl ?_); refine goesL_ (some 19) rfl rfl Try.func13 (by kernel_rfl) rfl #[.int .i64 a2] rfl (by (try simp only [List.map_toArray, List.map_cons, List.map_nil]); first | done | rfl | (simp only [List.length_drop, List.length_take]; rfl)) ?_; (with_reducible refine (prefix_full.calls a2 t102 _ A5.out).mono ?_); rintro e w14 ⟨rfl, hb⟩; refine ⟨_, rfl, ?_⟩; have n0_ := Aside0.mk (below_step (by repeat (first | (with_reducible first | exact HB.out | apply below_alloc | apply pw_below_drewN | apply below_drew1) | exact HB.out)) hb); clear HB; have HB := n0_; clear n0_; (try clear hb); (try clear hb2); (try clear hk); (try clear hi)) | ((with_reducible refine gate_builtin (b := .append) (xs := #[.tmp 34, .tmp 39]) rfl ?_); at_builtin; refine Kd.R_append_full (enc := Value.int .u8) (h1 := fun _ => rfl) (P := Try.prog) _ rfl (.tmp 34) (.tmp 39) 22 5 (.int .u8 0) 1 rfl Try.underlying22 info5 rfl (by omega) A0 l0 (Go.bits .or .u8 (Go.bits .andNot .u8 a1 ((t102) % 256)) ((t102) % 256)) (ok := fun _ => True) rfl rfl ?aC (fun _ _ => trivial) (by have h_ : l0.length < 140737488355328 := of_decide_eq_true (by first | (with_reducible assumption) | assumption); omega) (Below.refl _ _) (Nat.le_refl _) ?_; (case aC => repeat (first | exact (Kd.C_below HR0.out HB.out) | (with_reducible refine Kd.C_alloc ?_ _) | (with_reducible refine Kd.C_drewN ?_ _) | (with_reducible refine Kd.C_drew ?_))); intro v107 w15 ho16 hb hg_ hnew_; clear hg_ hnew_; (first | rw [← Ny106.out] at ho16 | (simp only [Int.reduceToNat] at ho16; rw [← Ny106.out] at ho16)); have n0_ := Aside0.mk (Kd.R_lower ho16 (below_size (by repeat (first | (with_reducible first | exact HB.out | apply below_alloc | apply pw_below_drewN | apply below_drew1) | exact HB.out)))); have n1_ := Aside0.mk (below_step (by repeat (first | (with_reducible first | exact HB.out | apply below_alloc | apply pw_below_drewN | apply below_drew1) | exact HB.out)) hb); clear HB; have HO108 := n0_; have HB := n1_; clear n0_ n1_; clear hb ho16))
   go_loopg [3, 9] k (fun kq v3 v9 w' => ∃ (x3_1 : Int) (x9_1 : List Int), v3 = .int .u64 x3_1 ∧ Aside0 (prefix_Put.l0 kq x3_1 x9_1 = some r) ∧ Aside0 (kq ≤ k) ∧ Aside0 (Kd.R (Kd.int .u8) 5 w' w.heap.size (fun _ => True) v9 x9_1) ∧ Aside0 (Below w.heap.size w w'))
   case atStart => exact ⟨(IntKind.u64.wrap (a3 - t102)), (y106), (by first | rfl | (simp; done) | (simp [*]; done)), H', ⟨Nat.le_refl _⟩, ⟨by (with_reducible repeat (first | apply Kd.R_alloc | apply Kd.R_drewN | apply Kd.R_drew)); exact HO108.out⟩, ⟨by repeat (first | (with_reducible first | exact HB.out | apply below_alloc | apply pw_below_drewN | apply below_drew1) | exact HB.out)⟩⟩
   case round =>
    clear H'
    try clear c1
    try clear p2
    try clear c6
    try clear c6b0
    try clear c7
    try clear c7b0
    try clear c7b1
    try clear c9
    try clear c12
    try clear c12b0
    try clear c12b1
    try clear c13
    obtain ⟨x3_1, x9_1, rfl, HA, HK1, HO_9, HB⟩ := hrel
    cases gk with
    | zero => exact absurd HA.out (by simp [prefix_Put.l0])
    | succ k1 =>
     have H := HA.out
     clear HA
     simp only [prefix_Put.l0] at H
     by_cases c17 : x3_1 ≥ 128
     ·
      rw [if_pos c17] at H
      have c17b0 : decide (128 ≤ x3_1) = true := decide_eq_true c17
      clear c17
      by_cases c18 : x9_1.length < 140737488355328
      ·
       rw [if_pos c18] at H
       have LMc18 := Aside0.mk c18
       clear c18
       obtain ⟨y109, hy109⟩ : ∃ y_ : List Int, y_ = (x9_1 ++ [Go.bits .or .u8 ((x3_1) % 256) 128]) := ⟨_, rfl⟩
       replace H : (prefix_Put.l0 k1 (x3_1 / 128) y109) = some r := by first | (rw [hy109]; with_reducible exact H) | (have H2_ := (Option.bind_some _ _).symm.trans H; rw [hy109]; with_reducible exact H2_) | (have H2_ := (Option.bind_some _ _).symm.trans H; with_reducible exact H2_) | with_reducible exact H | (rw [hy109]; exact H) | exact H
       have Ny109 := Aside0.mk hy109
       clear hy109
       have H' := Aside0.mk H
       clear H
       go_wp2_with (first | ((with_reducible refine gate_builtin (b := .append) (xs := #[.tmp 48, .tmp 52]) rfl ?_); at_builtin; refine Kd.R_append (Kd.int .u8) (w0 := w) w.heap.size rfl (.tmp 48) (.tmp 52) 22 5 (.int .u8 0) 1 rfl Try.underlying22 info5 rfl (by decide) (by omega) u9 x9_1 (Go.bits .or .u8 ((x3_1) % 256) 128) [.int .u8 (Go.bits .or .u8 ((x3_1) % 256) 128)] (fun _ => True) (fun _ => False) rfl rfl ?aP (fun _ hk => hk.elim) ?aF ?aO ?aB ?aS ?aL ?_; (case aP => exact rfl); (case aB => exact (by repeat (first | (with_reducible first | exact HB.out | apply below_alloc | apply pw_below_drewN | apply below_drew1) | exact HB.out))); (case aF => exact (fun _ _ => trivial)); (case aO => exact (by (with_reducible repeat (first | apply Kd.R_alloc | apply Kd.R_drewN | apply Kd.R_drew)); exact HO_9.out)); (case aS => exact (below_size (by repeat (first | (with_reducible first | exact HB.out | apply below_alloc | apply pw_below_drewN | apply below_drew1) | exact HB.out)))); (case aL => have := LMc18.out; omega); intro v110 w19 ho hb hg hat; rw [← Ny109.out] at ho; have n0_ := Aside0.mk (hb); have n1_ := Aside0.mk (ho); clear HB; clear HO_9; have HB := n0_; have HO111 := n1_; clear n0_ n1_; clear ho hb hg hat))
       go_roundg k1
       case measure => have := HK1.out; omega
       case rel => exact ⟨(x3_1 / 128), (y109), (by first | rfl | (simp; done) | (simp [*]; done)), H', ⟨by have := HK1.out; omega⟩, ⟨by (with_reducible repeat (first | apply Kd.R_alloc | apply Kd.R_drewN | apply Kd.R_drew)); exact HO111.out⟩, ⟨by repeat (first | (with_reducible first | exact HB.out | apply below_alloc | apply pw_below_drewN | apply below_drew1) | exact HB.out)⟩⟩
      ·
       rw [if_neg c18] at H
       exact absurd H (by simp)
     ·
      rw [if_neg c17] at H
      have c17b0 : decide (128 ≤ x3_1) = false := decide_eq_false c17
      clear c17
      by_cases c20 : x9_1.length < 140737488355328
      ·
       rw [if_pos c20] at H
       have LMc20 := Aside0.mk c20
       clear c20
       obtain ⟨y112, hy112⟩ : ∃ y_ : List Int, y_ = (x9_1 ++ [(x3_1) % 256]) := ⟨_, rfl⟩
       replace H : (some y112) = some r := by first | (rw [hy112]; with_reducible exact H) | (have H2_ := (Option.bind_some _ _).symm.trans H; rw [hy112]; with_reducible exact H2_) | (have H2_ := (Option.bind_some _ _).symm.trans H; with_reducible exact H2_) | with_reducible exact H | (rw [hy112]; exact H) | exact H
       have Ny112 := Aside0.mk hy112
       clear hy112
       obtain rfl := Option.some.inj H
       go_wp2_with (first | ((with_reducible refine gate_builtin (b := .append) (xs := #[.tmp 54, .tmp 57]) rfl ?_); at_builtin; refine Kd.R_append (Kd.int .u8) (w0 := w) w.heap.size rfl (.tmp 54) (.tmp 57) 22 5 (.int .u8 0) 1 rfl Try.underlying22 info5 rfl (by decide) (by omega) u9 x9_1 ((x3_1) % 256) [.int .u8 ((x3_1) % 256)] (fun _ => True) (fun _ => False) rfl rfl ?aP (fun _ hk => hk.elim) ?aF ?aO ?aB ?aS ?aL ?_; (case aP => exact rfl); (case aB => exact (by repeat (first | (with_reducible first | exact HB.out | apply below_alloc | apply pw_below_drewN | apply below_drew1) | exact HB.out))); (case aF => exact (fun _ _ => trivial)); (case aO => exact (by (with_reducible repeat (first | apply Kd.R_alloc | apply Kd.R_drewN | apply Kd.R_drew)); exact HO_9.out)); (case aS => exact (below_size (by repeat (first | (with_reducible first | exact HB.out | apply below_alloc | apply pw_below_drewN | apply below_drew1) | exact HB.out)))); (case aL => have := LMc20.out; omega); intro v113 w21 ho hb hg hat; rw [← Ny112.out] at ho; have n0_ := Aside0.mk (hb); have n1_ := Aside0.mk (ho); clear HB; clear HO_9; have HB := n0_; have HO114 := n1_; clear n0_ n1_; clear ho hb hg hat))
       go_ret
       exact ⟨_, by first | rfl | (simp [errW_none, errW_some] <;> rfl) | (simp [*, errW_none, errW_some] <;> rfl), by (with_reducible repeat (first | apply Kd.R_alloc | apply Kd.R_drewN | apply Kd.R_drew)); exact HO114.out, by repeat (first | (with_reducible first | exact HB.out | apply below_alloc | apply pw_below_drewN | apply below_drew1) | exact HB.out)⟩
      ·
       rw [if_neg c20] at H
       exact absurd H (by simp)
  ·
   rw [if_neg c12] at H
   exact absurd H (by simp)

end Go.Proofs.Ythgminjnednjgaa.Mine
