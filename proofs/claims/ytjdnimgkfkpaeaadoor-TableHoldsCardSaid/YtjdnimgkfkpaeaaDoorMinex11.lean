-- Written by this repo's own printer (wip/print), which builds on the kit's.
import Derived.Test.YtjdnimgkfkpaeaaDoorTbM
import Derived.Test.YtjdnimgkfkpaeaaDoorWf
import Derived.Test.YtjdnimgkfkpaeaaDoorMinex0
import Derived.Test.YtjdnimgkfkpaeaaDoorMinex3
import Derived.Test.YtjdnimgkfkpaeaaDoorMinex4
import Derived.Test.YtjdnimgkfkpaeaaDoorMinex6
import Derived.Test.YtjdnimgkfkpaeaaDoorMinex7
import Derived.Test.YtjdnimgkfkpaeaaDoorMinex10
namespace Go.Proofs.YtjdnimgkfkpaeaaDoor.Mine
open Go.RowKit Go.Proofs.YtjdnimgkfkpaeaaDoorW.PrintWords Go.Proofs.YtjdnimgkfkpaeaaDoorW.PrintLast Go.Proofs.YtjdnimgkfkpaeaaDoorW.PrintMore
attribute [local go_sem] max2_int min2_int max_two min_two max_three min_three max_four min_four   -- for this text's walks alone
set_option linter.unusedVariables false
set_option linter.unusedSimpArgs false

/-! ### nunciolaw11_TablePlays: function 3 -/
mutual
def nunciolaw11_TablePlays.j0 : Nat → Int → List (S34) → Int → Bool → Option (Bool)
 | 0, _, _, _, _ => none
 | k + 1, x0, x1, x2, x24 => if x24 = true then (some true) else ((table_New.f x0).bind fun t203 => ((nuncioref11_New.f x0).bind fun bt205 => ((nunciolaw11_same.f k t203 bt205.1 bt205.2).bind fun bt210 => (if bt210.1 = true then (nunciolaw11_TablePlays.l0 k x1 x2 0 bt210.2 bt205.1 bt205.2) else (some false)))))
def nunciolaw11_TablePlays.l0 : Nat → List (S34) → Int → Int → TB → Int → List (S38) → Option (Bool)
 | 0, _, _, _, _, _, _ => none
 | k + 1, x1, x2, x9, x205000, x210000, x210001 => if x9 < (x1.length : Int) then (if 0 ≤ x9 then ((nunciolaw11_play.f k x205000 x210000 x210001 ((rd_T34 x1 x9).f0) ((rd_T34 x1 x9).f1) ((rd_T34 x1 x9).f2)).bind fun bt221 => ((nunciolaw11_same.f k bt221.2.2 bt221.1 bt221.2.1).bind fun bt226 => (if bt226.1 = true then (nunciolaw11_TablePlays.l0 k x1 x2 (wrap64 (x9 + 1)) bt226.2 bt221.1 bt221.2.1) else (some false)))) else (none)) else ((table_Table_At.f x205000 x2).bind fun bt212 => ((nuncioref11_At.f k x210000 x210001 x2).bind fun bt216 => (if bt212.1.toList = bt216.1.toList then (if bt212.2.1.toList = bt216.2.1.toList then (some (bt212.2.2.1 == bt216.2.2)) else (some false)) else (some false))))
end
def nunciolaw11_TablePlays.f (k : Nat) (a0 : Int) (l1 : List (S34)) (a2 : Int) : Option (Bool) := (nunciolaw11_awake.f).bind fun t201 => (if t201 = true then ((nunciolaw11_Few.f k l1).bind fun t202 => (if t202 = true then (nunciolaw11_TablePlays.j0 k a0 l1 a2 (decide ((l1.length : Int) > 100))) else (nunciolaw11_TablePlays.j0 k a0 l1 a2 true))) else (some false))
theorem nunciolaw11_TablePlays.mono_l : ∀ k, (∀ y0 y1 y2 y3, LeO (nunciolaw11_TablePlays.j0 k y0 y1 y2 y3) (nunciolaw11_TablePlays.j0 (k + 1) y0 y1 y2 y3)) ∧ (∀ y0 y1 y2 y3 y4 y5, LeO (nunciolaw11_TablePlays.l0 k y0 y1 y2 y3 y4 y5) (nunciolaw11_TablePlays.l0 (k + 1) y0 y1 y2 y3 y4 y5))
 | 0 => ⟨fun _ _ _ _ r h => by simp [nunciolaw11_TablePlays.j0] at h, fun _ _ _ _ _ _ r h => by simp [nunciolaw11_TablePlays.l0] at h⟩
 | k + 1 => by
  obtain ⟨ih0, ih1⟩ := nunciolaw11_TablePlays.mono_l k
  refine ⟨?_, ?_⟩
  ·
   intro y0 y1 y2 y3
   unfold nunciolaw11_TablePlays.j0
   repeat' first
   | (with_reducible exact ih0 _ _ _ _)
   | (with_reducible exact ih1 _ _ _ _ _ _)
   | (with_reducible exact nunciolaw11_Few.mono _ _)
   | (with_reducible exact nunciolaw11_play.mono _ _ _ _ _ _ _)
   | (with_reducible exact nunciolaw11_same.mono _ _ _ _)
   | (with_reducible exact nuncioref11_At.mono _ _ _ _)
   | (with_reducible exact LeO.refl _)
   | (with_reducible exact LeO.none _)
   | (with_reducible refine LeO.ite ?_ ?_)
   | (with_reducible refine LeO.bind ?_ (fun _ => ?_))
   | exact ih0 _ _ _ _
   | exact ih1 _ _ _ _ _ _
   | exact nunciolaw11_Few.mono _ _
   | exact nunciolaw11_play.mono _ _ _ _ _ _ _
   | exact nunciolaw11_same.mono _ _ _ _
   | exact nuncioref11_At.mono _ _ _ _
   | exact LeO.none _
   | refine LeO.ite ?_ ?_
   | refine LeO.bind ?_ (fun _ => ?_)
  ·
   intro y0 y1 y2 y3 y4 y5
   unfold nunciolaw11_TablePlays.l0
   repeat' first
   | (with_reducible exact ih0 _ _ _ _)
   | (with_reducible exact ih1 _ _ _ _ _ _)
   | (with_reducible exact nunciolaw11_Few.mono _ _)
   | (with_reducible exact nunciolaw11_play.mono _ _ _ _ _ _ _)
   | (with_reducible exact nunciolaw11_same.mono _ _ _ _)
   | (with_reducible exact nuncioref11_At.mono _ _ _ _)
   | (with_reducible exact LeO.refl _)
   | (with_reducible exact LeO.none _)
   | (with_reducible refine LeO.ite ?_ ?_)
   | (with_reducible refine LeO.bind ?_ (fun _ => ?_))
   | exact ih0 _ _ _ _
   | exact ih1 _ _ _ _ _ _
   | exact nunciolaw11_Few.mono _ _
   | exact nunciolaw11_play.mono _ _ _ _ _ _ _
   | exact nunciolaw11_same.mono _ _ _ _
   | exact nuncioref11_At.mono _ _ _ _
   | exact LeO.none _
   | refine LeO.ite ?_ ?_
   | refine LeO.bind ?_ (fun _ => ?_)
theorem nunciolaw11_TablePlays.mono : ∀ a0 a1 a2 k, LeO (nunciolaw11_TablePlays.f k a0 a1 a2) (nunciolaw11_TablePlays.f (k + 1) a0 a1 a2) := by
 intro a0 a1 a2 k
 obtain ⟨ih0, ih1⟩ := nunciolaw11_TablePlays.mono_l k
 unfold nunciolaw11_TablePlays.f
 repeat' first
   | (with_reducible exact ih0 _ _ _ _)
   | (with_reducible exact ih1 _ _ _ _ _ _)
   | (with_reducible exact nunciolaw11_Few.mono _ _)
   | (with_reducible exact nunciolaw11_play.mono _ _ _ _ _ _ _)
   | (with_reducible exact nunciolaw11_same.mono _ _ _ _)
   | (with_reducible exact nuncioref11_At.mono _ _ _ _)
   | (with_reducible exact LeO.refl _)
   | (with_reducible exact LeO.none _)
   | (with_reducible refine LeO.ite ?_ ?_)
   | (with_reducible refine LeO.bind ?_ (fun _ => ?_))
   | exact ih0 _ _ _ _
   | exact ih1 _ _ _ _ _ _
   | exact nunciolaw11_Few.mono _ _
   | exact nunciolaw11_play.mono _ _ _ _ _ _ _
   | exact nunciolaw11_same.mono _ _ _ _
   | exact nuncioref11_At.mono _ _ _ _
   | exact LeO.none _
   | refine LeO.ite ?_ ?_
   | refine LeO.bind ?_ (fun _ => ?_)
def nunciolaw11_TablePlays.T12 : Bool × List (List Nat × List Nat) := (true, [([], []), ([], []), ([], []), ([], []), ([2, 3], [2, 3]), ([4], [4]), ([0, 1, 5], [0, 1, 5]), ([6, 6, 0, 1, 2, 3, 4, 5, 6], [6])])
def nunciolaw11_TablePlays.B12 : List Nat := [0, 0, 0, 0, 12, 28, 63, 127]
theorem nunciolaw11_TablePlays.tab12 : rtab .any (opsOf Tryd.f3 12) = nunciolaw11_TablePlays.T12 := by kernel_rfl
theorem nunciolaw11_TablePlays.bits12 : waitsOk nunciolaw11_TablePlays.T12.2 nunciolaw11_TablePlays.B12 = true := by kernel_rfl
set_option maxHeartbeats 8000000 in
set_option maxRecDepth 100000 in
theorem nunciolaw11_TablePlays.calls (k : Nat) (a0 : Int) (A1 : Option Addr) (c1 : Nat) (l1 : List (S34)) (a2 : Int) (r : Bool) (w : World) (hE : EnvW w) (hr1 : Kd.C k34 w A1 l1.length l1) (hc1 : l1.length ≤ c1) (h : nunciolaw11_TablePlays.f k a0 l1 a2 = some r) (hT : r = true) :
  Calls Tryd.prog 3 #[.int .i64 a0, .slice A1 l1.length c1, .int .i64 a2] w fun e w' => e = .returned (.bool r) ∧ Below w.heap.size w w' := by
 have hu29 := Tryd.underlying29
 have hu34 := Tryd.underlying34
 have hu38 := Tryd.underlying38
 have HR1 := Aside0.mk hr1
 have HC1 := Aside0.mk hc1
 clear hr1 hc1
 have HB := Aside0.mk (Below.refl w.heap.size w)
 have HEnv := Aside0.mk hE
 clear hE
 have HT := Aside0.mk hT
 clear hT
 have H : ((nunciolaw11_awake.f).bind fun t201 => (if t201 = true then ((nunciolaw11_Few.f k l1).bind fun t202 => (if t202 = true then (nunciolaw11_TablePlays.j0 k a0 l1 a2 (decide ((l1.length : Int) > 100))) else (nunciolaw11_TablePlays.j0 k a0 l1 a2 true))) else (some false))) = some r := h
 clear h
 replace H := Option.bind_eq_some_iff.mp H
 obtain ⟨t201, A40, H⟩ := H
 replace H : (if t201 = true then ((nunciolaw11_Few.f k l1).bind fun t202 => (if t202 = true then (nunciolaw11_TablePlays.j0 k a0 l1 a2 (decide ((l1.length : Int) > 100))) else (nunciolaw11_TablePlays.j0 k a0 l1 a2 true))) else (some false)) = some r := H
 have A4 := Aside0.mk A40
 clear A40
 by_cases c5 : t201 = true
 ·
  subst c5
  have H1 : ((nunciolaw11_Few.f k l1).bind fun t202 => (if t202 = true then (nunciolaw11_TablePlays.j0 k a0 l1 a2 (decide ((l1.length : Int) > 100))) else (nunciolaw11_TablePlays.j0 k a0 l1 a2 true))) = some r := by rw [if_pos rfl] at H; exact H
  clear H
  have H := H1
  clear H1
  have HC6 := Aside0.mk H
  clear H
  go_enter Tryd.func3, Tryd.ntmps3
  go_upto_region 3 with (first | ((with_reducible refine gate_callee (f := 8) rfl ?_); refine goesL_ (some 15) rfl rfl Tryd.func8 (by kernel_rfl) rfl #[] rfl (by (try simp only [List.map_toArray, List.map_cons, List.map_nil]); first | done | rfl | (simp only [List.length_drop, List.length_take]; rfl)) ?_; (with_reducible refine (nunciolaw11_awake.calls  true _ ?side1 A4.out).mono ?_); (case side1 => exact EnvW.below HEnv.out rfl (by repeat (first | (with_reducible first | exact HB.out | apply below_alloc | apply pw_below_drewN | apply below_drew1) | exact HB.out))); rintro e w7 ⟨rfl, hb⟩; refine ⟨_, rfl, ?_⟩; have n0_ := Aside0.mk (below_step (by repeat (first | (with_reducible first | exact HB.out | apply below_alloc | apply pw_below_drewN | apply below_drew1) | exact HB.out)) hb); clear HB; have HB := n0_; clear n0_; (try clear hb); (try clear hb2); (try clear hk); (try clear hi)))
  (try simp only [Act.put, List.setIfInBounds_toArray, List.set_cons_zero, List.set_cons_succ])
  go_cut [24] (fun v24 wc => ∃ (kq : Nat) (x24_5 : Bool), v24 = .bool x24_5 ∧ Aside0 (nunciolaw11_TablePlays.j0 kq a0 l1 a2 x24_5 = some r) ∧ Aside0 (kq ≤ k) ∧ Aside0 (Below w.heap.size w wc))
  case first =>
   have H := HC6.out
   clear HC6
   replace H := Option.bind_eq_some_iff.mp H
   obtain ⟨t202, A80, H⟩ := H
   replace H : (if t202 = true then (nunciolaw11_TablePlays.j0 k a0 l1 a2 (decide ((l1.length : Int) > 100))) else (nunciolaw11_TablePlays.j0 k a0 l1 a2 true)) = some r := H
   have A8 := Aside0.mk A80
   clear A80
   by_cases c9 : t202 = true
   ·
    subst c9
    have H1 : (nunciolaw11_TablePlays.j0 k a0 l1 a2 (decide ((l1.length : Int) > 100))) = some r := by rw [if_pos rfl] at H; exact H
    clear H
    have H := H1
    clear H1
    have H' := Aside0.mk H
    clear H
    go_wp2_with (first | ((with_reducible refine gate_callee (f := 9) rfl ?_); refine goesL_ (some 18) rfl rfl Tryd.func9 (by kernel_rfl) rfl #[.slice A1 l1.length c1] rfl (by (try simp only [List.map_toArray, List.map_cons, List.map_nil]); first | done | rfl | (simp only [List.length_drop, List.length_take]; rfl)) ?_; (with_reducible refine (nunciolaw11_Few.calls k _ _ l1 true _ ?side1 ?side2 A8.out).mono ?_); (case side1 => repeat (first | exact (Kd.C_below HR1.out HB.out) | (with_reducible refine Kd.C_alloc ?_ _) | (with_reducible refine Kd.C_drewN ?_ _) | (with_reducible refine Kd.C_drew ?_))); (case side2 => exact HC1.out); rintro e w10 ⟨rfl, hb⟩; refine ⟨_, rfl, ?_⟩; have n0_ := Aside0.mk (below_step (by repeat (first | (with_reducible first | exact HB.out | apply below_alloc | apply pw_below_drewN | apply below_drew1) | exact HB.out)) hb); clear HB; have HB := n0_; clear n0_; (try clear hb); (try clear hb2); (try clear hk); (try clear hi)))
    go_meet
    case rel => exact ⟨_, (decide ((l1.length : Int) > 100)), (by first | rfl | (simp; done) | (simp [*]; done)), H', ⟨by first | omega | exact Nat.le_refl _⟩, ⟨by repeat (first | (with_reducible first | exact HB.out | apply below_alloc | apply pw_below_drewN | apply below_drew1) | exact HB.out)⟩⟩
   ·
    replace c9 := Bool.eq_false_iff.mpr c9
    subst c9
    have H1 : (nunciolaw11_TablePlays.j0 k a0 l1 a2 true) = some r := by rw [if_neg (show ¬ (false = true) by decide)] at H; exact H
    clear H
    have H := H1
    clear H1
    have H' := Aside0.mk H
    clear H
    go_wp2_with (first | ((with_reducible refine gate_callee (f := 9) rfl ?_); refine goesL_ (some 18) rfl rfl Tryd.func9 (by kernel_rfl) rfl #[.slice A1 l1.length c1] rfl (by (try simp only [List.map_toArray, List.map_cons, List.map_nil]); first | done | rfl | (simp only [List.length_drop, List.length_take]; rfl)) ?_; (with_reducible refine (nunciolaw11_Few.calls k _ _ l1 false _ ?side1 ?side2 A8.out).mono ?_); (case side1 => repeat (first | exact (Kd.C_below HR1.out HB.out) | (with_reducible refine Kd.C_alloc ?_ _) | (with_reducible refine Kd.C_drewN ?_ _) | (with_reducible refine Kd.C_drew ?_))); (case side2 => exact HC1.out); rintro e w11 ⟨rfl, hb⟩; refine ⟨_, rfl, ?_⟩; have n0_ := Aside0.mk (below_step (by repeat (first | (with_reducible first | exact HB.out | apply below_alloc | apply pw_below_drewN | apply below_drew1) | exact HB.out)) hb); clear HB; have HB := n0_; clear n0_; (try clear hb); (try clear hb2); (try clear hk); (try clear hi)))
    go_meet
    case rel => exact ⟨_, (true), (by first | rfl | (simp; done) | (simp [*]; done)), H', ⟨by first | omega | exact Nat.le_refl _⟩, ⟨by repeat (first | (with_reducible first | exact HB.out | apply below_alloc | apply pw_below_drewN | apply below_drew1) | exact HB.out)⟩⟩
  case rest =>
   clear HC6
   try clear c1
   try clear p2
   try clear c3
   try clear c5
   try clear c8
   try clear c9
   obtain ⟨kq, x24_5, rfl, HA, HJ5, HB⟩ := hcut
   cases kq with
   | zero => exact absurd HA.out (by simp [nunciolaw11_TablePlays.j0])
   | succ kj5 =>
    have H := HA.out
    clear HA
    simp only [nunciolaw11_TablePlays.j0] at H
    by_cases c12 : x24_5 = true
    ·
     subst c12
     have H1 : (some true) = some r := by rw [if_pos rfl] at H; exact H
     clear H
     have H := H1
     clear H1
     obtain rfl := Option.some.inj H
     go_wp2
     go_ret
     exact ⟨by first | rfl | (simp [errW_none, errW_some] <;> rfl) | (simp [*, errW_none, errW_some] <;> rfl), by repeat (first | (with_reducible first | exact HB.out | apply below_alloc | apply pw_below_drewN | apply below_drew1) | exact HB.out)⟩
    ·
     replace c12 := Bool.eq_false_iff.mpr c12
     subst c12
     have H1 : ((table_New.f a0).bind fun t203 => ((nuncioref11_New.f a0).bind fun bt205 => ((nunciolaw11_same.f kj5 t203 bt205.1 bt205.2).bind fun bt210 => (if bt210.1 = true then (nunciolaw11_TablePlays.l0 kj5 l1 a2 0 bt210.2 bt205.1 bt205.2) else (some false))))) = some r := by rw [if_neg (show ¬ (false = true) by decide)] at H; exact H
     clear H
     have H := H1
     clear H1
     replace H := Option.bind_eq_some_iff.mp H
     obtain ⟨t203, A130, H⟩ := H
     replace H : ((nuncioref11_New.f a0).bind fun bt205 => ((nunciolaw11_same.f kj5 t203 bt205.1 bt205.2).bind fun bt210 => (if bt210.1 = true then (nunciolaw11_TablePlays.l0 kj5 l1 a2 0 bt210.2 bt205.1 bt205.2) else (some false)))) = some r := H
     have A13 := Aside0.mk A130
     clear A130
     replace H := Option.bind_eq_some_iff.mp H
     obtain ⟨⟨t205, t206⟩, A140, H⟩ := H
     replace H : ((nunciolaw11_same.f kj5 t203 t205 t206).bind fun bt210 => (if bt210.1 = true then (nunciolaw11_TablePlays.l0 kj5 l1 a2 0 bt210.2 t205 t206) else (some false))) = some r := H
     have A14 := Aside0.mk A140
     clear A140
     replace H := Option.bind_eq_some_iff.mp H
     obtain ⟨⟨t210, t211⟩, A150, H⟩ := H
     replace H : (if t210 = true then (nunciolaw11_TablePlays.l0 kj5 l1 a2 0 t211 t205 t206) else (some false)) = some r := H
     have A15 := Aside0.mk A150
     clear A150
     by_cases c16 : t210 = true
     ·
      subst c16
      have H1 : (nunciolaw11_TablePlays.l0 kj5 l1 a2 0 t211 t205 t206) = some r := by rw [if_pos rfl] at H; exact H
      clear H
      have H := H1
      clear H1
      have H' := Aside0.mk H
      clear H
      go_wp2_with (first | ((with_reducible refine gate_callee (f := 10) rfl ?_); refine goesL_ (some 26) rfl rfl Tryd.func10 (by kernel_rfl) rfl #[.int .i64 a0] rfl (by (try simp only [List.map_toArray, List.map_cons, List.map_nil]); first | done | rfl | (simp only [List.length_drop, List.length_take]; rfl)) ?_; (with_reducible refine (table_New.calls a0 t203 w _ ?side1 ?side2 A13.out).mono ?_); (case side1 => repeat (first | (with_reducible first | exact HB.out | apply below_alloc | apply pw_below_drewN | apply below_drew1) | exact HB.out)); (case side2 => exact EnvW.below HEnv.out rfl (by repeat (first | (with_reducible first | exact HB.out | apply below_alloc | apply pw_below_drewN | apply below_drew1) | exact HB.out))); rintro e w17 ⟨g204, rfl, hi, hb, hb2⟩; refine ⟨_, rfl, ?_⟩; have n0_ := Aside0.mk (hb); have n1_ := Aside0.mk (hi); clear HB; have HB := n0_; have HI204 := n1_; clear n0_ n1_; (try clear hb); (try clear hb2); (try clear hk); (try clear hi)) | ((with_reducible refine gate_callee (f := 11) rfl ?_); refine goesL_ (some 28) rfl rfl Tryd.func11 (by kernel_rfl) rfl #[.int .i64 a0] rfl (by (try simp only [List.map_toArray, List.map_cons, List.map_nil]); first | done | rfl | (simp only [List.length_drop, List.length_take]; rfl)) ?_; (with_reducible refine (nuncioref11_New.calls a0 t205 t206 _ A14.out).mono ?_); rintro e w18 ⟨v207, rfl, ho0, hb⟩; refine ⟨_, rfl, ?_⟩; have n0_ := Aside0.mk (Kd.R_lower ho0 (below_size (by repeat (first | (with_reducible first | exact HB.out | apply below_alloc | apply pw_below_drewN | apply below_drew1 | refine below_set ?_ (IsS57.ge HI204.out)) | exact HB.out)))); have n1_ := Aside0.mk (IsS57.below (by repeat (first | (with_reducible first | exact HI204.out | apply IsS57.alloc | apply IsS57.drewN | apply IsS57.drew) | exact HI204.out)) hb); have n2_ := Aside0.mk (below_step (by repeat (first | (with_reducible first | exact HB.out | apply below_alloc | apply pw_below_drewN | apply below_drew1 | refine below_set ?_ (IsS57.ge HI204.out)) | exact HB.out)) hb); clear HI204; clear HB; have HO208 := n0_; have HI204 := n1_; have HB := n2_; clear n0_ n1_ n2_; (try clear hb); (try clear hb2); (try clear hk); (try clear hi); (try clear ho0)) | ((with_reducible refine gate_dst (N := 8) rfl ?_); (try (refine gate_guard (by rfl) ?_; dsimp only)); refine box_event ?hg (N := 8) ?hd (cs := #[.int .i64 0, .slice none 0 0]) (t := 29) ?hr ?_; (case hd => rfl); (case hg => rfl); (case hr => first | (go_simp; done) | (go_simp; rfl)); intro gb209 hg w19 hbox hb; have n0_ := Aside0.mk (Kd.R_below (by (with_reducible repeat (first | apply Kd.R_alloc | apply Kd.R_drewN | apply Kd.R_drew)); exact HO208.out) hb); have n1_ := Aside0.mk (IsS57.below (by repeat (first | (with_reducible first | exact HI204.out | apply IsS57.alloc | apply IsS57.drewN | apply IsS57.drew) | exact HI204.out)) hb); have n2_ := Aside0.mk (below_step (by repeat (first | (with_reducible first | exact HB.out | apply below_alloc | apply pw_below_drewN | apply below_drew1 | refine below_set ?_ (IsS57.ge HI204.out)) | exact HB.out)) hb); have n3_ := Aside0.mk (hbox); have n4_ := Aside0.mk ((by rw [hg]; exact (below_size (by repeat (first | (with_reducible first | exact HB.out | apply below_alloc | apply pw_below_drewN | apply below_drew1 | refine below_set ?_ (IsS57.ge HI204.out)) | exact HB.out))) : w.heap.size ≤ gb209)); have n5_ := Aside0.mk ((by rw [hg]; exact (below_size (by repeat (first | (with_reducible first | exact HB.out | apply below_alloc | apply pw_below_drewN | apply below_drew1 | refine below_set ?_ (IsS57.ge HI204.out)) | exact HB.out))) : w.heap.size ≤ gb209)); have n6_ := Aside0.mk ((by rw [hg]; exact Nat.ne_of_lt (IsS57.lt (show IsS57 w _ g204 t203 from by repeat (first | (with_reducible first | exact HI204.out | apply IsS57.alloc | apply IsS57.drewN | apply IsS57.drew) | exact HI204.out))) : g204 ≠ gb209)); have n7_ := Aside0.mk ((by rw [hg]; exact Nat.ne_of_gt (IsS57.lt (show IsS57 w _ g204 t203 from by repeat (first | (with_reducible first | exact HI204.out | apply IsS57.alloc | apply IsS57.drewN | apply IsS57.drew) | exact HI204.out))) : gb209 ≠ g204)); clear HO208; clear HI204; clear HB; have HO208 := n0_; have HI204 := n1_; have HB := n2_; have BK209 := n3_; have GW209 := n4_; have GE209 := n5_; have NB204_209 := n6_; have NB209_204 := n7_; clear n0_ n1_ n2_ n3_ n4_ n5_ n6_ n7_; clear hb hbox hg; have hnb20 := NB209_204.out; have hnc20 := NB204_209.out; have hcz21_0 : w19.cell? ⟨gb209, 0, none⟩ = some (.int .i64 0) := (blk_cell BK209.out 0).trans rfl; have hcz21_1 : w19.cell? ⟨gb209, 1, none⟩ = some (.slice none 0 0) := (blk_cell BK209.out 1).trans rfl; have hfz21_0 := blk_frozen BK209.out 0; have hfz21_1 := blk_frozen BK209.out 1; obtain ⟨Ao22, co22, eo22⟩ := Kd.R_slice HO208.out; subst eo22) | (go_at_call 12; (with_reducible refine (nunciolaw11_same.calls kj5 g204 t203 t205 _ _ t206 true t211 w _ ?side1 ?side2 ?side3 ?side4 A15.out).mono ?_); (case side1 => repeat (first | (with_reducible first | exact HI204.out | apply IsS57.alloc | apply IsS57.drewN | apply IsS57.drew | refine IsS57.farT ?_ (by repeat (first | exact TyOf.mk BK209.out | apply TyOf.alloc | apply TyOf.drewN | apply TyOf.drew | apply TyOf.set)) (by decide) _) | exact HI204.out)); (case side2 => repeat (first | (with_reducible first | exact HB.out | apply below_alloc | apply pw_below_drewN | apply below_drew1 | refine below_set ?_ (IsS57.ge HI204.out) | refine below_set ?_ GE209.out) | exact HB.out)); (case side3 => exact Kd.C_foot_own (IsS57.apart (show IsS57 w _ g204 t203 from by repeat (first | (with_reducible first | exact HI204.out | apply IsS57.alloc | apply IsS57.drewN | apply IsS57.drew | refine IsS57.farT ?_ (by repeat (first | exact TyOf.mk BK209.out | apply TyOf.alloc | apply TyOf.drewN | apply TyOf.drew | apply TyOf.set)) (by decide) _) | exact HI204.out)) (by (with_reducible repeat (first | apply Kd.R_alloc | apply Kd.R_drewN | apply Kd.R_drew)); exact (Kd.R_mono (Kd.R_far (p := ⟨gb209, 1, none⟩) (Kd.R_far (p := ⟨gb209, 0, none⟩) (Kd.R_types HO208.out BK209.out (by decide)) (fun _ hk => hk.2) (.int .i64 t205)) (fun _ hk => hk.2) (.slice Ao22 t206.length co22)) (fun _ h_ => h_.1))) (by decide)) (fun _ h_ => h_.2)); (case side4 => exact (Kd.R_reads' HO208.out).2.1); rintro e w23 ⟨rfl, hi, hb, hk⟩; have n0_ := Aside0.mk (Kd.R_mono (Kd.R_keep (IsS57.apart (show IsS57 w _ g204 t203 from by repeat (first | (with_reducible first | exact HI204.out | apply IsS57.alloc | apply IsS57.drewN | apply IsS57.drew | refine IsS57.farT ?_ (by repeat (first | exact TyOf.mk BK209.out | apply TyOf.alloc | apply TyOf.drewN | apply TyOf.drew | apply TyOf.set)) (by decide) _) | exact HI204.out)) (by (with_reducible repeat (first | apply Kd.R_alloc | apply Kd.R_drewN | apply Kd.R_drew)); exact (Kd.R_mono (Kd.R_far (p := ⟨gb209, 1, none⟩) (Kd.R_far (p := ⟨gb209, 0, none⟩) (Kd.R_types HO208.out BK209.out (by decide)) (fun _ hk => hk.2) (.int .i64 t205)) (fun _ hk => hk.2) (.slice Ao22 t206.length co22)) (fun _ h_ => h_.1))) (by decide)) hk (fun _ h => h.2)) (fun _ h => h.1)); have n1_ := Aside0.mk (KeepBut.blk hk (g' := gb209) (o := .cells #[.int .i64 t205, .slice Ao22 t206.length co22] 29 (0, 0)) (by (with_reducible repeat (first | refine blk_drewN ?_ _ | refine blk_drew ?_ | refine blk_alloc ?_ _)); refine blk_put (cs := #[.int .i64 t205, .slice none 0 0]) ?_ 1 _ rfl; (with_reducible repeat (first | refine blk_drewN ?_ _ | refine blk_drew ?_ | refine blk_alloc ?_ _)); refine blk_put (cs := #[.int .i64 0, .slice none 0 0]) ?_ 0 _ rfl; (with_reducible repeat (first | refine blk_drewN ?_ _ | refine blk_drew ?_ | refine blk_alloc ?_ _)); exact BK209.out) NB209_204.out (by simp)); have n2_ := Aside0.mk (hb); have n3_ := Aside0.mk (hi); clear HO208; clear BK209; clear HB; clear HI204; have HO208 := n0_; have BK209 := n1_; have HB := n2_; have HI204 := n3_; clear n0_ n1_ n2_ n3_; (try clear hb); (try clear hb2); (try clear hk); (try clear hi)))
      go_loopg [9] kj5 (fun kq v9 w' => ∃ (x9_2 : Int) (x205000_2 : TB) (x210000_2 : Int) (x210001_2 : List (S38)) (u210001 : Value), v9 = .int .i64 x9_2 ∧ Aside0 (nunciolaw11_TablePlays.l0 kq l1 a2 x9_2 x205000_2 x210000_2 x210001_2 = some r) ∧ Aside0 (kq ≤ kj5) ∧ Aside0 (Kd.R k38 38 w' w.heap.size (fun _ => True) u210001 x210001_2) ∧ Aside0 (w'.heap[gb209]? = some (.cells #[.int .i64 x210000_2, u210001] 29 (0, 0))) ∧ Aside0 (IsS57 w w' g204 x205000_2) ∧ Aside0 (Below w.heap.size w w'))
      case atStart => exact ⟨(0), (t211), (t205), (t206), (.slice Ao22 t206.length co22), (by first | rfl | (simp; done) | (simp [*]; done)), H', ⟨Nat.le_refl _⟩, ⟨by (with_reducible repeat (first | apply Kd.R_alloc | apply Kd.R_drewN | apply Kd.R_drew)); exact HO208.out⟩, ⟨by (with_reducible repeat (first | refine blk_drewN ?_ _ | refine blk_drew ?_ | refine blk_alloc ?_ _)); exact BK209.out⟩, ⟨by repeat (first | (with_reducible first | exact HI204.out | apply IsS57.alloc | apply IsS57.drewN | apply IsS57.drew | refine IsS57.farT ?_ (by repeat (first | exact TyOf.mk BK209.out | apply TyOf.alloc | apply TyOf.drewN | apply TyOf.drew | apply TyOf.set)) (by decide) _) | exact HI204.out)⟩, ⟨by repeat (first | (with_reducible first | exact HB.out | apply below_alloc | apply pw_below_drewN | apply below_drew1 | refine below_set ?_ (IsS57.ge HI204.out) | refine below_set ?_ GE209.out) | exact HB.out)⟩⟩
      case round =>
       clear H'
       try clear c1
       try clear c2
       try clear p2
       try clear c3
       try clear c5
       try clear c8
       try clear c9
       try clear c10
       try clear c11
       try clear c12
       try clear c16
       try clear c20
       try clear hcz21_0
       try clear hcz21_1
       try clear hfz21_0
       try clear hfz21_1
       try clear p2
       obtain ⟨x9_2, x205000_2, x210000_2, x210001_2, u210001, rfl, HA, HK2, HO_210001, BK209, HI204, HB⟩ := hrel
       cases gk with
       | zero => exact absurd HA.out (by simp [nunciolaw11_TablePlays.l0])
       | succ k2 =>
        have H := HA.out
        clear HA
        simp only [nunciolaw11_TablePlays.l0] at H
        by_cases c24 : x9_2 < (l1.length : Int)
        ·
         rw [if_pos c24] at H
         have c24b0 : decide (x9_2 < (l1.length : Int)) = true := decide_eq_true c24
         clear c24
         by_cases c25 : 0 ≤ x9_2
         ·
          rw [if_pos c25] at H
          have c25b0 : decide (0 ≤ x9_2) = true := decide_eq_true c25
          clear c25
          replace H := Option.bind_eq_some_iff.mp H
          obtain ⟨⟨t221, t222, t225⟩, A260, H⟩ := H
          replace H : ((nunciolaw11_same.f k2 t225 t221 t222).bind fun bt226 => (if bt226.1 = true then (nunciolaw11_TablePlays.l0 k2 l1 a2 (wrap64 (x9_2 + 1)) bt226.2 t221 t222) else (some false))) = some r := H
          have A26 := Aside0.mk A260
          clear A260
          replace H := Option.bind_eq_some_iff.mp H
          obtain ⟨⟨t226, t227⟩, A270, H⟩ := H
          replace H : (if t226 = true then (nunciolaw11_TablePlays.l0 k2 l1 a2 (wrap64 (x9_2 + 1)) t227 t221 t222) else (some false)) = some r := H
          have A27 := Aside0.mk A270
          clear A270
          by_cases c28 : t226 = true
          ·
           subst c28
           have H1 : (nunciolaw11_TablePlays.l0 k2 l1 a2 (wrap64 (x9_2 + 1)) t227 t221 t222) = some r := by rw [if_pos rfl] at H; exact H
           clear H
           have H := H1
           clear H1
           have H' := Aside0.mk H
           clear H
           try go_wp2
           have n0_ := Aside0.mk (Kd.R_drew HO_210001.out)
           have n1_ := Aside0.mk (blk_drew BK209.out)
           have n2_ := Aside0.mk (IsS57.drew HI204.out)
           have n3_ := Aside0.mk (below_drew1 HB.out)
           clear HO_210001
           clear BK209
           clear HI204
           clear HB
           have HO_210001 := n0_
           have BK209 := n1_
           have HI204 := n2_
           have HB := n3_
           clear n0_ n1_ n2_ n3_
           have p220 : 0 ≤ (x9_2 : Int) := of_decide_eq_true (by first | (with_reducible assumption) | assumption)
           have q220 : x9_2 < (l1.length : Int) := of_decide_eq_true (by first | (with_reducible assumption) | assumption)
           obtain ⟨ad220, e220, hx220_0, hx220_1, hx220_2⟩ := at_T34 HR1.out x9_2 p220 q220
           have hw220_2 := hx220_2
           have hw220_1 := hx220_1
           have hw220_0 := hx220_0
           cases e220
           replace hx220_0 := (HB.out.cell (World.block_lt_of_cell? w _ hx220_0)).trans hx220_0
           replace hx220_1 := (HB.out.cell (World.block_lt_of_cell? w _ hx220_1)).trans hx220_1
           replace hx220_2 := (HB.out.cell (World.block_lt_of_cell? w _ hx220_2)).trans hx220_2
           replace p220 := eq_true p220
           replace q220 := eq_true q220
           obtain ⟨Ao30, co30, eo30⟩ := Kd.R_slice HO_210001.out
           (first | subst eo30 | (injection eo30 with f1_ f2_ f3_; have f4_ := f1_.symm; have f5_ := f3_.symm; clear f1_ f2_ f3_; subst f4_; subst f5_))
           refine start_ (n := 8) (S := fun w' => w'.cell? ⟨gb209, 0, none⟩ = some (.int .i64 x210000_2) ∧ w'.cell? ⟨gb209, 1, none⟩ = some (.slice Ao30 x210001_2.length co30) ∧ w'.cell? (ad220.add ((x9_2).toNat * 3)) = some (.string ((rd_T34 l1 x9_2).f0)) ∧ w'.cell? ⟨(ad220.add ((x9_2).toNat * 3)).block, (ad220.add ((x9_2).toNat * 3)).off + 1, none⟩ = some (.string ((rd_T34 l1 x9_2).f1)) ∧ w'.cell? ⟨(ad220.add ((x9_2).toNat * 3)).block, (ad220.add ((x9_2).toNat * 3)).off + 2, none⟩ = some (.int .i64 ((rd_T34 l1 x9_2).f2))) (ds := [7]) #[false, false, false, false, false, false, false, false] (by kernel_rfl) rfl rfl ⟨(blk_cell BK209.out 0).trans rfl, (blk_cell BK209.out 1).trans rfl, ((HB.out.cell (World.block_lt_of_cell? w _ hw220_0)).trans hw220_0), ((HB.out.cell (World.block_lt_of_cell? w _ hw220_1)).trans hw220_1), ((HB.out.cell (World.block_lt_of_cell? w _ hw220_2)).trans hw220_2)⟩ (fun hHeld => ?_); refine with_tabW nunciolaw11_TablePlays.tab12 nunciolaw11_TablePlays.bits12 (fun HT_ HW_ => ?_)
           generalize wr.drew = w29 at HO_210001 BK209 HI204 HB hx220_0 hx220_1 hx220_2 hHeld ⊢
           refine pure_ (i := 0) (N := some 43) (v := ?_) (a' := ?_) #[true, false, false, false, false, false, false, false] rfl rfl (any_of HT_.out (by kernel_rfl)) (fun _ _ _ h => h) (Or.inl ⟨by rfl, ?_⟩) ?_ ?_
           rotate_left
           ·
            intro w'
            go_simp
            with_reducible rfl
           rotate_left
           ·
            simp only [Act.put, List.setIfInBounds_toArray, List.set_cons_zero, List.set_cons_succ, i64_w, i32_w]
            rfl
           refine pure_ (i := 2) (N := some 45) (v := ?_) (a' := ?_) #[true, false, true, false, false, false, false, false] rfl rfl (any_of HT_.out (by kernel_rfl)) (fun _ _ _ h => h) (Or.inl ⟨by rfl, ?_⟩) ?_ ?_
           rotate_left
           ·
            intro w'
            go_simp
            with_reducible rfl
           rotate_left
           ·
            simp only [Act.put, List.setIfInBounds_toArray, List.set_cons_zero, List.set_cons_succ, i64_w, i32_w]
            rfl
           refine pure_ (i := 3) (N := some 46) (v := ?_) (a' := ?_) #[true, false, true, true, false, false, false, false] rfl rfl (any_of HT_.out (by kernel_rfl)) (fun _ _ _ h => h) (Or.inl ⟨by rfl, ?_⟩) ?_ ?_
           rotate_left
           ·
            intro w'
            go_simp
            with_reducible rfl
           rotate_left
           ·
            simp only [Act.put, List.setIfInBounds_toArray, List.set_cons_zero, List.set_cons_succ, i64_w, i32_w]
            rfl
           refine pure_ (i := 4) (N := some 47) (v := ?_) (a' := ?_) #[true, false, true, true, true, false, false, false] rfl rfl (any_of HT_.out (by kernel_rfl)) (fun _ _ _ h => h) (Or.inl ⟨by rfl, ?_⟩) ?_ ?_
           rotate_left
           ·
            intro w'
            go_simp
            with_reducible rfl
           rotate_left
           ·
            simp only [Act.put, List.setIfInBounds_toArray, List.set_cons_zero, List.set_cons_succ, i64_w, i32_w]
            rfl
           refine take_ (i := 1) (N := some 44) (v := ?_) (a' := ?_) #[true, true, true, true, true, false, false, false] rfl rfl (take_ofW HT_.out HW_.out (by kernel_rfl)) (fun _ _ _ h => h) (Or.inl ⟨by rfl, ?_⟩) hHeld ?_ ?_
           rotate_left
           ·
            rintro w' ⟨s0, s1, s2, s3, s4⟩
            go_simp
            with_reducible rfl
           rotate_left
           ·
            simp only [Act.put, List.setIfInBounds_toArray, List.set_cons_zero, List.set_cons_succ, i64_w, i32_w]
            rfl
           refine take_ (i := 5) (N := some 48) (v := ?_) (a' := ?_) #[true, true, true, true, true, true, false, false] rfl rfl (take_ofW HT_.out HW_.out (by kernel_rfl)) (fun _ _ _ h => h) (Or.inl ⟨by rfl, ?_⟩) hHeld ?_ ?_
           rotate_left
           ·
            rintro w' ⟨s0, s1, s2, s3, s4⟩
            go_simp
            with_reducible rfl
           rotate_left
           ·
            simp only [Act.put, List.setIfInBounds_toArray, List.set_cons_zero, List.set_cons_succ, i64_w, i32_w]
            rfl
           refine one_ (i := 6) (N := some 49) #[true, true, true, true, true, true, true, false] rfl rfl (one_of HT_.out (by kernel_rfl)) (by decide) (fun K hK => ?_)
           refine goes_ Tryd.func13 (by kernel_rfl) rfl #[.pointer (some ⟨g204, 0, none⟩), .agg #[.int .i64 x210000_2, .slice Ao30 x210001_2.length co30], .agg #[.string ((rd_T34 l1 x9_2).f0), .string ((rd_T34 l1 x9_2).f1), .int .i64 ((rd_T34 l1 x9_2).f2)]] (by rfl) rfl rfl (by (try simp only [List.map_toArray, List.map_cons, List.map_nil]); first | done | rfl | (simp only [List.length_drop, List.length_take]; rfl)) ?_
           with_reducible refine (nunciolaw11_play.calls k2 g204 x205000_2 x210000_2 _ _ x210001_2 ((rd_T34 l1 x9_2).f0) ((rd_T34 l1 x9_2).f1) ((rd_T34 l1 x9_2).f2) t221 t222 t225 w _ ?side1 ?side2 ?side3 ?side4 A26.out).mono ?_
           (case side1 => repeat (first | (with_reducible first | exact HI204.out | apply IsS57.alloc | apply IsS57.drewN | apply IsS57.drew | refine IsS57.farT ?_ (by repeat (first | exact TyOf.mk BK209.out | apply TyOf.alloc | apply TyOf.drewN | apply TyOf.drew | apply TyOf.set)) (by decide) _) | exact HI204.out))
           (case side2 => repeat (first | (with_reducible first | exact HB.out | apply below_alloc | apply pw_below_drewN | apply below_drew1 | refine below_set ?_ (IsS57.ge HI204.out) | refine below_set ?_ GE209.out) | exact HB.out))
           (case side3 => exact Kd.C_foot_own (IsS57.apart (show IsS57 w _ g204 x205000_2 from by repeat (first | (with_reducible first | exact HI204.out | apply IsS57.alloc | apply IsS57.drewN | apply IsS57.drew | refine IsS57.farT ?_ (by repeat (first | exact TyOf.mk BK209.out | apply TyOf.alloc | apply TyOf.drewN | apply TyOf.drew | apply TyOf.set)) (by decide) _) | exact HI204.out)) (by (with_reducible repeat (first | apply Kd.R_alloc | apply Kd.R_drewN | apply Kd.R_drew)); exact HO_210001.out) (by decide)) (fun _ h_ => h_.2))
           (case side4 => exact (Kd.R_reads' HO_210001.out).2.1)
           rintro e w31 ⟨v223, rfl, ho0, hi, hb, hk⟩
           refine ⟨_, rfl, ?_⟩
           have n0_ := Aside0.mk (Kd.R_mono (Kd.R_told (Kd.R_oldK (IsS57.apart (show IsS57 w _ g204 x205000_2 from by repeat (first | (with_reducible first | exact HI204.out | apply IsS57.alloc | apply IsS57.drewN | apply IsS57.drew | refine IsS57.farT ?_ (by repeat (first | exact TyOf.mk BK209.out | apply TyOf.alloc | apply TyOf.drewN | apply TyOf.drew | apply TyOf.set)) (by decide) _) | exact HI204.out)) (by (with_reducible repeat (first | apply Kd.R_alloc | apply Kd.R_drewN | apply Kd.R_drew)); exact HO_210001.out) (by decide)) hk) (Kd.R_base ho0)) (fun _ h_ => h_.1))
           have n1_ := Aside0.mk (KeepBut.blk hk (g' := gb209) (o := .cells #[.int .i64 x210000_2, .slice Ao30 x210001_2.length co30] 29 (0, 0)) (by (with_reducible repeat (first | refine blk_drewN ?_ _ | refine blk_drew ?_ | refine blk_alloc ?_ _)); exact BK209.out) NB209_204.out (by simp))
           have n2_ := Aside0.mk (Kd.R_lower (Kd.R_new' ho0 (Kd.R_lt (by (with_reducible repeat (first | apply Kd.R_alloc | apply Kd.R_drewN | apply Kd.R_drew)); exact HO_210001.out))) (below_size (by repeat (first | (with_reducible first | exact HB.out | apply below_alloc | apply pw_below_drewN | apply below_drew1 | refine below_set ?_ (IsS57.ge HI204.out) | refine below_set ?_ GE209.out) | exact HB.out))))
           have n3_ := Aside0.mk (hb)
           have n4_ := Aside0.mk (hi)
           clear HO_210001
           clear BK209
           clear HB
           clear HI204
           have HO_210001 := n0_
           have BK209 := n1_
           have HO224 := n2_
           have HB := n3_
           have HI204 := n4_
           clear n0_ n1_ n2_ n3_ n4_
           (try clear hb)
           (try clear hb2)
           (try clear hk)
           (try clear hi)
           (try clear ho0)
           obtain ⟨Ao33, co33, eo33⟩ := Kd.R_slice HO224.out
           (first | subst eo33 | (injection eo33 with f1_ f2_ f3_; have f4_ := f1_.symm; have f5_ := f3_.symm; clear f1_ f2_ f3_; subst f4_; subst f5_))
           refine hK.out _ _ ⟨(blk_cell BK209.out 0).trans rfl, (blk_cell BK209.out 1).trans rfl, ((HB.out.cell (World.block_lt_of_cell? w _ hw220_0)).trans hw220_0), ((HB.out.cell (World.block_lt_of_cell? w _ hw220_1)).trans hw220_1), ((HB.out.cell (World.block_lt_of_cell? w _ hw220_2)).trans hw220_2)⟩ (fun hHeld => ?_)
           clear hK K
           refine norm_ (a' := ?_) ?_ ?_
           rotate_left
           ·
            show Act.put _ (some 49) _ = _
            simp only [Act.put, List.setIfInBounds_toArray, List.set_cons_zero, List.set_cons_succ, i64_w, i32_w]
            rfl
           refine last_ (i := 7) (N := none) #[true, true, true, true, true, true, true, true] rfl rfl (one_of HT_.out (by kernel_rfl)) (by decide) (fun K hK => ?_)
           have hs32 : w31.cell? ⟨gb209, 0, none⟩ = some (.int .i64 x210000_2) := (blk_cell BK209.out 0).trans rfl
           have hfs32 := blk_frozen BK209.out 0
           have hs34 : w31.cell? ⟨gb209, 1, none⟩ = some (.slice Ao30 x210001_2.length co30) := (blk_cell BK209.out 1).trans rfl
           have hfs34 := blk_frozen BK209.out 1
           refine skip_ (w1 := ?_) (by rfl) rfl ?_ ?_
           rotate_left
           ·
            go_simp
            rfl
           refine hK.out _ _ ?_
           clear hK K
           refine done_ (done_of HT_.out (by kernel_rfl)) ?_
           have hnb35 := NB209_204.out
           have hnc35 := NB204_209.out
           have hcz36_0 : w31.cell? ⟨gb209, 0, none⟩ = some (.int .i64 x210000_2) := (blk_cell BK209.out 0).trans rfl
           have hcz36_1 : w31.cell? ⟨gb209, 1, none⟩ = some (.slice Ao30 x210001_2.length co30) := (blk_cell BK209.out 1).trans rfl
           have hfz36_0 := blk_frozen BK209.out 0
           have hfz36_1 := blk_frozen BK209.out 1
           try go_wp2_with (first | ((with_reducible refine gate_callee (f := 12) rfl ?_); refine goesL_ (some 52) rfl rfl Tryd.func12 (by kernel_rfl) rfl #[.pointer (some ⟨g204, 0, none⟩), .agg #[.int .i64 t221, .slice Ao33 t222.length co33]] rfl (by (try simp only [List.map_toArray, List.map_cons, List.map_nil]); first | done | rfl | (simp only [List.length_drop, List.length_take]; rfl)) ?_; (with_reducible refine (nunciolaw11_same.calls k2 g204 t225 t221 _ _ t222 true t227 w _ ?side1 ?side2 ?side3 ?side4 A27.out).mono ?_); (case side1 => repeat (first | (with_reducible first | exact HI204.out | apply IsS57.alloc | apply IsS57.drewN | apply IsS57.drew | refine IsS57.farT ?_ (by repeat (first | exact TyOf.mk BK209.out | apply TyOf.alloc | apply TyOf.drewN | apply TyOf.drew | apply TyOf.set)) (by decide) _) | exact HI204.out)); (case side2 => repeat (first | (with_reducible first | exact HB.out | apply below_alloc | apply pw_below_drewN | apply below_drew1 | refine below_set ?_ (IsS57.ge HI204.out) | refine below_set ?_ GE209.out) | exact HB.out)); (case side3 => exact Kd.C_foot_own (IsS57.apart (show IsS57 w _ g204 t225 from by repeat (first | (with_reducible first | exact HI204.out | apply IsS57.alloc | apply IsS57.drewN | apply IsS57.drew | refine IsS57.farT ?_ (by repeat (first | exact TyOf.mk BK209.out | apply TyOf.alloc | apply TyOf.drewN | apply TyOf.drew | apply TyOf.set)) (by decide) _) | exact HI204.out)) (by (with_reducible repeat (first | apply Kd.R_alloc | apply Kd.R_drewN | apply Kd.R_drew)); exact (Kd.R_mono (Kd.R_far (p := ⟨gb209, 1, none⟩) (Kd.R_far (p := ⟨gb209, 0, none⟩) (Kd.R_types HO224.out BK209.out (by decide)) (fun _ hk => hk.2) (.int .i64 t221)) (fun _ hk => hk.2) (.slice Ao33 t222.length co33)) (fun _ h_ => h_.1))) (by decide)) (fun _ h_ => h_.2)); (case side4 => exact (Kd.R_reads' HO224.out).2.1); rintro e w37 ⟨rfl, hi, hb, hk⟩; refine ⟨_, rfl, ?_⟩; have n0_ := Aside0.mk (Kd.R_mono (Kd.R_keep (IsS57.apart (show IsS57 w _ g204 t225 from by repeat (first | (with_reducible first | exact HI204.out | apply IsS57.alloc | apply IsS57.drewN | apply IsS57.drew | refine IsS57.farT ?_ (by repeat (first | exact TyOf.mk BK209.out | apply TyOf.alloc | apply TyOf.drewN | apply TyOf.drew | apply TyOf.set)) (by decide) _) | exact HI204.out)) (by (with_reducible repeat (first | apply Kd.R_alloc | apply Kd.R_drewN | apply Kd.R_drew)); exact (Kd.R_mono (Kd.R_far (p := ⟨gb209, 1, none⟩) (Kd.R_far (p := ⟨gb209, 0, none⟩) (Kd.R_types HO_210001.out BK209.out (by decide)) (fun _ hk => hk.2) (.int .i64 t221)) (fun _ hk => hk.2) (.slice Ao33 t222.length co33)) (fun _ h_ => h_.1))) (by decide)) hk (fun _ h => h.2)) (fun _ h => h.1)); have n1_ := Aside0.mk (KeepBut.blk hk (g' := gb209) (o := .cells #[.int .i64 t221, .slice Ao33 t222.length co33] 29 (0, 0)) (by (with_reducible repeat (first | refine blk_drewN ?_ _ | refine blk_drew ?_ | refine blk_alloc ?_ _)); refine blk_put (cs := #[.int .i64 t221, .slice Ao30 x210001_2.length co30]) ?_ 1 _ rfl; (with_reducible repeat (first | refine blk_drewN ?_ _ | refine blk_drew ?_ | refine blk_alloc ?_ _)); refine blk_put (cs := #[.int .i64 x210000_2, .slice Ao30 x210001_2.length co30]) ?_ 0 _ rfl; (with_reducible repeat (first | refine blk_drewN ?_ _ | refine blk_drew ?_ | refine blk_alloc ?_ _)); exact BK209.out) NB209_204.out (by simp)); have n2_ := Aside0.mk (Kd.R_mono (Kd.R_keep (IsS57.apart (show IsS57 w _ g204 t225 from by repeat (first | (with_reducible first | exact HI204.out | apply IsS57.alloc | apply IsS57.drewN | apply IsS57.drew | refine IsS57.farT ?_ (by repeat (first | exact TyOf.mk BK209.out | apply TyOf.alloc | apply TyOf.drewN | apply TyOf.drew | apply TyOf.set)) (by decide) _) | exact HI204.out)) (by (with_reducible repeat (first | apply Kd.R_alloc | apply Kd.R_drewN | apply Kd.R_drew)); exact (Kd.R_mono (Kd.R_far (p := ⟨gb209, 1, none⟩) (Kd.R_far (p := ⟨gb209, 0, none⟩) (Kd.R_types HO224.out BK209.out (by decide)) (fun _ hk => hk.2) (.int .i64 t221)) (fun _ hk => hk.2) (.slice Ao33 t222.length co33)) (fun _ h_ => h_.1))) (by decide)) hk (fun _ h => h.2)) (fun _ h => h.1)); have n3_ := Aside0.mk (hb); have n4_ := Aside0.mk (hi); clear HO_210001; clear BK209; clear HO224; clear HB; clear HI204; have HO_210001 := n0_; have BK209 := n1_; have HO224 := n2_; have HB := n3_; have HI204 := n4_; clear n0_ n1_ n2_ n3_ n4_; (try clear hb); (try clear hb2); (try clear hk); (try clear hi)))
           go_roundg k2
           case measure => have := HJ5.out; have := HK2.out; omega
           case rel => exact ⟨(wrap64 (x9_2 + 1)), (t227), (t221), (t222), (.slice Ao33 t222.length co33), (by first | rfl | (simp; done) | (simp [*]; done)), H', ⟨by have := HJ5.out; have := HK2.out; omega⟩, ⟨by (with_reducible repeat (first | apply Kd.R_alloc | apply Kd.R_drewN | apply Kd.R_drew)); exact Kd.R_mono HO224.out (fun _ hk => trivial)⟩, ⟨by (with_reducible repeat (first | refine blk_drewN ?_ _ | refine blk_drew ?_ | refine blk_alloc ?_ _)); exact BK209.out⟩, ⟨by repeat (first | (with_reducible first | exact HI204.out | apply IsS57.alloc | apply IsS57.drewN | apply IsS57.drew | refine IsS57.farT ?_ (by repeat (first | exact TyOf.mk BK209.out | apply TyOf.alloc | apply TyOf.drewN | apply TyOf.drew | apply TyOf.set)) (by decide) _) | exact HI204.out)⟩, ⟨by repeat (first | (with_reducible first | exact HB.out | apply below_alloc | apply pw_below_drewN | apply below_drew1 | refine below_set ?_ (IsS57.ge HI204.out) | refine below_set ?_ GE209.out) | exact HB.out)⟩⟩
          ·
           replace c28 := Bool.eq_false_iff.mpr c28
           subst c28
           have H1 : (some false) = some r := by rw [if_neg (show ¬ (false = true) by decide)] at H; exact H
           clear H
           have H := H1
           clear H1
           exact absurd ((Option.some.inj H).trans HT.out) (by decide)
         ·
          rw [if_neg c25] at H
          exact absurd H (by simp)
        ·
         rw [if_neg c24] at H
         have c24b0 : decide (x9_2 < (l1.length : Int)) = false := decide_eq_false c24
         clear c24
         replace H := Option.bind_eq_some_iff.mp H
         obtain ⟨⟨t212, t213, t214, t215⟩, A380, H⟩ := H
         replace H : ((nuncioref11_At.f k2 x210000_2 x210001_2 a2).bind fun bt216 => (if t212.toList = bt216.1.toList then (if t213.toList = bt216.2.1.toList then (some (t214 == bt216.2.2)) else (some false)) else (some false))) = some r := H
         have A38 := Aside0.mk A380
         clear A380
         replace H := Option.bind_eq_some_iff.mp H
         obtain ⟨⟨t216, t217, t218⟩, A390, H⟩ := H
         replace H : (if t212.toList = t216.toList then (if t213.toList = t217.toList then (some (t214 == t218)) else (some false)) else (some false)) = some r := H
         have A39 := Aside0.mk A390
         clear A390
         by_cases c40 : t212.toList = t216.toList
         ·
          rw [if_pos c40] at H
          have c40b0 : (t212.toList == t216.toList) = true := beq_iff_eq.mpr c40
          have c40b1 : (t212.toList != t216.toList) = false := bne_eq_false_iff_eq.mpr c40
          clear c40
          by_cases c41 : t213.toList = t217.toList
          ·
           rw [if_pos c41] at H
           have c41b0 : (t213.toList == t217.toList) = true := beq_iff_eq.mpr c41
           have c41b1 : (t213.toList != t217.toList) = false := bne_eq_false_iff_eq.mpr c41
           clear c41
           obtain rfl := Option.some.inj H
           go_wp2_with (first | ((with_reducible refine gate_callee (f := 14) rfl ?_); refine goesL_ (some 57) rfl rfl Tryd.func14 (by kernel_rfl) rfl #[.pointer (some ⟨g204, 0, none⟩), .int .i64 a2] rfl (by (try simp only [List.map_toArray, List.map_cons, List.map_nil]); first | done | rfl | (simp only [List.length_drop, List.length_take]; rfl)) ?_; (with_reducible refine (table_Table_At.calls g204 x205000_2 a2 t212 t213 t214 t215 w _ ?side1 ?side2 A38.out).mono ?_); (case side1 => repeat (first | (with_reducible first | exact HI204.out | apply IsS57.alloc | apply IsS57.drewN | apply IsS57.drew | refine IsS57.farT ?_ (by repeat (first | exact TyOf.mk BK209.out | apply TyOf.alloc | apply TyOf.drewN | apply TyOf.drew | apply TyOf.set)) (by decide) _) | exact HI204.out)); (case side2 => repeat (first | (with_reducible first | exact HB.out | apply below_alloc | apply pw_below_drewN | apply below_drew1 | refine below_set ?_ (IsS57.ge HI204.out) | refine below_set ?_ GE209.out) | exact HB.out)); rintro e w42 ⟨rfl, hi, hb, hk⟩; refine ⟨_, rfl, ?_⟩; have n0_ := Aside0.mk (Kd.R_mono (Kd.R_keep (IsS57.apart (show IsS57 w _ g204 x205000_2 from by repeat (first | (with_reducible first | exact HI204.out | apply IsS57.alloc | apply IsS57.drewN | apply IsS57.drew | refine IsS57.farT ?_ (by repeat (first | exact TyOf.mk BK209.out | apply TyOf.alloc | apply TyOf.drewN | apply TyOf.drew | apply TyOf.set)) (by decide) _) | exact HI204.out)) (by (with_reducible repeat (first | apply Kd.R_alloc | apply Kd.R_drewN | apply Kd.R_drew)); exact HO_210001.out) (by decide)) hk (fun _ h => h.2)) (fun _ h => h.1)); have n1_ := Aside0.mk (KeepBut.blk hk (g' := gb209) (o := .cells #[.int .i64 x210000_2, u210001] 29 (0, 0)) (by (with_reducible repeat (first | refine blk_drewN ?_ _ | refine blk_drew ?_ | refine blk_alloc ?_ _)); exact BK209.out) NB209_204.out (by simp)); have n2_ := Aside0.mk (hb); have n3_ := Aside0.mk (hi); clear HO_210001; clear BK209; clear HB; clear HI204; have HO_210001 := n0_; have BK209 := n1_; have HB := n2_; have HI204 := n3_; clear n0_ n1_ n2_ n3_; (try clear hb); (try clear hb2); (try clear hk); (try clear hi); have hnb43 := NB209_204.out; have hnc43 := NB204_209.out; have hcz44_0 : w42.cell? ⟨gb209, 0, none⟩ = some (.int .i64 x210000_2) := (blk_cell BK209.out 0).trans rfl; have hcz44_1 : w42.cell? ⟨gb209, 1, none⟩ = some (u210001) := (blk_cell BK209.out 1).trans rfl; have hfz44_0 := blk_frozen BK209.out 0; have hfz44_1 := blk_frozen BK209.out 1; obtain ⟨Ao45, co45, eo45⟩ := Kd.R_slice HO_210001.out; subst eo45) | ((with_reducible refine gate_callee (f := 15) rfl ?_); refine goesL_ (some 64) rfl rfl Tryd.func15 (by kernel_rfl) rfl #[.agg #[.int .i64 x210000_2, .slice Ao45 x210001_2.length co45], .int .i64 a2] rfl (by (try simp only [List.map_toArray, List.map_cons, List.map_nil]); first | done | rfl | (simp only [List.length_drop, List.length_take]; rfl)) ?_; (with_reducible refine (nuncioref11_At.calls k2 x210000_2 _ _ x210001_2 a2 t216 t217 t218 _ ?side1 ?side2 A39.out).mono ?_); (case side1 => repeat (first | exact (Kd.R_reads' HO_210001.out).2.2 | (with_reducible refine Kd.C_alloc ?_ _) | (with_reducible refine Kd.C_drewN ?_ _) | (with_reducible refine Kd.C_drew ?_))); (case side2 => exact (Kd.R_reads' HO_210001.out).2.1); rintro e w46 ⟨rfl, hb⟩; refine ⟨_, rfl, ?_⟩; have n0_ := Aside0.mk (Kd.R_below (by (with_reducible repeat (first | apply Kd.R_alloc | apply Kd.R_drewN | apply Kd.R_drew)); exact HO_210001.out) hb); have n1_ := Aside0.mk (blk_below (g := gb209) (o := .cells #[.int .i64 x210000_2, .slice Ao45 x210001_2.length co45] 29 (0, 0)) (by (with_reducible repeat (first | refine blk_drewN ?_ _ | refine blk_drew ?_ | refine blk_alloc ?_ _)); exact BK209.out) hb); have n2_ := Aside0.mk (IsS57.below (by repeat (first | (with_reducible first | exact HI204.out | apply IsS57.alloc | apply IsS57.drewN | apply IsS57.drew | refine IsS57.farT ?_ (by repeat (first | exact TyOf.mk BK209.out | apply TyOf.alloc | apply TyOf.drewN | apply TyOf.drew | apply TyOf.set)) (by decide) _) | exact HI204.out)) hb); have n3_ := Aside0.mk (below_step (by repeat (first | (with_reducible first | exact HB.out | apply below_alloc | apply pw_below_drewN | apply below_drew1 | refine below_set ?_ (IsS57.ge HI204.out) | refine below_set ?_ GE209.out) | exact HB.out)) hb); clear HO_210001; clear BK209; clear HI204; clear HB; have HO_210001 := n0_; have BK209 := n1_; have HI204 := n2_; have HB := n3_; clear n0_ n1_ n2_ n3_; (try clear hb); (try clear hb2); (try clear hk); (try clear hi)) | ((with_reducible refine gate_dst (N := 13) rfl ?_); (try (refine gate_guard (by rfl) ?_; dsimp only)); refine box_event ?hg (N := 13) ?hd (cs := #[.string (⟨#[]⟩ : ByteArray), .string (⟨#[]⟩ : ByteArray)]) (t := 38) ?hr ?_; (case hd => rfl); (case hg => rfl); (case hr => first | (go_simp; done) | (go_simp; rfl)); intro gb219 hg w47 hbox hb; have n0_ := Aside0.mk (Kd.R_below (Kd.R_elderB (by (with_reducible repeat (first | apply Kd.R_alloc | apply Kd.R_drewN | apply Kd.R_drew)); exact HO_210001.out) gb219 (Nat.le_of_eq hg.symm)) hb); have n1_ := Aside0.mk (blk_below (g := gb209) (o := .cells #[.int .i64 x210000_2, .slice Ao45 x210001_2.length co45] 29 (0, 0)) (by (with_reducible repeat (first | refine blk_drewN ?_ _ | refine blk_drew ?_ | refine blk_alloc ?_ _)); exact BK209.out) hb); have n2_ := Aside0.mk (IsS57.below (by repeat (first | (with_reducible first | exact HI204.out | apply IsS57.alloc | apply IsS57.drewN | apply IsS57.drew | refine IsS57.farT ?_ (by repeat (first | exact TyOf.mk BK209.out | apply TyOf.alloc | apply TyOf.drewN | apply TyOf.drew | apply TyOf.set)) (by decide) _) | exact HI204.out)) hb); have n3_ := Aside0.mk (below_step (by repeat (first | (with_reducible first | exact HB.out | apply below_alloc | apply pw_below_drewN | apply below_drew1 | refine below_set ?_ (IsS57.ge HI204.out) | refine below_set ?_ GE209.out) | exact HB.out)) hb); have n4_ := Aside0.mk (hbox); have n5_ := Aside0.mk ((by rw [hg]; exact (below_size (by repeat (first | (with_reducible first | exact HB.out | apply below_alloc | apply pw_below_drewN | apply below_drew1 | refine below_set ?_ (IsS57.ge HI204.out) | refine below_set ?_ GE209.out) | exact HB.out))) : w.heap.size ≤ gb219)); have n6_ := Aside0.mk ((by rw [hg]; exact (below_size (by repeat (first | (with_reducible first | exact HB.out | apply below_alloc | apply pw_below_drewN | apply below_drew1 | refine below_set ?_ (IsS57.ge HI204.out) | refine below_set ?_ GE209.out) | exact HB.out))) : w.heap.size ≤ gb219)); have n7_ := Aside0.mk ((by rw [hg]; exact Nat.ne_of_lt (blk_lt (g := gb209) (o := .cells #[.int .i64 x210000_2, .slice Ao45 x210001_2.length co45] 29 (0, 0)) (by (with_reducible repeat (first | refine blk_drewN ?_ _ | refine blk_drew ?_ | refine blk_alloc ?_ _)); exact BK209.out)) : gb209 ≠ gb219)); have n8_ := Aside0.mk ((by rw [hg]; exact Nat.ne_of_gt (blk_lt (g := gb209) (o := .cells #[.int .i64 x210000_2, .slice Ao45 x210001_2.length co45] 29 (0, 0)) (by (with_reducible repeat (first | refine blk_drewN ?_ _ | refine blk_drew ?_ | refine blk_alloc ?_ _)); exact BK209.out)) : gb219 ≠ gb209)); have n9_ := Aside0.mk ((by rw [hg]; exact Nat.ne_of_lt (IsS57.lt (show IsS57 w _ g204 t215 from by repeat (first | (with_reducible first | exact HI204.out | apply IsS57.alloc | apply IsS57.drewN | apply IsS57.drew | refine IsS57.farT ?_ (by repeat (first | exact TyOf.mk BK209.out | apply TyOf.alloc | apply TyOf.drewN | apply TyOf.drew | apply TyOf.set)) (by decide) _) | exact HI204.out))) : g204 ≠ gb219)); have n10_ := Aside0.mk ((by rw [hg]; exact Nat.ne_of_gt (IsS57.lt (show IsS57 w _ g204 t215 from by repeat (first | (with_reducible first | exact HI204.out | apply IsS57.alloc | apply IsS57.drewN | apply IsS57.drew | refine IsS57.farT ?_ (by repeat (first | exact TyOf.mk BK209.out | apply TyOf.alloc | apply TyOf.drewN | apply TyOf.drew | apply TyOf.set)) (by decide) _) | exact HI204.out))) : gb219 ≠ g204)); clear HO_210001; clear BK209; clear HI204; clear HB; have HO_210001 := n0_; have BK209 := n1_; have HI204 := n2_; have HB := n3_; have BK219 := n4_; have GW219 := n5_; have GE219 := n6_; have NB209_219 := n7_; have NB219_209 := n8_; have NB204_219 := n9_; have NB219_204 := n10_; clear n0_ n1_ n2_ n3_ n4_ n5_ n6_ n7_ n8_ n9_ n10_; clear hb hbox hg; have hnb48 := NB219_209.out; have hnc48 := NB209_219.out; have hnb49 := NB219_204.out; have hnc49 := NB204_219.out; have hcz50_0 : w47.cell? ⟨gb219, 0, none⟩ = some (.string (⟨#[]⟩ : ByteArray)) := (blk_cell BK219.out 0).trans rfl; have hcz50_1 : w47.cell? ⟨gb219, 1, none⟩ = some (.string (⟨#[]⟩ : ByteArray)) := (blk_cell BK219.out 1).trans rfl; have hfz50_0 := blk_frozen BK219.out 0; have hfz50_1 := blk_frozen BK219.out 1))
           go_ret
           exact ⟨by first | rfl | (simp [errW_none, errW_some] <;> rfl) | (simp [*, errW_none, errW_some] <;> rfl), by repeat (first | (with_reducible first | exact HB.out | apply below_alloc | apply pw_below_drewN | apply below_drew1 | refine below_set ?_ (IsS57.ge HI204.out) | refine below_set ?_ GE209.out | refine below_set ?_ GE219.out) | exact HB.out)⟩
          ·
           rw [if_neg c41] at H
           have c41b0 : (t213.toList == t217.toList) = false := beq_eq_false_iff_ne.mpr c41
           have c41b1 : (t213.toList != t217.toList) = true := bne_iff_ne.mpr c41
           exact absurd ((Option.some.inj H).trans HT.out) (by decide)
         ·
          rw [if_neg c40] at H
          have c40b0 : (t212.toList == t216.toList) = false := beq_eq_false_iff_ne.mpr c40
          have c40b1 : (t212.toList != t216.toList) = true := bne_iff_ne.mpr c40
          exact absurd ((Option.some.inj H).trans HT.out) (by decide)
     ·
      replace c16 := Bool.eq_false_iff.mpr c16
      subst c16
      have H1 : (some false) = some r := by rw [if_neg (show ¬ (false = true) by decide)] at H; exact H
      clear H
      have H := H1
      clear H1
      exact absurd ((Option.some.inj H).trans HT.out) (by decide)
 ·
  replace c5 := Bool.eq_false_iff.mpr c5
  subst c5
  have H1 : (some false) = some r := by rw [if_neg (show ¬ (false = true) by decide)] at H; exact H
  clear H
  have H := H1
  clear H1
  exact absurd ((Option.some.inj H).trans HT.out) (by decide)

/-- THE ONE PURE STATEMENT of nunciolaw11_TablePlays: yours. -/
def nunciolaw11_TablePlays.Pure : Prop := ∀ (a0 : Int) (l1 : List (S34)) (a2 : Int), ((Lit.int .i64 a0).wf = true) → (l1.length ≤ 9223372036854775807 ∧ l1.length * 40 ≤ 140737488351232 ∧ ∀ x_ ∈ l1, k34_wf x_) → ((Lit.int .i64 a2).wf = true) → ∃ k, nunciolaw11_TablePlays.f k a0 l1 a2 = some true
theorem nunciolaw11_TablePlays.walk (P : nunciolaw11_TablePlays.Pure) (a0 : Int) (A1 : Option Addr) (c1 : Nat) (l1 : List (S34)) (a2 : Int) (w : World) (hE : EnvW w) (hr1 : Kd.C k34 w A1 l1.length l1) (hc1 : l1.length ≤ c1) (w0 : (Lit.int .i64 a0).wf = true) (w1 : l1.length ≤ 9223372036854775807 ∧ l1.length * 40 ≤ 140737488351232 ∧ ∀ x_ ∈ l1, k34_wf x_) (w2 : (Lit.int .i64 a2).wf = true) :
  Calls Tryd.prog 3 #[.int .i64 a0, .slice A1 l1.length c1, .int .i64 a2] w fun e w' => e = .returned (.bool true) ∧ Below w.heap.size w w' := by
 obtain ⟨k, h⟩ := P a0 l1 a2 w0 w1 w2
 refine (nunciolaw11_TablePlays.calls k a0 _ _ l1 a2 true w hE hr1 hc1 h rfl).mono ?_
 rintro e w' ⟨rfl, hd⟩
 exact ⟨rfl, hd⟩

end Go.Proofs.YtjdnimgkfkpaeaaDoor.Mine
