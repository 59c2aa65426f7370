-- Written by this repo's own printer (wip/print), which builds on the kit's.
import Derived.Test.YtpnflloamidecaaMinex0
import Derived.Test.YtpnflloamidecaaMinex2
namespace Go.Proofs.Ytpnflloamidecaa.Mine
open Go.RowKit Go.Proofs.YtpnflloamidecaaW.PrintWords Go.Proofs.YtpnflloamidecaaW.PrintLast Go.Proofs.YtpnflloamidecaaW.PrintMore
attribute [local go_sem] max2_int min2_int max_two min_two max_three min_three max_four min_four   -- for this text's walks alone
set_option linter.unusedVariables false
set_option linter.unusedSimpArgs false

/-! ### text_Fold: function 28 (by hand) -/
/-- A byte in small letters. -/
def foldB (n : Int) : Int := if 65 ≤ n ∧ n ≤ 90 then n + 32 else n
/-- A block that reads as bytes, each of which may be stored into. -/
def BRow (B : Nat) (w : World) (l : List Int) : Prop := ∀ j : Nat, j < l.length → w.cell? ⟨B, j, none⟩ = some (.int .u8 (l.getD j 0)) ∧ w.frozen? ⟨B, j, none⟩ = false
theorem BRow.set {B : Nat} {w : World} {l : List Int} (h : BRow B w l) (k : Nat) (hk : k < l.length) (x : Int) : BRow B (w.setCell ⟨B, k, none⟩ (.int .u8 x)) (l.set k x) := by
 intro j hj
 rw [List.length_set] at hj
 obtain ⟨h1, h2⟩ := h j hj
 obtain ⟨h3, _⟩ := h k hk
 refine ⟨?_, by simpa using h2⟩
 by_cases e : j = k
 ·
  subst e
  rw [World.cell?_setCell_same _ _ _ h3]
  simp [List.getD_eq_getElem?_getD, hk]
 ·
  rw [World.cell?_setCell_other _ _ _ _ (by intro h_; injection h_ with _ h_; omega), h1]
  simp [List.getD_eq_getElem?_getD, List.getElem?_set, Ne.symm e]
theorem BRow.conv (w : World) (e : TypeId) (s : ByteArray) : BRow w.heap.size (Lib.bytesWorld w e s) (bytesOf s) := by
 intro j hj
 rw [bytesOf_length] at hj
 refine ⟨?_, ?_⟩
 ·
  rw [Lib.bytesWorld_cell w e s j hj]
  simp [bytesOf, List.getD_eq_getElem?_getD, List.getElem?_eq_getElem (show j < s.data.toList.length by simpa using hj)]
 ·
  have hn := Lib.bytesWorld_at_new w e s
  have hs : s.size ≤ (Lib.bytesCells w e s).size := by simp [Lib.bytesCells]
  simp [World.frozen?, hn]
  omega
theorem BRow.str {P : Program} {w : World} {src dst e : TypeId} (hs : P.underlying src = some (.slice e)) (he : P.underlying e = some (.int .u8)) (hd : P.underlying dst = some .string) {B : Nat} {l : List Int} (h : BRow B w l) (hl : l.length ≤ 9223372036854775807) (c : Nat) :
  (convert src dst (.slice (some ⟨B, 0, none⟩) l.length c)).run P w = .ok (.string (strOfNums l)) w := by
 refine Kd.C_string (A := some ⟨B, 0, none⟩) (c := c) hs he hd (Kd.C_of_reads (enc := Value.int .u8) (d := (0 : Int)) (h1 := fun _ => rfl) ⟨rfl, hl, fun hn => ⟨_, rfl, fun j hj => ?_⟩⟩)
 have e_ : (⟨B, 0, none⟩ : Addr).add j = ⟨B, j, none⟩ := add_plain B j
 rw [e_]
 exact (h j hj).1
theorem below_bytes {B : Nat} {w0 w : World} (h : Below B w0 w) (hB : B ≤ w.heap.size) (e : TypeId) (s : ByteArray) : Below B w0 (Lib.bytesWorld w e s) :=
 h.trans ⟨rfl, rfl, rfl, by rw [Lib.bytesWorld_size]; omega, fun i hi => Lib.bytesWorld_at_old w e s i (by omega)⟩
/-- So far folded. -/
def foldTo (l : List Int) (k : Nat) : List Int := (l.take k).map foldB ++ l.drop k
theorem foldTo_length (l : List Int) (k : Nat) : (foldTo l k).length = l.length := by unfold foldTo; simp; omega
theorem foldTo_at (l : List Int) (k : Nat) (h : k < l.length) : (foldTo l k).getD k 0 = l.getD k 0 := by
 unfold foldTo
 have e : (List.map foldB (l.take k)).length = k := by simp; omega
 rw [List.getD_eq_getElem?_getD, List.getElem?_append_right (by omega), e, Nat.sub_self, List.getElem?_drop, Nat.add_zero, ← List.getD_eq_getElem?_getD]
theorem foldTo_zero (l : List Int) : foldTo l 0 = l := by simp [foldTo]
theorem foldTo_all (l : List Int) : foldTo l l.length = l.map foldB := by simp [foldTo]
theorem foldTo_same (l : List Int) (k : Nat) (h : k < l.length) (hf : foldB (l.getD k 0) = l.getD k 0) : foldTo l (k + 1) = foldTo l k := by
 have e : l.getD k 0 = l[k] := by simp [List.getD_eq_getElem?_getD, h]
 rw [e] at hf
 unfold foldTo
 rw [List.take_succ_eq_append_getElem h, List.map_append, List.append_assoc, List.map_singleton, hf]
 conv => rhs; rw [List.drop_eq_getElem_cons h]
 rfl
theorem foldTo_set (l : List Int) (k : Nat) (h : k < l.length) : foldTo l (k + 1) = (foldTo l k).set k (foldB (l.getD k 0)) := by
 have e : l.getD k 0 = l[k] := by simp [List.getD_eq_getElem?_getD, h]
 have e2 : (List.map foldB (l.take k)).length = k := by simp; omega
 rw [e]
 unfold foldTo
 rw [List.set_append_right _ _ (by omega), e2, Nat.sub_self, List.take_succ_eq_append_getElem h, List.map_append, List.append_assoc, List.map_singleton]
 conv => rhs; rw [List.drop_eq_getElem_cons h]
 rfl
theorem foldB_yes {n : Int} (h0 : 0 ≤ n) (h1 : n < 256) (h : (n - 65) % 256 < 26) : ((n + 97) % 256 - 65) % 256 = foldB n := by
 unfold foldB
 rw [if_pos (by omega)]
 omega
theorem foldB_no {n : Int} (h0 : 0 ≤ n) (h1 : n < 256) (h : ¬ (n - 65) % 256 < 26) : foldB n = n := by
 unfold foldB
 rw [if_neg (by omega)]
theorem bytes_at (s : ByteArray) (k : Nat) : 0 ≤ (bytesOf s).getD k 0 ∧ (bytesOf s).getD k 0 < 256 := by
 by_cases h : k < (bytesOf s).length
 ·
  have e : (bytesOf s).getD k 0 = (bytesOf s)[k] := by simp [List.getD_eq_getElem?_getD, h]
  rw [e]
  simp only [bytesOf, List.getElem_map]
  have := (s.data.toList[k]'(by simpa [bytesOf] using h)).toNat_lt
  omega
 · rw [List.getD_eq_getElem?_getD, List.getElem?_eq_none (by omega)]; decide
def text_Fold.f (a0 : ByteArray) : Option ByteArray := if a0.size ≤ 9223372036854775807 then some (strOfNums ((bytesOf a0).map foldB)) else none
theorem text_Fold.conv {ops : Array Oper} {rest : List Oper} {o : Oper} {a : Act} {Q : Exit → Act → World → Prop} {W w0 : World} {B0 : Nat} (hgd : o.guard = none) (x : Operand) (ho : o.op = .convert 9 41 x) (s : ByteArray) (hx : a.eval x = .string s)
  (HB : Below B0 w0 W) (hb : B0 ≤ W.heap.size) (h : ∀ B c w1, B0 ≤ B → BRow B w1 (bytesOf s) → Below B0 w0 w1 → wpList Try.prog ops Q rest (a.put o.dst (.slice (some ⟨B, 0, none⟩) s.size c)) w1) : wpList Try.prog ops Q (o :: rest) a W := by
 have hrun := Lib.run_convert_string_bytes (P := Try.prog) W 9 41 5 s Try.underlying9 Try.underlying41 Try.underlying5
 refine Kd.event_run hgd (v := .slice (some ⟨W.heap.size, 0, none⟩) s.size (grownCap W s.size 0 5)) (w1 := Lib.bytesWorld W 5 s) ?_ (h _ _ _ hb (BRow.conv W _ s) (below_bytes HB hb _ s))
 simp [execOp, ho, hx, hrun]
set_option maxHeartbeats 4000000 in
set_option maxRecDepth 100000 in
theorem text_Fold.calls (a0 : ByteArray) (r : ByteArray) (w : World) (h : text_Fold.f a0 = some r) :
  Calls Try.prog 28 #[.string a0] w fun e w' => e = .returned (.string r) ∧ Below w.heap.size w w' := by
 unfold text_Fold.f at h
 by_cases hs : a0.size ≤ 9223372036854775807
 ·
  rw [if_pos hs] at h
  obtain rfl := Option.some.inj h
  clear h
  have hlen : (bytesOf a0).length = a0.size := bytesOf_length a0
  go_enter Try.func28, Try.ntmps28
  go_wp2_with (first | ((with_reducible refine gate_dst (N := 7) rfl ?_); refine text_Fold.conv (w0 := w) (B0 := w.heap.size) rfl _ rfl a0 rfl (Below.refl _ _) (Nat.le_refl _) ?_; intro B c w1 hBB HR HB; have HRh := Aside0.mk HR; have HBh := Aside0.mk HB; clear HR HB))
  have hlh := Aside0.mk hlen
  clear hlen
  go_loopw [10] (fun v wr => ∃ k : Nat, k ≤ a0.size ∧ v = .int .i64 k ∧ Aside0 (BRow B wr (foldTo (bytesOf a0) k)) ∧ Aside0 (Below w.heap.size w wr)) (fun v _ => a0.size - (intOf v).toNat)
  case atStart => exact ⟨0, Nat.zero_le _, rfl, ⟨by rw [foldTo_zero]; exact HRh.out⟩, HBh⟩
  case round =>
   clear HRh HBh
   obtain ⟨k, hk, rfl, HRh, HBh⟩ := hrel
   by_cases hlt : k < a0.size
   ·
    have hk2 : k < (bytesOf a0).length := by rw [hlh.out]; exact hlt
    obtain ⟨hcell, hfree⟩ := HRh.out k (by rw [foldTo_length]; exact hk2)
    rw [foldTo_at _ _ hk2] at hcell
    obtain ⟨hb0, hb1⟩ := bytes_at a0 k
    obtain ⟨b, hb⟩ : ∃ b : Int, (bytesOf a0).getD k 0 = b := ⟨_, rfl⟩
    rw [hb] at hcell hb0 hb1
    have hbh := Aside0.mk hb
    clear hb
    have hk2h := Aside0.mk hk2
    clear hk2
    by_cases hc : (b - 65) % 256 < 26
    ·
     go_wp2
     go_roundw
     case rel =>
      refine ⟨k + 1, by omega, by go_num, ⟨?_⟩, ⟨below_set HBh.out hBB⟩⟩
      have e1 : b + 97 - 65 = foldB b := by unfold foldB; rw [if_pos (by omega)]; omega
      rw [foldTo_set _ _ hk2h.out, hbh.out, e1]
      exact HRh.out.set k (by rw [foldTo_length]; exact hk2h.out) _
     case measure => simp [intOf]; omega
    ·
     go_wp2
     go_roundw
     case rel =>
      refine ⟨k + 1, by omega, by go_num, ⟨?_⟩, HBh⟩
      rw [foldTo_same _ _ hk2h.out (by rw [hbh.out]; exact foldB_no hb0 (by omega) hc)]
      exact HRh.out
     case measure => simp [intOf]; omega
   ·
    obtain rfl : k = a0.size := by omega
    have hcv := fun (c : Nat) => BRow.str (P := Try.prog) Try.underlying41 Try.underlying5 Try.underlying9 HRh.out (by rw [foldTo_length, hlh.out]; exact hs) c
    rw [foldTo_length, hlh.out] at hcv
    go_wp2
    go_ret
    refine ⟨?_, HBh.out⟩
    have e2 := foldTo_all (bytesOf a0)
    rw [hlh.out] at e2
    rw [e2]
    rfl
 ·
  rw [if_neg hs] at h
  exact absurd h (by simp)

/-! ### name_Fold: function 16 -/
def name_Fold.f (k : Nat) (a0 : ByteArray) : Option (ByteArray) := (name_Is.f k a0).bind fun t123 => (if t123 = true then ((text_Fold.f a0).bind fun t124 => (some t124)) else (some (⟨#[]⟩ : ByteArray)))
theorem name_Fold.mono : ∀ a0 k, LeO (name_Fold.f k a0) (name_Fold.f (k + 1) a0) := by
 intro a0 k
 unfold name_Fold.f
 repeat' first
   | (with_reducible exact name_Is.mono _ _)
   | (with_reducible exact LeO.refl _)
   | (with_reducible exact LeO.none _)
   | (with_reducible refine LeO.ite ?_ ?_)
   | (with_reducible refine LeO.bind ?_ (fun _ => ?_))
   | exact name_Is.mono _ _
   | exact LeO.none _
   | refine LeO.ite ?_ ?_
   | refine LeO.bind ?_ (fun _ => ?_)
set_option maxHeartbeats 8000000 in
set_option maxRecDepth 100000 in
theorem name_Fold.calls (k : Nat) (a0 : ByteArray) (r : ByteArray) (w : World) (h : name_Fold.f k a0 = some r) :
  Calls Try.prog 16 #[.string a0] w fun e w' => e = .returned (.string r) ∧ Below w.heap.size w w' := by
 have HB := Aside0.mk (Below.refl w.heap.size w)
 have H : ((name_Is.f k a0).bind fun t123 => (if t123 = true then ((text_Fold.f a0).bind fun t124 => (some t124)) else (some (⟨#[]⟩ : ByteArray)))) = some r := h
 clear h
 replace H := Option.bind_eq_some_iff.mp H
 obtain ⟨t123, A20, H⟩ := H
 replace H : (if t123 = true then ((text_Fold.f a0).bind fun t124 => (some t124)) else (some (⟨#[]⟩ : ByteArray))) = some r := H
 have A2 := Aside0.mk A20
 clear A20
 by_cases c3 : t123 = true
 ·
  subst c3
  have H1 : ((text_Fold.f a0).bind fun t124 => (some t124)) = some r := by rw [if_pos rfl] at H; exact H
  clear H
  have H := H1
  clear H1
  replace H := Option.bind_eq_some_iff.mp H
  obtain ⟨t124, A40, H⟩ := H
  replace H : (some t124) = some r := H
  have A4 := Aside0.mk A40
  clear A40
  obtain rfl := Option.some.inj H
  go_enter Try.func16, Try.ntmps16
  go_wp2_with (first | ((with_reducible refine gate_callee (f := 13) rfl ?_); refine goesL_ (some 4) rfl rfl Try.func13 (by kernel_rfl) rfl #[.string a0] rfl (by (try simp only [List.map_toArray, List.map_cons, List.map_nil]); first | done | rfl | (simp only [List.length_drop, List.length_take]; rfl)) ?_; (with_reducible refine (name_Is.calls k a0 true _ A2.out).mono ?_); rintro e w5 ⟨rfl, hb⟩; refine ⟨_, rfl, ?_⟩; have n0_ := Aside0.mk (below_step (by repeat (first | (with_reducible first | exact HB.out | apply below_alloc | apply pw_below_drewN | apply below_drew1) | exact HB.out)) hb); clear HB; have HB := n0_; clear n0_; (try clear hb); (try clear hb2); (try clear hk); (try clear hi)) | ((with_reducible refine gate_callee (f := 28) rfl ?_); refine goesL_ (some 7) rfl rfl Try.func28 (by kernel_rfl) rfl #[.string a0] rfl (by (try simp only [List.map_toArray, List.map_cons, List.map_nil]); first | done | rfl | (simp only [List.length_drop, List.length_take]; rfl)) ?_; (with_reducible refine (text_Fold.calls a0 t124 _ A4.out).mono ?_); rintro e w6 ⟨rfl, hb⟩; refine ⟨_, rfl, ?_⟩; have n0_ := Aside0.mk (below_step (by repeat (first | (with_reducible first | exact HB.out | apply below_alloc | apply pw_below_drewN | apply below_drew1) | exact HB.out)) hb); clear HB; have HB := n0_; clear n0_; (try clear hb); (try clear hb2); (try clear hk); (try clear hi)))
  go_ret
  exact ⟨by first | rfl | (simp [errW_none, errW_some] <;> rfl) | (simp [*, errW_none, errW_some] <;> rfl), by repeat (first | (with_reducible first | exact HB.out | apply below_alloc | apply pw_below_drewN | apply below_drew1) | exact HB.out)⟩
 ·
  replace c3 := Bool.eq_false_iff.mpr c3
  subst c3
  have H1 : (some (⟨#[]⟩ : ByteArray)) = some r := by rw [if_neg (show ¬ (false = true) by decide)] at H; exact H
  clear H
  have H := H1
  clear H1
  obtain rfl := Option.some.inj H
  go_enter Try.func16, Try.ntmps16
  go_wp2_with (first | ((with_reducible refine gate_callee (f := 13) rfl ?_); refine goesL_ (some 4) rfl rfl Try.func13 (by kernel_rfl) rfl #[.string a0] rfl (by (try simp only [List.map_toArray, List.map_cons, List.map_nil]); first | done | rfl | (simp only [List.length_drop, List.length_take]; rfl)) ?_; (with_reducible refine (name_Is.calls k a0 false _ A2.out).mono ?_); rintro e w7 ⟨rfl, hb⟩; refine ⟨_, rfl, ?_⟩; have n0_ := Aside0.mk (below_step (by repeat (first | (with_reducible first | exact HB.out | apply below_alloc | apply pw_below_drewN | apply below_drew1) | exact HB.out)) hb); clear HB; have HB := n0_; clear n0_; (try clear hb); (try clear hb2); (try clear hk); (try clear hi)))
  go_ret
  exact ⟨by first | rfl | (simp [errW_none, errW_some] <;> rfl) | (simp [*, errW_none, errW_some] <;> rfl), by repeat (first | (with_reducible first | exact HB.out | apply below_alloc | apply pw_below_drewN | apply below_drew1) | exact HB.out)⟩

/-! ### text_Same: function 30 -/
def text_Same.f (a0 : ByteArray) (a1 : ByteArray) : Option (Bool) := if (a0.size : Int) = (a1.size : Int) then ((text_Fold.f a0).bind fun t125 => ((text_Fold.f a1).bind fun t126 => (some (t125.toList == t126.toList)))) else (some false)
set_option maxHeartbeats 8000000 in
set_option maxRecDepth 100000 in
theorem text_Same.calls (a0 : ByteArray) (a1 : ByteArray) (r : Bool) (w : World) (h : text_Same.f a0 a1 = some r) :
  Calls Try.prog 30 #[.string a0, .string a1] w fun e w' => e = .returned (.bool r) ∧ Below w.heap.size w w' := by
 have HB := Aside0.mk (Below.refl w.heap.size w)
 have H : (if (a0.size : Int) = (a1.size : Int) then ((text_Fold.f a0).bind fun t125 => ((text_Fold.f a1).bind fun t126 => (some (t125.toList == t126.toList)))) else (some false)) = some r := h
 clear h
 by_cases c3 : (a0.size : Int) = (a1.size : Int)
 ·
  rw [if_pos c3] at H
  have c3b0 : ((a0.size : Int) == (a1.size : Int)) = true := beq_iff_eq.mpr c3
  have c3b1 : ((a0.size : Int) != (a1.size : Int)) = false := bne_eq_false_iff_eq.mpr c3
  have c3b2 : (a0.size == a1.size) = true := by first | simpa using c3 | (simp at c3 ⊢; omega)
  clear c3
  replace H := Option.bind_eq_some_iff.mp H
  obtain ⟨t125, A40, H⟩ := H
  replace H : ((text_Fold.f a1).bind fun t126 => (some (t125.toList == t126.toList))) = some r := H
  have A4 := Aside0.mk A40
  clear A40
  replace H := Option.bind_eq_some_iff.mp H
  obtain ⟨t126, A50, H⟩ := H
  replace H : (some (t125.toList == t126.toList)) = some r := H
  have A5 := Aside0.mk A50
  clear A50
  obtain rfl := Option.some.inj H
  go_enter Try.func30, Try.ntmps30
  have tk8 : True := trivial
  have tk9 : True := trivial
  go_wp2_with (first | (have _t : True := tk8; clear tk8 _t; go_at_call 28; (with_reducible refine (text_Fold.calls a0 t125 _ A4.out).mono ?_); rintro e w6 ⟨rfl, hb⟩; have n0_ := Aside0.mk (below_step (by repeat (first | (with_reducible first | exact HB.out | apply below_alloc | apply pw_below_drewN | apply below_drew1) | exact HB.out)) hb); clear HB; have HB := n0_; clear n0_; (try clear hb); (try clear hb2); (try clear hk); (try clear hi)) | (have _t : True := tk9; clear tk9 _t; go_at_call 28; (with_reducible refine (text_Fold.calls a1 t126 _ A5.out).mono ?_); rintro e w7 ⟨rfl, hb⟩; have n0_ := Aside0.mk (below_step (by repeat (first | (with_reducible first | exact HB.out | apply below_alloc | apply pw_below_drewN | apply below_drew1) | exact HB.out)) hb); clear HB; have HB := n0_; clear n0_; (try clear hb); (try clear hb2); (try clear hk); (try clear hi)))
  go_ret
  exact ⟨by first | rfl | (simp [errW_none, errW_some] <;> rfl) | (simp [*, errW_none, errW_some] <;> rfl), by repeat (first | (with_reducible first | exact HB.out | apply below_alloc | apply pw_below_drewN | apply below_drew1) | exact HB.out)⟩
 ·
  rw [if_neg c3] at H
  have c3b0 : ((a0.size : Int) == (a1.size : Int)) = false := beq_eq_false_iff_ne.mpr c3
  have c3b1 : ((a0.size : Int) != (a1.size : Int)) = true := bne_iff_ne.mpr c3
  have c3b2 : (a0.size == a1.size) = false := by first | simpa using c3 | (simp at c3 ⊢; omega)
  obtain rfl := Option.some.inj H
  go_enter Try.func30, Try.ntmps30
  go_wp2
  go_ret
  exact ⟨by first | rfl | (simp [errW_none, errW_some] <;> rfl) | (simp [*, errW_none, errW_some] <;> rfl), by repeat (first | (with_reducible first | exact HB.out | apply below_alloc | apply pw_below_drewN | apply below_drew1) | exact HB.out)⟩

/-! ### name_Same: function 18 -/
def name_Same.f (k : Nat) (a0 : ByteArray) (a1 : ByteArray) : Option (Bool) := (name_Is.f k a0).bind fun t127 => (if t127 = true then ((name_Is.f k a1).bind fun t128 => (if t128 = true then ((text_Same.f a0 a1).bind fun t129 => (some t129)) else (some false))) else (some false))
theorem name_Same.mono : ∀ a0 a1 k, LeO (name_Same.f k a0 a1) (name_Same.f (k + 1) a0 a1) := by
 intro a0 a1 k
 unfold name_Same.f
 repeat' first
   | (with_reducible exact name_Is.mono _ _)
   | (with_reducible exact LeO.refl _)
   | (with_reducible exact LeO.none _)
   | (with_reducible refine LeO.ite ?_ ?_)
   | (with_reducible refine LeO.bind ?_ (fun _ => ?_))
   | exact name_Is.mono _ _
   | exact LeO.none _
   | refine LeO.ite ?_ ?_
   | refine LeO.bind ?_ (fun _ => ?_)
set_option maxHeartbeats 8000000 in
set_option maxRecDepth 100000 in
theorem name_Same.calls (k : Nat) (a0 : ByteArray) (a1 : ByteArray) (r : Bool) (w : World) (h : name_Same.f k a0 a1 = some r) :
  Calls Try.prog 18 #[.string a0, .string a1] w fun e w' => e = .returned (.bool r) ∧ Below w.heap.size w w' := by
 have HB := Aside0.mk (Below.refl w.heap.size w)
 have H : ((name_Is.f k a0).bind fun t127 => (if t127 = true then ((name_Is.f k a1).bind fun t128 => (if t128 = true then ((text_Same.f a0 a1).bind fun t129 => (some t129)) else (some false))) else (some false))) = some r := h
 clear h
 replace H := Option.bind_eq_some_iff.mp H
 obtain ⟨t127, A30, H⟩ := H
 replace H : (if t127 = true then ((name_Is.f k a1).bind fun t128 => (if t128 = true then ((text_Same.f a0 a1).bind fun t129 => (some t129)) else (some false))) else (some false)) = some r := H
 have A3 := Aside0.mk A30
 clear A30
 by_cases c4 : t127 = true
 ·
  subst c4
  have H1 : ((name_Is.f k a1).bind fun t128 => (if t128 = true then ((text_Same.f a0 a1).bind fun t129 => (some t129)) else (some false))) = some r := by rw [if_pos rfl] at H; exact H
  clear H
  have H := H1
  clear H1
  replace H := Option.bind_eq_some_iff.mp H
  obtain ⟨t128, A50, H⟩ := H
  replace H : (if t128 = true then ((text_Same.f a0 a1).bind fun t129 => (some t129)) else (some false)) = some r := H
  have A5 := Aside0.mk A50
  clear A50
  by_cases c6 : t128 = true
  ·
   subst c6
   have H1 : ((text_Same.f a0 a1).bind fun t129 => (some t129)) = some r := by rw [if_pos rfl] at H; exact H
   clear H
   have H := H1
   clear H1
   replace H := Option.bind_eq_some_iff.mp H
   obtain ⟨t129, A70, H⟩ := H
   replace H : (some t129) = some r := H
   have A7 := Aside0.mk A70
   clear A70
   obtain rfl := Option.some.inj H
   go_enter Try.func18, Try.ntmps18
   have tk11 : True := trivial
   have tk12 : True := trivial
   go_wp2_with (first | (have _t : True := tk11; clear tk11 _t; (with_reducible refine gate_callee (f := 13) rfl ?_); refine goesL_ (some 6) rfl rfl Try.func13 (by kernel_rfl) rfl #[.string a0] rfl (by (try simp only [List.map_toArray, List.map_cons, List.map_nil]); first | done | rfl | (simp only [List.length_drop, List.length_take]; rfl)) ?_; (with_reducible refine (name_Is.calls k a0 true _ A3.out).mono ?_); rintro e w8 ⟨rfl, hb⟩; refine ⟨_, rfl, ?_⟩; have n0_ := Aside0.mk (below_step (by repeat (first | (with_reducible first | exact HB.out | apply below_alloc | apply pw_below_drewN | apply below_drew1) | exact HB.out)) hb); clear HB; have HB := n0_; clear n0_; (try clear hb); (try clear hb2); (try clear hk); (try clear hi)) | (have _t : True := tk12; clear tk12 _t; go_at_call 13; (with_reducible refine (name_Is.calls k a1 true _ A5.out).mono ?_); rintro e w9 ⟨rfl, hb⟩; have n0_ := Aside0.mk (below_step (by repeat (first | (with_reducible first | exact HB.out | apply below_alloc | apply pw_below_drewN | apply below_drew1) | exact HB.out)) hb); clear HB; have HB := n0_; clear n0_; (try clear hb); (try clear hb2); (try clear hk); (try clear hi)) | (go_at_call 30; (with_reducible refine (text_Same.calls a0 a1 t129 _ A7.out).mono ?_); rintro e w10 ⟨rfl, hb⟩; have n0_ := Aside0.mk (below_step (by repeat (first | (with_reducible first | exact HB.out | apply below_alloc | apply pw_below_drewN | apply below_drew1) | exact HB.out)) hb); clear HB; have HB := n0_; clear n0_; (try clear hb); (try clear hb2); (try clear hk); (try clear hi)))
   go_ret
   exact ⟨by first | rfl | (simp [errW_none, errW_some] <;> rfl) | (simp [*, errW_none, errW_some] <;> rfl), by repeat (first | (with_reducible first | exact HB.out | apply below_alloc | apply pw_below_drewN | apply below_drew1) | exact HB.out)⟩
  ·
   replace c6 := Bool.eq_false_iff.mpr c6
   subst c6
   have H1 : (some false) = some r := by rw [if_neg (show ¬ (false = true) by decide)] at H; exact H
   clear H
   have H := H1
   clear H1
   obtain rfl := Option.some.inj H
   go_enter Try.func18, Try.ntmps18
   have tk15 : True := trivial
   have tk16 : True := trivial
   go_wp2_with (first | (have _t : True := tk15; clear tk15 _t; (with_reducible refine gate_callee (f := 13) rfl ?_); refine goesL_ (some 6) rfl rfl Try.func13 (by kernel_rfl) rfl #[.string a0] rfl (by (try simp only [List.map_toArray, List.map_cons, List.map_nil]); first | done | rfl | (simp only [List.length_drop, List.length_take]; rfl)) ?_; (with_reducible refine (name_Is.calls k a0 true _ A3.out).mono ?_); rintro e w13 ⟨rfl, hb⟩; refine ⟨_, rfl, ?_⟩; have n0_ := Aside0.mk (below_step (by repeat (first | (with_reducible first | exact HB.out | apply below_alloc | apply pw_below_drewN | apply below_drew1) | exact HB.out)) hb); clear HB; have HB := n0_; clear n0_; (try clear hb); (try clear hb2); (try clear hk); (try clear hi)) | (have _t : True := tk16; clear tk16 _t; go_at_call 13; (with_reducible refine (name_Is.calls k a1 false _ A5.out).mono ?_); rintro e w14 ⟨rfl, hb⟩; have n0_ := Aside0.mk (below_step (by repeat (first | (with_reducible first | exact HB.out | apply below_alloc | apply pw_below_drewN | apply below_drew1) | exact HB.out)) hb); clear HB; have HB := n0_; clear n0_; (try clear hb); (try clear hb2); (try clear hk); (try clear hi)))
   go_ret
   exact ⟨by first | rfl | (simp [errW_none, errW_some] <;> rfl) | (simp [*, errW_none, errW_some] <;> rfl), by repeat (first | (with_reducible first | exact HB.out | apply below_alloc | apply pw_below_drewN | apply below_drew1) | exact HB.out)⟩
 ·
  replace c4 := Bool.eq_false_iff.mpr c4
  subst c4
  have H1 : (some false) = some r := by rw [if_neg (show ¬ (false = true) by decide)] at H; exact H
  clear H
  have H := H1
  clear H1
  obtain rfl := Option.some.inj H
  go_enter Try.func18, Try.ntmps18
  go_wp2_with (first | ((with_reducible refine gate_callee (f := 13) rfl ?_); refine goesL_ (some 6) rfl rfl Try.func13 (by kernel_rfl) rfl #[.string a0] rfl (by (try simp only [List.map_toArray, List.map_cons, List.map_nil]); first | done | rfl | (simp only [List.length_drop, List.length_take]; rfl)) ?_; (with_reducible refine (name_Is.calls k a0 false _ A3.out).mono ?_); rintro e w17 ⟨rfl, hb⟩; refine ⟨_, rfl, ?_⟩; have n0_ := Aside0.mk (below_step (by repeat (first | (with_reducible first | exact HB.out | apply below_alloc | apply pw_below_drewN | apply below_drew1) | exact HB.out)) hb); clear HB; have HB := n0_; clear n0_; (try clear hb); (try clear hb2); (try clear hk); (try clear hi)))
  go_ret
  exact ⟨by first | rfl | (simp [errW_none, errW_some] <;> rfl) | (simp [*, errW_none, errW_some] <;> rfl), by repeat (first | (with_reducible first | exact HB.out | apply below_alloc | apply pw_below_drewN | apply below_drew1) | exact HB.out)⟩

end Go.Proofs.Ytpnflloamidecaa.Mine
