/- Names, numbers and texts end by themselves. -/
import Derived.Test.YtebnbjnkameicaaLRec
namespace Go.Proofs.Ytebnbjnkameicaa.Pure
open Go.RowKit Go.Proofs.Ytebnbjnkameicaa.Mine Go.Proofs.YtebnbjnkameicaaW.PrintWords Go.Proofs.YtebnbjnkameicaaW.PrintLast Go.Proofs.YtebnbjnkameicaaW.PrintMore
set_option linter.unusedSimpArgs false
set_option linter.unusedVariables false

theorem lab_pf : ∀ (n m : Nat) (x y u v : List Int), (lab n x).isSome = true → (lab m y).isSome = true → Bytes x → x ++ u = y ++ v → x = y
  | 0, m, x, y, u, v, h1, h2, hx, e => by simp [lab] at h1
  | n + 1, 0, x, y, u, v, h1, h2, hx, e => by simp [lab] at h2
  | n + 1, m + 1, [], y, u, v, h1, h2, hx, e => by simp [lab] at h1
  | n + 1, m + 1, a :: x, [], u, v, h1, h2, hx, e => by simp [lab] at h2
  | n + 1, m + 1, a :: x, b :: y, u, v, h1, h2, hx, e => by
    obtain ⟨rfl, e0⟩ : a = b ∧ x ++ u = y ++ v := by simpa using e
    have ha := hx.head
    simp only [lab] at h1 h2
    by_cases h0 : a = 0
    · rw [if_pos h0] at h1 h2
      have e1 : x = [] := Classical.byContradiction fun h => by rw [if_neg h] at h1; simp at h1
      have e2 : y = [] := Classical.byContradiction fun h => by rw [if_neg h] at h2; simp at h2
      rw [e1, e2]
    · rw [if_neg h0] at h1 h2
      by_cases h63 : 63 < a
      · rw [if_pos h63] at h1; simp at h1
      · rw [if_neg h63] at h1 h2
        by_cases hx1 : (x.length : Int) < a
        · rw [if_pos hx1] at h1; simp at h1
        · by_cases hy1 : (y.length : Int) < a
          · rw [if_pos hy1] at h2; simp at h2
          · rw [if_neg hx1, Option.isSome_map] at h1
            rw [if_neg hy1, Option.isSome_map] at h2
            have e3 := congrArg (List.take a.toNat) e0
            have e4 := congrArg (List.drop a.toNat) e0
            rw [List.take_append_of_le_length (by omega), List.take_append_of_le_length (by omega)] at e3
            rw [List.drop_append_of_le_length (by omega), List.drop_append_of_le_length (by omega)] at e4
            have e5 := lab_pf n m _ _ _ _ h1 h2 (hx.tail.drop _) e4
            rw [← List.take_append_drop a.toNat x, ← List.take_append_drop a.toNat y, e3, e5]
theorem name_pf {a b : ByteArray} {u v : List Int} (ha : (LB a).isSome = true) (hb : (LB b).isSome = true) (e : bytesOf a ++ u = bytesOf b ++ v) : a = b ∧ u = v := by
  unfold LB at ha hb
  by_cases h1 : a.size > 255
  · rw [if_pos h1] at ha; simp at ha
  · by_cases h2 : b.size > 255
    · rw [if_pos h2] at hb; simp at hb
    · rw [if_neg h1] at ha
      rw [if_neg h2] at hb
      have := lab_pf _ _ _ _ _ _ ha hb (bytesOf_bytes a) e
      exact ⟨bytesOf_inj this, by rw [this] at e; exact List.append_cancel_left e⟩
theorem be_inj {n m : Int} {j : Nat} (hn : 0 ≤ n) (hn2 : n < 256 ^ j) (hm : 0 ≤ m) (hm2 : m < 256 ^ j) (e : be n j = be m j) : n = m := by
  have := congrArg (beVal 0) e
  rw [beVal_be, beVal_be, Int.emod_eq_of_lt hn hn2, Int.emod_eq_of_lt hm hm2] at this
  exact this
theorem nums_inj (j : Nat) : ∀ (us us' : List Int) (x y : List Int), us.length = us'.length → (∀ u ∈ us, 0 ≤ u ∧ u < 256 ^ j) → (∀ u ∈ us', 0 ≤ u ∧ u < 256 ^ j) → us.flatMap (be · j) ++ x = us'.flatMap (be · j) ++ y → us = us' ∧ x = y
  | [], [], x, y, _, _, _, e => ⟨rfl, by simpa using e⟩
  | [], _ :: _, x, y, hl, _, _, e => by simp at hl
  | _ :: _, [], x, y, hl, _, _, e => by simp at hl
  | u :: us, v :: us', x, y, hl, h1, h2, e => by
    rw [List.flatMap_cons, List.flatMap_cons, List.append_assoc, List.append_assoc] at e
    obtain ⟨e1, e2⟩ := List.append_inj e (by rw [be_length, be_length])
    have hu := h1 u List.mem_cons_self
    have hv := h2 v List.mem_cons_self
    have e3 := be_inj hu.1 hu.2 hv.1 hv.2 e1
    obtain ⟨e4, e5⟩ := nums_inj j us us' x y (by simpa using hl) (fun w hw => h1 w (List.mem_cons_of_mem _ hw)) (fun w hw => h2 w (List.mem_cons_of_mem _ hw)) e2
    exact ⟨by rw [e3, e4], e5⟩
theorem names_inj : ∀ (ns ns' : List ByteArray) (x y : List Int), ns.length = ns'.length → (ns.all fun s => (LB s).isSome) = true → (ns'.all fun s => (LB s).isSome) = true → ns.flatMap bytesOf ++ x = ns'.flatMap bytesOf ++ y → ns = ns' ∧ x = y
  | [], [], x, y, _, _, _, e => ⟨rfl, by simpa using e⟩
  | [], _ :: _, x, y, hl, _, _, e => by simp at hl
  | _ :: _, [], x, y, hl, _, _, e => by simp at hl
  | u :: us, v :: us', x, y, hl, h1, h2, e => by
    rw [List.flatMap_cons, List.flatMap_cons, List.append_assoc, List.append_assoc] at e
    rw [List.all_cons, Bool.and_eq_true] at h1 h2
    obtain ⟨e1, e2⟩ := name_pf h1.1 h2.1 e
    obtain ⟨e4, e5⟩ := names_inj us us' x y (by simpa using hl) h1.2 h2.2 e2
    exact ⟨by rw [e1, e4], e5⟩
theorem texts_inj16 : ∀ (ts ts' : List ByteArray), (ts.all (tOK 16)) = true → (ts'.all (tOK 16)) = true → ts.flatMap (tB 16) = ts'.flatMap (tB 16) → ts = ts'
  | [], [], _, _, e => rfl
  | [], _ :: _, _, _, e => by simp [tB] at e
  | _ :: _, [], _, _, e => by simp [tB] at e
  | u :: us, v :: us', h1, h2, e => by
    rw [List.all_cons, Bool.and_eq_true] at h1 h2
    have hu : u.size ≤ 255 := by have := h1.1; simp [tOK] at this; omega
    have hv : v.size ≤ 255 := by have := h2.1; simp [tOK] at this; omega
    rw [List.flatMap_cons, List.flatMap_cons] at e
    have e0 : ((u.size : Int) % 256) = ((v.size : Int) % 256) := by
      unfold tB at e
      rw [if_pos rfl, if_pos rfl] at e
      exact (List.cons.inj e).1
    obtain ⟨e1, e2⟩ := List.append_inj e (by unfold tB; rw [if_pos rfl, if_pos rfl, List.length_append, List.length_append, ← size_bytesOf, ← size_bytesOf]; simp; omega)
    have e3 : u = v := by
      unfold tB at e1
      rw [if_pos rfl, if_pos rfl] at e1
      exact bytesOf_inj (List.cons.inj e1).2
    rw [e3, texts_inj16 us us' h1.2 h2.2 e2]
theorem SHL_len {t : Int} {ns : List ByteArray} {us : List Int} {ts : List ByteArray} (h : SH t ns us ts = true) : (ns.length : Int) = (shp t).1 ∧ (us.length : Int) = (shp t).2.1 ∧ ((ts.length : Int) = (shp t).2.2 ∨ t = 16) ∧ us.all (uOK t) = true ∧ ts.all (tOK t) = true := by
  unfold SH SHL at h
  rw [Bool.and_eq_true, Bool.and_eq_true, Bool.and_eq_true, Bool.and_eq_true, Bool.or_eq_true, Bool.and_eq_true] at h
  obtain ⟨⟨⟨⟨h1, h2⟩, h3⟩, h4⟩, h5⟩ := h
  exact ⟨of_decide_eq_true h1, of_decide_eq_true h2, h3.elim (fun h => Or.inl (of_decide_eq_true h)) (fun h => Or.inr (of_decide_eq_true h.1)), h4, h5⟩
theorem shp_ts (t : Int) : (shp t).2.2 = 0 ∨ (shp t).2.2 = 1 := by
  unfold shp; repeat' split
  all_goals simp
theorem CK_zero {a : ByteArray} {t e : Int} {ns : List ByteArray} {us : List Int} {ts : List ByteArray} (h : CK a t e ns us ts = 0) : (LB a).isSome = true ∧ (ns.all fun s => (LB s).isSome) = true ∧ SH t ns us ts = true ∧ ¬ (e > 2147483647 ∧ t ≠ 41) := by
  unfold CK at h
  by_cases h1 : ((LB a).isSome && ns.all fun s => (LB s).isSome) = true
  · rw [if_pos h1] at h
    rw [Bool.and_eq_true] at h1
    by_cases h2 : SH t ns us ts = true
    · rw [if_pos h2] at h
      refine ⟨h1.1, h1.2, h2, fun h3 => ?_⟩
      rw [if_pos h3.1, if_neg h3.2] at h
      exact absurd h (by decide)
    · rw [if_neg h2] at h; exact absurd h (by decide)
  · rw [if_neg h1] at h; exact absurd h (by decide)
theorem PL_inj {t : Int} {ns ns' : List ByteArray} {us us' : List Int} {ts ts' : List ByteArray} (hn : (ns.all fun s => (LB s).isSome) = true) (hn' : (ns'.all fun s => (LB s).isSome) = true) (hs : SH t ns us ts = true) (hs' : SH t ns' us' ts' = true)
    (hu : ∀ u ∈ us, 0 ≤ u ∧ u < 4294967296) (hu' : ∀ u ∈ us', 0 ≤ u ∧ u < 4294967296) (e : PL t ns us ts = PL t ns' us' ts') : ns = ns' ∧ us = us' ∧ ts = ts' := by
  obtain ⟨a1, a2, a3, a4, a5⟩ := SHL_len hs
  obtain ⟨b1, b2, b3, b4, b5⟩ := SHL_len hs'
  have T : ts.flatMap (tB t) = ts'.flatMap (tB t) → ts = ts' := by
    intro e
    by_cases e3 : t = 16
    · subst e3; exact texts_inj16 _ _ a5 b5 e
    · have c1 := a3.resolve_right e3
      have c2 := b3.resolve_right e3
      rcases shp_ts t with h | h
      · rw [h] at c1 c2
        rw [List.length_eq_zero_iff.1 (by omega : ts.length = 0), List.length_eq_zero_iff.1 (by omega : ts'.length = 0)]
      · rw [h] at c1 c2
        obtain ⟨x, rfl⟩ := List.length_eq_one_iff.1 (by omega : ts.length = 1)
        obtain ⟨y, rfl⟩ := List.length_eq_one_iff.1 (by omega : ts'.length = 1)
        have : bytesOf x = bytesOf y := by simpa [tB, e3] using e
        rw [bytesOf_inj this]
  unfold PL at e
  by_cases e6 : t = 6
  · simp only [e6, if_true, List.nil_append] at e
    obtain ⟨e1, e2⟩ := names_inj _ _ _ _ (by omega) hn hn' e
    obtain ⟨e3, e4⟩ := nums_inj 4 _ _ _ _ (by omega) (fun u h => by have := hu u h; omega) (fun u h => by have := hu' u h; omega) e2
    exact ⟨e1, e3, T (by rw [e6]; exact e4)⟩
  · simp only [e6, if_false, List.nil_append] at e
    have W : ∀ us : List Int, (∀ u ∈ us, 0 ≤ u ∧ u < 4294967296) → us.all (uOK t) = true → ∀ u ∈ us, 0 ≤ u ∧ u < 256 ^ 2 := by
      intro us h1 h2 u h
      have h3 := h1 u h
      have h4 := List.all_eq_true.1 h2 u h
      simp [uOK, e6] at h4
      omega
    obtain ⟨e3, e4⟩ := nums_inj 2 _ _ _ _ (by omega) (W _ hu a4) (W _ hu' b4) e
    obtain ⟨e1, e2⟩ := names_inj _ _ _ _ (by omega) hn hn' e4
    exact ⟨e1, e3, T e2⟩
end Go.Proofs.Ytebnbjnkameicaa.Pure
