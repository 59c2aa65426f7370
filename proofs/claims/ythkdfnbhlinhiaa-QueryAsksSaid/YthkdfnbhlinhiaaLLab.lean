/- What the printed splits of a name answer. -/
import Derived.Test.YthkdfnbhlinhiaaMinex3
import Derived.Test.YthkdfnbhlinhiaaMinex20
import Derived.Test.YthkdfnbhlinhiaaLBase
namespace Go.Proofs.Ythkdfnbhlinhiaa.Pure
open Go.RowKit Go.Proofs.Ythkdfnbhlinhiaa.Mine Go.Proofs.YthkdfnbhlinhiaaW.PrintWords Go.Proofs.YthkdfnbhlinhiaaW.PrintLast Go.Proofs.YthkdfnbhlinhiaaW.PrintMore
set_option linter.unusedSimpArgs false
set_option linter.unusedVariables false

abbrev E0 : ByteArray := ⟨#[]⟩
theorem rdo {l : List ByteArray} {i : Nat} (h : i < l.length) : rdOf ByteArray.empty l (i : Int) = l[i] := by unfold rdOf; rw [Int.toNat_natCast]; simp [h]
/-- The labels that bytes have. -/
def lab : Nat → List Int → Option (List ByteArray)
  | 0, _ => none
  | _ + 1, [] => none
  | n + 1, x :: r => if x = 0 then (if r = [] then some [] else none) else if 63 < x then none else if (r.length : Int) < x then none else (lab n (r.drop x.toNat)).map (strOfNums (r.take x.toNat) :: ·)
def LB (s : ByteArray) : Option (List ByteArray) := if s.size > 255 then none else lab (s.size + 1) (bytesOf s)
/-- What a split answers. -/
def Spl (acc : List ByteArray) (o : Option (List ByteArray)) (r : List ByteArray × Bool) : Prop :=
  match o with
  | some ls => r = (acc ++ ls, true)
  | none => r.2 = false
theorem Spl.map {acc : List ByteArray} {x : ByteArray} {o : Option (List ByteArray)} {r : List ByteArray × Bool} (h : Spl (acc ++ [x]) o r) : Spl acc (o.map (x :: ·)) r := by
  cases o with
  | none => exact h
  | some ls => unfold Spl at h ⊢; simp only [Option.map_some]; rw [h, List.append_assoc]; rfl
theorem cons_of {s : ByteArray} (h : 0 < s.size) : ∃ x r, bytesOf s = x :: r ∧ bt s 0 = x ∧ s.size = r.length + 1 ∧ 0 ≤ x ∧ x < 256 ∧ Bytes r := by
  have hl := size_bytesOf s
  have hb := bytesOf_bytes s
  cases hs : bytesOf s with
  | nil => rw [hs] at hl; simp only [List.length_nil] at hl; omega
  | cons x r =>
    rw [hs] at hl hb
    refine ⟨x, r, rfl, ?_, by simpa using hl, hb.head.1, hb.head.2, hb.tail⟩
    rw [bt_eq, hs]; rfl
theorem split_l0 : ∀ (n : Nat) (s : ByteArray) (acc : List ByteArray) (k : Nat), s.size < n → n < k → acc.length + s.size ≤ 1000000 →
    ∃ r, name_split.l0 k s acc = some r ∧ Spl acc (lab n (bytesOf s)) r
  | 0, s, acc, k, h, _, _ => absurd h (by omega)
  | n + 1, s, acc, k, h, hk, ha => by
    obtain ⟨k, rfl⟩ : ∃ m, k = m + 1 := ⟨k - 1, by omega⟩
    simp only [name_split.l0]
    by_cases h0 : (s.size : Int) > 0
    · obtain ⟨x, r, hb, hx, hsz, hx0, hx1, hr⟩ := cons_of (s := s) (by omega)
      rw [if_pos h0, if_pos (by omega), hx, w64 (x := x) (by omega) (by omega), hb]
      simp only [lab]
      by_cases hz : x = 0
      · rw [if_pos hz, if_pos hz]
        refine ⟨_, rfl, ?_⟩
        by_cases hrn : r = []
        · rw [if_pos hrn]
          unfold Spl
          simp only [List.append_nil]
          rw [hsz, hrn]; rfl
        · rw [if_neg hrn]
          unfold Spl
          have : r.length ≠ 0 := fun h_ => hrn (List.eq_nil_of_length_eq_zero h_)
          simp only [beq_eq_false_iff_ne, ne_eq]
          omega
      rw [if_neg hz, if_neg hz]
      by_cases h63 : x > 63
      · rw [if_pos h63, if_pos h63]; exact ⟨_, rfl, rfl⟩
      rw [if_neg h63, if_neg h63]
      by_cases hge : x ≥ (s.size : Int)
      · rw [if_pos hge, if_pos (by omega)]; exact ⟨_, rfl, rfl⟩
      rw [if_neg hge, if_neg (show ¬ (r.length : Int) < x by omega), w64 (x := x + 1) (by omega) (by omega), if_pos (show 1 ≤ x + 1 by omega), if_pos (show x + 1 ≤ (s.size : Int) by omega), if_pos (show acc.length < 8796093022208 by omega), if_pos (show 0 ≤ x + 1 by omega)]
      have e1 : bytesOf (s.extract (x + 1).toNat s.size) = r.drop x.toNat := by
        rw [bytesOf_extract, hb, show (x + 1).toNat = x.toNat + 1 by omega, List.drop_succ_cons, List.take_of_length_le (by rw [List.length_drop]; omega)]
      have e2 : s.extract 1 (x + 1).toNat = strOfNums (r.take x.toNat) := by
        apply bytesOf_inj
        rw [bytesOf_str (hr.take _), bytesOf_extract, hb, show (x + 1).toNat - 1 = x.toNat by omega, List.drop_succ_cons, List.drop_zero]
      obtain ⟨q, hq1, hq2⟩ := split_l0 n (s.extract (x + 1).toNat s.size) (acc ++ [s.extract 1 (x + 1).toNat]) k (by rw [ByteArray.size_extract]; omega) (by omega) (by rw [List.length_append, ByteArray.size_extract]; simp only [List.length_singleton]; omega)
      refine ⟨q, hq1, ?_⟩
      rw [e1, e2] at hq2
      exact hq2.map
    · rw [if_neg h0]
      have : bytesOf s = [] := List.eq_nil_of_length_eq_zero (by have := size_bytesOf s; omega)
      rw [this]
      exact ⟨_, rfl, rfl⟩
theorem split_f {k : Nat} {s : ByteArray} (hs : s.size ≤ 900000) (hk : 300 < k) : ∃ r, name_split.f k s = some r ∧ Spl [] (LB s) r := by
  unfold name_split.f LB
  by_cases h : (s.size : Int) > 255
  · rw [if_pos h, if_pos (by omega)]; exact ⟨_, rfl, rfl⟩
  · rw [if_neg h, if_neg (by omega)]
    exact split_l0 _ s [] k (Nat.lt_succ_self _) (by omega) (by simp; omega)
theorem rlab_l0 (s : ByteArray) (hs : s.size ≤ 255) : ∀ (n at_ : Nat) (acc : List ByteArray) (k : Nat), s.size - at_ < n → at_ ≤ s.size → 2 * n < k → acc.length + (s.size - at_) ≤ 1000000 →
    ∃ r, nuncioref04_Labels.l0 k s acc (at_ : Int) = some r ∧ Spl acc (lab n ((bytesOf s).drop at_)) r
  | 0, at_, acc, k, h, _, _, _ => absurd h (by omega)
  | n + 1, at_, acc, k, h, hat, hk, ha => by
    obtain ⟨k, rfl⟩ : ∃ m, k = m + 1 + 1 := ⟨k - 2, by omega⟩
    have hl := size_bytesOf s
    simp only [nuncioref04_Labels.l0, nuncioref04_Labels.j1]
    by_cases h0 : (at_ : Int) < (s.size : Int)
    · have hi : at_ < (bytesOf s).length := by omega
      have hbx := bytesOf_bytes s (bytesOf s)[at_] (List.getElem_mem hi)
      have hx : bt s (at_ : Int) = (bytesOf s)[at_] := by rw [bt_eq, rd_nat hi]
      have hr : Bytes ((bytesOf s).drop (at_ + 1)) := (bytesOf_bytes s).drop _
      have hrl : ((bytesOf s).drop (at_ + 1)).length = s.size - at_ - 1 := by rw [List.length_drop]; omega
      rw [if_pos h0, decide_eq_true (by omega : (s.size : Int) ≤ 255), if_pos rfl, if_pos (by omega), if_pos h0, hx, List.drop_eq_getElem_cons hi]
      generalize hxx : (bytesOf s)[at_] = x at *
      rw [w64 (x := x) (by omega) (by omega)]
      simp only [lab]
      have e1 : ∀ m : Nat, ((bytesOf s).drop (at_ + 1)).drop m = (bytesOf s).drop (at_ + 1 + m) := fun m => by rw [List.drop_drop]
      generalize hrr : (bytesOf s).drop (at_ + 1) = r at *
      by_cases hz : x = 0
      · rw [if_pos hz, if_pos hz, w64 (x := (s.size : Int) - 1) (by omega) (by omega)]
        refine ⟨_, rfl, ?_⟩
        by_cases hrn : r = []
        · rw [if_pos hrn]
          unfold Spl
          rw [hrn] at hrl
          simp only [List.length_nil] at hrl
          simp only [List.append_nil]
          rw [show ((at_ : Int) == (s.size : Int) - 1) = true by rw [beq_iff_eq]; omega]
        · rw [if_neg hrn]
          unfold Spl
          have : r.length ≠ 0 := fun h_ => hrn (List.eq_nil_of_length_eq_zero h_)
          simp only [beq_eq_false_iff_ne, ne_eq]
          omega
      rw [if_neg hz, if_neg hz]
      by_cases h63 : x > 63
      · rw [if_pos h63, if_pos h63]; exact ⟨_, rfl, rfl⟩
      rw [if_neg h63, if_neg h63, w64 (x := (s.size : Int) - 1) (by omega) (by omega), w64 (x := (s.size : Int) - 1 - (at_ : Int)) (by omega) (by omega)]
      by_cases hge : x > (s.size : Int) - 1 - (at_ : Int)
      · rw [if_pos hge, if_pos (by omega)]; exact ⟨_, rfl, rfl⟩
      rw [if_neg hge, if_neg (show ¬ (r.length : Int) < x by omega), w64 (x := (at_ : Int) + 1) (by omega) (by omega), w64 (x := (at_ : Int) + 1 + x) (by omega) (by omega), if_pos (show 0 ≤ (at_ : Int) + 1 by omega), if_pos (show (at_ : Int) + 1 ≤ (at_ : Int) + 1 + x by omega), if_pos (show (at_ : Int) + 1 + x ≤ (s.size : Int) by omega), if_pos (show acc.length < 8796093022208 by omega)]
      have e2 : s.extract ((at_ : Int) + 1).toNat ((at_ : Int) + 1 + x).toNat = strOfNums (r.take x.toNat) := by
        apply bytesOf_inj
        rw [bytesOf_str (hr.take _), bytesOf_extract, show ((at_ : Int) + 1).toNat = at_ + 1 by omega, hrr, show ((at_ : Int) + 1 + x).toNat - (at_ + 1) = x.toNat by omega]
      obtain ⟨q, hq1, hq2⟩ := rlab_l0 s hs n (at_ + 1 + x.toNat) (acc ++ [s.extract ((at_ : Int) + 1).toNat ((at_ : Int) + 1 + x).toNat]) k (by omega) (by omega) (by omega) (by rw [List.length_append]; simp only [List.length_singleton]; omega)
      rw [show (((at_ + 1 + x.toNat : Nat) : Nat) : Int) = (at_ : Int) + 1 + x by omega] at hq1
      refine ⟨q, hq1, ?_⟩
      rw [e2, ← e1] at hq2
      exact hq2.map
    · rw [if_neg h0, if_neg (by simp), List.drop_eq_nil_of_le (by omega)]
      exact ⟨_, rfl, rfl⟩
theorem rlab_f {k : Nat} {s : ByteArray} (hs : s.size ≤ 900000) (hk : 600 < k) : ∃ r, nuncioref04_Labels.f k s = some r ∧ Spl [] (LB s) r := by
  unfold nuncioref04_Labels.f LB
  by_cases h : s.size > 255
  · rw [if_pos h]
    obtain ⟨k, rfl⟩ : ∃ m, k = m + 1 + 1 := ⟨k - 2, by omega⟩
    simp only [nuncioref04_Labels.l0, nuncioref04_Labels.j1]
    rw [if_pos (by omega), decide_eq_false (by omega), if_neg (by simp)]
    exact ⟨_, rfl, rfl⟩
  · rw [if_neg h]
    have := rlab_l0 s (by omega) (s.size + 1) 0 [] k (by omega) (by omega) (by omega) (by simp; omega)
    rw [List.drop_zero] at this
    exact this
theorem Spl.snd {acc : List ByteArray} {o : Option (List ByteArray)} {r : List ByteArray × Bool} (h : Spl acc o r) : r.2 = o.isSome := by
  cases o with
  | none => exact h
  | some ls => unfold Spl at h; rw [h]; rfl
theorem Spl.fst {ls : List ByteArray} {o : Option (List ByteArray)} {r : List ByteArray × Bool} (h : Spl [] o r) (he : o = some ls) : r.1 = ls := by
  subst he
  unfold Spl at h
  rw [h]; rfl
theorem is_f {k : Nat} {s : ByteArray} (hs : s.size ≤ 900000) (hk : 300 < k) : name_Is.f k s = some (LB s).isSome := by
  obtain ⟨r, h1, h2⟩ := split_f hs hk
  unfold name_Is.f
  rw [h1, Option.bind_some, h2.snd]
theorem ris_f {k : Nat} {s : ByteArray} (hs : s.size ≤ 900000) (hk : 600 < k) : nuncioref04_Is.f k s = some (LB s).isSome := by
  obtain ⟨r, h1, h2⟩ := rlab_f hs hk
  unfold nuncioref04_Is.f
  rw [h1, Option.bind_some, h2.snd]
end Go.Proofs.Ythkdfnbhlinhiaa.Pure
