/- What the printed functions of name and nuncioref04 answer: labels, names, folding, zones. -/
import Derived.Test.YthkdfnbhlinhiaaMinex3
import Derived.Test.YthkdfnbhlinhiaaMinex4
import Derived.Test.YthkdfnbhlinhiaaMinex21
import Derived.Test.YthkdfnbhlinhiaaMinex20
import Derived.Test.YthkdfnbhlinhiaaMinex22
import Derived.Test.YthkdfnbhlinhiaaLLab
namespace Go.Proofs.Ythkdfnbhlinhiaa.Pure
open Go.RowKit Go.Proofs.Ythkdfnbhlinhiaa.Mine Go.Proofs.YthkdfnbhlinhiaaW.PrintWords Go.Proofs.YthkdfnbhlinhiaaW.PrintLast Go.Proofs.YthkdfnbhlinhiaaW.PrintMore

set_option linter.unusedSimpArgs false
set_option linter.unusedVariables false

/-- A label's size is right. -/
def okB (x : ByteArray) : Bool := decide (1 ≤ x.size) && decide (x.size ≤ 63)
/-- The bytes of labels, one behind the other. -/
def encs : List ByteArray → List Int
  | [] => []
  | x :: l => (x.size : Int) :: (bytesOf x ++ encs l)
theorem encs_append : ∀ a b, encs (a ++ b) = encs a ++ encs b
  | [], b => rfl
  | x :: a, b => by rw [List.cons_append, encs, encs, encs_append a b, List.cons_append, List.append_assoc]
def enc (l : List ByteArray) : List Int := encs l ++ [0]
theorem encs_bytes : ∀ (l : List ByteArray), l.all okB = true → Bytes (encs l)
  | [], _ => Bytes.nil
  | x :: l, h => by
    rw [List.all_cons, Bool.and_eq_true] at h
    have h1 := h.1
    unfold okB at h1
    simp only [Bool.and_eq_true, decide_eq_true_eq] at h1
    exact Bytes.cons (by omega) (by omega) ((bytesOf_bytes x).append (encs_bytes l h.2))
theorem enc_bytes (l : List ByteArray) (h : l.all okB = true) : Bytes (enc l) := (encs_bytes l h).append (Bytes.cons (by omega) (by omega) Bytes.nil)
/-- The name of labels, or why there is none. -/
def MK (l : List ByteArray) : ByteArray × Int := if l.all okB = true then (if (enc l).length ≤ 255 then (strOfNums (enc l), 0) else (E0, 40)) else (E0, 41)
theorem okB_iff (x : ByteArray) : okB x = true ↔ 1 ≤ x.size ∧ x.size ≤ 63 := by unfold okB; simp
theorem str_app {a b : List Int} (ha : Bytes a) (hb : Bytes b) : strOfNums (a ++ b) = strOfNums a ++ strOfNums b := by
  apply bytesOf_inj
  rw [bytesOf_append, bytesOf_str ha, bytesOf_str hb, bytesOf_str (ha.append hb)]
theorem ba_assoc (a b c : ByteArray) : a ++ b ++ c = a ++ (b ++ c) := by apply bytesOf_inj; rw [bytesOf_append, bytesOf_append, bytesOf_append, bytesOf_append, List.append_assoc]
theorem ba_nil (a : ByteArray) : E0 ++ a = a := by apply bytesOf_inj; rw [bytesOf_append, bytesOf_empty, List.nil_append]
theorem rmake_l1 (l : List ByteArray) (hall : l.all okB = true) (hl : l.length ≤ 1000000) : ∀ (d k i : Nat) (s : ByteArray), i + d = l.length → d < k → s.size < 255 →
    nuncioref04_Make.l1 k l s (i : Int) = some (if s.size + (encs (l.drop i)).length < 255 then (s ++ strOfNums (enc (l.drop i)), 0) else (E0, 40))
  | 0, k, i, s, hi, hk, hb => by
    obtain ⟨k, rfl⟩ : ∃ m, k = m + 1 := ⟨k - 1, by omega⟩
    simp only [nuncioref04_Make.l1]
    rw [if_neg (by omega), if_pos (by omega), List.drop_eq_nil_of_le (by omega), if_pos (by simp only [encs, List.length_nil]; omega)]
    rfl
  | d + 1, k, i, s, hi, hk, hb => by
    obtain ⟨k, rfl⟩ : ∃ m, k = m + 1 := ⟨k - 1, by omega⟩
    have hil : i < l.length := by omega
    have hok := (okB_iff _).1 (List.all_eq_true.1 hall l[i] (List.getElem_mem hil))
    have hsz := size_bytesOf l[i]
    have hda : (l.drop (i + 1)).all okB = true := List.all_eq_true.2 fun x hx => List.all_eq_true.1 hall x (List.mem_of_mem_drop hx)
    have z1 : (strOfNums [(l[i].size : Int)]).size = 1 := by rw [strOfNums_size]; rfl
    simp only [nuncioref04_Make.l1]
    rw [if_pos (by omega), if_pos (by omega), rdo hil, Option.bind_some, Int.emod_eq_of_lt (by omega) (by omega), if_pos (by omega), if_pos (by omega), w64 (x := (i : Int) + 1) (by omega) (by omega), z1,
      show encs (l.drop i) = (l[i].size : Int) :: (bytesOf l[i] ++ encs (l.drop (i + 1))) by rw [List.drop_eq_getElem_cons hil]; rfl]
    have hlen : ((s ++ strOfNums [(l[i].size : Int)]) ++ l[i]).size = s.size + 1 + l[i].size := by rw [ByteArray.size_append, ByteArray.size_append, z1]
    by_cases hg : ((s.size : Int) + ((1 : Nat) : Int)) + (l[i].size : Int) > 254
    · rw [if_pos hg, if_neg (by rw [List.length_cons, List.length_append]; omega)]
    · rw [if_neg hg]
      have ih := rmake_l1 l hall hl d k (i + 1) ((s ++ strOfNums [(l[i].size : Int)]) ++ l[i]) (by omega) (by omega) (by omega)
      rw [show ((i + 1 : Nat) : Int) = (i : Int) + 1 by omega] at ih
      rw [ih, hlen, List.length_cons, List.length_append, ← hsz]
      have e1 : s ++ strOfNums [(l[i].size : Int)] ++ l[i] ++ strOfNums (enc (l.drop (i + 1))) = s ++ strOfNums (enc (l.drop i)) := by
        have hb1 : Bytes [(l[i].size : Int)] := Bytes.cons (by omega) (by omega) Bytes.nil
        have e2 : enc (l.drop i) = [(l[i].size : Int)] ++ (bytesOf l[i] ++ enc (l.drop (i + 1))) := by rw [List.drop_eq_getElem_cons hil]; simp [enc, encs]
        rw [e2, str_app hb1 ((bytesOf_bytes _).append (enc_bytes _ hda)), str_app (bytesOf_bytes _) (enc_bytes _ hda), str_bytesOf, ba_assoc, ba_assoc]
      rw [e1]
      by_cases hq : s.size + 1 + l[i].size + (encs (l.drop (i + 1))).length < 255
      · rw [if_pos hq, if_pos (by omega)]
      · rw [if_neg hq, if_neg (by omega)]
theorem rmake_l0 (l : List ByteArray) (hl : l.length ≤ 1000000) : ∀ (d k i : Nat), i + d = l.length → d + l.length + 1 < k →
    nuncioref04_Make.l0 k l (i : Int) = some (if (l.drop i).all okB = true then MK l else (E0, 41)) ∨ (l.take i).all okB = false
  | 0, k, i, hi, hk => by
    obtain ⟨k, rfl⟩ : ∃ m, k = m + 1 := ⟨k - 1, by omega⟩
    by_cases hall : l.all okB = true
    · left
      simp only [nuncioref04_Make.l0]
      rw [if_neg (by omega)]
      have := rmake_l1 l hall hl l.length k 0 E0 (by omega) (by omega) (by decide)
      rw [List.drop_zero, ba_nil] at this
      rw [List.drop_eq_nil_of_le (by omega), if_pos (show ([] : List ByteArray).all okB = true from rfl)]
      refine this.trans ?_
      unfold MK
      rw [if_pos hall]
      have e : (enc l).length = (encs l).length + 1 := by unfold enc; rw [List.length_append, List.length_singleton]
      rw [e, show E0.size = 0 from rfl]
      by_cases hq : 0 + (encs l).length < 255
      · rw [if_pos hq, if_pos (by omega)]
      · rw [if_neg hq, if_neg (by omega)]
    · right
      rw [List.take_of_length_le (by omega)]
      simpa using hall
  | d + 1, k, i, hi, hk => by
    obtain ⟨k, rfl⟩ : ∃ m, k = m + 1 := ⟨k - 1, by omega⟩
    have hil : i < l.length := by omega
    by_cases hok : okB l[i] = true
    · have h1 := (okB_iff _).1 hok
      rcases rmake_l0 l hl d k (i + 1) (by omega) (by omega) with ih | ih
      · left
        rw [show ((i + 1 : Nat) : Int) = (i : Int) + 1 by omega] at ih
        simp only [nuncioref04_Make.l0]
        rw [if_pos (by omega), if_pos (by omega), rdo hil, if_neg (by omega), if_neg (by omega), w64 (x := (i : Int) + 1) (by omega) (by omega), ih, List.drop_eq_getElem_cons hil, List.all_cons, hok, Bool.true_and]
      · right
        rw [List.take_succ_eq_append_getElem hil, List.all_append, List.all_cons, hok] at ih
        simpa using ih
    · left
      have h1 : ¬ (1 ≤ l[i].size ∧ l[i].size ≤ 63) := fun h => hok ((okB_iff _).2 h)
      simp only [nuncioref04_Make.l0]
      rw [if_pos (by omega), if_pos (by omega), rdo hil, List.drop_eq_getElem_cons hil, List.all_cons, if_neg (show ¬ ((okB l[i] && (l.drop (i + 1)).all okB) = true) by simp [hok])]
      by_cases h2 : (l[i].size : Int) < 1
      · rw [if_pos h2]
      · rw [if_neg h2, if_pos (by omega)]
theorem rmake_f {k : Nat} {l : List ByteArray} (hl : l.length ≤ 1000000) (hk : 2 * l.length + 2 < k) : nuncioref04_Make.f k l = some (MK l) := by
  unfold nuncioref04_Make.f
  rcases rmake_l0 l hl l.length k 0 (by omega) (by omega) with h | h
  · refine h.trans ?_
    rw [List.drop_zero]
    by_cases hall : l.all okB = true
    · rw [if_pos hall]
    · rw [if_neg hall]; unfold MK; rw [if_neg hall]
  · rw [List.take_zero] at h; exact absurd h (by simp)
def fo (s : ByteArray) : ByteArray := strOfNums ((bytesOf s).map foldB)
theorem foldB_byte {x : Int} (h0 : 0 ≤ x) (h1 : x < 256) : 0 ≤ foldB x ∧ foldB x < 256 := by unfold foldB; split <;> omega
theorem fold_bytes {l : List Int} (h : Bytes l) : Bytes (l.map foldB) := by
  intro y hy
  obtain ⟨x, hx, rfl⟩ := List.mem_map.1 hy
  exact foldB_byte (h x hx).1 (h x hx).2
theorem fo_bytes (s : ByteArray) : bytesOf (fo s) = (bytesOf s).map foldB := bytesOf_str (fold_bytes (bytesOf_bytes s))
theorem fo_size (s : ByteArray) : (fo s).size = s.size := by rw [size_bytesOf, fo_bytes, List.length_map, ← size_bytesOf]
theorem foldB_small {x : Int} (h1 : x ≤ 63) : foldB x = x := by unfold foldB; rw [if_neg (by omega)]
theorem foldB_twice (x : Int) : foldB (foldB x) = foldB x := by unfold foldB; split <;> (try split) <;> omega
theorem fo_twice (s : ByteArray) : fo (fo s) = fo s := by
  apply bytesOf_inj
  rw [fo_bytes, fo_bytes, List.map_map]
  exact List.map_congr_left fun x _ => foldB_twice x
theorem tfold_f {s : ByteArray} (hs : s.size ≤ 900000) : text_Fold.f s = some (fo s) := by unfold text_Fold.f; rw [if_pos (by omega)]; rfl
theorem in_f (c : Int) : nuncioref02_in.f c 65 90 = some (decide (65 ≤ c ∧ c ≤ 90)) := by
  unfold nuncioref02_in.f
  by_cases h : c ≥ 65
  · rw [if_pos h]; congr 1; rw [Bool.eq_iff_iff]; simp only [decide_eq_true_eq]; omega
  · rw [if_neg h]; congr 1; rw [Bool.eq_iff_iff]; simp only [decide_eq_true_eq, Bool.false_eq_true, false_iff]; omega
theorem rfold2_l0 (s : ByteArray) (hs : s.size ≤ 900000) : ∀ (d k i : Nat) (acc : List Int), i + d = s.size → d < k → acc.length + d ≤ 1000000 → nuncioref02_Fold.l0 k s acc (i : Int) = some (strOfNums (acc ++ ((bytesOf s).drop i).map foldB))
  | 0, k, i, acc, hi, hk, ha => by
    obtain ⟨k, rfl⟩ : ∃ m, k = m + 1 := ⟨k - 1, by omega⟩
    have hl := size_bytesOf s
    simp only [nuncioref02_Fold.l0]
    rw [if_neg (by omega), List.drop_eq_nil_of_le (by omega), List.map_nil, List.append_nil]
  | d + 1, k, i, acc, hi, hk, ha => by
    obtain ⟨k, rfl⟩ : ∃ m, k = m + 1 := ⟨k - 1, by omega⟩
    have hl := size_bytesOf s
    have hil : i < (bytesOf s).length := by omega
    have hbx := bytesOf_bytes s (bytesOf s)[i] (List.getElem_mem hil)
    have e1 : ((i : Int) + 1) = ((i + 1 : Nat) : Int) := by omega
    simp only [nuncioref02_Fold.l0]
    rw [if_pos (by omega), if_pos (by omega), bt_eq, rd_nat hil, in_f, Option.bind_some, w64 (x := (i : Int) + 1) (by omega) (by omega), e1, List.drop_eq_getElem_cons hil, List.map_cons]
    generalize (bytesOf s)[i] = x at *
    by_cases h : 65 ≤ x ∧ x ≤ 90
    · have ef : (x + 32) % 256 = foldB x := by unfold foldB; rw [if_pos h]; omega
      rw [if_pos (decide_eq_true h), if_pos (by omega), ef, rfold2_l0 s hs d k (i + 1) _ (by omega) (by omega) (by rw [List.length_append, List.length_singleton]; omega), List.append_assoc]
      rfl
    · have ef : foldB x = x := by unfold foldB; rw [if_neg h]
      rw [if_neg (by simpa using h), if_pos (by omega), ef, rfold2_l0 s hs d k (i + 1) _ (by omega) (by omega) (by rw [List.length_append, List.length_singleton]; omega), List.append_assoc]
      rfl
theorem rfold2_f {k : Nat} {s : ByteArray} (hs : s.size ≤ 900000) (hk : s.size < k) : nuncioref02_Fold.f k s = some (fo s) := by
  have := rfold2_l0 s hs s.size k 0 [] (by omega) hk (by simp; omega)
  rw [List.drop_zero, List.nil_append] at this
  exact this
theorem folded_l0 (l : List ByteArray) (hl : l.length ≤ 900000) (hs : ∀ x ∈ l, x.size ≤ 255) : ∀ (d k i : Nat) (acc : List ByteArray), i + d = l.length → d + 300 < k → acc.length + d ≤ 1000000 → nuncioref04_folded.l0 k l acc (i : Int) = some (acc ++ (l.drop i).map fo)
  | 0, k, i, acc, hi, hk, ha => by
    obtain ⟨k, rfl⟩ : ∃ m, k = m + 1 := ⟨k - 1, by omega⟩
    simp only [nuncioref04_folded.l0]
    rw [if_neg (by omega), List.drop_eq_nil_of_le (by omega), List.map_nil, List.append_nil]
  | d + 1, k, i, acc, hi, hk, ha => by
    obtain ⟨k, rfl⟩ : ∃ m, k = m + 1 := ⟨k - 1, by omega⟩
    have hil : i < l.length := by omega
    have h1 := hs l[i] (List.getElem_mem hil)
    have e1 : ((i : Int) + 1) = ((i + 1 : Nat) : Int) := by omega
    simp only [nuncioref04_folded.l0]
    rw [if_pos (by omega), if_pos (by omega), rdo hil, rfold2_f (by omega) (by omega), Option.bind_some, if_pos (by omega), w64 (x := (i : Int) + 1) (by omega) (by omega), e1, folded_l0 l hl hs d k (i + 1) _ (by omega) (by omega) (by rw [List.length_append, List.length_singleton]; omega), List.drop_eq_getElem_cons hil, List.map_cons, List.append_assoc]
    rfl
theorem folded_f {k : Nat} {l : List ByteArray} (hl : l.length ≤ 900000) (hs : ∀ x ∈ l, x.size ≤ 255) (hk : l.length + 300 < k) : nuncioref04_folded.f k l = some (l.map fo) := by
  have := folded_l0 l hl hs l.length k 0 [] (by omega) hk (by simp; omega)
  rw [List.drop_zero, List.nil_append] at this
  exact this
/-- Labels that bytes have are right, and are these bytes. -/
theorem enc_lab : ∀ (n : Nat) (l : List Int) (ls : List ByteArray), Bytes l → lab n l = some ls → enc ls = l ∧ ls.all okB = true
  | 0, l, ls, _, h => by simp [lab] at h
  | n + 1, [], ls, _, h => by simp [lab] at h
  | n + 1, x :: r, ls, hb, h => by
    have hx := hb.head
    simp only [lab] at h
    by_cases hz : x = 0
    · rw [if_pos hz] at h
      by_cases hr : r = []
      · rw [if_pos hr] at h
        obtain rfl := Option.some.inj h
        rw [hz, hr]; exact ⟨rfl, rfl⟩
      · rw [if_neg hr] at h; exact absurd h (by simp)
    rw [if_neg hz] at h
    by_cases h63 : 63 < x
    · rw [if_pos h63] at h; exact absurd h (by simp)
    rw [if_neg h63] at h
    by_cases hl : (r.length : Int) < x
    · rw [if_pos hl] at h; exact absurd h (by simp)
    rw [if_neg hl] at h
    obtain ⟨ls', h1, rfl⟩ := Option.map_eq_some_iff.1 h
    obtain ⟨h2, h3⟩ := enc_lab n _ ls' (hb.tail.drop _) h1
    have hsz : (strOfNums (r.take x.toNat)).size = x.toNat := by rw [strOfNums_size, List.length_take]; omega
    refine ⟨?_, ?_⟩
    · unfold enc at h2 ⊢
      simp only [encs]
      rw [hsz, bytesOf_str (hb.tail.take _), List.cons_append, List.append_assoc, h2, List.take_append_drop, show ((x.toNat : Nat) : Int) = x by omega]
    · rw [List.all_cons, h3, (okB_iff _).2 (by omega)]; rfl
theorem lab_enc : ∀ (ls : List ByteArray) (n : Nat), ls.all okB = true → ls.length < n → lab n (enc ls) = some ls
  | [], 0, _, h => absurd h (by simp)
  | [], n + 1, _, _ => by simp [lab, enc, encs]
  | x :: ls, 0, _, h => absurd h (by simp)
  | x :: ls, n + 1, ha, h => by
    rw [List.all_cons, Bool.and_eq_true] at ha
    have hx := (okB_iff _).1 ha.1
    have hsz := size_bytesOf x
    have ih := lab_enc ls n ha.2 (by simpa using h)
    unfold enc at ih ⊢
    simp only [encs, List.cons_append, lab]
    rw [if_neg (by omega), if_neg (by omega), if_neg (by simp only [List.length_append]; omega), Int.toNat_natCast, List.append_assoc, show x.size = (bytesOf x).length from hsz, List.drop_left, List.take_left, ih, str_bytesOf]
    rfl
theorem encs_len : ∀ ls : List ByteArray, ls.length ≤ (encs ls).length
  | [] => Nat.le_refl _
  | x :: ls => by have := encs_len ls; simp only [encs, List.length_cons, List.length_append]; omega
theorem LB_enc {ls : List ByteArray} (h : ls.all okB = true) (hl : (enc ls).length ≤ 255) : LB (strOfNums (enc ls)) = some ls := by
  have hn := encs_len ls
  have he : (enc ls).length = (encs ls).length + 1 := by unfold enc; rw [List.length_append, List.length_singleton]
  unfold LB
  rw [strOfNums_size, if_neg (by omega), bytesOf_str (enc_bytes ls h)]
  exact lab_enc ls _ h (by omega)
theorem LB_some {s : ByteArray} {ls : List ByteArray} (h : LB s = some ls) : enc ls = bytesOf s ∧ ls.all okB = true ∧ s.size ≤ 255 := by
  unfold LB at h
  by_cases hs : s.size > 255
  · rw [if_pos hs] at h; exact absurd h (by simp)
  rw [if_neg hs] at h
  obtain ⟨h1, h2⟩ := enc_lab _ _ ls (bytesOf_bytes s) h
  exact ⟨h1, h2, by omega⟩
theorem LB_back {s : ByteArray} {ls : List ByteArray} (h : LB s = some ls) : MK ls = (s, 0) := by
  obtain ⟨h1, h2, h3⟩ := LB_some h
  have hl := size_bytesOf s
  unfold MK
  rw [if_pos h2, h1, if_pos (by omega), str_bytesOf]
theorem lab_len {s : ByteArray} {ls : List ByteArray} (h : LB s = some ls) : ls.length < 255 ∧ ∀ x ∈ ls, x.size ≤ 63 := by
  obtain ⟨h1, h2, h3⟩ := LB_some h
  have hl := size_bytesOf s
  have hn := encs_len ls
  have he : (enc ls).length = (encs ls).length + 1 := by unfold enc; rw [List.length_append, List.length_singleton]
  rw [h1] at he
  exact ⟨by omega, fun x hx => ((okB_iff _).1 (List.all_eq_true.1 h2 x hx)).2⟩
theorem lab_fold : ∀ (n : Nat) (l : List Int), Bytes l → lab n (l.map foldB) = (lab n l).map (List.map fo)
  | 0, l, _ => rfl
  | n + 1, [], _ => rfl
  | n + 1, x :: r, hb => by
    have hx := hb.head
    simp only [List.map_cons, lab]
    by_cases hz : x = 0
    · have e : foldB x = 0 := by rw [hz]; decide
      rw [if_pos e, if_pos hz]
      by_cases hr : r = []
      · rw [if_pos hr, hr]; rfl
      · rw [if_neg hr, if_neg (by simpa using hr)]; rfl
    have e0 : ¬ foldB x = 0 := by unfold foldB; split <;> omega
    rw [if_neg hz, if_neg e0]
    by_cases h63 : 63 < x
    · rw [if_pos h63, if_pos (by unfold foldB; split <;> omega)]; rfl
    rw [if_neg h63, foldB_small (by omega), if_neg h63, List.length_map]
    by_cases hl : (r.length : Int) < x
    · rw [if_pos hl, if_pos hl]; rfl
    rw [if_neg hl, if_neg hl, ← List.map_drop, lab_fold n _ (hb.tail.drop _), ← List.map_take]
    have e1 : strOfNums ((r.take x.toNat).map foldB) = fo (strOfNums (r.take x.toNat)) := by unfold fo; rw [bytesOf_str (hb.tail.take _)]
    rw [e1]
    cases lab n (r.drop x.toNat) with
    | none => rfl
    | some ls => rfl
theorem LB_fo (s : ByteArray) : LB (fo s) = (LB s).map (List.map fo) := by
  unfold LB
  rw [fo_size, fo_bytes]
  by_cases h : s.size > 255
  · rw [if_pos h, if_pos h]; rfl
  · rw [if_neg h, if_neg h, lab_fold _ _ (bytesOf_bytes s)]
/-- What folding a name answers. -/
def FO (s : ByteArray) : ByteArray := if (LB s).isSome = true then fo s else E0
theorem fold_f {k : Nat} {s : ByteArray} (hs : s.size ≤ 900000) (hk : 300 < k) : name_Fold.f k s = some (FO s) := by
  unfold name_Fold.f FO
  rw [is_f hs hk, Option.bind_some]
  by_cases h : (LB s).isSome = true
  · rw [if_pos h, if_pos h, tfold_f hs]; rfl
  · rw [if_neg h, if_neg h]
theorem rfold_f {k : Nat} {s : ByteArray} (hs : s.size ≤ 900000) (hk : 700 < k) : nuncioref04_Fold.f k s = some (FO s) := by
  obtain ⟨r, h1, h2⟩ := rlab_f hs (k := k) (by omega)
  unfold nuncioref04_Fold.f FO
  rw [h1, Option.bind_some, h2.snd]
  cases h : LB s with
  | none => rw [if_neg (by simp), if_neg (by simp)]
  | some ls =>
    obtain ⟨g1, g2⟩ := lab_len h
    have hb : LB (fo s) = some (ls.map fo) := by rw [LB_fo, h]; rfl
    simp only [Option.isSome_some, if_true]
    rw [h2.fst h, folded_f (by omega) (fun x hx => by have := g2 x hx; omega) (by omega), Option.bind_some, rmake_f (by rw [List.length_map]; omega) (by rw [List.length_map]; omega), Option.bind_some, LB_back hb]
/-- Are two names alike. -/
def SM (a b : ByteArray) : Bool := (LB a).isSome && ((LB b).isSome && decide (fo a = fo b))
theorem beq_dec (a b : ByteArray) : (a.toList == b.toList) = decide (a = b) := by rw [Bool.eq_iff_iff]; simp only [beq_iff_eq, decide_eq_true_eq]; exact toList_inj
/-- Is a name in a zone: the zone's folded labels are the last ones. -/
def UN (a b : ByteArray) : Bool :=
  match LB a, LB b with
  | some la, some lb => decide (lb.length ≤ la.length) && decide ((la.drop (la.length - lb.length)).map fo = lb.map fo)
  | _, _ => false
theorem LB_E0 : LB E0 = none := by decide
theorem LB_FO (s : ByteArray) : LB (FO s) = (LB s).map (List.map fo) := by
  unfold FO
  cases h : LB s with
  | none => rw [if_neg (by simp), LB_E0]; rfl
  | some ls => simp only [Option.isSome_some, if_true]; rw [LB_fo, h]
theorem FO_size (s : ByteArray) : (FO s).size ≤ s.size := by
  unfold FO
  split
  · rw [fo_size]; exact Nat.le_refl _
  · exact Nat.zero_le _
end Go.Proofs.Ythkdfnbhlinhiaa.Pure
