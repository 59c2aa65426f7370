/- What the printed functions of name and nuncioref04 answer: labels, names, folding, zones. -/
import Derived.Test.YtpnflloamidecaaMinex2
import Derived.Test.YtpnflloamidecaaMinex1
import Derived.Test.YtpnflloamidecaaMinex3
import Derived.Test.YtpnflloamidecaaMinex4
import Derived.Test.YtpnflloamidecaaMinex10
import Derived.Test.YtpnflloamidecaaMinex11
import Derived.Test.YtpnflloamidecaaMinex12
import Derived.Test.YtpnflloamidecaaMinex13
import Derived.Test.YtpnflloamidecaaMinex14
import Derived.Test.YtpnflloamidecaaMinex15
import Derived.Test.YtpnflloamidecaaMinex16
import Derived.Test.YtpnflloamidecaaLBase
namespace Go.Proofs.Ytpnflloamidecaa.Pure
open Go.RowKit Go.Proofs.Ytpnflloamidecaa.Mine Go.Proofs.YtpnflloamidecaaW.PrintWords Go.Proofs.YtpnflloamidecaaW.PrintLast Go.Proofs.YtpnflloamidecaaW.PrintMore
set_option linter.unusedSimpArgs false
set_option linter.unusedVariables false

abbrev E0 : ByteArray := ⟨#[]⟩
theorem rdo {l : List ByteArray} {i : Nat} (h : i < l.length) : rdOf ByteArray.empty l (i : Int) = l[i] := by unfold rdOf; rw [Int.toNat_natCast]; simp [h]
/-- The labels that bytes have. -/
def lab : Nat → List Int → Option (List ByteArray)
  | 0, _ => none
  | _ + 1, [] => none
  | n + 1, x :: r => if x = 0 then (if r = [] then some [] else none) else if 63 < x then none else if (r.length : Int) < x then none else (lab n (r.drop x.toNat)).map (strOfNums (r.take x.toNat) :: ·)
def LB (s : ByteArray) : Option (List ByteArray) := if s.size > 255 then none else lab (s.size + 1) (bytesOf s)
/-- What a split answers. -/
def Spl (acc : List ByteArray) (o : Option (List ByteArray)) (r : List ByteArray × Bool) : Prop :=
  match o with
  | some ls => r = (acc ++ ls, true)
  | none => r.2 = false
theorem Spl.map {acc : List ByteArray} {x : ByteArray} {o : Option (List ByteArray)} {r : List ByteArray × Bool} (h : Spl (acc ++ [x]) o r) : Spl acc (o.map (x :: ·)) r := by
  cases o with
  | none => exact h
  | some ls => unfold Spl at h ⊢; simp only [Option.map_some]; rw [h, List.append_assoc]; rfl
theorem cons_of {s : ByteArray} (h : 0 < s.size) : ∃ x r, bytesOf s = x :: r ∧ bt s 0 = x ∧ s.size = r.length + 1 ∧ 0 ≤ x ∧ x < 256 ∧ Bytes r := by
  have hl := size_bytesOf s
  have hb := bytesOf_bytes s
  cases hs : bytesOf s with
  | nil => rw [hs] at hl; simp only [List.length_nil] at hl; omega
  | cons x r =>
    rw [hs] at hl hb
    refine ⟨x, r, rfl, ?_, by simpa using hl, hb.head.1, hb.head.2, hb.tail⟩
    rw [bt_eq, hs]; rfl
theorem split_l0 : ∀ (n : Nat) (s : ByteArray) (acc : List ByteArray) (k : Nat), s.size < n → n < k → acc.length + s.size ≤ 1000000 →
    ∃ r, name_split.l0 k s acc = some r ∧ Spl acc (lab n (bytesOf s)) r
  | 0, s, acc, k, h, _, _ => absurd h (by omega)
  | n + 1, s, acc, k, h, hk, ha => by
    obtain ⟨k, rfl⟩ : ∃ m, k = m + 1 := ⟨k - 1, by omega⟩
    simp only [name_split.l0]
    by_cases h0 : (s.size : Int) > 0
    · obtain ⟨x, r, hb, hx, hsz, hx0, hx1, hr⟩ := cons_of (s := s) (by omega)
      rw [if_pos h0, if_pos (by omega), hx, w64 (x := x) (by omega) (by omega), hb]
      simp only [lab]
      by_cases hz : x = 0
      · rw [if_pos hz, if_pos hz]
        refine ⟨_, rfl, ?_⟩
        by_cases hrn : r = []
        · rw [if_pos hrn]
          unfold Spl
          simp only [List.append_nil]
          rw [hsz, hrn]; rfl
        · rw [if_neg hrn]
          unfold Spl
          have : r.length ≠ 0 := fun h_ => hrn (List.eq_nil_of_length_eq_zero h_)
          simp only [beq_eq_false_iff_ne, ne_eq]
          omega
      rw [if_neg hz, if_neg hz]
      by_cases h63 : x > 63
      · rw [if_pos h63, if_pos h63]; exact ⟨_, rfl, rfl⟩
      rw [if_neg h63, if_neg h63]
      by_cases hge : x ≥ (s.size : Int)
      · rw [if_pos hge, if_pos (by omega)]; exact ⟨_, rfl, rfl⟩
      rw [if_neg hge, if_neg (show ¬ (r.length : Int) < x by omega), w64 (x := x + 1) (by omega) (by omega), if_pos (show 1 ≤ x + 1 by omega), if_pos (show x + 1 ≤ (s.size : Int) by omega), if_pos (show acc.length < 8796093022208 by omega), if_pos (show 0 ≤ x + 1 by omega)]
      have e1 : bytesOf (s.extract (x + 1).toNat s.size) = r.drop x.toNat := by
        rw [bytesOf_extract, hb, show (x + 1).toNat = x.toNat + 1 by omega, List.drop_succ_cons, List.take_of_length_le (by rw [List.length_drop]; omega)]
      have e2 : s.extract 1 (x + 1).toNat = strOfNums (r.take x.toNat) := by
        apply bytesOf_inj
        rw [bytesOf_str (hr.take _), bytesOf_extract, hb, show (x + 1).toNat - 1 = x.toNat by omega, List.drop_succ_cons, List.drop_zero]
      obtain ⟨q, hq1, hq2⟩ := split_l0 n (s.extract (x + 1).toNat s.size) (acc ++ [s.extract 1 (x + 1).toNat]) k (by rw [ByteArray.size_extract]; omega) (by omega) (by rw [List.length_append, ByteArray.size_extract]; simp only [List.length_singleton]; omega)
      refine ⟨q, hq1, ?_⟩
      rw [e1, e2] at hq2
      exact hq2.map
    · rw [if_neg h0]
      have : bytesOf s = [] := List.eq_nil_of_length_eq_zero (by have := size_bytesOf s; omega)
      rw [this]
      exact ⟨_, rfl, rfl⟩
theorem split_f {k : Nat} {s : ByteArray} (hs : s.size ≤ 900000) (hk : 300 < k) : ∃ r, name_split.f k s = some r ∧ Spl [] (LB s) r := by
  unfold name_split.f LB
  by_cases h : (s.size : Int) > 255
  · rw [if_pos h, if_pos (by omega)]; exact ⟨_, rfl, rfl⟩
  · rw [if_neg h, if_neg (by omega)]
    exact split_l0 _ s [] k (Nat.lt_succ_self _) (by omega) (by simp; omega)
theorem rlab_l0 (s : ByteArray) (hs : s.size ≤ 255) : ∀ (n at_ : Nat) (acc : List ByteArray) (k : Nat), s.size - at_ < n → at_ ≤ s.size → 2 * n < k → acc.length + (s.size - at_) ≤ 1000000 →
    ∃ r, nuncioref04_Labels.l0 k s acc (at_ : Int) = some r ∧ Spl acc (lab n ((bytesOf s).drop at_)) r
  | 0, at_, acc, k, h, _, _, _ => absurd h (by omega)
  | n + 1, at_, acc, k, h, hat, hk, ha => by
    obtain ⟨k, rfl⟩ : ∃ m, k = m + 1 + 1 := ⟨k - 2, by omega⟩
    have hl := size_bytesOf s
    simp only [nuncioref04_Labels.l0, nuncioref04_Labels.j1]
    by_cases h0 : (at_ : Int) < (s.size : Int)
    · have hi : at_ < (bytesOf s).length := by omega
      have hbx := bytesOf_bytes s (bytesOf s)[at_] (List.getElem_mem hi)
      have hx : bt s (at_ : Int) = (bytesOf s)[at_] := by rw [bt_eq, rd_nat hi]
      have hr : Bytes ((bytesOf s).drop (at_ + 1)) := (bytesOf_bytes s).drop _
      have hrl : ((bytesOf s).drop (at_ + 1)).length = s.size - at_ - 1 := by rw [List.length_drop]; omega
      rw [if_pos h0, decide_eq_true (by omega : (s.size : Int) ≤ 255), if_pos rfl, if_pos (by omega), if_pos h0, hx, List.drop_eq_getElem_cons hi]
      generalize hxx : (bytesOf s)[at_] = x at *
      rw [w64 (x := x) (by omega) (by omega)]
      simp only [lab]
      have e1 : ∀ m : Nat, ((bytesOf s).drop (at_ + 1)).drop m = (bytesOf s).drop (at_ + 1 + m) := fun m => by rw [List.drop_drop]
      generalize hrr : (bytesOf s).drop (at_ + 1) = r at *
      by_cases hz : x = 0
      · rw [if_pos hz, if_pos hz, w64 (x := (s.size : Int) - 1) (by omega) (by omega)]
        refine ⟨_, rfl, ?_⟩
        by_cases hrn : r = []
        · rw [if_pos hrn]
          unfold Spl
          rw [hrn] at hrl
          simp only [List.length_nil] at hrl
          simp only [List.append_nil]
          rw [show ((at_ : Int) == (s.size : Int) - 1) = true by rw [beq_iff_eq]; omega]
        · rw [if_neg hrn]
          unfold Spl
          have : r.length ≠ 0 := fun h_ => hrn (List.eq_nil_of_length_eq_zero h_)
          simp only [beq_eq_false_iff_ne, ne_eq]
          omega
      rw [if_neg hz, if_neg hz]
      by_cases h63 : x > 63
      · rw [if_pos h63, if_pos h63]; exact ⟨_, rfl, rfl⟩
      rw [if_neg h63, if_neg h63, w64 (x := (s.size : Int) - 1) (by omega) (by omega), w64 (x := (s.size : Int) - 1 - (at_ : Int)) (by omega) (by omega)]
      by_cases hge : x > (s.size : Int) - 1 - (at_ : Int)
      · rw [if_pos hge, if_pos (by omega)]; exact ⟨_, rfl, rfl⟩
      rw [if_neg hge, if_neg (show ¬ (r.length : Int) < x by omega), w64 (x := (at_ : Int) + 1) (by omega) (by omega), w64 (x := (at_ : Int) + 1 + x) (by omega) (by omega), if_pos (show 0 ≤ (at_ : Int) + 1 by omega), if_pos (show (at_ : Int) + 1 ≤ (at_ : Int) + 1 + x by omega), if_pos (show (at_ : Int) + 1 + x ≤ (s.size : Int) by omega), if_pos (show acc.length < 8796093022208 by omega)]
      have e2 : s.extract ((at_ : Int) + 1).toNat ((at_ : Int) + 1 + x).toNat = strOfNums (r.take x.toNat) := by
        apply bytesOf_inj
        rw [bytesOf_str (hr.take _), bytesOf_extract, show ((at_ : Int) + 1).toNat = at_ + 1 by omega, hrr, show ((at_ : Int) + 1 + x).toNat - (at_ + 1) = x.toNat by omega]
      obtain ⟨q, hq1, hq2⟩ := rlab_l0 s hs n (at_ + 1 + x.toNat) (acc ++ [s.extract ((at_ : Int) + 1).toNat ((at_ : Int) + 1 + x).toNat]) k (by omega) (by omega) (by omega) (by rw [List.length_append]; simp only [List.length_singleton]; omega)
      rw [show (((at_ + 1 + x.toNat : Nat) : Nat) : Int) = (at_ : Int) + 1 + x by omega] at hq1
      refine ⟨q, hq1, ?_⟩
      rw [e2, ← e1] at hq2
      exact hq2.map
    · rw [if_neg h0, if_neg (by simp), List.drop_eq_nil_of_le (by omega)]
      exact ⟨_, rfl, rfl⟩
theorem rlab_f {k : Nat} {s : ByteArray} (hs : s.size ≤ 900000) (hk : 600 < k) : ∃ r, nuncioref04_Labels.f k s = some r ∧ Spl [] (LB s) r := by
  unfold nuncioref04_Labels.f LB
  by_cases h : s.size > 255
  · rw [if_pos h]
    obtain ⟨k, rfl⟩ : ∃ m, k = m + 1 + 1 := ⟨k - 2, by omega⟩
    simp only [nuncioref04_Labels.l0, nuncioref04_Labels.j1]
    rw [if_pos (by omega), decide_eq_false (by omega), if_neg (by simp)]
    exact ⟨_, rfl, rfl⟩
  · rw [if_neg h]
    have := rlab_l0 s (by omega) (s.size + 1) 0 [] k (by omega) (by omega) (by omega) (by simp; omega)
    rw [List.drop_zero] at this
    exact this
theorem Spl.snd {acc : List ByteArray} {o : Option (List ByteArray)} {r : List ByteArray × Bool} (h : Spl acc o r) : r.2 = o.isSome := by
  cases o with
  | none => exact h
  | some ls => unfold Spl at h; rw [h]; rfl
theorem Spl.fst {ls : List ByteArray} {o : Option (List ByteArray)} {r : List ByteArray × Bool} (h : Spl [] o r) (he : o = some ls) : r.1 = ls := by
  subst he
  unfold Spl at h
  rw [h]; rfl
theorem is_f {k : Nat} {s : ByteArray} (hs : s.size ≤ 900000) (hk : 300 < k) : name_Is.f k s = some (LB s).isSome := by
  obtain ⟨r, h1, h2⟩ := split_f hs hk
  unfold name_Is.f
  rw [h1, Option.bind_some, h2.snd]
theorem ris_f {k : Nat} {s : ByteArray} (hs : s.size ≤ 900000) (hk : 600 < k) : nuncioref04_Is.f k s = some (LB s).isSome := by
  obtain ⟨r, h1, h2⟩ := rlab_f hs hk
  unfold nuncioref04_Is.f
  rw [h1, Option.bind_some, h2.snd]
theorem labels_f {k : Nat} {s : ByteArray} (hs : s.size ≤ 900000) (hk : 300 < k) : name_Labels.f k s = some ((LB s).getD []) := by
  obtain ⟨r, h1, h2⟩ := split_f hs hk
  unfold name_Labels.f
  rw [h1, Option.bind_some, h2.snd]
  cases h : LB s with
  | none => rw [if_neg (by simp)]; rfl
  | some ls => rw [if_pos (show (some ls).isSome = true from rfl), h2.fst h]; rfl

/-- A label's size is right. -/
def okB (x : ByteArray) : Bool := decide (1 ≤ x.size) && decide (x.size ≤ 63)
/-- The bytes of labels, one behind the other. -/
def encs : List ByteArray → List Int
  | [] => []
  | x :: l => (x.size : Int) :: (bytesOf x ++ encs l)
theorem encs_append : ∀ a b, encs (a ++ b) = encs a ++ encs b
  | [], b => rfl
  | x :: a, b => by rw [List.cons_append, encs, encs, encs_append a b, List.cons_append, List.append_assoc]
def enc (l : List ByteArray) : List Int := encs l ++ [0]
theorem encs_bytes : ∀ (l : List ByteArray), l.all okB = true → Bytes (encs l)
  | [], _ => Bytes.nil
  | x :: l, h => by
    rw [List.all_cons, Bool.and_eq_true] at h
    have h1 := h.1
    unfold okB at h1
    simp only [Bool.and_eq_true, decide_eq_true_eq] at h1
    exact Bytes.cons (by omega) (by omega) ((bytesOf_bytes x).append (encs_bytes l h.2))
theorem enc_bytes (l : List ByteArray) (h : l.all okB = true) : Bytes (enc l) := (encs_bytes l h).append (Bytes.cons (by omega) (by omega) Bytes.nil)
/-- The name of labels, or why there is none. -/
def MK (l : List ByteArray) : ByteArray × Int := if l.all okB = true then (if (enc l).length ≤ 255 then (strOfNums (enc l), 0) else (E0, 40)) else (E0, 41)
theorem okB_iff (x : ByteArray) : okB x = true ↔ 1 ≤ x.size ∧ x.size ≤ 63 := by unfold okB; simp
theorem make_l1 (l : List ByteArray) (hall : l.all okB = true) (hl : l.length ≤ 1000000) : ∀ (d k i : Nat) (b : List Int), i + d = l.length → d < k → b.length < 255 →
    name_Make.l1 k b l (l.length : Int) (i : Int) = some (if b.length + (encs (l.drop i)).length < 255 then (strOfNums (b ++ encs (l.drop i) ++ [0]), 0) else (E0, 40))
  | 0, k, i, b, hi, hk, hb => by
    obtain ⟨k, rfl⟩ : ∃ m, k = m + 1 := ⟨k - 1, by omega⟩
    simp only [name_Make.l1]
    rw [if_neg (by omega), if_pos (by omega), List.drop_eq_nil_of_le (by omega), if_pos (by simp only [encs, List.length_nil]; omega)]
    simp only [encs, List.append_nil]
  | d + 1, k, i, b, hi, hk, hb => by
    obtain ⟨k, rfl⟩ : ∃ m, k = m + 1 := ⟨k - 1, by omega⟩
    have hil : i < l.length := by omega
    have hok := (okB_iff _).1 (List.all_eq_true.1 hall l[i] (List.getElem_mem hil))
    have hsz := size_bytesOf l[i]
    simp only [name_Make.l1]
    rw [if_pos (by omega), if_pos (by omega), if_pos (by omega), rdo hil, if_pos (by omega), Option.bind_some, if_pos (by rw [List.length_append, List.length_singleton]; omega), Option.bind_some, Int.emod_eq_of_lt (by omega) (by omega), w64 (x := (i : Int) + 1) (by omega) (by omega),
      show encs (l.drop i) = (l[i].size : Int) :: (bytesOf l[i] ++ encs (l.drop (i + 1))) by rw [List.drop_eq_getElem_cons hil]; rfl]
    have hlen : (b ++ [(l[i].size : Int)] ++ bytesOf l[i]).length = b.length + 1 + l[i].size := by rw [List.length_append, List.length_append, List.length_singleton]; omega
    by_cases hg : ((b ++ [(l[i].size : Int)] ++ bytesOf l[i]).length : Int) ≥ 255
    · rw [if_pos hg, if_neg (by rw [List.length_cons, List.length_append]; omega)]
    · rw [if_neg hg]
      have ih := make_l1 l hall hl d k (i + 1) (b ++ [(l[i].size : Int)] ++ bytesOf l[i]) (by omega) (by omega) (by omega)
      rw [show ((i + 1 : Nat) : Int) = (i : Int) + 1 by omega] at ih
      rw [ih, hlen, List.length_cons, List.length_append, ← hsz]
      have e1 : b ++ [(l[i].size : Int)] ++ bytesOf l[i] ++ encs (l.drop (i + 1)) ++ [0] = b ++ (l[i].size : Int) :: (bytesOf l[i] ++ encs (l.drop (i + 1))) ++ [0] := by simp
      rw [e1]
      by_cases hq : b.length + 1 + l[i].size + (encs (l.drop (i + 1))).length < 255
      · rw [if_pos hq, if_pos (by omega)]
      · rw [if_neg hq, if_neg (by omega)]
theorem make_l0 (l : List ByteArray) (hl : l.length ≤ 1000000) : ∀ (d k i : Nat), i + d = l.length → d + l.length + 1 < k →
    name_Make.l0 k l l (l.length : Int) (i : Int) = some (if (l.drop i).all okB = true then (if l.all okB = true then MK l else name_Make.l1 0 [] l 0 0 |>.getD (E0, 0)) else (E0, 41)) ∨ (l.take i).all okB = false
  | 0, k, i, hi, hk => by
    obtain ⟨k, rfl⟩ : ∃ m, k = m + 1 := ⟨k - 1, by omega⟩
    by_cases hall : l.all okB = true
    · left
      simp only [name_Make.l0]
      rw [if_neg (by omega)]
      have := make_l1 l hall hl l.length k 0 [] (by omega) (by omega) (by simp)
      rw [List.drop_zero, List.length_nil, Nat.zero_add, List.nil_append] at this
      rw [List.drop_eq_nil_of_le (by omega), if_pos (show ([] : List ByteArray).all okB = true from rfl), if_pos hall]
      refine this.trans ?_
      unfold MK
      rw [if_pos hall]
      unfold enc
      rw [List.length_append, List.length_singleton]
      by_cases hq : (encs l).length < 255
      · rw [if_pos hq, if_pos (by omega)]
      · rw [if_neg hq, if_neg (by omega)]
    · right
      rw [List.take_of_length_le (by omega)]
      simpa using hall
  | d + 1, k, i, hi, hk => by
    obtain ⟨k, rfl⟩ : ∃ m, k = m + 1 := ⟨k - 1, by omega⟩
    have hil : i < l.length := by omega
    by_cases hok : okB l[i] = true
    · have h1 := (okB_iff _).1 hok
      rcases make_l0 l hl d k (i + 1) (by omega) (by omega) with ih | ih
      · left
        rw [show ((i + 1 : Nat) : Int) = (i : Int) + 1 by omega] at ih
        simp only [name_Make.l0]
        rw [if_pos (by omega), if_pos (by omega), if_pos (by omega), rdo hil, if_neg (by omega), if_neg (by omega), w64 (x := (i : Int) + 1) (by omega) (by omega), ih, List.drop_eq_getElem_cons hil, List.all_cons, hok, Bool.true_and]
      · right
        rw [List.take_succ_eq_append_getElem hil, List.all_append, List.all_cons, hok] at ih
        simpa using ih
    · left
      have h1 : ¬ (1 ≤ l[i].size ∧ l[i].size ≤ 63) := fun h => hok ((okB_iff _).2 h)
      simp only [name_Make.l0]
      rw [if_pos (by omega), if_pos (by omega), if_pos (by omega), rdo hil, List.drop_eq_getElem_cons hil, List.all_cons, if_neg (show ¬ ((okB l[i] && (l.drop (i + 1)).all okB) = true) by simp [hok])]
      by_cases h2 : (l[i].size : Int) < 1
      · rw [if_pos h2]
      · rw [if_neg h2, if_pos (by omega)]
theorem make_f {k : Nat} {l : List ByteArray} (hl : l.length ≤ 1000000) (hk : 2 * l.length + 2 < k) : name_Make.f k l = some (MK l) := by
  unfold name_Make.f
  rcases make_l0 l hl l.length k 0 (by omega) (by omega) with h | h
  · refine h.trans ?_
    rw [List.drop_zero]
    by_cases hall : l.all okB = true
    · rw [if_pos hall, if_pos hall]
    · rw [if_neg hall]; unfold MK; rw [if_neg hall]
  · rw [List.take_zero] at h; exact absurd h (by simp)
theorem str_app {a b : List Int} (ha : Bytes a) (hb : Bytes b) : strOfNums (a ++ b) = strOfNums a ++ strOfNums b := by
  apply bytesOf_inj
  rw [bytesOf_append, bytesOf_str ha, bytesOf_str hb, bytesOf_str (ha.append hb)]
theorem ba_assoc (a b c : ByteArray) : a ++ b ++ c = a ++ (b ++ c) := by apply bytesOf_inj; rw [bytesOf_append, bytesOf_append, bytesOf_append, bytesOf_append, List.append_assoc]
theorem ba_nil (a : ByteArray) : E0 ++ a = a := by apply bytesOf_inj; rw [bytesOf_append, bytesOf_empty, List.nil_append]
theorem rmake_l1 (l : List ByteArray) (hall : l.all okB = true) (hl : l.length ≤ 1000000) : ∀ (d k i : Nat) (s : ByteArray), i + d = l.length → d < k → s.size < 255 →
    nuncioref04_Make.l1 k l s (i : Int) = some (if s.size + (encs (l.drop i)).length < 255 then (s ++ strOfNums (enc (l.drop i)), 0) else (E0, 40))
  | 0, k, i, s, hi, hk, hb => by
    obtain ⟨k, rfl⟩ : ∃ m, k = m + 1 := ⟨k - 1, by omega⟩
    simp only [nuncioref04_Make.l1]
    rw [if_neg (by omega), if_pos (by omega), List.drop_eq_nil_of_le (by omega), if_pos (by simp only [encs, List.length_nil]; omega)]
    rfl
  | d + 1, k, i, s, hi, hk, hb => by
    obtain ⟨k, rfl⟩ : ∃ m, k = m + 1 := ⟨k - 1, by omega⟩
    have hil : i < l.length := by omega
    have hok := (okB_iff _).1 (List.all_eq_true.1 hall l[i] (List.getElem_mem hil))
    have hsz := size_bytesOf l[i]
    have hda : (l.drop (i + 1)).all okB = true := List.all_eq_true.2 fun x hx => List.all_eq_true.1 hall x (List.mem_of_mem_drop hx)
    have z1 : (strOfNums [(l[i].size : Int)]).size = 1 := by rw [strOfNums_size]; rfl
    simp only [nuncioref04_Make.l1]
    rw [if_pos (by omega), if_pos (by omega), rdo hil, Option.bind_some, Int.emod_eq_of_lt (by omega) (by omega), if_pos (by omega), if_pos (by omega), w64 (x := (i : Int) + 1) (by omega) (by omega), z1,
      show encs (l.drop i) = (l[i].size : Int) :: (bytesOf l[i] ++ encs (l.drop (i + 1))) by rw [List.drop_eq_getElem_cons hil]; rfl]
    have hlen : ((s ++ strOfNums [(l[i].size : Int)]) ++ l[i]).size = s.size + 1 + l[i].size := by rw [ByteArray.size_append, ByteArray.size_append, z1]
    by_cases hg : ((s.size : Int) + ((1 : Nat) : Int)) + (l[i].size : Int) > 254
    · rw [if_pos hg, if_neg (by rw [List.length_cons, List.length_append]; omega)]
    · rw [if_neg hg]
      have ih := rmake_l1 l hall hl d k (i + 1) ((s ++ strOfNums [(l[i].size : Int)]) ++ l[i]) (by omega) (by omega) (by omega)
      rw [show ((i + 1 : Nat) : Int) = (i : Int) + 1 by omega] at ih
      rw [ih, hlen, List.length_cons, List.length_append, ← hsz]
      have e1 : s ++ strOfNums [(l[i].size : Int)] ++ l[i] ++ strOfNums (enc (l.drop (i + 1))) = s ++ strOfNums (enc (l.drop i)) := by
        have hb1 : Bytes [(l[i].size : Int)] := Bytes.cons (by omega) (by omega) Bytes.nil
        have e2 : enc (l.drop i) = [(l[i].size : Int)] ++ (bytesOf l[i] ++ enc (l.drop (i + 1))) := by rw [List.drop_eq_getElem_cons hil]; simp [enc, encs]
        rw [e2, str_app hb1 ((bytesOf_bytes _).append (enc_bytes _ hda)), str_app (bytesOf_bytes _) (enc_bytes _ hda), str_bytesOf, ba_assoc, ba_assoc]
      rw [e1]
      by_cases hq : s.size + 1 + l[i].size + (encs (l.drop (i + 1))).length < 255
      · rw [if_pos hq, if_pos (by omega)]
      · rw [if_neg hq, if_neg (by omega)]
theorem rmake_l0 (l : List ByteArray) (hl : l.length ≤ 1000000) : ∀ (d k i : Nat), i + d = l.length → d + l.length + 1 < k →
    nuncioref04_Make.l0 k l (i : Int) = some (if (l.drop i).all okB = true then MK l else (E0, 41)) ∨ (l.take i).all okB = false
  | 0, k, i, hi, hk => by
    obtain ⟨k, rfl⟩ : ∃ m, k = m + 1 := ⟨k - 1, by omega⟩
    by_cases hall : l.all okB = true
    · left
      simp only [nuncioref04_Make.l0]
      rw [if_neg (by omega)]
      have := rmake_l1 l hall hl l.length k 0 E0 (by omega) (by omega) (by decide)
      rw [List.drop_zero, ba_nil] at this
      rw [List.drop_eq_nil_of_le (by omega), if_pos (show ([] : List ByteArray).all okB = true from rfl)]
      refine this.trans ?_
      unfold MK
      rw [if_pos hall]
      have e : (enc l).length = (encs l).length + 1 := by unfold enc; rw [List.length_append, List.length_singleton]
      rw [e, show E0.size = 0 from rfl]
      by_cases hq : 0 + (encs l).length < 255
      · rw [if_pos hq, if_pos (by omega)]
      · rw [if_neg hq, if_neg (by omega)]
    · right
      rw [List.take_of_length_le (by omega)]
      simpa using hall
  | d + 1, k, i, hi, hk => by
    obtain ⟨k, rfl⟩ : ∃ m, k = m + 1 := ⟨k - 1, by omega⟩
    have hil : i < l.length := by omega
    by_cases hok : okB l[i] = true
    · have h1 := (okB_iff _).1 hok
      rcases rmake_l0 l hl d k (i + 1) (by omega) (by omega) with ih | ih
      · left
        rw [show ((i + 1 : Nat) : Int) = (i : Int) + 1 by omega] at ih
        simp only [nuncioref04_Make.l0]
        rw [if_pos (by omega), if_pos (by omega), rdo hil, if_neg (by omega), if_neg (by omega), w64 (x := (i : Int) + 1) (by omega) (by omega), ih, List.drop_eq_getElem_cons hil, List.all_cons, hok, Bool.true_and]
      · right
        rw [List.take_succ_eq_append_getElem hil, List.all_append, List.all_cons, hok] at ih
        simpa using ih
    · left
      have h1 : ¬ (1 ≤ l[i].size ∧ l[i].size ≤ 63) := fun h => hok ((okB_iff _).2 h)
      simp only [nuncioref04_Make.l0]
      rw [if_pos (by omega), if_pos (by omega), rdo hil, List.drop_eq_getElem_cons hil, List.all_cons, if_neg (show ¬ ((okB l[i] && (l.drop (i + 1)).all okB) = true) by simp [hok])]
      by_cases h2 : (l[i].size : Int) < 1
      · rw [if_pos h2]
      · rw [if_neg h2, if_pos (by omega)]
theorem rmake_f {k : Nat} {l : List ByteArray} (hl : l.length ≤ 1000000) (hk : 2 * l.length + 2 < k) : nuncioref04_Make.f k l = some (MK l) := by
  unfold nuncioref04_Make.f
  rcases rmake_l0 l hl l.length k 0 (by omega) (by omega) with h | h
  · refine h.trans ?_
    rw [List.drop_zero]
    by_cases hall : l.all okB = true
    · rw [if_pos hall]
    · rw [if_neg hall]; unfold MK; rw [if_neg hall]
  · rw [List.take_zero] at h; exact absurd h (by simp)
theorem same_l0 : ∀ (a b : List ByteArray) (d k i : Nat), a.length = b.length → a.length ≤ 1000000 → i + d = a.length → d < k → nunciolaw04_Same.l0 k a b (i : Int) = some (decide (a.drop i = b.drop i))
  | a, b, 0, k, i, h, hl, hi, hk => by
    obtain ⟨k, rfl⟩ : ∃ m, k = m + 1 := ⟨k - 1, by omega⟩
    simp only [nunciolaw04_Same.l0]
    rw [if_neg (by omega), List.drop_eq_nil_of_le (by omega), List.drop_eq_nil_of_le (by omega)]
    simp
  | a, b, d + 1, k, i, h, hl, hi, hk => by
    obtain ⟨k, rfl⟩ : ∃ m, k = m + 1 := ⟨k - 1, by omega⟩
    have h1 : i < a.length := by omega
    have h2 : i < b.length := by omega
    have ih := same_l0 a b d k (i + 1) h hl (by omega) (by omega)
    rw [show ((i + 1 : Nat) : Int) = (i : Int) + 1 by omega] at ih
    simp only [nunciolaw04_Same.l0]
    rw [if_pos (by omega), if_pos (by omega), if_pos (by omega), rdo h1, rdo h2, w64 (x := (i : Int) + 1) (by omega) (by omega), List.drop_eq_getElem_cons h1, List.drop_eq_getElem_cons h2, ih]
    by_cases he : a[i] = b[i]
    · rw [if_pos (by rw [he])]
      congr 1
      rw [decide_eq_decide, List.cons_eq_cons]
      exact ⟨fun h_ => ⟨he, h_⟩, fun h_ => h_.2⟩
    · rw [if_neg (fun h_ => he (toList_inj.1 h_)), decide_eq_false (fun h_ => he (List.cons_eq_cons.1 h_).1)]
theorem lsame_f {k : Nat} {a b : List ByteArray} (hl : a.length ≤ 1000000) (hk : a.length < k) : nunciolaw04_Same.f k a b = some (decide (a = b)) := by
  unfold nunciolaw04_Same.f
  by_cases h : (a.length : Int) = (b.length : Int)
  · rw [if_pos h]
    have := same_l0 a b a.length k 0 (by omega) hl (by omega) hk
    rw [List.drop_zero, List.drop_zero] at this
    exact this
  · rw [if_neg h, decide_eq_false (fun h_ => h (by rw [h_]))]
theorem sequal_l0 : ∀ (a b : List ByteArray) (d k i : Nat), a.length = b.length → a.length ≤ 1000000 → i + d = a.length → d < k → slices_Equal_string_string.l0 k a b (a.length : Int) (i : Int) = some (decide (a.drop i = b.drop i))
  | a, b, 0, k, i, h, hl, hi, hk => by
    obtain ⟨k, rfl⟩ : ∃ m, k = m + 1 := ⟨k - 1, by omega⟩
    simp only [slices_Equal_string_string.l0]
    rw [if_neg (by omega), List.drop_eq_nil_of_le (by omega), List.drop_eq_nil_of_le (by omega)]
    simp
  | a, b, d + 1, k, i, h, hl, hi, hk => by
    obtain ⟨k, rfl⟩ : ∃ m, k = m + 1 := ⟨k - 1, by omega⟩
    have h1 : i < a.length := by omega
    have h2 : i < b.length := by omega
    have ih := sequal_l0 a b d k (i + 1) h hl (by omega) (by omega)
    rw [show ((i + 1 : Nat) : Int) = (i : Int) + 1 by omega] at ih
    simp only [slices_Equal_string_string.l0]
    rw [if_pos (by omega), if_pos (by omega), if_pos (by omega), if_pos (by omega), rdo h1, rdo h2, w64 (x := (i : Int) + 1) (by omega) (by omega), List.drop_eq_getElem_cons h1, List.drop_eq_getElem_cons h2, ih]
    by_cases he : a[i] = b[i]
    · rw [if_pos (by rw [he])]
      congr 1
      rw [decide_eq_decide, List.cons_eq_cons]
      exact ⟨fun h_ => ⟨he, h_⟩, fun h_ => h_.2⟩
    · rw [if_neg (fun h_ => he (toList_inj.1 h_)), decide_eq_false (fun h_ => he (List.cons_eq_cons.1 h_).1)]
theorem sequal_f {k : Nat} {a b : List ByteArray} (hl : a.length ≤ 1000000) (hk : a.length < k) : slices_Equal_string_string.f k a b = some (decide (a = b)) := by
  unfold slices_Equal_string_string.f
  by_cases h : (a.length : Int) = (b.length : Int)
  · rw [if_pos h]
    have := sequal_l0 a b a.length k 0 (by omega) hl (by omega) hk
    rw [List.drop_zero, List.drop_zero] at this
    exact this
  · rw [if_neg h, decide_eq_false (fun h_ => h (by rw [h_]))]

/-! folding -/
def fo (s : ByteArray) : ByteArray := strOfNums ((bytesOf s).map foldB)
theorem foldB_byte {x : Int} (h0 : 0 ≤ x) (h1 : x < 256) : 0 ≤ foldB x ∧ foldB x < 256 := by unfold foldB; split <;> omega
theorem fold_bytes {l : List Int} (h : Bytes l) : Bytes (l.map foldB) := by
  intro y hy
  obtain ⟨x, hx, rfl⟩ := List.mem_map.1 hy
  exact foldB_byte (h x hx).1 (h x hx).2
theorem fo_bytes (s : ByteArray) : bytesOf (fo s) = (bytesOf s).map foldB := bytesOf_str (fold_bytes (bytesOf_bytes s))
theorem fo_size (s : ByteArray) : (fo s).size = s.size := by rw [size_bytesOf, fo_bytes, List.length_map, ← size_bytesOf]
theorem foldB_small {x : Int} (h1 : x ≤ 63) : foldB x = x := by unfold foldB; rw [if_neg (by omega)]
theorem foldB_twice (x : Int) : foldB (foldB x) = foldB x := by unfold foldB; split <;> (try split) <;> omega
theorem fo_twice (s : ByteArray) : fo (fo s) = fo s := by
  apply bytesOf_inj
  rw [fo_bytes, fo_bytes, List.map_map]
  exact List.map_congr_left fun x _ => foldB_twice x
theorem tfold_f {s : ByteArray} (hs : s.size ≤ 900000) : text_Fold.f s = some (fo s) := by unfold text_Fold.f; rw [if_pos (by omega)]; rfl
theorem in_f (c : Int) : nuncioref02_in.f c 65 90 = some (decide (65 ≤ c ∧ c ≤ 90)) := by
  unfold nuncioref02_in.f
  by_cases h : c ≥ 65
  · rw [if_pos h]; congr 1; rw [Bool.eq_iff_iff]; simp only [decide_eq_true_eq]; omega
  · rw [if_neg h]; congr 1; rw [Bool.eq_iff_iff]; simp only [decide_eq_true_eq, Bool.false_eq_true, false_iff]; omega
theorem rfold2_l0 (s : ByteArray) (hs : s.size ≤ 900000) : ∀ (d k i : Nat) (acc : List Int), i + d = s.size → d < k → acc.length + d ≤ 1000000 → nuncioref02_Fold.l0 k s acc (i : Int) = some (strOfNums (acc ++ ((bytesOf s).drop i).map foldB))
  | 0, k, i, acc, hi, hk, ha => by
    obtain ⟨k, rfl⟩ : ∃ m, k = m + 1 := ⟨k - 1, by omega⟩
    have hl := size_bytesOf s
    simp only [nuncioref02_Fold.l0]
    rw [if_neg (by omega), List.drop_eq_nil_of_le (by omega), List.map_nil, List.append_nil]
  | d + 1, k, i, acc, hi, hk, ha => by
    obtain ⟨k, rfl⟩ : ∃ m, k = m + 1 := ⟨k - 1, by omega⟩
    have hl := size_bytesOf s
    have hil : i < (bytesOf s).length := by omega
    have hbx := bytesOf_bytes s (bytesOf s)[i] (List.getElem_mem hil)
    have e1 : ((i : Int) + 1) = ((i + 1 : Nat) : Int) := by omega
    simp only [nuncioref02_Fold.l0]
    rw [if_pos (by omega), if_pos (by omega), bt_eq, rd_nat hil, in_f, Option.bind_some, w64 (x := (i : Int) + 1) (by omega) (by omega), e1, List.drop_eq_getElem_cons hil, List.map_cons]
    generalize (bytesOf s)[i] = x at *
    by_cases h : 65 ≤ x ∧ x ≤ 90
    · have ef : (x + 32) % 256 = foldB x := by unfold foldB; rw [if_pos h]; omega
      rw [if_pos (decide_eq_true h), if_pos (by omega), ef, rfold2_l0 s hs d k (i + 1) _ (by omega) (by omega) (by rw [List.length_append, List.length_singleton]; omega), List.append_assoc]
      rfl
    · have ef : foldB x = x := by unfold foldB; rw [if_neg h]
      rw [if_neg (by simpa using h), if_pos (by omega), ef, rfold2_l0 s hs d k (i + 1) _ (by omega) (by omega) (by rw [List.length_append, List.length_singleton]; omega), List.append_assoc]
      rfl
theorem rfold2_f {k : Nat} {s : ByteArray} (hs : s.size ≤ 900000) (hk : s.size < k) : nuncioref02_Fold.f k s = some (fo s) := by
  have := rfold2_l0 s hs s.size k 0 [] (by omega) hk (by simp; omega)
  rw [List.drop_zero, List.nil_append] at this
  exact this
theorem folded_l0 (l : List ByteArray) (hl : l.length ≤ 900000) (hs : ∀ x ∈ l, x.size ≤ 255) : ∀ (d k i : Nat) (acc : List ByteArray), i + d = l.length → d + 300 < k → acc.length + d ≤ 1000000 → nuncioref04_folded.l0 k l acc (i : Int) = some (acc ++ (l.drop i).map fo)
  | 0, k, i, acc, hi, hk, ha => by
    obtain ⟨k, rfl⟩ : ∃ m, k = m + 1 := ⟨k - 1, by omega⟩
    simp only [nuncioref04_folded.l0]
    rw [if_neg (by omega), List.drop_eq_nil_of_le (by omega), List.map_nil, List.append_nil]
  | d + 1, k, i, acc, hi, hk, ha => by
    obtain ⟨k, rfl⟩ : ∃ m, k = m + 1 := ⟨k - 1, by omega⟩
    have hil : i < l.length := by omega
    have h1 := hs l[i] (List.getElem_mem hil)
    have e1 : ((i : Int) + 1) = ((i + 1 : Nat) : Int) := by omega
    simp only [nuncioref04_folded.l0]
    rw [if_pos (by omega), if_pos (by omega), rdo hil, rfold2_f (by omega) (by omega), Option.bind_some, if_pos (by omega), w64 (x := (i : Int) + 1) (by omega) (by omega), e1, folded_l0 l hl hs d k (i + 1) _ (by omega) (by omega) (by rw [List.length_append, List.length_singleton]; omega), List.drop_eq_getElem_cons hil, List.map_cons, List.append_assoc]
    rfl
theorem folded_f {k : Nat} {l : List ByteArray} (hl : l.length ≤ 900000) (hs : ∀ x ∈ l, x.size ≤ 255) (hk : l.length + 300 < k) : nuncioref04_folded.f k l = some (l.map fo) := by
  have := folded_l0 l hl hs l.length k 0 [] (by omega) hk (by simp; omega)
  rw [List.drop_zero, List.nil_append] at this
  exact this
/-- Labels that bytes have are right, and are these bytes. -/
theorem enc_lab : ∀ (n : Nat) (l : List Int) (ls : List ByteArray), Bytes l → lab n l = some ls → enc ls = l ∧ ls.all okB = true
  | 0, l, ls, _, h => by simp [lab] at h
  | n + 1, [], ls, _, h => by simp [lab] at h
  | n + 1, x :: r, ls, hb, h => by
    have hx := hb.head
    simp only [lab] at h
    by_cases hz : x = 0
    · rw [if_pos hz] at h
      by_cases hr : r = []
      · rw [if_pos hr] at h
        obtain rfl := Option.some.inj h
        rw [hz, hr]; exact ⟨rfl, rfl⟩
      · rw [if_neg hr] at h; exact absurd h (by simp)
    rw [if_neg hz] at h
    by_cases h63 : 63 < x
    · rw [if_pos h63] at h; exact absurd h (by simp)
    rw [if_neg h63] at h
    by_cases hl : (r.length : Int) < x
    · rw [if_pos hl] at h; exact absurd h (by simp)
    rw [if_neg hl] at h
    obtain ⟨ls', h1, rfl⟩ := Option.map_eq_some_iff.1 h
    obtain ⟨h2, h3⟩ := enc_lab n _ ls' (hb.tail.drop _) h1
    have hsz : (strOfNums (r.take x.toNat)).size = x.toNat := by rw [strOfNums_size, List.length_take]; omega
    refine ⟨?_, ?_⟩
    · unfold enc at h2 ⊢
      simp only [encs]
      rw [hsz, bytesOf_str (hb.tail.take _), List.cons_append, List.append_assoc, h2, List.take_append_drop, show ((x.toNat : Nat) : Int) = x by omega]
    · rw [List.all_cons, h3, (okB_iff _).2 (by omega)]; rfl
theorem lab_enc : ∀ (ls : List ByteArray) (n : Nat), ls.all okB = true → ls.length < n → lab n (enc ls) = some ls
  | [], 0, _, h => absurd h (by simp)
  | [], n + 1, _, _ => by simp [lab, enc, encs]
  | x :: ls, 0, _, h => absurd h (by simp)
  | x :: ls, n + 1, ha, h => by
    rw [List.all_cons, Bool.and_eq_true] at ha
    have hx := (okB_iff _).1 ha.1
    have hsz := size_bytesOf x
    have ih := lab_enc ls n ha.2 (by simpa using h)
    unfold enc at ih ⊢
    simp only [encs, List.cons_append, lab]
    rw [if_neg (by omega), if_neg (by omega), if_neg (by simp only [List.length_append]; omega), Int.toNat_natCast, List.append_assoc, show x.size = (bytesOf x).length from hsz, List.drop_left, List.take_left, ih, str_bytesOf]
    rfl
theorem encs_len : ∀ ls : List ByteArray, ls.length ≤ (encs ls).length
  | [] => Nat.le_refl _
  | x :: ls => by have := encs_len ls; simp only [encs, List.length_cons, List.length_append]; omega
theorem LB_enc {ls : List ByteArray} (h : ls.all okB = true) (hl : (enc ls).length ≤ 255) : LB (strOfNums (enc ls)) = some ls := by
  have hn := encs_len ls
  have he : (enc ls).length = (encs ls).length + 1 := by unfold enc; rw [List.length_append, List.length_singleton]
  unfold LB
  rw [strOfNums_size, if_neg (by omega), bytesOf_str (enc_bytes ls h)]
  exact lab_enc ls _ h (by omega)
theorem LB_some {s : ByteArray} {ls : List ByteArray} (h : LB s = some ls) : enc ls = bytesOf s ∧ ls.all okB = true ∧ s.size ≤ 255 := by
  unfold LB at h
  by_cases hs : s.size > 255
  · rw [if_pos hs] at h; exact absurd h (by simp)
  rw [if_neg hs] at h
  obtain ⟨h1, h2⟩ := enc_lab _ _ ls (bytesOf_bytes s) h
  exact ⟨h1, h2, by omega⟩
theorem LB_back {s : ByteArray} {ls : List ByteArray} (h : LB s = some ls) : MK ls = (s, 0) := by
  obtain ⟨h1, h2, h3⟩ := LB_some h
  have hl := size_bytesOf s
  unfold MK
  rw [if_pos h2, h1, if_pos (by omega), str_bytesOf]
theorem lab_len {s : ByteArray} {ls : List ByteArray} (h : LB s = some ls) : ls.length < 255 ∧ ∀ x ∈ ls, x.size ≤ 63 := by
  obtain ⟨h1, h2, h3⟩ := LB_some h
  have hl := size_bytesOf s
  have hn := encs_len ls
  have he : (enc ls).length = (encs ls).length + 1 := by unfold enc; rw [List.length_append, List.length_singleton]
  rw [h1] at he
  exact ⟨by omega, fun x hx => ((okB_iff _).1 (List.all_eq_true.1 h2 x hx)).2⟩
theorem lab_fold : ∀ (n : Nat) (l : List Int), Bytes l → lab n (l.map foldB) = (lab n l).map (List.map fo)
  | 0, l, _ => rfl
  | n + 1, [], _ => rfl
  | n + 1, x :: r, hb => by
    have hx := hb.head
    simp only [List.map_cons, lab]
    by_cases hz : x = 0
    · have e : foldB x = 0 := by rw [hz]; decide
      rw [if_pos e, if_pos hz]
      by_cases hr : r = []
      · rw [if_pos hr, hr]; rfl
      · rw [if_neg hr, if_neg (by simpa using hr)]; rfl
    have e0 : ¬ foldB x = 0 := by unfold foldB; split <;> omega
    rw [if_neg hz, if_neg e0]
    by_cases h63 : 63 < x
    · rw [if_pos h63, if_pos (by unfold foldB; split <;> omega)]; rfl
    rw [if_neg h63, foldB_small (by omega), if_neg h63, List.length_map]
    by_cases hl : (r.length : Int) < x
    · rw [if_pos hl, if_pos hl]; rfl
    rw [if_neg hl, if_neg hl, ← List.map_drop, lab_fold n _ (hb.tail.drop _), ← List.map_take]
    have e1 : strOfNums ((r.take x.toNat).map foldB) = fo (strOfNums (r.take x.toNat)) := by unfold fo; rw [bytesOf_str (hb.tail.take _)]
    rw [e1]
    cases lab n (r.drop x.toNat) with
    | none => rfl
    | some ls => rfl
theorem LB_fo (s : ByteArray) : LB (fo s) = (LB s).map (List.map fo) := by
  unfold LB
  rw [fo_size, fo_bytes]
  by_cases h : s.size > 255
  · rw [if_pos h, if_pos h]; rfl
  · rw [if_neg h, if_neg h, lab_fold _ _ (bytesOf_bytes s)]
/-- What folding a name answers. -/
def FO (s : ByteArray) : ByteArray := if (LB s).isSome = true then fo s else E0
theorem fold_f {k : Nat} {s : ByteArray} (hs : s.size ≤ 900000) (hk : 300 < k) : name_Fold.f k s = some (FO s) := by
  unfold name_Fold.f FO
  rw [is_f hs hk, Option.bind_some]
  by_cases h : (LB s).isSome = true
  · rw [if_pos h, if_pos h, tfold_f hs]; rfl
  · rw [if_neg h, if_neg h]
theorem rfold_f {k : Nat} {s : ByteArray} (hs : s.size ≤ 900000) (hk : 700 < k) : nuncioref04_Fold.f k s = some (FO s) := by
  obtain ⟨r, h1, h2⟩ := rlab_f hs (k := k) (by omega)
  unfold nuncioref04_Fold.f FO
  rw [h1, Option.bind_some, h2.snd]
  cases h : LB s with
  | none => rw [if_neg (by simp), if_neg (by simp)]
  | some ls =>
    obtain ⟨g1, g2⟩ := lab_len h
    have hb : LB (fo s) = some (ls.map fo) := by rw [LB_fo, h]; rfl
    simp only [Option.isSome_some, if_true]
    rw [h2.fst h, folded_f (by omega) (fun x hx => by have := g2 x hx; omega) (by omega), Option.bind_some, rmake_f (by rw [List.length_map]; omega) (by rw [List.length_map]; omega), Option.bind_some, LB_back hb]
/-- Are two names alike. -/
def SM (a b : ByteArray) : Bool := (LB a).isSome && ((LB b).isSome && decide (fo a = fo b))
theorem beq_dec (a b : ByteArray) : (a.toList == b.toList) = decide (a = b) := by rw [Bool.eq_iff_iff]; simp only [beq_iff_eq, decide_eq_true_eq]; exact toList_inj
theorem same_f {k : Nat} {a b : ByteArray} (ha : a.size ≤ 900000) (hb : b.size ≤ 900000) (hk : 300 < k) : name_Same.f k a b = some (SM a b) := by
  unfold name_Same.f SM
  rw [is_f ha hk, is_f hb hk, Option.bind_some, Option.bind_some]
  cases (LB a).isSome with
  | false => rw [if_neg (by simp)]; rfl
  | true =>
    rw [if_pos rfl]
    cases (LB b).isSome with
    | false => rw [if_neg (by simp)]; rfl
    | true =>
      rw [if_pos rfl]
      unfold text_Same.f
      by_cases h : (a.size : Int) = (b.size : Int)
      · rw [if_pos h, tfold_f ha, tfold_f hb, Option.bind_some, Option.bind_some, Option.bind_some, beq_dec]; rfl
      · rw [if_neg h, Option.bind_some, decide_eq_false (fun h_ => h (by rw [← fo_size a, ← fo_size b, h_]))]; rfl
theorem rsame_f {k : Nat} {a b : ByteArray} (ha : a.size ≤ 900000) (hb : b.size ≤ 900000) (hk : 700 < k) : nuncioref04_Same.f k a b = some (SM a b) := by
  unfold nuncioref04_Same.f SM
  rw [ris_f ha (by omega), ris_f hb (by omega), rfold_f ha hk, rfold_f hb hk, Option.bind_some, Option.bind_some, Option.bind_some, Option.bind_some]
  unfold FO
  cases (LB a).isSome with
  | false => rw [if_neg (by simp)]; rfl
  | true =>
    rw [if_pos rfl]
    cases (LB b).isSome with
    | false => rw [if_neg (by simp)]; rfl
    | true => rw [if_pos rfl, if_pos rfl, if_pos rfl, beq_dec]; rfl
/-- Is a name in a zone: the zone's folded labels are the last ones. -/
def UN (a b : ByteArray) : Bool :=
  match LB a, LB b with
  | some la, some lb => decide (lb.length ≤ la.length) && decide ((la.drop (la.length - lb.length)).map fo = lb.map fo)
  | _, _ => false
theorem LB_E0 : LB E0 = none := by decide
theorem LB_FO (s : ByteArray) : LB (FO s) = (LB s).map (List.map fo) := by
  unfold FO
  cases h : LB s with
  | none => rw [if_neg (by simp), LB_E0]; rfl
  | some ls => simp only [Option.isSome_some, if_true]; rw [LB_fo, h]
theorem FO_size (s : ByteArray) : (FO s).size ≤ s.size := by
  unfold FO
  split
  · rw [fo_size]; exact Nat.le_refl _
  · exact Nat.zero_le _
theorem under_f {k : Nat} {a b : ByteArray} (ha : a.size ≤ 900000) (hb : b.size ≤ 900000) (hk : 300 < k) : name_Under.f k a b = some (UN a b) := by
  obtain ⟨r, r1, r2⟩ := split_f (k := k) (s := FO a) (Nat.le_trans (FO_size a) ha) hk
  obtain ⟨q, q1, q2⟩ := split_f (k := k) (s := FO b) (Nat.le_trans (FO_size b) hb) hk
  unfold name_Under.f UN
  rw [fold_f ha hk, Option.bind_some, r1, Option.bind_some, fold_f hb hk, Option.bind_some, q1, Option.bind_some, r2.snd, q2.snd]
  have ea := LB_FO a
  have eb := LB_FO b
  cases h : LB a with
  | none => rw [h] at ea; rw [ea]; rfl
  | some la =>
    rw [h] at ea
    cases h' : LB b with
    | none => rw [h'] at eb; rw [ea, eb]; rfl
    | some lb =>
      rw [h'] at eb
      simp only [Option.map_some] at ea eb
      have g := lab_len h
      have g' := lab_len h'
      rw [r2.fst ea, q2.fst eb, ea, eb]
      simp only [Option.isSome_some, if_true, List.length_map]
      by_cases hg : (la.length : Int) ≥ (lb.length : Int)
      · rw [if_pos hg, w64 (by omega) (by omega), if_pos (by omega), if_pos (by omega), show ((la.length : Int) - (lb.length : Int)).toNat = la.length - lb.length by omega, sequal_f (by rw [List.length_drop, List.length_map]; omega) (by rw [List.length_drop, List.length_map]; omega), Option.bind_some, ← List.map_drop, decide_eq_true (by omega : lb.length ≤ la.length), Bool.true_and]
      · rw [if_neg hg, decide_eq_false (by omega : ¬ lb.length ≤ la.length), Bool.false_and]
theorem runder_l0 (la lb : List ByteArray) (hl : la.length ≤ 300) (hlb : lb.length ≤ la.length) (hs : ∀ x ∈ la, x.size ≤ 63) (hs2 : ∀ x ∈ lb, x.size ≤ 63) : ∀ (d k i : Nat), i + d = lb.length → d + 300 < k →
    nuncioref04_Under.l0 k la lb (i : Int) = some (decide ((la.drop (la.length - lb.length + i)).map fo = (lb.drop i).map fo))
  | 0, k, i, hi, hk => by
    obtain ⟨k, rfl⟩ : ∃ m, k = m + 1 := ⟨k - 1, by omega⟩
    simp only [nuncioref04_Under.l0]
    rw [if_neg (by omega), List.drop_eq_nil_of_le (by omega), List.drop_eq_nil_of_le (by omega)]
    simp
  | d + 1, k, i, hi, hk => by
    obtain ⟨k, rfl⟩ : ∃ m, k = m + 1 := ⟨k - 1, by omega⟩
    have h2 : i < lb.length := by omega
    have h1 : la.length - lb.length + i < la.length := by omega
    have s1 := hs _ (List.getElem_mem h1)
    have s2 := hs2 _ (List.getElem_mem h2)
    have ih := runder_l0 la lb hl hlb hs hs2 d k (i + 1) (by omega) (by omega)
    rw [show ((i + 1 : Nat) : Int) = (i : Int) + 1 by omega] at ih
    simp only [nuncioref04_Under.l0]
    rw [w64 (x := (la.length : Int) - (lb.length : Int)) (by omega) (by omega), w64 (x := (la.length : Int) - (lb.length : Int) + (i : Int)) (by omega) (by omega), if_pos (by omega), if_pos (by omega), if_pos (by omega), show (la.length : Int) - (lb.length : Int) + (i : Int) = ((la.length - lb.length + i : Nat) : Int) by omega,
      rdo h1, rdo h2, rfold2_f (by omega) (by omega), Option.bind_some, if_pos (by omega), rfold2_f (by omega) (by omega), Option.bind_some, w64 (x := (i : Int) + 1) (by omega) (by omega), ih, List.drop_eq_getElem_cons h1, List.drop_eq_getElem_cons h2, List.map_cons, List.map_cons]
    by_cases he : fo la[la.length - lb.length + i] = fo lb[i]
    · rw [if_pos (by rw [he]), he, Nat.add_assoc]; simp
    · rw [if_neg (fun h_ => he (toList_inj.1 h_))]; simp [he]
theorem runder_f {k : Nat} {a b : ByteArray} (ha : a.size ≤ 900000) (hb : b.size ≤ 900000) (hk : 700 < k) : nuncioref04_Under.f k a b = some (UN a b) := by
  obtain ⟨r, r1, r2⟩ := rlab_f (k := k) ha (by omega)
  obtain ⟨q, q1, q2⟩ := rlab_f (k := k) hb (by omega)
  obtain ⟨k, rfl⟩ : ∃ m, k = m + 1 := ⟨k - 1, by omega⟩
  have T : ∀ x y, nuncioref04_Under.j0 (k + 1) x y true = some false := by intro x y; simp only [nuncioref04_Under.j0]; rw [if_pos trivial]
  unfold nuncioref04_Under.f UN
  rw [r1, Option.bind_some, q1, Option.bind_some, r2.snd, q2.snd]
  cases h : LB a with
  | none => rw [if_neg (by simp)]; exact T _ _
  | some la =>
    cases h' : LB b with
    | none => simp only [Option.isSome_some, Option.isSome_none, if_true, Bool.false_eq_true, if_false]; exact T _ _
    | some lb =>
      have g := lab_len h
      have g' := lab_len h'
      simp only [Option.isSome_some, if_true]
      rw [r2.fst h, q2.fst h']
      by_cases hg : (la.length : Int) < (lb.length : Int)
      · rw [decide_eq_true hg, T, decide_eq_false (by omega : ¬ lb.length ≤ la.length), Bool.false_and]
      · rw [decide_eq_false hg]
        have := runder_l0 la lb (by omega) (by omega) g.2 g'.2 lb.length k 0 (by omega) (by omega)
        simp only [nuncioref04_Under.j0]
        rw [if_neg (by simp)]
        refine this.trans ?_
        rw [Nat.add_zero, List.drop_zero, decide_eq_true (by omega : lb.length ≤ la.length), Bool.true_and]
end Go.Proofs.Ytpnflloamidecaa.Pure
