/- What the printed texts of names answer, and how they are read. -/
import Derived.Test.YtpnflloamidecaaMinex6
import Derived.Test.YtpnflloamidecaaMinex5
import Derived.Test.YtpnflloamidecaaMinex7
import Derived.Test.YtpnflloamidecaaMinex8
import Derived.Test.YtpnflloamidecaaMinex18
import Derived.Test.YtpnflloamidecaaMinex19
import Derived.Test.YtpnflloamidecaaMinex20
import Derived.Test.YtpnflloamidecaaLName
namespace Go.Proofs.Ytpnflloamidecaa.Pure
open Go.RowKit Go.Proofs.Ytpnflloamidecaa.Mine Go.Proofs.YtpnflloamidecaaW.PrintWords Go.Proofs.YtpnflloamidecaaW.PrintLast Go.Proofs.YtpnflloamidecaaW.PrintMore
set_option linter.unusedSimpArgs false
set_option linter.unusedVariables false

/-- A byte as it is shown. -/
def sgn (c : Int) : List Int := if c = 46 ∨ c = 92 then [92, c] else if 33 ≤ c ∧ c ≤ 126 then [c] else [92, 48 + c / 100, 48 + c / 10 % 10, 48 + c % 10]
theorem sgn_bytes {c : Int} (h0 : 0 ≤ c) (h1 : c < 256) : Bytes (sgn c) := by
  unfold sgn
  split
  · exact Bytes.cons (by omega) (by omega) (Bytes.cons h0 h1 Bytes.nil)
  · split
    · exact Bytes.cons h0 h1 Bytes.nil
    · exact Bytes.cons (by omega) (by omega) (Bytes.cons (by omega) (by omega) (Bytes.cons (by omega) (by omega) (Bytes.cons (by omega) (by omega) Bytes.nil)))
theorem sgn_len (c : Int) : 1 ≤ (sgn c).length ∧ (sgn c).length ≤ 4 := by unfold sgn; split <;> (try split) <;> simp
theorem sgn_size (c : Int) : (strOfNums (sgn c)).size = (sgn c).length := strOfNums_size _
theorem sign_f {k : Nat} {c : Int} (h0 : 0 ≤ c) (h1 : c < 256) (hk : 0 < k) : name_sign.f k c = some (strOfNums (sgn c)) := by
  obtain ⟨k, rfl⟩ : ∃ m, k = m + 1 := ⟨k - 1, by omega⟩
  have b92 : Bytes [92] := Bytes.cons (by omega) (by omega) Bytes.nil
  have e92 : strOfNums [92] = (⟨#[92]⟩ : ByteArray) := by decide
  have hb := sgn_bytes h0 h1
  unfold name_sign.f
  by_cases h : c = 46 ∨ c = 92
  · have e : sgn c = [92] ++ [c] := by unfold sgn; rw [if_pos h]; rfl
    have z : (strOfNums [c]).size = 1 := by rw [strOfNums_size]; rfl
    have T : name_sign.j0 (k + 1) c true = some (strOfNums (sgn c)) := by
      simp only [name_sign.j0]
      rw [if_pos trivial, Option.bind_some, if_pos (by omega), e, str_app b92 (Bytes.cons h0 h1 Bytes.nil), e92]
    rcases h with h | h
    · rw [if_pos h]; exact T
    · rw [if_neg (by omega), show (c == 92) = true by simpa using h]; exact T
  · rw [if_neg (fun h_ => h (.inl h_)), show (c == 92) = false by simpa using (fun h_ => h (.inr h_))]
    simp only [name_sign.j0]
    rw [if_neg (by simp)]
    by_cases hp : 33 ≤ c ∧ c ≤ 126
    · rw [if_neg (by omega)]
      unfold sgn
      rw [if_neg h, if_pos hp]
    · have e : sgn c = [92] ++ [48 + c / 100, 48 + c / 10 % 10, 48 + c % 10] := by unfold sgn; rw [if_neg h, if_neg hp]; rfl
      have e1 : (48 + ((Int.tdiv c 100) % 256)) % 256 = 48 + c / 100 := by rw [tdiv_pos 100 h0]; omega
      have e2 : 48 + (((Int.tdiv c 10) % 256) % 10) = 48 + c / 10 % 10 := by rw [tdiv_pos 10 h0]; omega
      have e3 : (48 + (Int.tmod c 10)) % 256 = 48 + c % 10 := by rw [tmod_pos 10 h0]; omega
      have z : (strOfNums [48 + c / 100, 48 + c / 10 % 10, 48 + c % 10]).size = 3 := by rw [strOfNums_size]; rfl
      rw [if_pos (by omega), e1, e2, e3, Option.bind_some, if_pos (by omega), e, str_app b92 (Bytes.cons (by omega) (by omega) (Bytes.cons (by omega) (by omega) (Bytes.cons (by omega) (by omega) Bytes.nil))), e92]
theorem rsign_f {k : Nat} {c : Int} (h0 : 0 ≤ c) (h1 : c < 256) (hk : 0 < k) : nuncioref04_sign.f k c = some (strOfNums (sgn c)) := by
  obtain ⟨k, rfl⟩ : ∃ m, k = m + 1 := ⟨k - 1, by omega⟩
  unfold nuncioref04_sign.f
  by_cases h : c = 46 ∨ c = 92
  · have T : nuncioref04_sign.j0 (k + 1) c true = some (strOfNums (sgn c)) := by
      simp only [nuncioref04_sign.j0]
      rw [if_pos trivial]
      unfold sgn
      rw [if_pos h]
    rcases h with h | h
    · rw [if_pos h]; exact T
    · rw [if_neg (by omega), show (c == 92) = true by simpa using h]; exact T
  · rw [if_neg (fun h_ => h (.inl h_)), show (c == 92) = false by simpa using (fun h_ => h (.inr h_))]
    have e1 : (48 + ((Int.tdiv c 100) % 256)) % 256 = 48 + c / 100 := by rw [tdiv_pos 100 h0]; omega
    have e2 : 48 + (((Int.tdiv c 10) % 256) % 10) = 48 + c / 10 % 10 := by rw [tdiv_pos 10 h0]; omega
    have e3 : (48 + (Int.tmod c 10)) % 256 = 48 + c % 10 := by rw [tmod_pos 10 h0]; omega
    simp only [nuncioref04_sign.j0]
    rw [if_neg (by simp), e1, e2, e3]
    unfold sgn
    by_cases h33 : c ≥ 33
    · by_cases h126 : c ≤ 126
      · rw [if_pos h33, if_pos h126, if_neg h, if_pos ⟨h33, h126⟩]
      · rw [if_pos h33, if_neg h126, if_neg h, if_neg (fun h_ => h126 h_.2)]
    · rw [if_neg h33, if_neg h, if_neg (fun h_ => h33 h_.1)]

/-! texts -/
def fs (l : List Int) : List Int := l.flatMap sgn
theorem fs_cons (x : Int) (l : List Int) : fs (x :: l) = sgn x ++ fs l := rfl
theorem fs_append (a b : List Int) : fs (a ++ b) = fs a ++ fs b := by unfold fs; rw [List.flatMap_append]
theorem fs_bytes {l : List Int} (h : Bytes l) : Bytes (fs l) := by
  induction l with
  | nil => exact Bytes.nil
  | cons x l ih => exact (sgn_bytes h.head.1 h.head.2).append (ih h.tail)
theorem fs_len : ∀ l : List Int, (fs l).length ≤ 4 * l.length
  | [] => Nat.le_refl _
  | x :: l => by have := fs_len l; have := sgn_len x; rw [fs_cons, List.length_append, List.length_cons]; omega
def tl : List ByteArray → List Int
  | [] => []
  | x :: ls => fs (bytesOf x) ++ 46 :: tl ls
theorem tl_append : ∀ a b, tl (a ++ b) = tl a ++ tl b
  | [], _ => rfl
  | x :: a, b => by rw [List.cons_append, tl, tl, tl_append a b, List.append_assoc, List.cons_append]
theorem tl_bytes : ∀ l, Bytes (tl l)
  | [] => Bytes.nil
  | x :: l => (fs_bytes (bytesOf_bytes x)).append (Bytes.cons (by omega) (by omega) (tl_bytes l))
/-- The text of a name. -/
def TX (s : ByteArray) : ByteArray :=
  match LB s with
  | none => E0
  | some [] => ⟨#[46]⟩
  | some (x :: ls) => strOfNums (tl (x :: ls))
theorem text_l1 (ls : List ByteArray) (n i : Int) (ys : List Int) (hy : Bytes ys) (hyl : ys.length ≤ 63) : ∀ (d j k : Nat) (s : ByteArray), j + d = ys.length → s.size + 4 * d + 1 ≤ 1000000 → -1 ≤ i → i ≤ 1000000 →
    name_Text.l1 (k + d + 1) s ls n i ys (ys.length : Int) (j : Int) = name_Text.l0 k (s ++ strOfNums (fs (ys.drop j) ++ [46])) ls n (i + 1)
  | 0, j, k, s, hj, hs, hi0, hi1 => by
    simp only [name_Text.l1]
    rw [if_neg (by omega), if_pos (by omega), w64 (by omega) (by omega), List.drop_eq_nil_of_le (by omega)]
    rfl
  | d + 1, j, k, s, hj, hs, hi0, hi1 => by
    have hjl : j < ys.length := by omega
    have hb := hy ys[j] (List.getElem_mem hjl)
    have hl := sgn_len ys[j]
    have ih := text_l1 ls n i ys hy hyl d (j + 1) k (s ++ strOfNums (sgn ys[j])) (by omega) (by rw [ByteArray.size_append, sgn_size]; omega) hi0 hi1
    rw [show ((j + 1 : Nat) : Int) = (j : Int) + 1 by omega] at ih
    rw [show k + (d + 1) + 1 = (k + d + 1) + 1 by omega]
    generalize hm : k + d + 1 = m at ih ⊢
    simp only [name_Text.l1]
    rw [if_pos (by omega), if_pos (by omega), if_pos (by omega), rd_nat hjl, sign_f hb.1 hb.2 (by omega), Option.bind_some, if_pos (by rw [sgn_size]; omega), w64 (x := (j : Int) + 1) (by omega) (by omega), ih, List.drop_eq_getElem_cons hjl, fs_cons, List.append_assoc,
      str_app (sgn_bytes hb.1 hb.2) ((fs_bytes (hy.drop _)).append (Bytes.cons (by omega) (by omega) Bytes.nil)), ba_assoc]
def cost : List ByteArray → Nat
  | [] => 0
  | x :: l => x.size + 2 + cost l
theorem text_l0 (ls : List ByteArray) (hl : ls.length ≤ 1000) (hz : ∀ x ∈ ls, x.size ≤ 63) : ∀ (d i k : Nat) (s : ByteArray), i + d = ls.length → s.size + 300 * d + 1 ≤ 900000 → cost (ls.drop i) < k →
    name_Text.l0 k s ls (ls.length : Int) (i : Int) = some (s ++ strOfNums (tl (ls.drop i)))
  | 0, i, k, s, hi, hs, hk => by
    obtain ⟨k, rfl⟩ : ∃ m, k = m + 1 := ⟨k - 1, by omega⟩
    simp only [name_Text.l0]
    rw [if_neg (by omega), List.drop_eq_nil_of_le (by omega)]
    have : s ++ strOfNums (tl []) = s := by apply bytesOf_inj; rw [bytesOf_append]; show bytesOf s ++ [] = _; rw [List.append_nil]
    rw [this]
  | d + 1, i, k, s, hi, hs, hk => by
    have hil : i < ls.length := by omega
    have hx := hz ls[i] (List.getElem_mem hil)
    have hsz := size_bytesOf ls[i]
    rw [List.drop_eq_getElem_cons hil, cost] at hk
    obtain ⟨m, rfl⟩ : ∃ m, k = m + (bytesOf ls[i]).length + 1 + 1 := ⟨k - ls[i].size - 2, by omega⟩
    have hb46 : Bytes [46] := Bytes.cons (by omega) (by omega) Bytes.nil
    simp only [name_Text.l0]
    have h1 := text_l1 ls (ls.length : Int) (i : Int) (bytesOf ls[i]) (bytesOf_bytes _) (by omega) (bytesOf ls[i]).length 0 m s (by omega) (by omega) (by omega) (by omega)
    rw [List.drop_zero] at h1
    have fl := fs_len (bytesOf ls[i])
    have ih := text_l0 ls hl hz d (i + 1) m (s ++ strOfNums (fs (bytesOf ls[i]) ++ [46])) (by omega) (by rw [ByteArray.size_append, strOfNums_size, List.length_append, List.length_singleton]; omega) (by omega)
    rw [show ((i + 1 : Nat) : Int) = (i : Int) + 1 by omega] at ih
    rw [if_pos (by omega), if_pos (by omega), if_pos (by omega), rdo hil, if_pos (by omega), Option.bind_some]
    refine h1.trans (ih.trans ?_)
    rw [List.drop_eq_getElem_cons hil, tl, ba_assoc, ← str_app ((fs_bytes (bytesOf_bytes _)).append hb46) (tl_bytes _), List.append_assoc]
    rfl
theorem cost_le : ∀ ls : List ByteArray, cost ls ≤ 2 * (encs ls).length
  | [] => Nat.le_refl _
  | x :: ls => by have := cost_le ls; have := size_bytesOf x; simp only [encs, cost, List.length_cons, List.length_append]; omega
theorem text_f {k : Nat} {s : ByteArray} (hs : s.size ≤ 900000) (hk : 1000 < k) : name_Text.f k s = some (TX s) := by
  obtain ⟨r, h1, h2⟩ := split_f hs (k := k) (by omega)
  unfold name_Text.f TX
  rw [h1, Option.bind_some, h2.snd]
  cases h : LB s with
  | none => simp only [Option.isSome_none, Bool.false_eq_true, if_false]
  | some ls =>
    obtain ⟨a1, a2, a3⟩ := LB_some h
    have g := lab_len h
    simp only [Option.isSome_some, if_true]
    rw [h2.fst h]
    cases ls with
    | nil => rfl
    | cons x ls =>
      have hc := cost_le (x :: ls)
      have he : (enc (x :: ls)).length = (encs (x :: ls)).length + 1 := by unfold enc; rw [List.length_append, List.length_singleton]
      rw [a1, ← size_bytesOf] at he
      rw [if_neg (by simp only [List.length_cons]; omega)]
      have := text_l0 (x :: ls) (by omega) g.2 (x :: ls).length 0 k E0 (by omega) (by show 0 + 300 * (x :: ls).length + 1 ≤ 900000; omega) (by rw [List.drop_zero]; omega)
      rw [List.drop_zero, ba_nil] at this
      exact this
theorem rtext_l1 (ls : List ByteArray) (hl : ls.length ≤ 1000) (i : Nat) (hil : i < ls.length) (hyl : ls[i].size ≤ 63) : ∀ (d j k : Nat) (s : ByteArray), j + d = ls[i].size → s.size + 4 * d + 1 ≤ 1000000 →
    nuncioref04_Text.l1 (k + d + 1) ls s (i : Int) (j : Int) = nuncioref04_Text.l0 k ls (s ++ strOfNums (fs ((bytesOf ls[i]).drop j) ++ [46])) ((i : Int) + 1)
  | 0, j, k, s, hj, hs => by
    have hsz := size_bytesOf ls[i]
    simp only [nuncioref04_Text.l1]
    rw [if_pos (by omega), if_pos (by omega), rdo hil, if_neg (by omega), if_pos (by omega), w64 (by omega) (by omega), List.drop_eq_nil_of_le (by omega)]
    rfl
  | d + 1, j, k, s, hj, hs => by
    have hsz := size_bytesOf ls[i]
    have hjl : j < (bytesOf ls[i]).length := by omega
    have hb := bytesOf_bytes ls[i] (bytesOf ls[i])[j] (List.getElem_mem hjl)
    have hlc := sgn_len (bytesOf ls[i])[j]
    have ih := rtext_l1 ls hl i hil hyl d (j + 1) k (s ++ strOfNums (sgn (bytesOf ls[i])[j])) (by omega) (by rw [ByteArray.size_append, sgn_size]; omega)
    rw [show ((j + 1 : Nat) : Int) = (j : Int) + 1 by omega] at ih
    rw [show k + (d + 1) + 1 = (k + d + 1) + 1 by omega]
    generalize hm : k + d + 1 = m at ih ⊢
    simp only [nuncioref04_Text.l1]
    rw [if_pos (by omega), if_pos (by omega), rdo hil, if_pos (by omega), if_pos (by omega), bt_eq, rd_nat hjl, rsign_f hb.1 hb.2 (by omega), Option.bind_some, if_pos (by rw [sgn_size]; omega), w64 (x := (j : Int) + 1) (by omega) (by omega), ih, List.drop_eq_getElem_cons hjl, fs_cons, List.append_assoc,
      str_app (sgn_bytes hb.1 hb.2) ((fs_bytes ((bytesOf_bytes _).drop _)).append (Bytes.cons (by omega) (by omega) Bytes.nil)), ba_assoc]
theorem rtext_l0 (ls : List ByteArray) (hl : ls.length ≤ 1000) (hz : ∀ x ∈ ls, x.size ≤ 63) : ∀ (d i k : Nat) (s : ByteArray), i + d = ls.length → s.size + 300 * d + 1 ≤ 900000 → cost (ls.drop i) < k →
    nuncioref04_Text.l0 k ls s (i : Int) = some (s ++ strOfNums (tl (ls.drop i)))
  | 0, i, k, s, hi, hs, hk => by
    obtain ⟨k, rfl⟩ : ∃ m, k = m + 1 := ⟨k - 1, by omega⟩
    simp only [nuncioref04_Text.l0]
    rw [if_neg (by omega), List.drop_eq_nil_of_le (by omega)]
    have : s ++ strOfNums (tl []) = s := by apply bytesOf_inj; rw [bytesOf_append]; show bytesOf s ++ [] = _; rw [List.append_nil]
    rw [this]
  | d + 1, i, k, s, hi, hs, hk => by
    have hil : i < ls.length := by omega
    have hx := hz ls[i] (List.getElem_mem hil)
    have hsz := size_bytesOf ls[i]
    rw [List.drop_eq_getElem_cons hil, cost] at hk
    obtain ⟨m, rfl⟩ : ∃ m, k = m + ls[i].size + 1 + 1 := ⟨k - ls[i].size - 2, by omega⟩
    have hb46 : Bytes [46] := Bytes.cons (by omega) (by omega) Bytes.nil
    simp only [nuncioref04_Text.l0]
    have h1 := rtext_l1 ls hl i hil hx ls[i].size 0 m s (by omega) (by omega)
    rw [List.drop_zero] at h1
    have fl := fs_len (bytesOf ls[i])
    have ih := rtext_l0 ls hl hz d (i + 1) m (s ++ strOfNums (fs (bytesOf ls[i]) ++ [46])) (by omega) (by rw [ByteArray.size_append, strOfNums_size, List.length_append, List.length_singleton]; omega) (by omega)
    rw [show ((i + 1 : Nat) : Int) = (i : Int) + 1 by omega] at ih
    rw [if_pos (by omega)]
    refine h1.trans (ih.trans ?_)
    rw [List.drop_eq_getElem_cons hil, tl, ba_assoc, ← str_app ((fs_bytes (bytesOf_bytes _)).append hb46) (tl_bytes _), List.append_assoc]
    rfl
theorem rtext_f {k : Nat} {s : ByteArray} (hs : s.size ≤ 900000) (hk : 1000 < k) : nuncioref04_Text.f k s = some (TX s) := by
  obtain ⟨r, h1, h2⟩ := rlab_f hs (k := k) (by omega)
  unfold nuncioref04_Text.f TX
  rw [h1, Option.bind_some, h2.snd]
  cases h : LB s with
  | none => simp only [Option.isSome_none, Bool.false_eq_true, if_false]
  | some ls =>
    obtain ⟨a1, a2, a3⟩ := LB_some h
    have g := lab_len h
    simp only [Option.isSome_some, if_true]
    rw [h2.fst h]
    cases ls with
    | nil => rfl
    | cons x ls =>
      have hc := cost_le (x :: ls)
      have he : (enc (x :: ls)).length = (encs (x :: ls)).length + 1 := by unfold enc; rw [List.length_append, List.length_singleton]
      rw [a1, ← size_bytesOf] at he
      rw [if_neg (by simp only [List.length_cons]; omega)]
      have := rtext_l0 (x :: ls) (by omega) g.2 (x :: ls).length 0 k E0 (by omega) (by show 0 + 300 * (x :: ls).length + 1 ≤ 900000; omega) (by rw [List.drop_zero]; omega)
      rw [List.drop_zero, ba_nil] at this
      exact this

/-! one sign read -/
def pre (a t : List Int) : Prop := t.take a.length = a
instance (a t : List Int) : Decidable (pre a t) := by unfold pre; infer_instance
/-- The byte whose sign a text begins with. -/
def onp : List Int → Option Int
  | [] => none
  | y0 :: r => if y0 = 92 then
      (match r with
       | [] => none
       | y1 :: r2 => if y1 = 46 ∨ y1 = 92 then some y1 else
          (match r2 with
           | y2 :: y3 :: _ => if (48 ≤ y1 ∧ y1 ≤ 57) ∧ (48 ≤ y2 ∧ y2 ≤ 57) ∧ (48 ≤ y3 ∧ y3 ≤ 57) ∧ ((y1 - 48) * 10 + (y2 - 48)) * 10 + (y3 - 48) ≤ 255 ∧ sgn (((y1 - 48) * 10 + (y2 - 48)) * 10 + (y3 - 48)) = [92, y1, y2, y3] then some (((y1 - 48) * 10 + (y2 - 48)) * 10 + (y3 - 48)) else none
           | _ => none))
    else if sgn y0 = [y0] then some y0 else none
theorem onp_pre {t : List Int} {c : Int} (ht : Bytes t) (h : onp t = some c) : pre (sgn c) t ∧ 0 ≤ c ∧ c < 256 := by
  unfold pre
  match t, ht, h with
  | [], _, h => simp [onp] at h
  | y0 :: r, ht, h =>
    have h0 := ht.head
    simp only [onp] at h
    by_cases e : y0 = 92
    · rw [if_pos e] at h
      match r, ht, h with
      | [], _, h => simp at h
      | y1 :: r2, ht, h =>
        have h1 := ht.tail.head
        simp only at h
        by_cases e1 : y1 = 46 ∨ y1 = 92
        · rw [if_pos e1] at h
          obtain rfl := Option.some.inj h
          have es : sgn y1 = [92, y1] := by unfold sgn; rw [if_pos e1]
          rw [es, e]
          exact ⟨rfl, h1.1, h1.2⟩
        · rw [if_neg e1] at h
          match r2, ht, h with
          | [], _, h => simp at h
          | [y2], _, h => simp at h
          | y2 :: y3 :: r3, ht, h =>
            simp only at h
            split at h
            · rename_i hc
              obtain rfl := Option.some.inj h
              obtain ⟨d1, d2, d3, d4, d5⟩ := hc
              rw [d5, e]
              exact ⟨rfl, by omega, by omega⟩
            · exact absurd h (by simp)
    · rw [if_neg e] at h
      by_cases e1 : sgn y0 = [y0]
      · rw [if_pos e1] at h
        obtain rfl := Option.some.inj h
        rw [e1]
        exact ⟨rfl, h0.1, h0.2⟩
      · rw [if_neg e1] at h; exact absurd h (by simp)
theorem onp_of {t : List Int} {c : Int} (h0 : 0 ≤ c) (h1 : c < 256) (h : pre (sgn c) t) : onp t = some c := by
  unfold pre at h
  have hs : sgn c = sgn c := rfl
  by_cases e : c = 46 ∨ c = 92
  · have es : sgn c = [92, c] := by unfold sgn; rw [if_pos e]
    rw [es] at h
    match t, h with
    | [], h => simp at h
    | [y0], h => simp at h
    | y0 :: y1 :: r, h =>
      simp only [List.length_cons, List.length_nil, List.take_succ_cons, List.take_zero, List.cons.injEq, and_true] at h
      obtain ⟨rfl, rfl⟩ := h
      simp only [onp]
      rw [if_pos trivial, if_pos e]
  · by_cases ep : 33 ≤ c ∧ c ≤ 126
    · have es : sgn c = [c] := by unfold sgn; rw [if_neg e, if_pos ep]
      rw [es] at h
      match t, h with
      | [], h => simp at h
      | y0 :: r, h =>
        simp only [List.length_cons, List.length_nil, List.take_succ_cons, List.take_zero, List.cons.injEq, and_true] at h
        subst h
        simp only [onp]
        rw [if_neg (fun h_ => e (.inr h_)), if_pos es]
    · have es : sgn c = [92, 48 + c / 100, 48 + c / 10 % 10, 48 + c % 10] := by unfold sgn; rw [if_neg e, if_neg ep]
      rw [es] at h
      match t, h with
      | [], h => simp at h
      | [y0], h => simp at h
      | [y0, y1], h => simp at h
      | [y0, y1, y2], h => simp at h
      | y0 :: y1 :: y2 :: y3 :: r, h =>
        simp only [List.length_cons, List.length_nil, List.take_succ_cons, List.take_zero, List.cons.injEq, and_true] at h
        obtain ⟨rfl, rfl, rfl, rfl⟩ := h
        have ec : ((48 + c / 100 - 48) * 10 + (48 + c / 10 % 10 - 48)) * 10 + (48 + c % 10 - 48) = c := by omega
        simp only [onp]
        rw [if_pos trivial, if_neg (by omega), ec, if_pos ⟨by omega, by omega, by omega, by omega, es⟩]
/-- What a byte and a length are against what a text begins with. -/
def Fit (t : List Int) (c n : Int) : Prop :=
  match onp t with
  | some c' => c = c' ∧ n = ((sgn c).length : Int) ∧ sgn c = t.take n.toNat
  | none => n = 0 ∨ ¬ sgn c = t.take n.toNat
theorem one_l0 {k : Nat} {t : ByteArray} {y1 : Int} {r2 : List Int} (hb : bytesOf t = 92 :: y1 :: r2) (h1 : 0 ≤ y1 ∧ y1 < 256) (h2 : Bytes r2) (hn : ¬ (y1 = 46 ∨ y1 = 92)) (hs : t.size ≤ 900000) :
    ∃ c n, name_one.l0 (k + 1 + 1 + 1 + 1) t 0 1 = some (c, n) ∧ 0 ≤ c ∧ c < 256 ∧ 0 ≤ n ∧ n ≤ (t.size : Int) ∧ Fit (bytesOf t) c n := by
  have hl := size_bytesOf t
  have b1 : bt t 1 = y1 := by rw [bt_eq, hb]; rfl
  rw [hb] at hl
  simp only [List.length_cons] at hl
  have bad : onp (92 :: y1 :: r2) = none → ∃ c n, some ((0 : Int), (0 : Int)) = some (c, n) ∧ 0 ≤ c ∧ c < 256 ∧ 0 ≤ n ∧ n ≤ (t.size : Int) ∧ Fit (92 :: y1 :: r2) c n := by
    intro h
    refine ⟨0, 0, rfl, by omega, by omega, by omega, by omega, ?_⟩
    unfold Fit
    rw [h]
    exact .inl rfl
  rw [hb]
  simp only [name_one.l0]
  rw [if_pos (by omega), if_neg (by omega), if_pos (by omega), if_pos (by omega), b1]
  by_cases d1 : (y1 - 48) % 256 > 9
  · rw [if_pos d1]
    apply bad
    simp only [onp]
    rw [if_pos trivial, if_neg hn]
    match r2 with
    | [] => rfl
    | [_] => rfl
    | _ :: _ :: _ => simp only; rw [if_neg (fun h_ => by omega)]
  rw [if_neg d1, w64 (x := (0 : Int) * 10) (by omega) (by omega), w64 (x := (0 : Int) * 10 + (y1 - 48) % 256) (by omega) (by omega), w64 (x := (1 : Int) + 1) (by omega) (by omega)]
  match r2, hb, h2, hl, bad with
  | [], hb, h2, hl, bad =>
    simp only [List.length_nil] at hl
    rw [if_pos (by omega), if_pos (by omega)]
    apply bad
    simp only [onp]
    rw [if_pos trivial, if_neg hn]
  | y2 :: r3, hb, h2, hl, bad =>
    have g2 := h2.head
    have b2 : bt t 2 = y2 := by rw [bt_eq, hb]; rfl
    simp only [List.length_cons] at hl
    rw [if_pos (by omega), if_neg (by omega), if_pos (by omega), if_pos (by omega), show (1 : Int) + 1 = 2 from rfl, b2]
    by_cases d2 : (y2 - 48) % 256 > 9
    · rw [if_pos d2]
      apply bad
      simp only [onp]
      rw [if_pos trivial, if_neg hn]
      match r3 with
      | [] => rfl
      | _ :: _ => simp only; rw [if_neg (fun h_ => by omega)]
    rw [if_neg d2, w64 (x := ((0 : Int) * 10 + (y1 - 48) % 256) * 10) (by omega) (by omega), w64 (x := ((0 : Int) * 10 + (y1 - 48) % 256) * 10 + (y2 - 48) % 256) (by omega) (by omega), w64 (x := (2 : Int) + 1) (by omega) (by omega)]
    match r3, hb, h2, hl, bad with
    | [], hb, h2, hl, bad =>
      simp only [List.length_nil] at hl
      rw [if_pos (by omega), if_pos (by omega)]
      apply bad
      simp only [onp]
      rw [if_pos trivial, if_neg hn]
    | y3 :: r4, hb, h2, hl, bad =>
      have g3 := h2.tail.head
      have b3 : bt t 3 = y3 := by rw [bt_eq, hb]; rfl
      simp only [List.length_cons] at hl
      rw [if_pos (by omega), if_neg (by omega), if_pos (by omega), if_pos (by omega), show (2 : Int) + 1 = 3 from rfl, b3]
      by_cases d3 : (y3 - 48) % 256 > 9
      · rw [if_pos d3]
        apply bad
        simp only [onp]
        rw [if_pos trivial, if_neg hn, if_neg (fun h_ => by omega)]
      have ev : (((0 : Int) * 10 + (y1 - 48) % 256) * 10 + (y2 - 48) % 256) * 10 + (y3 - 48) % 256 = ((y1 - 48) * 10 + (y2 - 48)) * 10 + (y3 - 48) := by omega
      rw [if_neg d3, w64 (x := (((0 : Int) * 10 + (y1 - 48) % 256) * 10 + (y2 - 48) % 256) * 10) (by omega) (by omega), ev, w64 (x := ((y1 - 48) * 10 + (y2 - 48)) * 10 + (y3 - 48)) (by omega) (by omega), w64 (x := (3 : Int) + 1) (by omega) (by omega), if_neg (by omega)]
      by_cases hv : ((y1 - 48) * 10 + (y2 - 48)) * 10 + (y3 - 48) > 255
      · rw [if_pos hv]
        apply bad
        simp only [onp]
        rw [if_pos trivial, if_neg hn, if_neg (fun h_ => by omega)]
      rw [if_neg hv, Int.emod_eq_of_lt (by omega) (by omega)]
      refine ⟨_, 4, rfl, by omega, by omega, by omega, by omega, ?_⟩
      unfold Fit
      simp only [onp]
      rw [if_pos trivial, if_neg hn]
      by_cases hg : sgn (((y1 - 48) * 10 + (y2 - 48)) * 10 + (y3 - 48)) = [92, y1, y2, y3]
      · rw [if_pos ⟨by omega, by omega, by omega, by omega, hg⟩]
        simp only
        rw [hg]
        exact ⟨trivial, rfl, rfl⟩
      · rw [if_neg (fun h_ => hg h_.2.2.2.2)]
        simp only
        exact .inr hg
theorem one_any {k : Nat} {t : ByteArray} (hk : 10 < k) (hs : t.size ≤ 900000) (h0 : 0 < t.size) :
    ∃ c n, name_one.f k t = some (c, n) ∧ 0 ≤ c ∧ c < 256 ∧ 0 ≤ n ∧ n ≤ (t.size : Int) ∧ Fit (bytesOf t) c n := by
  obtain ⟨k, rfl⟩ : ∃ m, k = m + 1 + 1 + 1 + 1 + 1 := ⟨k - 5, by omega⟩
  obtain ⟨y0, r, hb, hy0, hsz, q0, q1, hr⟩ := cons_of h0
  unfold name_one.f
  rw [if_pos (by omega), hy0]
  by_cases e : y0 = 92
  · rw [if_pos e]
    subst e
    match r, hb, hsz, hr with
    | [], hb, hsz, hr =>
      simp only [List.length_nil] at hsz
      rw [if_pos (by omega), hb]
      exact ⟨0, 0, rfl, by omega, by omega, by omega, by omega, .inl rfl⟩
    | y1 :: r2, hb, hsz, hr =>
      simp only [List.length_cons] at hsz
      have g1 := hr.head
      have b1 : bt t 1 = y1 := by rw [bt_eq, hb]; rfl
      rw [if_neg (by omega), if_pos (by omega), b1]
      by_cases en : y1 = 46 ∨ y1 = 92
      · have T : name_one.j0 (k + 1 + 1 + 1 + 1 + 1) t true = some (y1, 2) := by
          simp only [name_one.j0]
          rw [if_pos trivial, if_pos (by omega), b1]
        have es : sgn y1 = [92, y1] := by unfold sgn; rw [if_pos en]
        have G : ∃ c n, some (y1, (2 : Int)) = some (c, n) ∧ 0 ≤ c ∧ c < 256 ∧ 0 ≤ n ∧ n ≤ (t.size : Int) ∧ Fit (bytesOf t) c n := by
          refine ⟨y1, 2, rfl, g1.1, g1.2, by omega, by omega, ?_⟩
          rw [hb]
          unfold Fit
          simp only [onp]
          rw [if_pos trivial, if_pos en]
          simp only
          rw [es]
          exact ⟨trivial, rfl, rfl⟩
        rcases en with en | en
        · rw [if_pos en, T]; exact G
        · rw [if_neg (by omega), show (y1 == 92) = true by simpa using en, T]; exact G
      · rw [if_neg (fun h_ => en (.inl h_)), show (y1 == 92) = false by simpa using (fun h_ => en (.inr h_))]
        simp only [name_one.j0]
        rw [if_neg (by simp)]
        exact one_l0 hb g1 hr.tail en hs
  · rw [if_neg e]
    refine ⟨y0, 1, rfl, q0, q1, by omega, by omega, ?_⟩
    rw [hb]
    unfold Fit
    simp only [onp]
    rw [if_neg e]
    by_cases es : sgn y0 = [y0]
    · rw [if_pos es]
      simp only
      rw [es]
      exact ⟨trivial, rfl, rfl⟩
    · rw [if_neg es]
      simp only
      exact .inr es
/-- What a text is read as: its labels. -/
def rdl : Nat → List Int → List ByteArray → List Int → Option (List ByteArray)
  | 0, _, _, _ => none
  | _ + 1, [], ls, l => if l = [] then (if ls = [] then none else some ls) else none
  | n + 1, x :: r, ls, l => if x = 46 then (if l = [] then none else rdl n r (ls ++ [strOfNums l]) []) else
      (match onp (x :: r) with
       | none => none
       | some c => rdl n ((x :: r).drop (sgn c).length) ls (l ++ [c]))
def RD (t : ByteArray) : ByteArray × Int :=
  if t = (⟨#[46]⟩ : ByteArray) then (⟨#[0]⟩, 0) else
  (match rdl (t.size + 1) (bytesOf t) [] [] with
   | none => (E0, 4)
   | some ls => MK ls)
/-- What the reading of the rest answers. -/
def RR (o : Option (List ByteArray)) : ByteArray × Int :=
  match o with
  | none => (E0, 4)
  | some ls => MK ls
theorem read_l0 : ∀ (n : Nat) (t : ByteArray) (ls : List ByteArray) (l : List Int) (k : Nat), t.size < n → n + 20000 < k → ls.length + t.size ≤ 5000 → l.length + t.size ≤ 5000 →
    name_Read.l0 k t ls l = some (RR (rdl n (bytesOf t) ls l))
  | 0, t, ls, l, k, h, _, _, _ => absurd h (by omega)
  | n + 1, t, ls, l, k, h, hk, h1, h2 => by
    obtain ⟨k, rfl⟩ : ∃ m, k = m + 1 := ⟨k - 1, by omega⟩
    simp only [name_Read.l0]
    by_cases h0 : (t.size : Int) > 0
    · obtain ⟨x, r, hb, hx, hsz, q0, q1, hr⟩ := cons_of (s := t) (by omega)
      rw [if_pos h0, if_pos (by omega), hx, hb]
      simp only [rdl]
      by_cases h46 : x = 46
      · rw [if_pos h46, if_pos h46]
        by_cases hl : l = []
        · rw [if_pos (by rw [hl]; rfl), if_pos hl]; rfl
        · have : l.length ≠ 0 := fun h_ => hl (List.eq_nil_of_length_eq_zero h_)
          have e1 : bytesOf (t.extract 1 t.size) = r := by rw [bytesOf_extract, hb, List.drop_succ_cons, List.drop_zero, List.take_of_length_le (by omega)]
          have ih := read_l0 n (t.extract 1 t.size) (ls ++ [strOfNums l]) [] k (by rw [ByteArray.size_extract]; omega) (by omega) (by rw [List.length_append, ByteArray.size_extract]; simp only [List.length_singleton]; omega) (by rw [ByteArray.size_extract]; simp only [List.length_nil]; omega)
          rw [if_neg (by omega), if_neg hl, if_pos (by omega), if_pos (by omega), ih, e1]
      · rw [if_neg h46, if_neg h46]
        obtain ⟨c, m, hc, c0, c1, m0, m1, hf⟩ := one_any (k := k) (t := t) (by omega) (by omega) (by omega)
        rw [hc, Option.bind_some]
        rw [hb] at hf
        unfold Fit at hf
        cases ho : onp (x :: r) with
        | none =>
          rw [ho] at hf
          simp only
          by_cases hm : m = 0
          · rw [if_pos hm]; rfl
          · have hne : ¬ (strOfNums (sgn c)).toList = (t.extract 0 m.toNat).toList := by
              intro h_
              rw [toList_inj] at h_
              have h3 := congrArg bytesOf h_
              rw [bytesOf_str (sgn_bytes c0 c1), bytesOf_extract, hb, List.drop_zero, Nat.sub_zero] at h3
              rcases hf with hf | hf
              · exact hm hf
              · exact hf h3
            rw [if_neg hm, sign_f c0 c1 (by omega), Option.bind_some, if_pos m0, if_pos m1, if_neg hne]
            rfl
        | some c' =>
          rw [ho] at hf
          simp only at hf ⊢
          obtain ⟨rfl, hm, he⟩ := hf
          have hl := sgn_len c
          have heq : (strOfNums (sgn c)).toList = (t.extract 0 m.toNat).toList := by
            rw [toList_inj]
            apply bytesOf_inj
            rw [bytesOf_str (sgn_bytes c0 c1), bytesOf_extract, hb, List.drop_zero, Nat.sub_zero]
            exact he
          have e1 : bytesOf (t.extract m.toNat t.size) = (x :: r).drop (sgn c).length := by
            rw [bytesOf_extract, hb, show m.toNat = (sgn c).length by omega, List.take_of_length_le (by rw [List.length_drop, List.length_cons]; omega)]
          have ih := read_l0 n (t.extract m.toNat t.size) ls (l ++ [c]) k (by rw [ByteArray.size_extract]; omega) (by omega) (by rw [ByteArray.size_extract]; omega) (by rw [List.length_append, ByteArray.size_extract]; simp only [List.length_singleton]; omega)
          rw [if_neg (by omega), sign_f c0 c1 (by omega), Option.bind_some, if_pos m0, if_pos m1, if_pos heq, if_pos (by omega), ih, e1]
    · have hb : bytesOf t = [] := List.eq_nil_of_length_eq_zero (by have := size_bytesOf t; omega)
      rw [if_neg h0, hb]
      simp only [rdl]
      by_cases hl : l = []
      · rw [if_neg (by rw [hl]; simp), if_pos hl]
        by_cases hls : ls = []
        · rw [if_pos (by rw [hls]; rfl), if_pos hls]; rfl
        · have : ls.length ≠ 0 := fun h_ => hls (List.eq_nil_of_length_eq_zero h_)
          rw [if_neg (by omega), if_neg hls, make_f (by omega) (by omega), Option.bind_some]
          rfl
      · have : l.length ≠ 0 := fun h_ => hl (List.eq_nil_of_length_eq_zero h_)
        rw [if_pos (by omega), if_neg hl]; rfl
theorem toList_46 (t : ByteArray) : t.toList = ([46] : List UInt8) ↔ t = (⟨#[46]⟩ : ByteArray) := by
  have e : ([46] : List UInt8) = (⟨#[46]⟩ : ByteArray).toList := by rw [toList_eq]
  exact ⟨fun h => toList_inj.1 (h.trans e), fun h => by rw [h]; exact e.symm⟩
theorem read_f {k : Nat} {t : ByteArray} (hs : t.size ≤ 5000) (hk : 30000 < k) : name_Read.f k t = some (RD t) := by
  unfold name_Read.f RD
  by_cases h : t = (⟨#[46]⟩ : ByteArray)
  · rw [if_pos ((toList_46 t).2 h), if_pos h]
  · rw [if_neg (fun h_ => h ((toList_46 t).1 h_)), if_neg h]
    exact read_l0 (t.size + 1) t [] [] k (by omega) (by omega) (by simp; omega) (by simp; omega)
theorem rone_step {k : Nat} {t : ByteArray} {at_ c : Nat} (hs : t.size ≤ 5000) (hat : at_ ≤ t.size) (hc : c < 256) (hk : 1 < k) :
    nuncioref04_one.l0 (k + 1) t (at_ : Int) (c : Int) = if pre (sgn (c : Int)) ((bytesOf t).drop at_) then some ((c : Int), true) else nuncioref04_one.l0 k t (at_ : Int) ((c + 1 : Nat) : Int) := by
  have hl := size_bytesOf t
  have hsl := sgn_len (c : Int)
  simp only [nuncioref04_one.l0]
  rw [if_pos (by omega), Int.emod_eq_of_lt (a := (c : Int)) (by omega) (by omega), rsign_f (by omega) (by omega) (by omega), Option.bind_some, sgn_size, w64 (x := (t.size : Int) - (at_ : Int)) (by omega) (by omega), w64 (x := (at_ : Int) + ((sgn (c : Int)).length : Int)) (by omega) (by omega), w64 (x := (c : Int) + 1) (by omega) (by omega),
    show (c : Int) + 1 = ((c + 1 : Nat) : Int) by omega]
  by_cases hz : (((sgn (c : Int)).length : Nat) : Int) ≤ (t.size : Int) - (at_ : Int)
  · rw [if_pos hz, if_pos (by omega), if_pos (by omega), if_pos (by omega)]
    have e : (t.extract ((at_ : Int)).toNat ((at_ : Int) + ((sgn (c : Int)).length : Int)).toNat).toList = (strOfNums (sgn (c : Int))).toList ↔ pre (sgn (c : Int)) ((bytesOf t).drop at_) := by
      rw [toList_inj]
      unfold pre
      constructor
      · intro h
        have := congrArg bytesOf h
        rw [bytesOf_str (sgn_bytes (by omega) (by omega)), bytesOf_extract, Int.toNat_natCast, show ((at_ : Int) + ((sgn (c : Int)).length : Int)).toNat - at_ = (sgn (c : Int)).length by omega] at this
        exact this
      · intro h
        apply bytesOf_inj
        rw [bytesOf_str (sgn_bytes (by omega) (by omega)), bytesOf_extract, Int.toNat_natCast, show ((at_ : Int) + ((sgn (c : Int)).length : Int)).toNat - at_ = (sgn (c : Int)).length by omega]
        exact h
    by_cases hp : pre (sgn (c : Int)) ((bytesOf t).drop at_)
    · rw [if_pos (e.2 hp), if_pos hp]
    · rw [if_neg (fun h => hp (e.1 h)), if_neg hp]
  · rw [if_neg hz, if_neg]
    intro hp
    have := congrArg List.length hp
    rw [List.length_take, List.length_drop] at this
    omega
theorem rone_yes {t : ByteArray} {at_ : Nat} (hs : t.size ≤ 5000) (hat : at_ ≤ t.size) {c' : Nat} (hc : c' < 256) (ho : onp ((bytesOf t).drop at_) = some (c' : Int)) : ∀ (d c k : Nat), c + d = c' → d + 2 < k → nuncioref04_one.l0 k t (at_ : Int) (c : Int) = some ((c' : Int), true)
  | 0, c, k, h, hk => by
    obtain ⟨k, rfl⟩ : ∃ m, k = m + 1 := ⟨k - 1, by omega⟩
    obtain rfl : c = c' := by omega
    rw [rone_step hs hat hc (by omega), if_pos (onp_pre ((bytesOf_bytes t).drop _) ho).1]
  | d + 1, c, k, h, hk => by
    obtain ⟨k, rfl⟩ : ∃ m, k = m + 1 := ⟨k - 1, by omega⟩
    rw [rone_step hs hat (by omega) (by omega), if_neg]
    · exact rone_yes hs hat hc ho d (c + 1) k (by omega) (by omega)
    · intro hp
      have := onp_of (by omega) (by omega) hp
      rw [ho] at this
      have := Option.some.inj this
      omega
theorem rone_no {t : ByteArray} {at_ : Nat} (hs : t.size ≤ 5000) (hat : at_ ≤ t.size) (ho : onp ((bytesOf t).drop at_) = none) : ∀ (d c k : Nat), c + d = 256 → d + 2 < k → nuncioref04_one.l0 k t (at_ : Int) (c : Int) = some (0, false)
  | 0, c, k, h, hk => by
    obtain ⟨k, rfl⟩ : ∃ m, k = m + 1 := ⟨k - 1, by omega⟩
    simp only [nuncioref04_one.l0]
    rw [if_neg (by omega)]
  | d + 1, c, k, h, hk => by
    obtain ⟨k, rfl⟩ : ∃ m, k = m + 1 := ⟨k - 1, by omega⟩
    rw [rone_step hs hat (by omega) (by omega), if_neg]
    · exact rone_no hs hat ho d (c + 1) k (by omega) (by omega)
    · intro hp
      rw [onp_of (by omega) (by omega) hp] at ho
      exact absurd ho (by simp)
theorem str_nil_iff (l : List Int) : (strOfNums l).toList = ([] : List UInt8) ↔ l = [] := by
  constructor
  · intro h
    rw [toList_eq] at h
    have := congrArg List.length h
    have h2 := strOfNums_size l
    have h3 : (strOfNums l).data.toList.length = (strOfNums l).size := rfl
    rw [h3, h2] at this
    exact List.eq_nil_of_length_eq_zero this
  · rintro rfl
    rw [toList_eq]; rfl
theorem rread_l0 (t : ByteArray) (hs : t.size ≤ 5000) : ∀ (n at_ : Nat) (ls : List ByteArray) (l : List Int) (k : Nat), t.size - at_ < n → at_ ≤ t.size → n + 20300 < k → ls.length + (t.size - at_) ≤ 5000 → Bytes l → l.length + (t.size - at_) ≤ 5000 →
    nuncioref04_Read.l0 k t ls (strOfNums l) (at_ : Int) = some (RR (rdl n ((bytesOf t).drop at_) ls l))
  | 0, at_, ls, l, k, h, _, _, _, _, _ => absurd h (by omega)
  | n + 1, at_, ls, l, k, h, hat, hk, h1, hbl, h2 => by
    obtain ⟨k, rfl⟩ : ∃ m, k = m + 1 := ⟨k - 1, by omega⟩
    have hl := size_bytesOf t
    simp only [nuncioref04_Read.l0]
    by_cases h0 : (at_ : Int) < (t.size : Int)
    · have hi : at_ < (bytesOf t).length := by omega
      have hbx := bytesOf_bytes t (bytesOf t)[at_] (List.getElem_mem hi)
      have hx : bt t (at_ : Int) = (bytesOf t)[at_] := by rw [bt_eq, rd_nat hi]
      have hdc := List.drop_eq_getElem_cons hi
      have hdd : ∀ m : Nat, ((bytesOf t).drop at_).drop m = (bytesOf t).drop (at_ + m) := fun m => by rw [List.drop_drop]
      rw [if_pos h0, if_pos (by omega), hx]
      by_cases h46 : (bytesOf t)[at_] = 46
      · rw [if_pos h46, hdc]
        simp only [rdl]
        rw [if_pos h46]
        by_cases hln : l = []
        · rw [if_pos ((str_nil_iff l).2 hln), if_pos hln]; rfl
        · have : l.length ≠ 0 := fun h_ => hln (List.eq_nil_of_length_eq_zero h_)
          have ih := rread_l0 t hs n (at_ + 1) (ls ++ [strOfNums l]) [] k (by omega) (by omega) (by omega) (by rw [List.length_append]; simp only [List.length_singleton]; omega) Bytes.nil (by simp only [List.length_nil]; omega)
          rw [show ((at_ + 1 : Nat) : Int) = (at_ : Int) + 1 by omega] at ih
          rw [if_neg (fun h_ => hln ((str_nil_iff l).1 h_)), if_neg hln, if_pos (by omega), w64 (by omega) (by omega)]
          exact ih
      · rw [if_neg h46]
        cases ho : onp ((bytesOf t).drop at_) with
        | none =>
          have := rone_no hs hat ho 256 0 k (by omega) (by omega)
          unfold nuncioref04_one.f
          rw [show (0 : Int) = ((0 : Nat) : Int) from rfl, this, Option.bind_some, if_neg (by simp)]
          rw [hdc] at ho ⊢
          simp only [rdl]
          rw [if_neg h46, ho]
          rfl
        | some c =>
          obtain ⟨hp, c0, c1⟩ := onp_pre ((bytesOf_bytes t).drop _) ho
          obtain ⟨c, rfl⟩ : ∃ m : Nat, c = (m : Int) := ⟨c.toNat, by omega⟩
          have := rone_yes hs hat (by omega) ho c 0 k (by omega) (by omega)
          have hsl := sgn_len (c : Int)
          have hpl := congrArg List.length hp
          rw [List.length_take, List.length_drop] at hpl
          have hbc : Bytes [(c : Int)] := Bytes.cons c0 c1 Bytes.nil
          have ih := rread_l0 t hs n (at_ + (sgn (c : Int)).length) ls (l ++ [(c : Int)]) k (by omega) (by omega) (by omega) (by omega) (hbl.append hbc) (by rw [List.length_append]; simp only [List.length_singleton]; omega)
          rw [show ((at_ + (sgn (c : Int)).length : Nat) : Int) = (at_ : Int) + ((sgn (c : Int)).length : Int) by omega, str_app hbl hbc] at ih
          have zc : (strOfNums [(c : Int)]).size = 1 := by rw [strOfNums_size]; rfl
          have zl : (strOfNums l).size = l.length := strOfNums_size l
          unfold nuncioref04_one.f
          rw [show (0 : Int) = ((0 : Nat) : Int) from rfl, this, Option.bind_some, if_pos rfl, Option.bind_some, if_pos (show (strOfNums l).size + (strOfNums [(c : Int)]).size ≤ 9223372036854775807 by omega), rsign_f c0 c1 (by omega), Option.bind_some, sgn_size, w64 (by omega) (by omega)]
          refine ih.trans ?_
          rw [← hdd, hdc] at *
          simp only [rdl]
          rw [if_neg h46, ho]
    · rw [if_neg h0, List.drop_eq_nil_of_le (by omega)]
      simp only [rdl]
      by_cases hln : l = []
      · rw [if_pos ((str_nil_iff l).2 hln), if_pos hln]
        by_cases hls : ls = []
        · rw [if_pos (by rw [hls]; rfl), if_pos hls]; rfl
        · have : ls.length ≠ 0 := fun h_ => hls (List.eq_nil_of_length_eq_zero h_)
          rw [if_neg (by omega), if_neg hls, rmake_f (by omega) (by omega), Option.bind_some]
          rfl
      · rw [if_neg (fun h_ => hln ((str_nil_iff l).1 h_)), if_neg hln]; rfl
theorem rread_f {k : Nat} {t : ByteArray} (hs : t.size ≤ 5000) (hk : 30000 < k) : nuncioref04_Read.f k t = some (RD t) := by
  unfold nuncioref04_Read.f RD
  by_cases h : t = (⟨#[46]⟩ : ByteArray)
  · rw [if_pos ((toList_46 t).2 h), if_pos h]
  · rw [if_neg (fun h_ => h ((toList_46 t).1 h_)), if_neg h]
    have := rread_l0 t hs (t.size + 1) 0 [] [] k (by omega) (by omega) (by omega) (by simp; omega) Bytes.nil (by simp; omega)
    rw [List.drop_zero] at this
    exact this
end Go.Proofs.Ytpnflloamidecaa.Pure
