import Derived.Test.YtpnflloamidecaaMinex22
import Derived.Test.YtpnflloamidecaaPureNameMakes
import Derived.Test.YtpnflloamidecaaLText
namespace Go.Proofs.Ytpnflloamidecaa.Pure
open Go.RowKit Go.Proofs.Ytpnflloamidecaa.Mine Go.Proofs.YtpnflloamidecaaW.PrintWords Go.Proofs.YtpnflloamidecaaW.PrintLast Go.Proofs.YtpnflloamidecaaW.PrintMore
set_option linter.unusedSimpArgs false

theorem sgn_head (c : Int) : ∃ x r, sgn c = x :: r ∧ x ≠ 46 := by
  unfold sgn
  by_cases h : c = 46 ∨ c = 92
  · rw [if_pos h]; exact ⟨_, _, rfl, by decide⟩
  · rw [if_neg h]
    by_cases hp : 33 ≤ c ∧ c ≤ 126
    · rw [if_pos hp]; exact ⟨_, _, rfl, fun h_ => h (.inl h_)⟩
    · rw [if_neg hp]; exact ⟨_, _, rfl, by decide⟩
/-- The text of a label, and what is behind it, is read. -/
theorem rdl_label : ∀ (bs : List Int) (n : Nat) (u : List Int) (acc : List ByteArray) (l : List Int), Bytes bs → bs ++ l ≠ [] → (fs bs ++ 46 :: u).length < n →
    ∃ m, u.length < m ∧ rdl n (fs bs ++ 46 :: u) acc l = rdl m u (acc ++ [strOfNums (l ++ bs)]) []
  | [], 0, u, acc, l, _, _, h => absurd h (by simp)
  | [], n + 1, u, acc, l, _, hne, h => by
    refine ⟨n, by have h2 : (46 :: u).length < n + 1 := h; simp only [List.length_cons] at h2; omega, ?_⟩
    show rdl (n + 1) (46 :: u) acc l = _
    simp only [rdl]
    rw [if_pos trivial, if_neg (by simpa using hne), List.append_nil]
  | c :: bs, 0, u, acc, l, _, _, h => absurd h (by simp)
  | c :: bs, n + 1, u, acc, l, hb, hne, h => by
    have hc := hb.head
    have hsl := sgn_len c
    obtain ⟨x, r, hx, h46⟩ := sgn_head c
    have e : fs (c :: bs) ++ 46 :: u = sgn c ++ (fs bs ++ 46 :: u) := by rw [fs_cons, List.append_assoc]
    rw [e] at h ⊢
    have ho : onp (sgn c ++ (fs bs ++ 46 :: u)) = some c := onp_of hc.1 hc.2 (by unfold pre; rw [List.take_left])
    rw [List.length_append] at h
    obtain ⟨m, hm, ih⟩ := rdl_label bs n u acc (l ++ [c]) hb.tail (by simp) (by omega)
    refine ⟨m, hm, ?_⟩
    have e2 : (sgn c ++ (fs bs ++ 46 :: u)).drop (sgn c).length = fs bs ++ 46 :: u := List.drop_left
    rw [show l ++ c :: bs = l ++ [c] ++ bs by simp, ← ih]
    conv => rhs; rw [← e2]
    rw [hx] at ho e2 ⊢
    simp only [List.cons_append] at ho ⊢
    simp only [rdl]
    rw [if_neg h46, ho]
    simp only
    rw [hx]
theorem rdl_tl : ∀ (ls : List ByteArray) (n : Nat) (acc : List ByteArray), (∀ x ∈ ls, 1 ≤ x.size) → (tl ls).length < n → acc ++ ls ≠ [] → rdl n (tl ls) acc [] = some (acc ++ ls)
  | [], 0, acc, _, h, _ => absurd h (by simp)
  | [], n + 1, acc, _, _, hne => by
    simp only [tl, rdl]
    rw [if_pos trivial, if_neg (by simpa using hne), List.append_nil]
  | x :: ls, n, acc, hx, h, _ => by
    have h1 := hx x (by simp)
    have hsz := size_bytesOf x
    simp only [tl] at h ⊢
    obtain ⟨m, hm, e⟩ := rdl_label (bytesOf x) n (tl ls) acc [] (bytesOf_bytes x) (by intro h_; rw [List.append_nil] at h_; rw [h_] at hsz; simp only [List.length_nil] at hsz; omega) h
    rw [e, List.nil_append, str_bytesOf, rdl_tl ls m (acc ++ [x]) (fun y hy => hx y (by simp [hy])) hm (by simp), List.append_assoc]
    rfl
theorem rdl_back : ∀ (n : Nat) (t : List Int) (acc : List ByteArray) (l : List Int) (ls : List ByteArray), Bytes t → Bytes l → rdl n t acc l = some ls → ls ≠ [] ∧ tl ls = tl acc ++ fs l ++ t
  | 0, t, acc, l, ls, _, _, h => by simp [rdl] at h
  | n + 1, [], acc, l, ls, _, _, h => by
    simp only [rdl] at h
    by_cases hl : l = []
    · rw [if_pos hl] at h
      by_cases ha : acc = []
      · rw [if_pos ha] at h; exact absurd h (by simp)
      · rw [if_neg ha] at h
        obtain rfl := Option.some.inj h
        rw [hl]
        exact ⟨ha, by simp [fs]⟩
    · rw [if_neg hl] at h; exact absurd h (by simp)
  | n + 1, x :: r, acc, l, ls, ht, hb, h => by
    simp only [rdl] at h
    by_cases h46 : x = 46
    · rw [if_pos h46] at h
      by_cases hl : l = []
      · rw [if_pos hl] at h; exact absurd h (by simp)
      · rw [if_neg hl] at h
        obtain ⟨h1, h2⟩ := rdl_back n r _ [] ls ht.tail Bytes.nil h
        refine ⟨h1, ?_⟩
        rw [h2, tl_append, h46]
        simp [tl, fs, bytesOf_str hb]
    · rw [if_neg h46] at h
      cases ho : onp (x :: r) with
      | none => rw [ho] at h; exact absurd h (by simp)
      | some c =>
        rw [ho] at h
        simp only at h
        obtain ⟨hp, c0, c1⟩ := onp_pre ht ho
        obtain ⟨h1, h2⟩ := rdl_back n _ acc (l ++ [c]) ls (ht.drop _) (hb.append (Bytes.cons c0 c1 Bytes.nil)) h
        refine ⟨h1, ?_⟩
        have e : sgn c ++ (x :: r).drop (sgn c).length = x :: r := by
          conv => rhs; rw [← List.take_append_drop (sgn c).length (x :: r)]
          rw [hp]
        rw [h2, fs_append, show fs [c] = sgn c by simp [fs], List.append_assoc, List.append_assoc, e, List.append_assoc]
theorem LB_root : LB (⟨#[0]⟩ : ByteArray) = some [] := by decide
theorem MK_zero {l : List ByteArray} (h : (MK l).2 = 0) : (MK l).1 = strOfNums (enc l) ∧ l.all okB = true ∧ (enc l).length ≤ 255 := by
  unfold MK at h ⊢
  by_cases h1 : l.all okB = true
  · rw [if_pos h1] at h ⊢
    by_cases h2 : (enc l).length ≤ 255
    · rw [if_pos h2]; exact ⟨rfl, h1, h2⟩
    · rw [if_neg h2] at h; exact absurd h (by simp)
  · rw [if_neg h1] at h; exact absurd h (by simp)
theorem MK_not {l : List ByteArray} (h : ¬ (MK l).2 = 0) : (MK l).1 = E0 := by
  unfold MK at h ⊢
  by_cases h1 : l.all okB = true
  · rw [if_pos h1] at h ⊢
    by_cases h2 : (enc l).length ≤ 255
    · rw [if_pos h2] at h; exact absurd rfl h
    · rw [if_neg h2]
  · rw [if_neg h1]
/-- A name's text is read as that name. -/
theorem RD_TX {s : ByteArray} {ls : List ByteArray} (h : LB s = some ls) : RD (TX s) = (s, 0) := by
  obtain ⟨a1, a2, a3⟩ := LB_some h
  have hb := LB_back h
  unfold TX
  rw [h]
  match ls, h, a1, a2, hb with
  | [], h, a1, a2, hb =>
    have e : s = (⟨#[0]⟩ : ByteArray) := by
      rw [← str_bytesOf s, ← a1]; decide
    simp only
    unfold RD
    rw [if_pos rfl, e]
  | x :: ls, h, a1, a2, hb =>
    have hx : ∀ y ∈ x :: ls, 1 ≤ y.size := fun y hy => ((okB_iff _).1 (List.all_eq_true.1 a2 y hy)).1
    have h1 := hx x (by simp)
    have hxs := size_bytesOf x
    simp only
    unfold RD
    have hbt := bytesOf_str (tl_bytes (x :: ls))
    have hsz : (strOfNums (tl (x :: ls))).size = (tl (x :: ls)).length := strOfNums_size _
    rw [if_neg]
    · rw [hbt, hsz, rdl_tl (x :: ls) _ [] hx (by omega) (by simp), List.nil_append]
      exact hb
    · intro h_
      rw [h_] at hbt
      obtain ⟨y, r, hy⟩ : ∃ y r, bytesOf x = y :: r := by
        cases hq : bytesOf x with
        | nil => rw [hq] at hxs; simp only [List.length_nil] at hxs; omega
        | cons y r => exact ⟨y, r, rfl⟩
      obtain ⟨z, q, hz, h46⟩ := sgn_head y
      simp only [tl, hy, fs_cons, hz, List.cons_append] at hbt
      have : bytesOf (⟨#[46]⟩ : ByteArray) = [46] := by decide
      rw [this] at hbt
      injection hbt with h1 _
      exact h46 h1.symm
/-- What is read is a name whose text it is. -/
theorem TX_RD {t : ByteArray} (h : (RD t).2 = 0) : (LB (RD t).1).isSome = true ∧ TX (RD t).1 = t := by
  unfold RD at h ⊢
  by_cases h1 : t = (⟨#[46]⟩ : ByteArray)
  · rw [if_pos h1]
    refine ⟨by rw [LB_root]; rfl, ?_⟩
    unfold TX
    rw [LB_root, h1]
  · rw [if_neg h1] at h ⊢
    cases hr : rdl (t.size + 1) (bytesOf t) [] [] with
    | none => rw [hr] at h; exact absurd h (by simp)
    | some ls =>
      rw [hr] at h
      simp only at h ⊢
      obtain ⟨m1, m2, m3⟩ := MK_zero h
      obtain ⟨g1, g2⟩ := rdl_back _ _ _ _ ls (bytesOf_bytes t) Bytes.nil hr
      have hL : LB (MK ls).1 = some ls := by rw [m1]; exact LB_enc m2 m3
      refine ⟨by rw [hL]; rfl, ?_⟩
      unfold TX
      rw [hL]
      match ls, g1, g2 with
      | [], g1, _ => exact absurd rfl g1
      | x :: ls, _, g2 =>
        simp only
        rw [g2, show tl [] ++ fs [] ++ bytesOf t = bytesOf t by rfl, str_bytesOf]
theorem RD_not {t : ByteArray} (h : ¬ (RD t).2 = 0) : (RD t).1 = E0 := by
  unfold RD at h ⊢
  by_cases h1 : t = (⟨#[46]⟩ : ByteArray)
  · rw [if_pos h1] at h; exact absurd rfl h
  · rw [if_neg h1] at h ⊢
    cases hr : rdl (t.size + 1) (bytesOf t) [] [] with
    | none => rfl
    | some ls => rw [hr] at h; exact MK_not h
theorem RD_size (t : ByteArray) : (RD t).1.size ≤ 255 := by
  by_cases h : (RD t).2 = 0
  · obtain ⟨h1, _⟩ := TX_RD h
    cases hl : LB (RD t).1 with
    | none => rw [hl] at h1; exact absurd h1 (by simp)
    | some ls => exact (LB_some hl).2.2
  · rw [RD_not h]; decide
theorem E0_nil : E0.toList = ([] : List UInt8) := by rw [toList_eq]
theorem back_tail {k : Nat} {t : ByteArray} (ht : t.size ≤ 2000) (hk : 30000 < k) : ((name_Read.f k t).bind fun bt333 => (if bt333.2 = 0 then ((name_Is.f k bt333.1).bind fun t335 => (if t335 = true then ((name_Text.f k bt333.1).bind fun t336 => (some (t336.toList == t.toList))) else (some false))) else (if bt333.1.toList = ([] : List UInt8) then (some true) else (some false)))) = some true := by
  have hz := RD_size t
  rw [read_f (by omega) hk, Option.bind_some]
  by_cases h : (RD t).2 = 0
  · obtain ⟨h1, h2⟩ := TX_RD h
    rw [if_pos h, is_f (by omega) (by omega), Option.bind_some, if_pos h1, text_f (by omega) (by omega), Option.bind_some, h2]
    simp
  · rw [if_neg h, if_pos (by rw [RD_not h]; exact E0_nil)]
theorem TX_size {s : ByteArray} : (TX s).size ≤ 1100 := by
  unfold TX
  cases h : LB s with
  | none => exact Nat.zero_le _
  | some ls =>
    obtain ⟨a1, a2, a3⟩ := LB_some h
    have hl := size_bytesOf s
    have key : ∀ l : List ByteArray, (tl l).length ≤ 4 * (encs l).length := by
      intro l
      induction l with
      | nil => exact Nat.le_refl _
      | cons x l ih =>
        have := fs_len (bytesOf x)
        simp only [tl, encs, List.length_append, List.length_cons]
        omega
    have he : (enc ls).length = (encs ls).length + 1 := by unfold enc; rw [List.length_append, List.length_singleton]
    rw [a1, ← hl] at he
    match ls with
    | [] => decide
    | x :: l => simp only; rw [strOfNums_size]; have := key (x :: l); omega
theorem back_j0 {k : Nat} {s t : ByteArray} (hs : s.size ≤ 2000) (ht : t.size ≤ 2000) (hk : 30001 < k) : nunciolaw04_NameBack.j0 (k + 1) s t false = some true := by
  obtain ⟨k, rfl⟩ : ∃ m, k = m + 1 := ⟨k - 1, by omega⟩
  have hb := back_tail (k := k) ht (by omega)
  have hts := TX_size (s := s)
  simp only [nunciolaw04_NameBack.j0]
  rw [if_neg (by simp), is_f (by omega) (by omega), Option.bind_some]
  cases h : LB s with
  | none =>
    have e : TX s = E0 := by unfold TX; rw [h]
    simp only [Option.isSome_none, Bool.false_eq_true, if_false]
    rw [text_f (by omega) (by omega), Option.bind_some, e, if_pos E0_nil, labels_f (by omega) (by omega), Option.bind_some, h]
    simp only [nunciolaw04_NameBack.j2]
    rw [if_neg (by simp)]
    exact hb
  | some ls =>
    have g := lab_len h
    simp only [Option.isSome_some, if_true]
    rw [text_f (by omega) (by omega), Option.bind_some, read_f (by omega) (by omega), Option.bind_some, labels_f (by omega) (by omega), Option.bind_some, h]
    simp only [Option.getD_some]
    rw [make_f (by omega) (by omega), Option.bind_some, RD_TX h, LB_back h]
    simp only [if_true, bne_self_eq_false]
    simp only [nunciolaw04_NameBack.j1]
    rw [if_neg (by simp)]
    exact hb
theorem NameBack : nunciolaw04_NameBack.Pure := by
  intro a b _ _
  obtain ⟨K, hK⟩ : ∃ K, K = 200000 := ⟨_, rfl⟩
  have T : ∀ k a b, nunciolaw04_NameBack.j0 (k + 1) a b true = some true := by
    intro k a b
    simp only [nunciolaw04_NameBack.j0]; rw [if_pos trivial]
  refine ⟨K + 1, ?_⟩
  unfold nunciolaw04_NameBack.f
  rw [awake04 (by omega), Option.bind_some, if_pos rfl]
  by_cases h1 : (a.size : Int) > 2000
  · rw [if_pos h1]; exact T _ _ _
  rw [if_neg h1]
  by_cases h2 : (b.size : Int) > 2000
  · rw [decide_eq_true h2]; exact T _ _ _
  · rw [decide_eq_false h2]; exact back_j0 (by omega) (by omega) (by omega)
end Go.Proofs.Ytpnflloamidecaa.Pure
