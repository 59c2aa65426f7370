/- What the printed feed.Add and nuncioref15.All answer. -/
import Derived.Test.YtlglgfcdhflecaaMinex5
import Derived.Test.YtlglgfcdhflecaaMinex2
import Derived.Test.YtlglgfcdhflecaaMinex9
import Derived.Test.YtlglgfcdhflecaaMinex10
import Derived.Test.YtlglgfcdhflecaaMinex8
import Derived.Test.YtlglgfcdhflecaaMinex4
import Derived.Test.YtlglgfcdhflecaaLParse
namespace Go.Proofs.Ytlglgfcdhflecaa.Pure
open Go.RowKit Go.Proofs.Ytlglgfcdhflecaa.Mine Go.Proofs.YtlglgfcdhflecaaW.PrintWords Go.Proofs.YtlglgfcdhflecaaW.PrintLast Go.Proofs.YtlglgfcdhflecaaW.PrintMore
set_option linter.unusedSimpArgs false

abbrev E0 : ByteArray := ⟨#[]⟩
abbrev P24 : ByteArray := ⟨#[80, 82, 73, 32, 42, 32, 72, 84, 84, 80, 47, 50, 46, 48, 13, 10, 13, 10, 83, 77, 13, 10, 13, 10]⟩
theorem p24_size : P24.size = 24 := rfl
def toF (r : Int × Int × Int × ByteArray × Int × Int) : S40 := ⟨r.1, r.2.1, r.2.2.1, r.2.2.2.1⟩
def er (s : ByteArray) : Int := (pf s).2.2.2.2.2
def sz (s : ByteArray) : Int := (pf s).2.2.2.2.1
def rst (s : ByteArray) : ByteArray := s.extract (sz s).toNat s.size
theorem pf_cases (s : ByteArray) : (er s = 2 ∧ (s.size : Int) < 16393) ∨ er s = 3 ∨ (er s = 0 ∧ 9 ≤ sz s ∧ sz s ≤ s.size) := by
  have hl := size_bytesOf s
  unfold er sz pf
  by_cases h9 : (s.size : Int) < 9
  · rw [if_pos h9]; exact .inl ⟨rfl, by omega⟩
  have b3 := pn_range (bytesOf_bytes s) (by omega)
  rw [if_neg h9]
  by_cases h1 : pn (bytesOf s) > 16384
  · rw [if_pos h1]; exact .inr (.inl rfl)
  rw [if_neg h1]
  by_cases h2 : (s.size : Int) - 9 < pn (bytesOf s)
  · rw [if_pos h2]; exact .inl ⟨rfl, by omega⟩
  rw [if_neg h2]
  exact .inr (.inr ⟨rfl, by show 9 ≤ 9 + pn (bytesOf s); omega, by show 9 + pn (bytesOf s) ≤ (s.size : Int); omega⟩)
theorem pf_append {s t : ByteArray} (h : er s = 0) : pf (s ++ t) = pf s := by
  have hl := size_bytesOf s
  have hst : (s ++ t).size = s.size + t.size := ByteArray.size_append
  have hb : bytesOf (s ++ t) = bytesOf s ++ bytesOf t := bytesOf_append s t
  unfold er pf at h
  by_cases h9 : (s.size : Int) < 9
  · rw [if_pos h9] at h; exact absurd h (by simp)
  rw [if_neg h9] at h
  by_cases h1 : pn (bytesOf s) > 16384
  · rw [if_pos h1] at h; exact absurd h (by simp)
  rw [if_neg h1] at h
  by_cases h2 : (s.size : Int) - 9 < pn (bytesOf s)
  · rw [if_pos h2] at h; exact absurd h (by simp)
  have b3 := pn_range (bytesOf_bytes s) (by omega)
  have e1 : pn (bytesOf (s ++ t)) = pn (bytesOf s) := by unfold pn; rw [hb, List.take_append_of_le_length (by omega)]
  have e2 : pst (bytesOf (s ++ t)) = pst (bytesOf s) := by
    unfold pst; rw [hb, List.drop_append_of_le_length (by omega), List.take_append_of_le_length (by rw [List.length_drop]; omega)]
  have e3 : bt (s ++ t) 3 = bt s 3 := by
    rw [bt_eq, bt_eq, hb]
    show rd _ ((3 : Nat) : Int) = rd _ ((3 : Nat) : Int)
    rw [rd_nat (by rw [List.length_append]; omega), rd_nat (by omega), List.getElem_append_left]
  have e4 : bt (s ++ t) 4 = bt s 4 := by
    rw [bt_eq, bt_eq, hb]
    show rd _ ((4 : Nat) : Int) = rd _ ((4 : Nat) : Int)
    rw [rd_nat (by rw [List.length_append]; omega), rd_nat (by omega), List.getElem_append_left]
  have e5 : (s ++ t).extract 9 (9 + pn (bytesOf s)).toNat = s.extract 9 (9 + pn (bytesOf s)).toNat := by
    apply bytesOf_inj
    rw [bytesOf_extract, bytesOf_extract, hb, List.drop_append_of_le_length (by omega), List.take_append_of_le_length (by rw [List.length_drop]; omega)]
  unfold pf
  rw [e1, e2, e3, e4, e5, if_neg (by omega), if_neg h1, if_neg (by omega), if_neg h9, if_neg h1, if_neg h2]
theorem er_append3 {s t : ByteArray} (h : er s = 3) : er (s ++ t) = 3 := by
  have hl := size_bytesOf s
  have hst : (s ++ t).size = s.size + t.size := ByteArray.size_append
  have hb : bytesOf (s ++ t) = bytesOf s ++ bytesOf t := bytesOf_append s t
  unfold er pf at h ⊢
  by_cases h9 : (s.size : Int) < 9
  · rw [if_pos h9] at h; exact absurd h (by simp)
  rw [if_neg h9] at h
  have e1 : pn (bytesOf (s ++ t)) = pn (bytesOf s) := by unfold pn; rw [hb, List.take_append_of_le_length (by omega)]
  by_cases h1 : pn (bytesOf s) > 16384
  · rw [if_neg (by omega), e1, if_pos h1]
  rw [if_neg h1] at h
  by_cases h2 : (s.size : Int) - 9 < pn (bytesOf s)
  · rw [if_pos h2] at h; exact absurd h (by simp)
  · rw [if_neg h2] at h; exact absurd h (by simp)
theorem extract_append {s t : ByteArray} {a : Nat} (h : a ≤ s.size) : (s ++ t).extract a (s ++ t).size = s.extract a s.size ++ t := by
  have hl := size_bytesOf s
  have ht := size_bytesOf t
  have hst : (s ++ t).size = s.size + t.size := ByteArray.size_append
  apply bytesOf_inj
  rw [bytesOf_append, bytesOf_extract, bytesOf_extract, bytesOf_append, List.drop_append_of_le_length (by omega), List.take_of_length_le (by rw [List.length_append, List.length_drop]; omega), List.take_of_length_le (by rw [List.length_drop]; omega)]
theorem extract_extract {s : ByteArray} {a b : Nat} : (s.extract a s.size).extract b (s.extract a s.size).size = s.extract (a + b) s.size := by
  have hl := size_bytesOf s
  have hx : (s.extract a s.size).size = s.size - a := by rw [ByteArray.size_extract]; omega
  apply bytesOf_inj
  rw [bytesOf_extract, bytesOf_extract, bytesOf_extract, hx, List.take_of_length_le (by rw [List.length_drop, List.length_take, List.length_drop]; omega), List.take_of_length_le (by rw [List.length_drop]; omega), List.drop_drop, List.take_of_length_le (by rw [List.length_drop]; omega)]
theorem extract_all (s : ByteArray) : s.extract 0 s.size = s := by
  have hl := size_bytesOf s
  apply bytesOf_inj
  rw [bytesOf_extract, List.drop_zero, List.take_of_length_le (by omega)]
theorem empty_append (t : ByteArray) : E0 ++ t = t := by apply bytesOf_inj; rw [bytesOf_append, bytesOf_empty, List.nil_append]
theorem rst_append {s t : ByteArray} (h : er s = 0) : rst (s ++ t) = rst s ++ t := by
  have hc := pf_cases s
  have e : sz (s ++ t) = sz s := by unfold sz; rw [pf_append h]
  unfold rst
  rw [e]
  exact extract_append (by omega)
theorem rst_size {s : ByteArray} (h : er s = 0) : (rst s).size + 9 ≤ s.size := by
  have hc := pf_cases s
  unfold rst
  rw [ByteArray.size_extract]
  omega
/-- The frames that bytes begin with, one behind the other; the code; what is left. -/
def fr : Nat → ByteArray → List S40 × Int × ByteArray
  | 0, s => ([], 0, s)
  | n + 1, s => if er s = 3 then ([], 6, E0) else if er s = 0 then (toF (pf s) :: (fr n (rst s)).1, (fr n (rst s)).2) else ([], 0, s)
theorem fr_fuel : ∀ (n m : Nat) (s : ByteArray), s.size < n → s.size < m → fr n s = fr m s
  | 0, _, _, h, _ => absurd h (by omega)
  | _, 0, _, _, h => absurd h (by omega)
  | n + 1, m + 1, s, h1, h2 => by
    by_cases h3 : er s = 3
    · simp only [fr]; rw [if_pos h3, if_pos h3]
    by_cases h0 : er s = 0
    · have hr := rst_size h0
      have ih := fr_fuel n m (rst s) (by omega) (by omega)
      simp only [fr]; rw [if_neg h3, if_pos h0, if_neg h3, if_pos h0, ih]
    · simp only [fr]; rw [if_neg h3, if_neg h0, if_neg h3, if_neg h0]
def FR (s : ByteArray) : List S40 × Int × ByteArray := fr (s.size + 1) s
theorem FR_long {s : ByteArray} (h : er s = 3) : FR s = ([], 6, E0) := by unfold FR; simp only [fr]; rw [if_pos h]
theorem FR_ok {s : ByteArray} (h : er s = 0) : FR s = (toF (pf s) :: (FR (rst s)).1, (FR (rst s)).2) := by
  have hr := rst_size h
  have e := fr_fuel s.size ((rst s).size + 1) (rst s) (by omega) (by omega)
  show fr (s.size + 1) s = (toF (pf s) :: (fr ((rst s).size + 1) (rst s)).1, (fr ((rst s).size + 1) (rst s)).2)
  simp only [fr]
  rw [if_neg (by omega), if_pos h, e]
  simp only [fr]
theorem FR_short {s : ByteArray} (h : er s = 2) : FR s = ([], 0, s) := by unfold FR; simp only [fr]; rw [if_neg (by omega), if_neg (by omega)]
theorem er_cases (s : ByteArray) : er s = 2 ∨ er s = 3 ∨ er s = 0 := by
  rcases pf_cases s with h | h | h
  · exact .inl h.1
  · exact .inr (.inl h)
  · exact .inr (.inr h.1)
/-- What becomes of them: induction on the bytes. -/
theorem FR_ind {M : ByteArray → Prop} (hl : ∀ s, er s = 3 → M s) (hs : ∀ s, er s = 2 → M s) (ho : ∀ s, er s = 0 → M (rst s) → M s) : ∀ s, M s := by
  have key : ∀ (n : Nat) (s : ByteArray), s.size < n → M s := by
    intro n
    induction n with
    | zero => intro s h; exact absurd h (by omega)
    | succ n ih =>
      intro s h
      rcases er_cases s with h2 | h3 | h0
      · exact hs s h2
      · exact hl s h3
      · have := rst_size h0
        exact ho s h0 (ih _ (by omega))
  exact fun s => key _ s (Nat.lt_succ_self _)
theorem FR_end : ∀ s, ((FR s).2.1 = 0 ∧ er (FR s).2.2 = 2) ∨ ((FR s).2.1 = 6 ∧ (FR s).2.2 = E0) :=
  FR_ind (fun s h => .inr (by rw [FR_long h]; exact ⟨rfl, rfl⟩)) (fun s h => .inl (by rw [FR_short h]; exact ⟨rfl, h⟩)) (fun s h ih => by rw [FR_ok h]; exact ih)
theorem FR_append (t : ByteArray) : ∀ s, (FR s).2.1 = 0 → FR (s ++ t) = ((FR s).1 ++ (FR ((FR s).2.2 ++ t)).1, (FR ((FR s).2.2 ++ t)).2) :=
  FR_ind (fun s h h0 => by rw [FR_long h] at h0; exact absurd h0 (by decide)) (fun s h _ => by rw [FR_short h]; rfl)
    (fun s h ih h0 => by
      rw [FR_ok h] at h0
      have h2 : er (s ++ t) = 0 := by unfold er; rw [pf_append h]; exact h
      rw [FR_ok h2, rst_append h, ih h0, FR_ok h, pf_append h]
      simp only [List.cons_append])
theorem FR_sizes : ∀ s, (FR s).1.length + (FR s).2.2.size ≤ s.size :=
  FR_ind (fun s h => by rw [FR_long h]; exact Nat.zero_le _) (fun s h => by rw [FR_short h]; simp) (fun s h ih => by
    have := rst_size h
    rw [FR_ok h]
    simp only [List.length_cons]
    omega)
theorem add_l0 : ∀ s, ∀ (k : Nat) (acc : List S40), s.size ≤ 1000000 → acc.length + s.size ≤ 10000000 → s.size + 30 < k →
    feed_Feed_Add.l0 k acc s false false = some (acc ++ (FR s).1, (FR s).2.1, (FR s).2.2, false, (FR s).2.1 != 0) := by
  refine FR_ind (fun s h k acc hs ha hk => ?_) (fun s h k acc hs ha hk => ?_) (fun s h ih k acc hs ha hk => ?_)
  all_goals
    obtain ⟨k, rfl⟩ : ∃ m, k = m + 1 := ⟨k - 1, by omega⟩
    have he : (pf s).2.2.2.2.2 = er s := rfl
    simp only [feed_Feed_Add.l0]
    rw [if_neg (by simp), parse_f (by omega) (by omega), Option.bind_some, he, h]
  · rw [if_pos rfl, FR_long h]
    simp [feed_Feed_fail.f]
  · rw [if_neg (by omega), if_neg (by omega), FR_short h]
    simp
  · have hc := pf_cases s
    have hr := rst_size h
    have hz : (pf s).2.2.2.2.1 = sz s := rfl
    rw [if_neg (by omega), if_pos rfl, if_pos (by omega), hz, if_pos (by omega), if_pos (by omega)]
    have := ih k (acc ++ [toF (pf s)]) (by omega) (by rw [List.length_append, List.length_singleton]; omega) (by omega)
    rw [FR_ok h]
    rw [List.append_assoc] at this
    exact this
theorem all_l1 (x : ByteArray) (hx : x.size ≤ 1000000) : ∀ s, ∀ (k a : Nat) (acc : List S40), a ≤ x.size → x.extract a x.size = s → acc.length + s.size ≤ 10000000 → s.size + 30 < k →
    nuncioref15_All.l1 k x (a : Int) acc = some (acc ++ (FR s).1, (FR s).2.1, ((FR s).2.2.size : Int)) := by
  refine FR_ind (fun s h k a acc hax hs ha hk => ?_) (fun s h k a acc hax hs ha hk => ?_) (fun s h ih k a acc hax hs ha hk => ?_)
  all_goals
    obtain ⟨k, rfl⟩ : ∃ m, k = m + 1 := ⟨k - 1, by omega⟩
    have he : (pf s).2.2.2.2.2 = er s := rfl
    have hxs : s.size = x.size - a := by rw [← hs, ByteArray.size_extract]; omega
    simp only [nuncioref15_All.l1]
    rw [if_pos (by omega), if_pos (by omega), Int.toNat_natCast, hs, rparse_f (by omega) (by omega), Option.bind_some, he, h]
  · rw [if_pos rfl, FR_long h, List.append_nil]
    rfl
  · rw [if_neg (by omega), if_neg (by omega), FR_short h, w64 (by omega) (by omega)]
    simp
    omega
  · have hc := pf_cases s
    have hr := rst_size h
    have hz : (pf s).2.2.2.2.1 = sz s := rfl
    rw [if_neg (by omega), if_pos rfl, if_pos (by omega), hz, w64 (by omega) (by omega)]
    have e1 : (a : Int) + sz s = ((a + (sz s).toNat : Nat) : Int) := by omega
    have e2 : x.extract (a + (sz s).toNat) x.size = rst s := by rw [← extract_extract, hs]; rfl
    have := ih k (a + (sz s).toNat) (acc ++ [toF (pf s)]) (by omega) e2 (by rw [List.length_append, List.length_singleton]; omega) (by omega)
    rw [FR_ok h, e1]
    rw [List.append_assoc] at this
    exact this
/-- The preface stands at the begin; what has come is a part of it. -/
def hasP (s : ByteArray) : Prop := 24 ≤ s.size ∧ (s.extract 0 24).toList = P24.toList
def ofP (s : ByteArray) : Prop := s.size ≤ 24 ∧ (P24.extract 0 s.size).toList = s.toList
instance (s : ByteArray) : Decidable (hasP s) := by unfold hasP; infer_instance
instance (s : ByteArray) : Decidable (ofP s) := by unfold ofP; infer_instance
theorem ext_iff {a b : ByteArray} (h : a.size = b.size) : a.toList = b.toList ↔ ∀ j : Nat, j < a.size → bt a j = bt b j := by
  have ha := size_bytesOf a
  have hb := size_bytesOf b
  rw [toList_inj]
  constructor
  · rintro rfl _ _; rfl
  · intro hj
    apply bytesOf_inj
    apply List.ext_getElem (by omega)
    intro i h1 h2
    have := hj i (by omega)
    rw [bt_eq, bt_eq, rd_nat h1, rd_nat h2] at this
    exact this
theorem bt_extract {s : ByteArray} {n j : Nat} (h : j < n) (hn : n ≤ s.size) : bt (s.extract 0 n) (j : Int) = bt s (j : Int) := by
  have hl := size_bytesOf s
  rw [bt_eq, bt_eq, bytesOf_extract, List.drop_zero, rd_nat (by rw [List.length_take]; omega), rd_nat (by omega), List.getElem_take]
theorem hasP_iff (s : ByteArray) : hasP s ↔ 24 ≤ s.size ∧ ∀ j : Nat, j < 24 → bt s j = bt P24 j := by
  unfold hasP
  constructor
  · rintro ⟨h, he⟩
    refine ⟨h, fun j hj => ?_⟩
    have hsz : (s.extract 0 24).size = 24 := by rw [ByteArray.size_extract]; omega
    have := (ext_iff (a := s.extract 0 24) (b := P24) hsz).1 he j (by omega)
    rwa [bt_extract hj h] at this
  · rintro ⟨h, hj⟩
    have hsz : (s.extract 0 24).size = 24 := by rw [ByteArray.size_extract]; omega
    refine ⟨h, (ext_iff (a := s.extract 0 24) (b := P24) hsz).2 fun j hj2 => ?_⟩
    rw [bt_extract (by omega) h]
    exact hj j (by omega)
theorem ofP_iff (s : ByteArray) : ofP s ↔ s.size ≤ 24 ∧ ∀ j : Nat, j < s.size → bt s j = bt P24 j := by
  unfold ofP
  constructor
  · rintro ⟨h, he⟩
    refine ⟨h, fun j hj => ?_⟩
    have hsz : (P24.extract 0 s.size).size = s.size := by rw [ByteArray.size_extract, p24_size]; omega
    have := (ext_iff hsz).1 he j (by omega)
    rw [bt_extract hj (by rw [p24_size]; exact h)] at this
    exact this.symm
  · rintro ⟨h, hj⟩
    have hsz : (P24.extract 0 s.size).size = s.size := by rw [ByteArray.size_extract, p24_size]; omega
    refine ⟨h, (ext_iff hsz).2 fun j hj2 => ?_⟩
    rw [bt_extract (by omega) (by rw [p24_size]; exact h)]
    exact (hj j (by omega)).symm
theorem bt_append {s t : ByteArray} {j : Nat} (h : j < s.size) : bt (s ++ t) (j : Int) = bt s (j : Int) := by
  have hl := size_bytesOf s
  rw [bt_eq, bt_eq, bytesOf_append, rd_nat (by rw [List.length_append]; omega), rd_nat (by omega), List.getElem_append_left]
theorem hasP_append {s t : ByteArray} (h : hasP s) : hasP (s ++ t) := by
  rw [hasP_iff] at h ⊢
  refine ⟨by rw [ByteArray.size_append]; omega, fun j hj => ?_⟩
  rw [bt_append (by omega)]
  exact h.2 j hj
/-- What a feed is behind some bytes: frames, code, held, want, down. -/
def SP (w : Bool) (s : ByteArray) : List S40 × Int × ByteArray × Bool × Bool :=
  if w = true then
    (if hasP s then ((FR (s.extract 24 s.size)).1, (FR (s.extract 24 s.size)).2.1, (FR (s.extract 24 s.size)).2.2, false, (FR (s.extract 24 s.size)).2.1 != 0)
     else if ofP s then ([], 0, s, true, false) else ([], 1, E0, true, true))
  else ((FR s).1, (FR s).2.1, (FR s).2.2, false, (FR s).2.1 != 0)
theorem all_l0 (s : ByteArray) (hs : s.size ≤ 1000000) : ∀ (d i k : Nat), i + d = 24 → i ≤ s.size → (∀ j : Nat, j < i → bt s j = bt P24 j) → s.size + 100 + 2 * d < k →
    nuncioref15_All.l0 k s true (i : Int) = some ((SP true s).1, (SP true s).2.1, ((SP true s).2.2.1.size : Int))
  | 0, i, k, hi, his, hm, hk => by
    obtain ⟨k, rfl⟩ : ∃ m, k = m + 1 + 1 := ⟨k - 2, by omega⟩
    obtain rfl : i = 24 := by omega
    have hp : hasP s := (hasP_iff s).2 ⟨his, hm⟩
    simp only [nuncioref15_All.l0, nuncioref15_All.j1]
    rw [if_pos trivial, if_neg (by simp), all_l1 s hs (s.extract 24 s.size) k 24 [] his rfl (by rw [ByteArray.size_extract]; simp; omega) (by rw [ByteArray.size_extract]; omega)]
    unfold SP
    rw [if_pos rfl, if_pos hp]
    rfl
  | d + 1, i, k, hi, his, hm, hk => by
    obtain ⟨k, rfl⟩ : ∃ m, k = m + 1 + 1 := ⟨k - 2, by omega⟩
    simp only [nuncioref15_All.l0, nuncioref15_All.j1]
    rw [if_pos trivial, if_pos (by simp; omega)]
    by_cases hge : (i : Int) ≥ (s.size : Int)
    · have hn : ¬ hasP s := fun h => by have := h.1; omega
      have ho : ofP s := (ofP_iff s).2 ⟨by omega, fun j hj => hm j (by omega)⟩
      rw [if_pos hge]
      unfold SP
      rw [if_pos rfl, if_neg hn, if_pos ho]
    · rw [if_neg hge, if_pos (by omega), if_pos (by omega), if_pos (by omega)]
      by_cases he : bt s (i : Int) = bt P24 (i : Int)
      · rw [if_pos he, w64 (by omega) (by omega)]
        have := all_l0 s hs d (i + 1) k (by omega) (by omega) (fun j hj => by rcases Nat.lt_succ_iff_lt_or_eq.1 hj with h | h; exact hm j h; rw [h]; exact he) (by omega)
        exact this
      · have hn : ¬ hasP s := fun h => he (((hasP_iff s).1 h).2 i (by omega))
        have ho : ¬ ofP s := fun h => he (((ofP_iff s).1 h).2 i (by omega))
        rw [if_neg he]
        unfold SP
        rw [if_pos rfl, if_neg hn, if_neg ho]
        rfl
theorem all_f {k : Nat} (w : Bool) {s : ByteArray} (hs : s.size ≤ 1000000) (hk : s.size + 200 < k) : nuncioref15_All.f k s w = some ((SP w s).1, (SP w s).2.1, ((SP w s).2.2.1.size : Int)) := by
  unfold nuncioref15_All.f
  cases w with
  | true => exact all_l0 s hs 24 0 k (by omega) (by omega) (fun j hj => absurd hj (by omega)) (by omega)
  | false =>
    obtain ⟨k, rfl⟩ : ∃ m, k = m + 1 + 1 := ⟨k - 2, by omega⟩
    simp only [nuncioref15_All.l0, nuncioref15_All.j1]
    rw [if_neg (by simp), if_neg (by simp), show (0 : Int) = ((0 : Nat) : Int) from rfl, all_l1 s hs s k 0 [] (by omega) (extract_all s) (by simp; omega) (by omega)]
    unfold SP
    rw [if_neg (by simp)]
    rfl
theorem has_f (a b : ByteArray) : stringslite_HasPrefix.f a b = some (decide (b.size ≤ a.size) && (a.extract 0 b.size).toList == b.toList) := by
  unfold stringslite_HasPrefix.f
  by_cases h : (a.size : Int) ≥ (b.size : Int)
  · rw [if_pos h, if_pos (by omega), if_pos h, Int.toNat_natCast, decide_eq_true (by omega), Bool.true_and]
  · rw [if_neg h, decide_eq_false (by omega), Bool.false_and]
theorem begin_f (s : ByteArray) (d : Bool) : feed_Feed_begin.f s true d = some (if hasP s then (true, s.extract 24 s.size, false, d) else (decide (ofP s), s, true, d)) := by
  unfold feed_Feed_begin.f strings_CutPrefix.f stringslite_CutPrefix.f strings_HasPrefix.f
  rw [if_pos rfl, has_f, has_f]
  have e1 : (decide (P24.size ≤ s.size) && (s.extract 0 P24.size).toList == P24.toList) = decide (hasP s) := by
    rw [Bool.eq_iff_iff]; simp only [Bool.and_eq_true, decide_eq_true_eq, beq_iff_eq]; rfl
  have e2 : (decide (s.size ≤ P24.size) && (P24.extract 0 s.size).toList == s.toList) = decide (ofP s) := by
    rw [Bool.eq_iff_iff]; simp only [Bool.and_eq_true, decide_eq_true_eq, beq_iff_eq]; rfl
  simp only [Option.bind_some]
  rw [e1, e2]
  by_cases h : hasP s
  · have h24 : ((P24.size : Nat) : Int) ≤ (s.size : Int) := by have := h.1; rw [p24_size]; omega
    rw [if_pos (decide_eq_true h), if_pos (by omega), if_pos h24, if_pos h]
    rfl
  · rw [if_neg (by simpa using h), if_neg h]
    rfl
theorem SP_code (w : Bool) (s : ByteArray) : (SP w s).2.1 ≠ 0 → (SP w s).2.2.1 = E0 := by
  unfold SP
  cases w with
  | true =>
    rw [if_pos rfl]
    by_cases h1 : hasP s
    · rw [if_pos h1]
      rcases FR_end (s.extract 24 s.size) with h | h
      · exact fun hn => absurd h.1 hn
      · exact fun _ => h.2
    · rw [if_neg h1]
      by_cases h2 : ofP s
      · rw [if_pos h2]; exact fun hn => absurd rfl hn
      · rw [if_neg h2]; exact fun _ => rfl
  | false =>
    rw [if_neg (by simp)]
    rcases FR_end s with h | h
    · exact fun hn => absurd h.1 hn
    · exact fun _ => h.2
theorem SP_down (w : Bool) (s : ByteArray) : (SP w s).2.2.2.2 = ((SP w s).2.1 != 0) := by
  unfold SP
  cases w with
  | true =>
    rw [if_pos rfl]
    by_cases h1 : hasP s
    · rw [if_pos h1]
    · rw [if_neg h1]
      by_cases h2 : ofP s
      · rw [if_pos h2]; rfl
      · rw [if_neg h2]; rfl
  | false => rw [if_neg (by simp)]
theorem SP_sizes (w : Bool) (s : ByteArray) : (SP w s).1.length + (SP w s).2.2.1.size ≤ s.size := by
  have h1 := FR_sizes s
  have h2 := FR_sizes (s.extract 24 s.size)
  rw [ByteArray.size_extract] at h2
  unfold SP
  split
  · split
    · simp only; omega
    · split
      · simp
      · exact Nat.zero_le _
  · simp only; omega
/-- What frames are as a feed that has begun. -/
def mk (R : List S40 × Int × ByteArray) : List S40 × Int × ByteArray × Bool × Bool := (R.1, R.2.1, R.2.2, false, R.2.1 != 0)
theorem SP_false (s : ByteArray) : SP false s = mk (FR s) := by unfold SP mk; rw [if_neg (by simp)]
theorem SP_has {s : ByteArray} (h : hasP s) : SP true s = mk (FR (s.extract 24 s.size)) := by unfold SP mk; rw [if_pos rfl, if_pos h]
theorem SP_of {s : ByteArray} (h : ¬ hasP s) (h2 : ofP s) : SP true s = ([], 0, s, true, false) := by unfold SP; rw [if_pos rfl, if_neg h, if_pos h2]
theorem SP_not {s : ByteArray} (h : ¬ hasP s) (h2 : ¬ ofP s) : SP true s = ([], 1, E0, true, true) := by unfold SP; rw [if_pos rfl, if_neg h, if_neg h2]
theorem add_l (s : ByteArray) (k : Nat) (hs : s.size ≤ 1000000) (hk : s.size + 30 < k) : feed_Feed_Add.l0 k [] s false false = some ((mk (FR s)).1, (mk (FR s)).2) := by
  have := add_l0 s k [] hs (by simp; omega) hk
  rw [List.nil_append] at this
  rw [this]
  rfl
theorem begin_no (s : ByteArray) (d : Bool) : feed_Feed_begin.f s false d = some (true, s, false, d) := by unfold feed_Feed_begin.f; rw [if_neg (by simp)]
/-- A feed that has begun takes more. -/
theorem add_on {k : Nat} {s p : ByteArray} (hp : s.size + p.size ≤ 500000) (h0 : (FR s).2.1 = 0) (hk : s.size + p.size + 100 < k) :
    feed_Feed_Add.f k (mk (FR s)).2.2.1 (mk (FR s)).2.2.2.1 false p = some ((FR ((FR s).2.2 ++ p)).1, (mk (FR (s ++ p))).2) ∧ (mk (FR (s ++ p))).1 = (mk (FR s)).1 ++ (FR ((FR s).2.2 ++ p)).1 := by
  have hsz := FR_sizes s
  have ha := FR_append p s h0
  have e2 : (mk (FR s)).2.2.1 = (FR s).2.2 := rfl
  have e3 : (mk (FR s)).2.2.2.1 = false := rfl
  have hl := add_l ((FR s).2.2 ++ p) k (by rw [ByteArray.size_append]; omega) (by rw [ByteArray.size_append]; omega)
  rw [ha, e2, e3]
  unfold feed_Feed_Add.f
  rw [if_neg (by simp), if_pos (by omega), begin_no, Option.bind_some, if_pos rfl, hl]
  generalize FR ((FR s).2.2 ++ p) = Q
  generalize FR s = R
  exact ⟨rfl, rfl⟩
/-- More bytes come. -/
theorem add_f {k : Nat} (w : Bool) {s p : ByteArray} (hp : s.size + p.size ≤ 500000) (h0 : (SP w s).2.1 = 0) (hk : s.size + p.size + 100 < k) :
    ∃ fs, feed_Feed_Add.f k (SP w s).2.2.1 (SP w s).2.2.2.1 false p = some (fs, (SP w (s ++ p)).2) ∧ (SP w (s ++ p)).1 = (SP w s).1 ++ fs := by
  cases w with
  | false =>
    rw [SP_false] at h0
    rw [SP_false, SP_false]
    exact ⟨_, add_on hp h0 hk⟩
  | true =>
    by_cases h1 : hasP s
    · rw [SP_has h1] at h0
      have hx : (s.extract 24 s.size).size ≤ s.size := by rw [ByteArray.size_extract]; omega
      rw [SP_has h1, SP_has (hasP_append h1), extract_append h1.1]
      exact ⟨_, add_on (by omega) h0 (by omega)⟩
    · by_cases h2 : ofP s
      · rw [SP_of h1 h2]
        unfold feed_Feed_Add.f
        simp only
        rw [if_neg (by simp), if_pos (by omega), begin_f, Option.bind_some]
        by_cases h3 : hasP (s ++ p)
        · rw [SP_has h3, if_pos h3]
          have hz : ((s ++ p).extract 24 (s ++ p).size).size ≤ s.size + p.size := by rw [ByteArray.size_extract, ByteArray.size_append]; omega
          have hl := add_l ((s ++ p).extract 24 (s ++ p).size) k (by omega) (by omega)
          rw [if_pos rfl]
          simp only
          generalize mk (FR ((s ++ p).extract 24 (s ++ p).size)) = Q at *
          exact ⟨Q.1, hl, (List.nil_append _).symm⟩
        · rw [if_neg h3]
          obtain ⟨k, rfl⟩ : ∃ m, k = m + 1 := ⟨k - 1, by omega⟩
          by_cases h4 : ofP (s ++ p)
          · rw [SP_of h3 h4]
            refine ⟨[], ?_, rfl⟩
            simp only [feed_Feed_Add.l0]
            rw [if_pos (decide_eq_true h4), if_pos trivial]
          · rw [SP_not h3 h4]
            refine ⟨[], ?_, rfl⟩
            rw [if_neg (by simpa using h4)]
            rfl
      · rw [SP_not h1 h2] at h0
        exact absurd h0 (by simp)
theorem same_l0 (l : List S40) (hl : l.length ≤ 1000000000) : ∀ (d i k : Nat), i + d = l.length → d < k → nuncioref15_Same.l0 k l l (i : Int) = some true
  | 0, i, k, hi, hk => by
    obtain ⟨k, rfl⟩ : ∃ m, k = m + 1 := ⟨k - 1, by omega⟩
    simp only [nuncioref15_Same.l0]; rw [if_neg (by omega)]
  | d + 1, i, k, hi, hk => by
    obtain ⟨k, rfl⟩ : ∃ m, k = m + 1 := ⟨k - 1, by omega⟩
    have := same_l0 l hl d (i + 1) k (by omega) (by omega)
    simp only [nuncioref15_Same.l0]
    rw [if_pos (by omega), if_pos (by omega), if_pos (by omega), if_neg (by simp), w64 (by omega) (by omega)]
    exact this
theorem same_f {k : Nat} (l : List S40) (hl : l.length ≤ 1000000000) (hk : l.length < k) : nuncioref15_Same.f k l l = some true := by
  unfold nuncioref15_Same.f
  rw [if_pos rfl]
  exact same_l0 l hl l.length 0 k (by omega) hk
end Go.Proofs.Ytlglgfcdhflecaa.Pure
