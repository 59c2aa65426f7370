/- Plain lemmas on integers of header blocks: their bytes, how they are read. No program in sight. -/
import Derived.Test.YthgminjnednjgaaLBase
namespace Go.Proofs.Ythgminjnednjgaa.Pure
open Go.RowKit Go.Proofs.YthgminjnednjgaaW.PrintWords Go.Proofs.YthgminjnednjgaaW.PrintLast Go.Proofs.YthgminjnednjgaaW.PrintMore

/-- How many bits. -/
def nb (bits : Int) : Nat := (min (max bits 1) 8).toNat
theorem nb_range (bits : Int) : 1 ≤ nb bits ∧ nb bits ≤ 8 := by unfold nb; omega
/-- So many bits, all 1. -/
def ful (bits : Int) : Int := 2 ^ nb bits - 1
theorem ful_cases (bits : Int) : ful bits = 1 ∨ ful bits = 3 ∨ ful bits = 7 ∨ ful bits = 15 ∨ ful bits = 31 ∨ ful bits = 63 ∨ ful bits = 127 ∨ ful bits = 255 := by
  have h := nb_range bits
  unfold ful
  generalize nb bits = b at h ⊢
  have : b = 1 ∨ b = 2 ∨ b = 3 ∨ b = 4 ∨ b = 5 ∨ b = 6 ∨ b = 7 ∨ b = 8 := by omega
  rcases this with rfl | rfl | rfl | rfl | rfl | rfl | rfl | rfl <;> simp
theorem ful_range (bits : Int) : 1 ≤ ful bits ∧ ful bits ≤ 255 := by have := ful_cases bits; omega

theorem and_fulN : ∀ f : Fin 256, (f.val = 1 ∨ f.val = 3 ∨ f.val = 7 ∨ f.val = 15 ∨ f.val = 31 ∨ f.val = 63 ∨ f.val = 127 ∨ f.val = 255) → ∀ b : Nat, b &&& f.val = b % (f.val + 1) := by
  intro f hf b
  rcases hf with h | h | h | h | h | h | h | h <;> rw [h]
  · exact nat_mask1 b
  · exact nat_mask2 b
  · exact nat_mask3 b
  · exact nat_mask4 b
  · exact nat_mask5 b
  · exact nat_mask6 b
  · exact nat_mask7 b
  · exact nat_mask8 b
theorem and_ful64 {b : Int} (bits : Int) (h0 : 0 ≤ b) (h1 : b < 256) : Go.bits .and .u64 b (ful bits) = b % (ful bits + 1) := by
  have hr := ful_range bits
  have hc := ful_cases bits
  rw [u64_and _ _ h0 (by omega) (by omega) (by omega)]
  have := and_fulN ⟨(ful bits).toNat, by omega⟩ (by simp only; omega) b.toNat
  simp only at this
  rw [this]
  obtain ⟨m, rfl⟩ := Int.eq_ofNat_of_zero_le h0
  obtain ⟨q, hq⟩ := Int.eq_ofNat_of_zero_le (show 0 ≤ ful bits by omega)
  rw [hq, Int.toNat_natCast, Int.toNat_natCast]
  simp
theorem and127 {b : Int} (h0 : 0 ≤ b) (h1 : b < 256) : Go.bits .and .u8 b 127 = b % 128 := by
  rw [u8_and _ _ h0 h1 (by omega) (by omega)]
  have := nat_mask7 b.toNat
  rw [show (127 : Int).toNat = 127 from rfl, this]
  omega
theorem or128N : ∀ b : Fin 256, b.val ||| 128 = b.val % 128 + 128 := by decide +kernel
theorem or128 {b : Int} (h0 : 0 ≤ b) (h1 : b < 256) : Go.bits .or .u8 b 128 = b % 128 + 128 := by
  rw [u8_or _ _ h0 h1 (by omega) (by omega)]
  have := or128N ⟨b.toNat, by omega⟩
  simp only at this
  rw [show (128 : Int).toNat = 128 from rfl, this]
  omega
theorem andNotN : ∀ j : Fin 9, ∀ b : Fin 256, b.val &&& (255 - (2 ^ j.val - 1)) = b.val / 2 ^ j.val * 2 ^ j.val := by decide +kernel
/-- The first byte. -/
theorem head_or {a n : Int} (bits : Int) (h0 : 0 ≤ a) (h1 : a < 256) (hn : 0 ≤ n) (hn2 : n ≤ ful bits) :
    Go.bits .or .u8 (Go.bits .andNot .u8 a (ful bits % 256)) (n % 256) = a / (ful bits + 1) * (ful bits + 1) + n := by
  have hr := ful_range bits
  have hb := nb_range bits
  have hf : ful bits + 1 = 2 ^ nb bits := by unfold ful; omega
  have hfN : (ful bits).toNat = 2 ^ nb bits - 1 := by
    have : ((2 ^ nb bits : Nat) : Int) = 2 ^ nb bits := by simp
    omega
  rw [show ful bits % 256 = ful bits by omega, show n % 256 = n by omega, u8_andNot _ _ h0 h1 (by omega) (by omega), hfN]
  have h2 := andNotN ⟨nb bits, by omega⟩ ⟨a.toNat, by omega⟩
  simp only at h2
  rw [h2, hf]
  have hp : 0 < 2 ^ nb bits := Nat.pow_pos (by omega)
  have hle : a.toNat / 2 ^ nb bits * 2 ^ nb bits ≤ a.toNat := Nat.div_mul_le_self _ _
  rw [u8_or _ _ (by omega) (by omega) hn (by omega), Int.toNat_natCast, nat_join (nb bits) _ _ (Nat.mul_mod_left _ _) (by omega)]
  obtain ⟨m, rfl⟩ := Int.eq_ofNat_of_zero_le h0
  obtain ⟨q, rfl⟩ := Int.eq_ofNat_of_zero_le hn
  simp

/-! the bytes behind the first one -/
def vint : Nat → Int → List Int
  | 0, n => [n]
  | f + 1, n => if n ≥ 128 then (n % 128 + 128) :: vint f (n / 128) else [n]
theorem vint_small {n : Int} (h : n < 128) : ∀ f, vint f n = [n]
  | 0 => rfl
  | f + 1 => by rw [vint, if_neg (by omega)]
theorem vint_pos : ∀ (f : Nat) (n : Int), 0 < (vint f n).length
  | 0, n => by simp [vint]
  | f + 1, n => by rw [vint]; split <;> simp
theorem vint_length : ∀ (f : Nat) (n : Int), (vint f n).length ≤ f + 1
  | 0, n => by simp [vint]
  | f + 1, n => by
    rw [vint]
    split
    · have := vint_length f (n / 128); simp; omega
    · simp
theorem vint_bytes : ∀ (f : Nat) (n : Int), 0 ≤ n → n < 128 ^ (f + 1) → Bytes (vint f n)
  | 0, n, h0, h1 => Bytes.cons h0 (by simp at h1; omega) Bytes.nil
  | f + 1, n, h0, h1 => by
    rw [vint]
    split
    · refine Bytes.cons (by omega) (by omega) (vint_bytes f _ (by omega) ?_)
      rw [Int.pow_succ] at h1; omega
    · exact Bytes.cons h0 (by omega) Bytes.nil
theorem vint_mono : ∀ (f : Nat) (n m : Int), 0 ≤ n → n ≤ m → (vint f n).length ≤ (vint f m).length
  | 0, n, m, _, _ => by simp [vint]
  | f + 1, n, m, h0, h => by
    have hp := vint_pos f (m / 128)
    rw [vint, vint]
    split
    · rw [if_pos (by omega)]
      have := vint_mono f (n / 128) (m / 128) (by omega) (by omega)
      simp; omega
    · split
      · simp
      · simp
theorem p128 (i : Nat) : (2 : Int) ^ (7 * i) = 128 ^ i := by rw [Int.pow_mul]; rfl

/-- An integer's bytes. -/
def encI (first F n : Int) : List Int := if n < F then [first / (F + 1) * (F + 1) + n] else (first / (F + 1) * (F + 1) + F) :: vint 9 (n - F)
theorem encI_bytes {first n : Int} (bits : Int) (h0 : 0 ≤ first) (h1 : first < 256) (hn : 0 ≤ n) (hn2 : n ≤ 18446744073709551615) : Bytes (encI first (ful bits) n) := by
  have hr := ful_range bits
  have hc := ful_cases bits
  have hh : ∀ m : Int, 0 ≤ m → m ≤ ful bits → 0 ≤ first / (ful bits + 1) * (ful bits + 1) + m ∧ first / (ful bits + 1) * (ful bits + 1) + m < 256 := by
    intro m hm hm2
    rcases hc with h | h | h | h | h | h | h | h <;> rw [h] at hm2 ⊢ <;> omega
  unfold encI
  split
  · exact Bytes.cons (hh n hn (by omega)).1 (hh n hn (by omega)).2 Bytes.nil
  · refine Bytes.cons (hh _ (by omega) (by omega)).1 (hh _ (by omega) (by omega)).2 (vint_bytes 9 _ (by omega) ?_)
    have : (128 : Int) ^ (9 + 1) = 1180591620717411303424 := by decide
    omega
theorem encI_pos (first F n : Int) : 0 < (encI first F n).length := by unfold encI; split <;> simp

/-- What is read behind the first byte: rem more bytes may come, i have come. -/
def getT : Nat → Nat → Int → List Int → Int → Int × Int × Int
  | 0, _, _, _, _ => (0, 0, 90)
  | _ + 1, _, _, [], _ => (0, 0, 2)
  | rem + 1, i, n, c :: l, a => if n + c % 128 * 128 ^ i > 4294967295 then (0, 0, 90) else if c < 128 then (n + c % 128 * 128 ^ i, a + 2 + i, 0) else getT rem (i + 1) (n + c % 128 * 128 ^ i) l a
/-- What is read at a place. -/
def getI (F : Int) (l : List Int) (a : Int) : Int × Int × Int :=
  if a < 0 ∨ a ≥ l.length then (0, 0, 2) else if rd l a % (F + 1) < F then (rd l a % (F + 1), a + 1, 0) else getT 5 0 (rd l a % (F + 1)) (l.drop (a.toNat + 1)) a

theorem p128_pos (i : Nat) : (0 : Int) < 128 ^ i := Int.pow_pos (by omega)
theorem p128_le {i j : Nat} (h : i ≤ j) : (128 : Int) ^ i ≤ 128 ^ j := by
  obtain ⟨d, rfl⟩ : ∃ d, j = i + d := ⟨j - i, by omega⟩
  clear h
  induction d with
  | zero => exact Int.le_refl _
  | succ d ih =>
    have h0 := p128_pos (i + d)
    rw [← Nat.add_assoc, Int.pow_succ]; omega
theorem split128 (m : Int) (i : Nat) : m % 128 * 128 ^ i + m / 128 * 128 ^ (i + 1) = m * 128 ^ i := by
  have h := Int.emod_add_mul_ediv m 128
  rw [Int.pow_succ]
  generalize (128 : Int) ^ i = p
  grind
/-- What was put is got. -/
theorem getT_vint (more : List Int) (a : Int) : ∀ (f rem i : Nat) (acc m : Int), rem + i = 5 → 0 ≤ acc → 0 ≤ m → m < 128 ^ (f + 1) → (i = 0 ∨ 1 ≤ m) →
    getT rem i acc (vint f m ++ more) a = if acc + m * 128 ^ i > 4294967295 then (0, 0, 90) else (acc + m * 128 ^ i, a + 1 + i + (vint f m).length, 0) := by
  intro f
  induction f with
  | zero =>
    intro rem i acc m hr ha hm hm2 him
    have hm3 : m < 128 := by simpa using hm2
    have hp := p128_pos i
    match rem, hr with
    | 0, hr =>
      have : i = 5 := by omega
      subst this
      have h5 : (128 : Int) ^ 5 = 34359738368 := by decide
      rw [getT, h5, if_pos (by omega)]
    | rem + 1, hr =>
      rw [vint_small hm3, List.singleton_append, getT, show m % 128 = m by omega]
      split
      · rfl
      · (try rw [if_pos hm3])
        simp only [List.length_singleton]
        congr 2; omega
  | succ f ih =>
    intro rem i acc m hr ha hm hm2 him
    have hp := p128_pos i
    match rem, hr with
    | 0, hr =>
      have : i = 5 := by omega
      subst this
      have h5 : (128 : Int) ^ 5 = 34359738368 := by decide
      rw [getT, h5, if_pos (by omega)]
    | rem + 1, hr =>
      by_cases hb : m ≥ 128
      · have hs := split128 m i
        have hc : (m % 128 + 128) % 128 = m % 128 := by omega
        have hx : 0 ≤ m / 128 * 128 ^ (i + 1) := Int.mul_nonneg (by omega) (by have := p128_pos (i + 1); omega)
        have hx0 : 0 ≤ m % 128 * 128 ^ i := Int.mul_nonneg (by omega) (by omega)
        rw [vint, if_pos hb, List.cons_append, getT, hc]
        by_cases ho : acc + m % 128 * 128 ^ i > 4294967295
        · rw [if_pos ho, if_pos (by omega)]
        · rw [if_neg ho, if_neg (by omega), ih rem (i + 1) _ (m / 128) (by omega) (by omega) (by omega) (by rw [Int.pow_succ] at hm2; omega) (.inr (by omega))]
          rw [show acc + m % 128 * 128 ^ i + m / 128 * 128 ^ (i + 1) = acc + m * 128 ^ i by omega]
          split
          · rfl
          · simp only [List.length_cons]
            congr 2; omega
      · have hm3 : m < 128 := by omega
        rw [vint_small hm3, List.singleton_append, getT, show m % 128 = m by omega]
        split
        · rfl
        · (try rw [if_pos hm3])
          simp only [List.length_singleton]
          congr 2; omega
/-- Cut off, it is too short. -/
theorem getT_cut (a : Int) : ∀ (f rem i : Nat) (acc m : Int), rem + i = 5 → 0 ≤ acc → 0 ≤ m → m < 128 ^ (f + 1) → (i = 0 ∨ 1 ≤ m) → acc + m * 128 ^ i ≤ 4294967295 → getT rem i acc (vint f m).dropLast a = (0, 0, 2) := by
  intro f
  induction f with
  | zero =>
    intro rem i acc m hr ha hm hm2 him hle
    match rem, hr with
    | 0, hr =>
      have : i = 5 := by omega
      subst this
      have h5 : (128 : Int) ^ 5 = 34359738368 := by decide
      rw [h5] at hle; omega
    | rem + 1, hr => simp [vint, getT]
  | succ f ih =>
    intro rem i acc m hr ha hm hm2 him hle
    match rem, hr with
    | 0, hr =>
      have : i = 5 := by omega
      subst this
      have h5 : (128 : Int) ^ 5 = 34359738368 := by decide
      rw [h5] at hle; omega
    | rem + 1, hr =>
      by_cases hb : m ≥ 128
      · have hs := split128 m i
        have hc : (m % 128 + 128) % 128 = m % 128 := by omega
        have hx : 0 ≤ m / 128 * 128 ^ (i + 1) := Int.mul_nonneg (by omega) (by have := p128_pos (i + 1); omega)
        have hx0 : 0 ≤ m % 128 * 128 ^ i := Int.mul_nonneg (by omega) (by have := p128_pos i; omega)
        have hne : vint f (m / 128) ≠ [] := fun e => by have := vint_pos f (m / 128); rw [e] at this; simp at this
        rw [vint, if_pos hb, List.dropLast_cons_of_ne_nil hne, getT, hc, if_neg (by omega), if_neg (by omega)]
        exact ih rem (i + 1) _ (m / 128) (by omega) (by omega) (by omega) (by rw [Int.pow_succ] at hm2; omega) (.inr (by omega)) (by omega)
      · rw [vint_small (by omega)]; simp [getT]
/-- What is got has no shorter bytes. -/
theorem getT_least (a : Int) : ∀ (rem i : Nat) (acc : Int) (l : List Int) (r nx e : Int), Bytes l → getT rem i acc l a = (r, nx, e) → e ≠ 0 ∧ r = 0 ∧ nx = 0 ∨ e = 0 ∧ 
    ∃ (ds rest : List Int) (m : Int), l = ds ++ rest ∧ ds.length ≤ rem ∧ nx = a + 1 + i + ds.length ∧ 0 ≤ m ∧ m < 128 ^ ds.length ∧ r = acc + m * 128 ^ i ∧ r ≤ 4294967295 ∧ 0 < ds.length ∧
      ∀ f, ds.length ≤ f + 1 → (vint f m).length ≤ ds.length ∧ ((vint f m).length = ds.length → vint f m = ds)
  | 0, i, acc, l, r, nx, e, _, h => by
    simp only [getT, Prod.mk.injEq] at h
    obtain ⟨rfl, rfl, rfl⟩ := h
    exact .inl ⟨by decide, rfl, rfl⟩
  | rem + 1, i, acc, [], r, nx, e, _, h => by
    simp only [getT, Prod.mk.injEq] at h
    obtain ⟨rfl, rfl, rfl⟩ := h
    exact .inl ⟨by decide, rfl, rfl⟩
  | rem + 1, i, acc, c :: l, r, nx, e, hb, h => by
    have hc := hb.head
    rw [getT] at h
    split at h
    · simp only [Prod.mk.injEq] at h
      obtain ⟨rfl, rfl, rfl⟩ := h
      exact .inl ⟨by decide, rfl, rfl⟩
    · rename_i ho
      split at h
      · rename_i hlt
        simp only [Prod.mk.injEq] at h
        obtain ⟨rfl, rfl, rfl⟩ := h
        refine .inr ⟨rfl, [c], l, c, rfl, by simp, by simp; omega, hc.1, by simpa using hlt, by rw [show c % 128 = c by omega], by omega, by simp, fun f _ => ?_⟩
        rw [vint_small hlt]; simp
      · rename_i hge
        rcases getT_least a rem (i + 1) _ l r nx e hb.tail h with h1 | ⟨he, ds, rest, m, hl, hd, hn, hm0, hm1, hr, hrl, hpos, hv⟩
        · exact .inl h1
        · refine .inr ⟨he, c :: ds, rest, c % 128 + 128 * m, by rw [hl]; rfl, by simp; omega, by simp; omega, by omega, ?_, ?_, hrl, by simp, fun f hf => ?_⟩
          · rw [List.length_cons, Int.pow_succ]; omega
          · rw [hr, Int.pow_succ]
            generalize (128 : Int) ^ i = p
            grind
          · rw [List.length_cons] at hf
            obtain ⟨f, rfl⟩ : ∃ q, f = q + 1 := ⟨f - 1, by omega⟩
            obtain ⟨h2, h3⟩ := hv f (by omega)
            by_cases hm : m = 0
            · subst hm
              rw [vint_small (by omega)]
              simp only [List.length_cons, List.length_nil]
              exact ⟨by omega, fun h4 => by omega⟩
            · rw [vint, if_pos (by omega), show (c % 128 + 128 * m) % 128 + 128 = c by omega, show (c % 128 + 128 * m) / 128 = m by omega]
              simp only [List.length_cons]
              refine ⟨by omega, fun h4 => ?_⟩
              rw [h3 (by omega)]
end Go.Proofs.Ythgminjnednjgaa.Pure
