/- In what pieces bytes come plays no part: one by one, cut anywhere, or all at once, the same frames come, and the same code: for any bytes, any cut. -/
import Derived.Test.YtlglgfcdhflecaaMinex12
import Derived.Test.YtlglgfcdhflecaaMinex6
import Derived.Test.YtlglgfcdhflecaaMinex2
import Derived.Test.YtlglgfcdhflecaaMinex5
import Derived.Test.YtlglgfcdhflecaaLFeed
import Derived.Test.YtlglgfcdhflecaaPureFeedTakes
namespace Go.Proofs.Ytlglgfcdhflecaa.Pure
open Go.RowKit Go.Proofs.Ytlglgfcdhflecaa.Mine Go.Proofs.YtlglgfcdhflecaaW.PrintWords Go.Proofs.YtlglgfcdhflecaaW.PrintLast Go.Proofs.YtlglgfcdhflecaaW.PrintMore
set_option linter.unusedVariables false

theorem FR_stay (t : ByteArray) : ∀ s, (FR s).2.1 ≠ 0 → FR (s ++ t) = FR s :=
  FR_ind (fun s h _ => by rw [FR_long h, FR_long (er_append3 h)]) (fun s h h0 => by rw [FR_short h] at h0; exact absurd rfl h0)
    (fun s h ih h0 => by
      rw [FR_ok h] at h0
      have h2 : er (s ++ t) = 0 := by unfold er; rw [pf_append h]; exact h
      rw [FR_ok h2, rst_append h, ih h0, FR_ok h, pf_append h])
theorem neither {s t : ByteArray} (h1 : ¬ hasP s) (h2 : ¬ ofP s) : ¬ hasP (s ++ t) ∧ ¬ ofP (s ++ t) := by
  have hap : (s ++ t).size = s.size + t.size := ByteArray.size_append
  -- an unlike byte
  have hj : ∃ j : Nat, j < s.size ∧ j < 24 ∧ bt s j ≠ bt P24 j := by
    refine Classical.byContradiction fun hn => ?_
    have hall : ∀ j : Nat, j < s.size → j < 24 → bt s j = bt P24 j := fun j a b => Classical.byContradiction fun hne => hn ⟨j, a, b, hne⟩
    by_cases h24 : 24 ≤ s.size
    · exact h1 ((hasP_iff s).2 ⟨h24, fun j hj => hall j (by omega) hj⟩)
    · exact h2 ((ofP_iff s).2 ⟨by omega, fun j hj => hall j hj (by omega)⟩)
  obtain ⟨j, a, b, hne⟩ := hj
  constructor
  · intro h
    have := ((hasP_iff _).1 h).2 j b
    rw [bt_append a] at this
    exact hne this
  · intro h
    have := ((ofP_iff _).1 h).2 j (by omega)
    rw [bt_append a] at this
    exact hne this
theorem SP_stay (w : Bool) (s t : ByteArray) (h : (SP w s).2.1 ≠ 0) : SP w (s ++ t) = SP w s := by
  cases w with
  | false =>
    rw [SP_false] at h ⊢
    rw [SP_false, FR_stay t s h]
  | true =>
    by_cases h1 : hasP s
    · have hs24 : 24 ≤ s.size := h1.1
      rw [SP_has h1] at h ⊢
      rw [SP_has (hasP_append h1), extract_append hs24, FR_stay t _ h]
    · by_cases h2 : ofP s
      · rw [SP_of h1 h2] at h
        exact absurd rfl h
      · rw [SP_not h1 h2, SP_not (neither h1 h2).1 (neither h1 h2).2]
theorem mx0 {c : Int} (h : 0 ≤ c) : mx 0 c = c := by unfold mx; split <;> omega
theorem mx_0 {c : Int} (h : 0 ≤ c) : mx c 0 = c := by unfold mx; split <;> omega
/-- Some more bytes come, whatever came. -/
theorem add_any {k : Nat} (w : Bool) {s p : ByteArray} (hp : s.size + p.size ≤ 500000) (hk : s.size + p.size + 100 < k) :
    ∃ fs c, feed_Feed_Add.f k (SP w s).2.2.1 (SP w s).2.2.2.1 (SP w s).2.2.2.2 p = some (fs, c, (SP w (s ++ p)).2.2) ∧ (SP w (s ++ p)).1 = (SP w s).1 ++ fs ∧ mx (SP w s).2.1 c = (SP w (s ++ p)).2.1 := by
  by_cases h0 : (SP w s).2.1 = 0
  · obtain ⟨fs, h1, h2⟩ := add_f w hp h0 hk
    refine ⟨fs, (SP w (s ++ p)).2.1, ?_, h2, ?_⟩
    · rw [SP_down, h0]
      exact h1
    · rw [h0, mx0 (SP_range w _).1]
  · refine ⟨[], 0, ?_, ?_, ?_⟩
    · have hd : (SP w s).2.2.2.2 = true := by rw [SP_down]; simpa using h0
      rw [SP_stay w s p h0]
      unfold feed_Feed_Add.f
      rw [if_pos hd]
    · rw [SP_stay w s p h0, List.append_nil]
    · rw [SP_stay w s p h0, mx_0 (SP_range w s).1]
theorem add_first {k : Nat} (w : Bool) {p : ByteArray} (hp : p.size ≤ 500000) (hk : p.size + 100 < k) : feed_Feed_Add.f k E0 w false p = some ((SP w p).1, (SP w p).2) := by
  have hE := SP_empty w
  obtain ⟨fs, h1, h2⟩ := add_f (k := k) w (s := E0) (p := p) (by show 0 + p.size ≤ 500000; omega) (by rw [hE]) (by show 0 + p.size + 100 < k; omega)
  rw [hE, empty_append] at h1 h2
  rw [List.nil_append] at h2
  rw [h2]
  exact h1
theorem ext_join (s : ByteArray) (a b : Nat) (h : a ≤ b) : s.extract 0 a ++ s.extract a b = s.extract 0 b := by
  apply bytesOf_inj
  rw [bytesOf_append, bytesOf_extract, bytesOf_extract, bytesOf_extract, List.drop_zero, Nat.sub_zero, Nat.sub_zero]
  obtain ⟨d, rfl⟩ : ∃ d, b = a + d := ⟨b - a, by omega⟩
  rw [show a + d - a = d by omega, List.take_add]
theorem ext_size {s : ByteArray} {a b : Nat} (h : b ≤ s.size) : (s.extract a b).size = b - a := by
  rw [size_bytesOf, bytesOf_extract, List.length_take, List.length_drop, bytesOf_length]; omega
theorem ext_zero (s : ByteArray) : s.extract 0 0 = E0 := by
  apply bytesOf_inj
  rw [bytesOf_extract]; rfl
/-- Byte by byte. -/
theorem pieces_l0 (w : Bool) (s : ByteArray) (hs : s.size ≤ 3000) {c1 c2 : Int} (hc : mx c1 c2 = (SP w s).2.1) : ∀ (d k i : Nat) (got : List S40) (third : Int), i + d = s.size → d + 10000 < k →
    got = (SP w (s.extract 0 i)).1 → third = (SP w (s.extract 0 i)).2.1 →
    nunciolaw15_FeedPieces.l0 k s (SP w s).1 (SP w s).2.1 (SP w s).1 c1 c2 got third (i : Int) (SP w s).2.2.1 (SP w s).2.2.2.1 (SP w s).2.2.2.2 (SP w s).2.2.1 (SP w s).2.2.2.1 (SP w s).2.2.2.2 (SP w (s.extract 0 i)).2.2.1 (SP w (s.extract 0 i)).2.2.2.1 (SP w (s.extract 0 i)).2.2.2.2 = some true
  | 0, k, i, got, third, hd, hk, hg, ht => by
    obtain ⟨k, rfl⟩ : ∃ m, k = m + 1 := ⟨k - 1, by omega⟩
    obtain rfl : i = s.size := by omega
    have hsz := SP_sizes w s
    rw [extract_all] at hg ht ⊢
    subst hg ht
    simp only [nunciolaw15_FeedPieces.l0]
    rw [if_neg (by omega), same_f _ (by omega) (by omega), Option.bind_some, if_pos rfl, Option.bind_some, if_pos rfl, if_pos hc, if_pos trivial]
    simp only [feed_Feed_Held.f, Option.bind_some]
    rw [if_pos trivial, beq_self_eq_true]
  | d + 1, k, i, got, third, hd, hk, hg, ht => by
    obtain ⟨k, rfl⟩ : ∃ m, k = m + 1 := ⟨k - 1, by omega⟩
    have hi : i < s.size := by omega
    have e0 : (s.extract 0 i).size = i := by rw [ext_size (by omega)]; omega
    have e1 : (s.extract i (i + 1)).size = 1 := by rw [ext_size (by omega)]; omega
    obtain ⟨fs, c, h1, h2, h3⟩ := add_any (k := k) w (s := s.extract 0 i) (p := s.extract i (i + 1)) (by omega) (by omega)
    rw [ext_join s i (i + 1) (by omega)] at h1 h2 h3
    have hsz := SP_sizes w (s.extract 0 (i + 1))
    rw [h2, List.length_append, ext_size (by omega)] at hsz
    have ew : Unit → wrap64 ((i : Int) + 1) = ((i + 1 : Nat) : Int) := fun _ => by rw [w64 (by omega) (by omega)]; rfl
    have ih := pieces_l0 w s hs hc d k (i + 1) (got ++ fs) (mx third c) (by omega) (by omega) (by rw [h2, hg]) (by rw [← h3, ht])
    simp only [nunciolaw15_FeedPieces.l0]
    rw [if_pos (by omega), if_pos (by omega), ew (), if_pos (by omega), if_pos (by omega), Int.toNat_natCast, Int.toNat_natCast, h1, Option.bind_some, if_pos (by rw [hg]; show (SP w (s.extract 0 i)).1.length + fs.length < _; omega)]
    exact ih
theorem pieces_j1 (w : Bool) (s : ByteArray) (hs : s.size ≤ 3000) (k cut : Nat) (hk : 20000 < k) (hcut : cut ≤ s.size) :
    nunciolaw15_FeedPieces.j1 k s (cut : Int) (SP w s).1 (SP w s).2.1 (SP w s).2.2.1 (SP w s).2.2.2.1 (SP w s).2.2.2.2 E0 w false E0 w false = some true := by
  obtain ⟨k, rfl⟩ : ∃ m, k = m + 1 := ⟨k - 1, by omega⟩
  have hE := SP_empty w
  have e1 : (s.extract 0 cut).size = cut := by rw [ext_size hcut]; omega
  have e2 : (s.extract cut s.size).size = s.size - cut := ext_size (Nat.le_refl _)
  have a1 := add_first (k := k) w (p := s.extract 0 cut) (by omega) (by omega)
  obtain ⟨f2, c2, b1, b2, b3⟩ := add_any (k := k) w (s := s.extract 0 cut) (p := s.extract cut s.size) (by omega) (by omega)
  rw [ext_join s cut s.size hcut, extract_all] at b1 b2 b3
  have hsz := SP_sizes w s
  rw [b2, List.length_append] at hsz
  simp only [nunciolaw15_FeedPieces.j1]
  rw [if_pos (by omega), if_pos (by omega), Int.toNat_natCast, a1, Option.bind_some]
  simp only
  rw [b1, Option.bind_some, if_pos (by show (SP w (s.extract 0 cut)).1.length + f2.length < _; omega)]
  have h := pieces_l0 w s hs (c1 := (SP w (s.extract 0 cut)).2.1) (c2 := c2) b3 s.size k 0 [] 0 (by omega) (by omega) (by rw [ext_zero, hE]) (by rw [ext_zero, hE])
  rw [ext_zero, hE] at h
  show nunciolaw15_FeedPieces.l0 k s (SP w s).1 (SP w s).2.1 ((SP w (s.extract 0 cut)).1 ++ f2) (SP w (s.extract 0 cut)).2.1 c2 [] 0 0 (SP w s).2.2.1 (SP w s).2.2.2.1 (SP w s).2.2.2.2 (SP w s).2.2.1 (SP w s).2.2.2.1 (SP w s).2.2.2.2 E0 w false = some true
  rw [← b2]
  exact h
theorem FeedPieces : nunciolaw15_FeedPieces.Pure := by
  intro w s cut _ hcut
  have hcut := b_i64 hcut
  refine ⟨40001, ?_⟩
  unfold nunciolaw15_FeedPieces.f
  rw [awake15 (by omega), Option.bind_some, if_pos rfl]
  by_cases h1 : (s.size : Int) > 3000
  · rw [if_pos h1]
  rw [if_neg h1]
  have hE := SP_empty w
  have a1 := add_first (k := 40001) w (p := s) (by omega) (by omega)
  simp only [feed_New.f, Option.bind_some]
  rw [show (⟨#[]⟩ : ByteArray) = E0 from rfl, a1, Option.bind_some]
  simp only
  have J : ∀ (x : Int) (b : Bool), (if b = true then True else 0 ≤ x ∧ x ≤ s.size) → nunciolaw15_FeedPieces.j0 40001 s x (SP w s).1 (SP w s).2.1 b (SP w s).2.2.1 (SP w s).2.2.2.1 (SP w s).2.2.2.2 E0 w false E0 w false = some true := by
    intro x b hb
    simp only [nunciolaw15_FeedPieces.j0]
    cases b with
    | true =>
      rw [if_pos rfl, w64 (x := (s.size : Int) / 2) (by omega) (by omega), show (s.size : Int) / 2 = ((s.size / 2 : Nat) : Int) by omega]
      exact pieces_j1 w s (by omega) 40000 (s.size / 2) (by omega) (by omega)
    | false =>
      rw [if_neg (by simp)] at hb
      rw [if_neg (by simp)]
      obtain ⟨n, rfl⟩ := Int.eq_ofNat_of_zero_le hb.1
      exact pieces_j1 w s (by omega) 40000 n (by omega) (by omega)
  by_cases h2 : cut < 0
  · rw [if_pos h2]
    exact J cut true (by simp)
  · rw [if_neg h2]
    refine J cut _ ?_
    by_cases h3 : cut > (s.size : Int)
    · rw [decide_eq_true h3]; simp
    · rw [decide_eq_false h3, if_neg (by simp)]
      omega
end Go.Proofs.Ytlglgfcdhflecaa.Pure
