import Derived.Test.YtimhhacnpjcjnaaMinex25
import Derived.Test.YtimhhacnpjcjnaaMinex10
import Derived.Test.YtimhhacnpjcjnaaMinex11
import Derived.Test.YtimhhacnpjcjnaaMinex16
import Derived.Test.YtimhhacnpjcjnaaPureFrameWrong
namespace Go.Proofs.Ytimhhacnpjcjnaa.Pure
open Go.RowKit Go.Proofs.Ytimhhacnpjcjnaa.Mine Go.Proofs.YtimhhacnpjcjnaaW.PrintWords Go.Proofs.YtimhhacnpjcjnaaW.PrintLast Go.Proofs.YtimhhacnpjcjnaaW.PrintMore
set_option linter.unusedSimpArgs false
set_option linter.unusedVariables false

theorem content_ok {k : Nat} {a b c : Int} {d : ByteArray} (ha : a = 0 ∨ a = 1) (hb : 0 ≤ b ∧ b ≤ 255) (hs : d.size ≤ 40000) (hk : 9 < k) (h2 : ¬ (wr a b c d).1 = 2) : frame_Content.f (k + 1 + 1) a b c d = some (ct a b d) := by
  obtain ⟨q1, q2⟩ := wr_ok ha h2
  obtain ⟨r1, _⟩ := content_j (k := k + 1) (a := a) (c := c) hb hs q1 q2
  unfold frame_Content.f
  rw [wrong_f hb hs hk, Option.bind_some, if_neg h2]
  rcases ha with h | h
  · rw [if_pos h]; exact r1
  · rw [if_neg (by omega), show (a != 1) = false by simp [h]]; exact r1
/-- A padded payload: how many zeros are behind it, what stands ahead of it, itself, zeros. -/
theorem padded_is {a b c p : Int} {h : List Int} {d x : ByteArray} (ha : a = 0 ∨ a = 1) (hp : 0 ≤ p ∧ p ≤ 255) (hc : ¬ c = 0) (h8 : b / 8 % 2 = 1) (hd : bytesOf d = p :: h ++ bytesOf x ++ List.replicate p.toNat 0) (hl : ((p :: h).length : Int) = ex a b)
    (h32 : a = 1 → b / 32 % 2 = 1 → ¬ num31 d (ex 1 b - 5) = c) : wr a b c d = (0, 0) ∧ ct a b d = x := by
  have hsz := size_bytesOf d
  have hxs := size_bytesOf x
  have h0 : bt d 0 = p := by rw [bt_eq, hd]; rfl
  have hlen : (bytesOf d).length = (p :: h).length + (bytesOf x).length + p.toNat := by rw [hd, List.length_append, List.length_append, List.length_replicate]
  have hr := ex_range a b
  have hpd : pd a b c d = (0, 0) := by
    unfold pd
    rw [if_neg (by omega), h0, if_neg (fun hh => by omega)]
    rcases ha with rfl | rfl
    · rw [if_neg (fun hh => absurd hh.1 (by decide))]
    · rw [if_neg (fun hh => h32 rfl hh.2.1 hh.2.2)]
  constructor
  · unfold wr
    rcases ha with rfl | rfl
    · rw [if_pos rfl, if_neg hc, hpd]
    · rw [if_neg (by decide), if_pos rfl, if_neg hc, hpd]
  · unfold ct
    rw [if_pos h8, h0]
    apply bytesOf_inj
    have e1 : (ex a b).toNat = (p :: h).length := by omega
    have e2 : ((d.size : Int) - p).toNat - (p :: h).length = (bytesOf x).length := by omega
    rw [bytesOf_extract, hd, e1, List.append_assoc, List.drop_left, e2, List.take_left]
theorem zeros_bytes (n : Nat) : Bytes (List.replicate n 0) := fun x hx => by rw [List.eq_of_mem_replicate hx]; omega
theorem ex_0_8 : ex 0 8 = 1 := by decide
theorem ex_1_8 : ex 1 8 = 1 := by decide
theorem ex_1_40 : ex 1 40 = 6 := by decide
theorem pads_short {k : Nat} {a c p : Int} {x : ByteArray} (ha : a = 0 ∨ a = 1) (hp : 0 ≤ p ∧ p ≤ 255) (hc : ¬ c = 0) (hx : x.size ≤ 10000) (hk : 9 < k) :
    frame_Wrong.f (k + 1 + 1) a 8 c (((strOfNums [p]) ++ x) ++ strOfNums (List.replicate p.toNat 0)) = some (0, 0) ∧ frame_Content.f (k + 1 + 1) a 8 c (((strOfNums [p]) ++ x) ++ strOfNums (List.replicate p.toNat 0)) = some x := by
  have hb : bytesOf (((strOfNums [p]) ++ x) ++ strOfNums (List.replicate p.toNat 0)) = p :: [] ++ bytesOf x ++ List.replicate p.toNat 0 := by
    rw [bytesOf_append, bytesOf_append, bytesOf_str (Bytes.cons hp.1 (by omega) Bytes.nil), bytesOf_str (zeros_bytes _)]
  have hs : (((strOfNums [p]) ++ x) ++ strOfNums (List.replicate p.toNat 0)).size ≤ 40000 := by
    rw [ByteArray.size_append, ByteArray.size_append, strOfNums_size, strOfNums_size, List.length_replicate]; simp only [List.length_singleton]; omega
  have he : (([p] : List Int).length : Int) = ex a 8 := by
    rcases ha with rfl | rfl
    · rw [ex_0_8]; rfl
    · rw [ex_1_8]; rfl
  obtain ⟨q1, q2⟩ := padded_is (b := 8) (h := []) ha hp hc (by decide) hb he (fun _ h => absurd h (by decide))
  refine ⟨by rw [wrong_f (by omega) hs hk, q1], ?_⟩
  rw [content_ok ha (by omega) hs hk (by rw [q1]; decide), q2]
theorem pads_long {k : Nat} {c p m : Int} {x : ByteArray} (hp : 0 ≤ p ∧ p ≤ 255) (hm : 0 ≤ m ∧ m ≤ 4294967295) (hc : ¬ c = 0) (hmc : ¬ m % 2147483648 = c) (hx : x.size ≤ 10000) (hk : 9 < k) :
    frame_Wrong.f (k + 1 + 1) 1 40 c (((((strOfNums [p]) ++ strOfNums (be m 4)) ++ (⟨#[7]⟩ : ByteArray)) ++ x) ++ strOfNums (List.replicate p.toNat 0)) = some (0, 0) ∧ frame_Content.f (k + 1 + 1) 1 40 c (((((strOfNums [p]) ++ strOfNums (be m 4)) ++ (⟨#[7]⟩ : ByteArray)) ++ x) ++ strOfNums (List.replicate p.toNat 0)) = some x := by
  have hb : bytesOf (((((strOfNums [p]) ++ strOfNums (be m 4)) ++ (⟨#[7]⟩ : ByteArray)) ++ x) ++ strOfNums (List.replicate p.toNat 0)) = p :: (be m 4 ++ [7]) ++ bytesOf x ++ List.replicate p.toNat 0 := by
    rw [bytesOf_append, bytesOf_append, bytesOf_append, bytesOf_append, bytesOf_str (Bytes.cons hp.1 (by omega) Bytes.nil), bytesOf_str (zeros_bytes _), bytesOf_str (be_bytes m 4), show bytesOf (⟨#[7]⟩ : ByteArray) = [7] from rfl]
    simp
  have hs : (((((strOfNums [p]) ++ strOfNums (be m 4)) ++ (⟨#[7]⟩ : ByteArray)) ++ x) ++ strOfNums (List.replicate p.toNat 0)).size ≤ 40000 := by
    rw [size_bytesOf, hb, List.length_append, List.length_append, List.length_cons, List.length_append, be_length, List.length_replicate, ← size_bytesOf]
    simp only [List.length_singleton]; omega
  have hl : ((p :: (be m 4 ++ [7])).length : Int) = ex 1 40 := by rw [List.length_cons, List.length_append, be_length]; decide
  have hn : num31 (((((strOfNums [p]) ++ strOfNums (be m 4)) ++ (⟨#[7]⟩ : ByteArray)) ++ x) ++ strOfNums (List.replicate p.toNat 0)) (ex 1 40 - 5) = m % 2147483648 := by
    unfold num31
    rw [ex_1_40, hb]
    show beVal 0 ((be m 4 ++ [7] ++ bytesOf x ++ List.replicate p.toNat 0).take 4) % 2147483648 = _
    rw [List.append_assoc, List.append_assoc, List.take_append_of_le_length (by rw [be_length]; omega), List.take_of_length_le (by rw [be_length]; omega), beVal_be, show (256 : Int) ^ 4 = 4294967296 by decide]
    omega
  obtain ⟨q1, q2⟩ := padded_is (b := 40) (.inr rfl) hp hc (by decide) hb hl (fun _ _ => by rw [hn]; exact hmc)
  refine ⟨by rw [wrong_f (by omega) hs hk, q1], ?_⟩
  rw [content_ok (.inr rfl) (by omega) hs hk (by rw [q1]; decide), q2]
theorem rfour {k : Nat} {b : Int} (h0 : 0 ≤ b) (h1 : b < 4294967296) (hk : 8 < k) : nuncioref01_Put.f k (⟨#[]⟩ : ByteArray) (IntKind.u64.wrap b) 4 = some (strOfNums (be b 4)) := by
  have := rput_f (k := k) (s := (⟨#[]⟩ : ByteArray)) (n := b) 4 h0 (by omega) (by decide) (by omega) hk
  rw [wu64_id h0 (by omega)]
  have e0 : (⟨#[]⟩ : ByteArray) ++ strOfNums (be b 4) = strOfNums (be b 4) := by
    apply bytesOf_inj; rw [bytesOf_append, bytesOf_empty, List.nil_append]
  rw [e0] at this; exact this
theorem pads_j0 {k : Nat} {c p m : Int} {x : ByteArray} {r : Bool} (hp : 0 ≤ p ∧ p ≤ 255) (hm : 0 ≤ m ∧ m ≤ 4294967295) (hc : ¬ c = 0) (hmc : ¬ m % 2147483648 = c) (hx : x.size ≤ 10000) (hk : 9 < k) :
    nunciolaw14_FramePads.j0 (k + 1 + 1 + 1) c x p r m false = some true := by
  obtain ⟨w1, c1⟩ := pads_short (a := 1) (.inr rfl) hp hc hx hk
  obtain ⟨_, c0⟩ := pads_short (a := 0) (.inl rfl) hp hc hx hk
  obtain ⟨w4, c4⟩ := pads_long hp hm hc hmc hx hk
  have z1 : (strOfNums [p]).size = 1 := by rw [strOfNums_size]; rfl
  have z4 : (strOfNums (be m 4)).size = 4 := by rw [strOfNums_size, be_length]
  have zp : (strOfNums (List.replicate p.toNat 0)).size = p.toNat := by rw [strOfNums_size, List.length_replicate]
  simp only [nunciolaw14_FramePads.j0]
  rw [if_neg (by simp), Option.bind_some]
  cases r with
  | true =>
    rw [if_pos rfl, rfour hm.1 (by omega) (by omega), Option.bind_some, if_pos (by omega), if_pos (by omega), if_pos (by omega), if_pos hp.1, if_pos (by omega), Option.bind_some, if_pos (by omega), w4, Option.bind_some, if_pos rfl, if_pos rfl, c4, Option.bind_some, if_pos rfl, Option.bind_some, if_pos (by omega), Option.bind_some,
      if_pos (by omega), c0, Option.bind_some]
    simp
  | false =>
    rw [if_neg (by simp), if_pos (by omega), if_pos hp.1, if_pos (by omega), Option.bind_some, if_pos (by omega), w1, Option.bind_some, if_pos rfl, if_pos rfl, c1, Option.bind_some, if_pos rfl, Option.bind_some, if_pos (by omega), Option.bind_some,
      if_pos (by omega), c0, Option.bind_some]
    simp
theorem FramePads : nunciolaw14_FramePads.Pure := by
  intro c x p r m hc _ hp hm
  have hc := b_u32 hc
  have hp := b_u8 hp
  have hm := b_u32 hm
  have T : ∀ c x p r m, nunciolaw14_FramePads.j0 (299 + 1 + 1 + 1) c x p r m true = some true := by
    intro c x p r m
    simp only [nunciolaw14_FramePads.j0]; rw [if_pos trivial]
  refine ⟨299 + 1 + 1 + 1, ?_⟩
  unfold nunciolaw14_FramePads.f
  rw [awake14 (by omega), Option.bind_some, if_pos rfl]
  by_cases h1 : (x.size : Int) > 10000
  · rw [if_pos h1]; exact T _ _ _ _ _
  by_cases h2 : c = 0
  · rw [if_neg h1, if_pos h2]; exact T _ _ _ _ _
  by_cases h3 : c > 2147483647
  · rw [if_neg h1, if_neg h2, if_pos h3]; exact T _ _ _ _ _
  rw [if_neg h1, if_neg h2, if_neg h3, tmod_pos _ hm.1]
  by_cases h4 : m % 2147483648 = c
  · rw [show (m % 2147483648 == c) = true by simpa using h4]; exact T _ _ _ _ _
  · rw [show (m % 2147483648 == c) = false by simpa using h4]; exact pads_j0 hp hm h2 h4 (by omega) (by omega)
end Go.Proofs.Ytimhhacnpjcjnaa.Pure
