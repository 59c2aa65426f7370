import Derived.Test.YtimhhacnpjcjnaaMinex23
import Derived.Test.YtimhhacnpjcjnaaMinex10
import Derived.Test.YtimhhacnpjcjnaaMinex7
import Derived.Test.YtimhhacnpjcjnaaMinex6
import Derived.Test.YtimhhacnpjcjnaaMinex9
import Derived.Test.YtimhhacnpjcjnaaMinex8
import Derived.Test.YtimhhacnpjcjnaaMinex11
import Derived.Test.YtimhhacnpjcjnaaMinex21
import Derived.Test.YtimhhacnpjcjnaaMinex20
import Derived.Test.YtimhhacnpjcjnaaMinex18
import Derived.Test.YtimhhacnpjcjnaaMinex19
import Derived.Test.YtimhhacnpjcjnaaMinex22
import Derived.Test.YtimhhacnpjcjnaaMinex14
import Derived.Test.YtimhhacnpjcjnaaPureFrameParses
namespace Go.Proofs.Ytimhhacnpjcjnaa.Pure
open Go.RowKit Go.Proofs.Ytimhhacnpjcjnaa.Mine Go.Proofs.YtimhhacnpjcjnaaW.PrintWords Go.Proofs.YtimhhacnpjcjnaaW.PrintLast Go.Proofs.YtimhhacnpjcjnaaW.PrintMore

theorem and_pow (b : Int) (j : Nat) (h0 : 0 ≤ b) (h1 : b ≤ 255) (hj : j < 8) : (Go.bits .and .u8 b (2 ^ j) = 0) ↔ ¬ (b / 2 ^ j % 2 = 1) := by
  obtain ⟨n, rfl⟩ : ∃ n : Nat, b = (n : Int) := ⟨b.toNat, by omega⟩
  have hn : n < 256 := by omega
  have h : ∀ m : Fin 256, ∀ i : Fin 8, (Go.bits .and .u8 ((m.val : Nat) : Int) (2 ^ i.val) = 0) ↔ ¬ (((m.val : Nat) : Int) / 2 ^ i.val % 2 = 1) := by decide +kernel
  exact h ⟨n, hn⟩ ⟨j, hj⟩
theorem flag_f {a b c : Int} {d : ByteArray} (m : Int) (hm : 0 < m) (h0 : 0 ≤ b) (h1 : b ≤ 255) : nuncioref14_flag.f a b c d m = some (decide (b / m % 2 = 1)) := by
  have hd : 0 ≤ b / m := Int.ediv_nonneg h0 (by omega)
  have hd2 : b / m ≤ b := Int.ediv_le_self _ h0
  unfold nuncioref14_flag.f
  rw [if_neg (by omega), w64 (x := b) (by omega) (by omega), tdiv_pos m h0, w64 (x := b / m) (by omega) (by omega), tmod_pos 2 hd]
  rfl
/-- The number at a place, without its highest bit. -/
def num31 (d : ByteArray) (at_ : Int) : Int := beVal 0 (((bytesOf d).drop at_.toNat).take 4) % 2147483648
theorem four_range {d : ByteArray} {at_ : Int} (h0 : 0 ≤ at_) (h2 : at_ + 4 ≤ d.size) : 0 ≤ beVal 0 (((bytesOf d).drop at_.toNat).take 4) ∧ beVal 0 (((bytesOf d).drop at_.toNat).take 4) < 4294967296 := by
  have hl := size_bytesOf d
  have b4 := beVal_range (((bytesOf_bytes d).drop at_.toNat).take 4)
  rw [show (((bytesOf d).drop at_.toNat).take 4).length = 4 by rw [List.length_take, List.length_drop]; omega, show (256 : Int) ^ 4 = 4294967296 by decide] at b4
  exact b4
theorem number_f {k : Nat} {d : ByteArray} {at_ : Int} (hs : d.size ≤ 40000) (h0 : 0 ≤ at_) (h2 : at_ + 4 ≤ d.size) (hk : 9 < k) : frame_number.f k d at_ = some (num31 d at_) := by
  have b4 := four_range h0 h2
  unfold frame_number.f
  rw [get_yes (by omega) h0 (by omega) (by omega) h2 hk, Option.bind_some]
  show some (Go.bits .and .u32 (beVal 0 (((bytesOf d).drop at_.toNat).take 4) % 4294967296) 2147483647) = _
  rw [and31 b4.1 b4.2]
  rfl
theorem rget_f {k : Nat} {d : ByteArray} {at_ : Int} (hs : d.size ≤ 40000) (h0 : 0 ≤ at_) (h2 : at_ + 4 ≤ d.size) (hk : 9 < k) : nuncioref14_get.f k d at_ 4 = some (beVal 0 (((bytesOf d).drop at_.toNat).take 4)) := by
  have b4 := four_range h0 h2
  unfold nuncioref14_get.f
  rw [rget_yes (by omega) h0 (by omega) (by omega) h2 hk, Option.bind_some]
  show some (wrap64 (beVal 0 (((bytesOf d).drop at_.toNat).take 4))) = _
  rw [w64 (by omega) (by omega)]
theorem self_f {k : Nat} {a b c : Int} {d : ByteArray} {at_ : Int} (hs : d.size ≤ 40000) (h0 : 0 ≤ at_) (h2 : at_ + 4 ≤ d.size) (hk : 9 < k) : nuncioref14_self.f k a b c d at_ = some (num31 d at_ == c) := by
  have b4 := four_range h0 h2
  unfold nuncioref14_self.f
  rw [rget_f hs h0 h2 hk, Option.bind_some, tmod_pos _ b4.1, Int.emod_eq_of_lt (b := 4294967296) (by omega) (by omega)]
  rfl
theorem byte_range {d : ByteArray} (h : 0 < d.size) : 0 ≤ bt d 0 ∧ bt d 0 < 256 := by
  have hl := size_bytesOf d
  rw [bt_eq, show (0 : Int) = ((0 : Nat) : Int) from rfl, rd_nat (by omega)]
  exact bytesOf_bytes d _ (List.getElem_mem _)
/-- How many bytes stand ahead of the content. -/
def ex (a b : Int) : Int := (if b / 8 % 2 = 1 then 1 else 0) + (if a = 1 then (if b / 32 % 2 = 1 then 5 else 0) else 0)
theorem and8 {b : Int} (hb : 0 ≤ b ∧ b ≤ 255) : (Go.bits .and .u8 b 8 = 0) ↔ ¬ (b / 8 % 2 = 1) := and_pow b 3 hb.1 hb.2 (by omega)
theorem and32 {b : Int} (hb : 0 ≤ b ∧ b ≤ 255) : (Go.bits .and .u8 b 32 = 0) ↔ ¬ (b / 32 % 2 = 1) := and_pow b 5 hb.1 hb.2 (by omega)
theorem and1 {b : Int} (hb : 0 ≤ b ∧ b ≤ 255) : (Go.bits .and .u8 b 1 = 0) ↔ ¬ (b % 2 = 1) := by
  have h := and_pow b 0 hb.1 hb.2 (by omega)
  rw [Int.pow_zero, Int.ediv_one] at h
  exact h
theorem extra_f {a b c : Int} {d : ByteArray} (hb : 0 ≤ b ∧ b ≤ 255) : frame_extra.f a b c d = some (ex a b) := by
  unfold frame_extra.f ex
  by_cases h8 : b / 8 % 2 = 1 <;> by_cases h32 : b / 32 % 2 = 1 <;> by_cases h1 : a = 1 <;> simp [and8 hb, and32 hb, h8, h32, h1]
theorem ahead_f {a b c : Int} {d : ByteArray} (hb : 0 ≤ b ∧ b ≤ 255) : nuncioref14_ahead.f a b c d = some (ex a b) := by
  unfold nuncioref14_ahead.f ex
  rw [flag_f 8 (by omega) hb.1 hb.2, flag_f 32 (by omega) hb.1 hb.2]
  by_cases h8 : b / 8 % 2 = 1 <;> by_cases h32 : b / 32 % 2 = 1 <;> by_cases h1 : a = 1 <;> simp [h8, h32, h1]
theorem ex_range (a b : Int) : 0 ≤ ex a b ∧ ex a b ≤ 6 := by unfold ex; split <;> split <;> (try split) <;> omega
/-- What is wrong with the padding and the priority. -/
def pd (a b c : Int) (d : ByteArray) : Int × Int :=
  if (d.size : Int) < ex a b then (2, 6)
  else if b / 8 % 2 = 1 ∧ (d.size : Int) - ex a b < bt d 0 then (2, 1)
  else if a = 1 ∧ b / 32 % 2 = 1 ∧ num31 d (ex a b - 5) = c then (1, 1) else (0, 0)
theorem ex8 {a b : Int} (h : b / 8 % 2 = 1) : 1 ≤ ex a b := by unfold ex; rw [if_pos h]; split <;> (try split) <;> omega
theorem ex32 {b : Int} (h : b / 32 % 2 = 1) : 5 ≤ ex 1 b := by unfold ex; rw [if_pos h]; split <;> simp
theorem padded_j {k : Nat} {a b c : Int} {d : ByteArray} {q : Bool} (hb : 0 ≤ b ∧ b ≤ 255) (hs : d.size ≤ 40000) (hk : 9 < k) (hx : ex a b ≤ d.size) (hq : q = true ↔ b / 8 % 2 = 1 ∧ (d.size : Int) - ex a b < bt d 0) :
    frame_padded.j0 (k + 1) (ex a b) q a b c d = some (pd a b c d) := by
  have hr := ex_range a b
  simp only [frame_padded.j0, pd]
  rw [if_neg (show ¬ (d.size : Int) < ex a b by omega)]
  by_cases h : q = true
  · rw [if_pos h, if_pos (hq.1 h)]
  rw [if_neg h, if_neg (fun h_ => h (hq.2 h_))]
  by_cases h1 : a = 1
  · subst h1
    by_cases h32 : b / 32 % 2 = 1
    · have h5 := ex32 h32
      rw [if_pos rfl, if_neg (by rw [and32 hb]; simp [h32]), w64 (by omega) (by omega), number_f hs (by omega) (by omega) hk, Option.bind_some]
      by_cases hn : num31 d (ex 1 b - 5) = c
      · rw [if_pos hn, if_pos ⟨by rfl, h32, hn⟩]
      · rw [if_neg hn, if_neg (fun h_ => hn h_.2.2)]
    · rw [if_pos rfl, if_pos (by rw [and32 hb]; exact h32), if_neg (fun h_ => h32 h_.2.1)]
  · rw [if_neg h1, if_neg (fun h_ => h1 h_.1)]
theorem padded_f {k : Nat} {a b c : Int} {d : ByteArray} (hb : 0 ≤ b ∧ b ≤ 255) (hs : d.size ≤ 40000) (hk : 9 < k) : frame_padded.f (k + 1) a b c d = some (pd a b c d) := by
  have hr := ex_range a b
  unfold frame_padded.f
  rw [extra_f hb, Option.bind_some]
  by_cases hx : (d.size : Int) < ex a b
  · rw [if_pos hx, pd, if_pos hx]
  rw [if_neg hx]
  by_cases h8 : b / 8 % 2 = 1
  · have h1 := ex8 (a := a) h8
    have hbr := byte_range (d := d) (by omega)
    rw [if_neg (by rw [and8 hb]; simp [h8]), if_pos (by omega), w64 (x := bt d 0) (by omega) (by omega), w64 (x := (d.size : Int) - ex a b) (by omega) (by omega)]
    exact padded_j hb hs hk (by omega) (by rw [decide_eq_true_iff]; exact ⟨fun h => ⟨h8, h⟩, fun h => h.2⟩)
  · rw [if_pos (by rw [and8 hb]; exact h8)]
    exact padded_j hb hs hk (by omega) (by simp [h8])
theorem headers_j {k : Nat} {b c : Int} {d : ByteArray} {q : Bool} (hb : 0 ≤ b ∧ b ≤ 255) (hs : d.size ≤ 40000) (hk : 9 < k) (hx : ex 1 b ≤ d.size) (hq : q = true ↔ b / 8 % 2 = 1 ∧ (d.size : Int) - ex 1 b < bt d 0) :
    nuncioref14_headers.j0 (k + 1) (ex 1 b) q 1 b c d = some (pd 1 b c d) := by
  have hr := ex_range 1 b
  simp only [nuncioref14_headers.j0, pd]
  rw [if_neg (show ¬ (d.size : Int) < ex 1 b by omega)]
  by_cases h : q = true
  · rw [if_pos h, if_pos (hq.1 h)]
  rw [if_neg h, if_neg (fun h_ => h (hq.2 h_)), flag_f 32 (by omega) hb.1 hb.2, Option.bind_some]
  by_cases h32 : b / 32 % 2 = 1
  · have h5 := ex32 h32
    rw [if_pos (decide_eq_true h32), w64 (by omega) (by omega), self_f hs (by omega) (by omega) hk, Option.bind_some]
    by_cases hn : num31 d (ex 1 b - 5) = c
    · rw [if_pos (by simp [hn]), if_pos ⟨trivial, h32, hn⟩]
    · rw [if_neg (by simp [hn]), if_neg (fun h_ => hn h_.2.2)]
  · rw [if_neg (by simp [h32]), if_neg (fun h_ => h32 h_.2.1)]
theorem headers_f {k : Nat} {b c : Int} {d : ByteArray} (hb : 0 ≤ b ∧ b ≤ 255) (hs : d.size ≤ 40000) (hk : 9 < k) : nuncioref14_headers.f (k + 1) 1 b c d = some (if c = 0 then (2, 1) else pd 1 b c d) := by
  have hr := ex_range 1 b
  unfold nuncioref14_headers.f
  by_cases hc : c = 0
  · rw [if_pos hc, if_pos hc]
  rw [if_neg hc, if_neg hc, ahead_f hb, Option.bind_some]
  by_cases hx : (d.size : Int) < ex 1 b
  · rw [if_pos hx, pd, if_pos hx]
  rw [if_neg hx, flag_f 8 (by omega) hb.1 hb.2, Option.bind_some]
  by_cases h8 : b / 8 % 2 = 1
  · have h1 := ex8 (a := 1) h8
    have hbr := byte_range (d := d) (by omega)
    rw [if_pos (decide_eq_true h8), if_pos (by omega), w64 (x := bt d 0) (by omega) (by omega), w64 (x := (d.size : Int) - ex 1 b) (by omega) (by omega)]
    exact headers_j hb hs hk (by omega) (by rw [decide_eq_true_iff]; exact ⟨fun h => ⟨h8, h⟩, fun h => h.2⟩)
  · rw [if_neg (by simp [h8])]
    exact headers_j hb hs hk (by omega) (by simp [h8])
def sz4 (b : Int) (d : ByteArray) : Int × Int := if (b % 2 = 1 ∧ 0 < (d.size : Int)) ∨ ¬ (d.size : Int) % 6 = 0 then (2, 6) else (0, 0)
theorem sz4_or (b : Int) (d : ByteArray) : sz4 b d = (2, 6) ∨ sz4 b d = (0, 0) := by unfold sz4; split <;> simp
/-- What is wrong with a frame. -/
def wr (a b c : Int) (d : ByteArray) : Int × Int :=
  if a = 0 then (if c = 0 then (2, 1) else pd 0 b c d)
  else if a = 1 then (if c = 0 then (2, 1) else pd 1 b c d)
  else if a = 2 then (if c = 0 then (2, 1) else if (d.size : Int) = 5 then (if num31 d 0 = c then (1, 1) else (0, 0)) else (1, 6))
  else if a = 3 then (if c = 0 then (2, 1) else if (d.size : Int) = 4 then (0, 0) else (2, 6))
  else if a = 4 then (if c = 0 then (sz4 b d) else (2, 1))
  else if a = 5 then (2, 1)
  else if a = 6 then (if c = 0 then (if (d.size : Int) = 8 then (0, 0) else (2, 6)) else (2, 1))
  else if a = 7 then (if c = 0 then (if (d.size : Int) < 8 then (2, 6) else (0, 0)) else (2, 1))
  else if a = 8 then (if (d.size : Int) = 4 then (if num31 d 0 = 0 then (if c = 0 then (2, 1) else (1, 1)) else (0, 0)) else (2, 6))
  else if a = 9 then (if c = 0 then (2, 1) else (0, 0)) else (0, 0)
theorem ten {a : Int} : a = 0 ∨ a = 1 ∨ a = 2 ∨ a = 3 ∨ a = 4 ∨ a = 5 ∨ a = 6 ∨ a = 7 ∨ a = 8 ∨ a = 9 ∨ (¬ a = 0 ∧ ¬ a = 1 ∧ ¬ a = 2 ∧ ¬ a = 3 ∧ ¬ a = 4 ∧ ¬ a = 5 ∧ ¬ a = 6 ∧ ¬ a = 7 ∧ ¬ a = 8 ∧ ¬ a = 9) := by omega
theorem place_f {k : Nat} {a b c : Int} {d : ByteArray} : frame_place.f (k + 1) a b c d =
    some (if a = 0 ∨ a = 1 ∨ a = 2 ∨ a = 3 ∨ a = 9 then c != 0 else if a = 4 ∨ a = 6 ∨ a = 7 then c == 0 else a != 5) := by
  rcases ten (a := a) with h | h | h | h | h | h | h | h | h | h | ⟨h0, h1, h2, h3, h4, h5, h6, h7, h8, h9⟩ <;> (try subst h) <;> simp [frame_place.f, frame_place.j0, *]
theorem size_f {k : Nat} {a b c : Int} {d : ByteArray} (hb : 0 ≤ b ∧ b ≤ 255) : frame_size.f (k + 1) a b c d =
    some (if a = 2 then (if (d.size : Int) = 5 then (0, 0) else (1, 6)) else if a = 3 ∨ a = 8 then (if (d.size : Int) = 4 then (0, 0) else (2, 6))
      else if a = 4 then (sz4 b d) else if a = 6 then (if (d.size : Int) = 8 then (0, 0) else (2, 6))
      else if a = 7 then (if (d.size : Int) < 8 then (2, 6) else (0, 0)) else (0, 0)) := by
  have h1 := and1 hb
  have ht := tmod_pos 6 (Int.natCast_nonneg d.size)
  by_cases ha : a = 4
  · subst ha
    simp only [frame_size.f, frame_size.j0]
    rw [ht]
    simp only [Int.reduceEq, if_false, if_true, or_self, Int.reduceBEq, Bool.false_eq_true]
    unfold sz4
    by_cases p1 : b % 2 = 1
    · rw [if_neg (by rw [h1]; simp [p1])]
      by_cases pz : (d.size : Int) > 0
      · rw [if_pos pz, if_pos (by omega)]
      · rw [if_neg pz]
        by_cases p6 : (d.size : Int) % 6 = 0
        · rw [if_pos p6, if_neg (by omega)]
        · rw [if_neg p6, if_pos (by omega)]
    · rw [if_pos (by rw [h1]; exact p1)]
      by_cases p6 : (d.size : Int) % 6 = 0
      · rw [if_pos p6, if_neg (by omega)]
      · rw [if_neg p6, if_pos (by omega)]
  by_cases ha2 : a = 2
  · subst ha2
    simp only [frame_size.f]; by_cases h : (d.size : Int) = 5 <;> simp [h]
  by_cases ha3 : a = 3
  · subst ha3
    simp only [frame_size.f, frame_size.j0]; by_cases h : (d.size : Int) = 4 <;> simp [h]
  by_cases ha8 : a = 8
  · subst ha8
    simp only [frame_size.f, frame_size.j0]; by_cases h : (d.size : Int) = 4 <;> simp [h]
  by_cases ha6 : a = 6
  · subst ha6
    simp only [frame_size.f, frame_size.j0]; by_cases h : (d.size : Int) = 8 <;> simp [h]
  by_cases ha7 : a = 7
  · subst ha7
    simp only [frame_size.f, frame_size.j0]; by_cases h : (d.size : Int) < 8 <;> simp [h]
  · simp [frame_size.f, frame_size.j0, ha, ha2, ha3, ha8, ha6, ha7]
theorem wrong_f {k : Nat} {a b c : Int} {d : ByteArray} (hb : 0 ≤ b ∧ b ≤ 255) (hs : d.size ≤ 40000) (hk : 9 < k) : frame_Wrong.f (k + 1 + 1) a b c d = some (wr a b c d) := by
  unfold frame_Wrong.f
  rw [place_f, Option.bind_some, size_f hb, wr]
  rcases ten (a := a) with h | h | h | h | h | h | h | h | h | h | ⟨h0, h1, h2, h3, h4, h5, h6, h7, h8, h9⟩
  · subst h
    by_cases hc : c = 0 <;> simp [hc, frame_Wrong.j0, padded_f hb hs hk]
  · subst h
    by_cases hc : c = 0 <;> simp [hc, frame_Wrong.j0, padded_f hb hs hk]
  · subst h
    by_cases hc : c = 0
    · simp [hc]
    by_cases h5 : (d.size : Int) = 5
    · have := number_f (k := k + 1) (d := d) (at_ := 0) hs (by omega) (by omega) (by omega)
      by_cases hn : num31 d 0 = c <;> simp [hc, h5, frame_Wrong.j0, this, hn]
    · simp [hc, h5]
  · subst h
    by_cases hc : c = 0 <;> by_cases h4 : (d.size : Int) = 4 <;> simp [hc, h4, frame_Wrong.j0]
  · subst h
    by_cases hc : c = 0
    · subst hc
      rcases sz4_or b d with h | h <;> simp [h, frame_Wrong.j0]
    · simp [hc]
  · subst h
    simp
  · subst h
    by_cases hc : c = 0 <;> by_cases h4 : (d.size : Int) = 8 <;> simp [hc, h4, frame_Wrong.j0]
  · subst h
    by_cases hc : c = 0 <;> by_cases h4 : (d.size : Int) < 8 <;> simp [hc, h4, frame_Wrong.j0]
  · subst h
    by_cases h4 : (d.size : Int) = 4
    · have := number_f (k := k + 1) (d := d) (at_ := 0) hs (by omega) (by omega) (by omega)
      by_cases hn : num31 d 0 = 0 <;> by_cases hc : c = 0 <;> simp [hc, h4, frame_Wrong.j0, this, hn]
    · simp [h4]
  · subst h
    by_cases hc : c = 0 <;> simp [hc, frame_Wrong.j0]
  · simp [h0, h1, h2, h3, h4, h5, h6, h7, h8, h9, frame_Wrong.j0]
theorem rwrong_f {k : Nat} {a b c : Int} {d : ByteArray} (hb : 0 ≤ b ∧ b ≤ 255) (hs : d.size ≤ 40000) (hk : 9 < k) : nuncioref14_Wrong.f (k + 1 + 1) a b c d = some (wr a b c d) := by
  unfold nuncioref14_Wrong.f
  rw [wr]
  by_cases h0 : a = 0
  · subst h0
    rw [if_pos rfl, if_pos rfl]
    by_cases hc : c = 0
    · rw [if_pos hc, if_pos hc]
    rw [if_neg hc, if_neg hc, flag_f 8 (by omega) hb.1 hb.2, Option.bind_some, pd]
    by_cases h8 : b / 8 % 2 = 1
    · have e : ex 0 b = 1 := by simp [ex, h8]
      rw [if_pos (decide_eq_true h8), e]
      by_cases hz : (d.size : Int) = 0
      · simp [nuncioref14_Wrong.j0, hz]
      · have hbr := byte_range (d := d) (by omega)
        have hw : wrap64 (bt d 0) = bt d 0 := w64 (by omega) (by omega)
        simp only [nuncioref14_Wrong.j0]
        rw [if_neg (by simpa using hz), flag_f 8 (by omega) hb.1 hb.2, Option.bind_some, if_pos (decide_eq_true h8), if_pos (by omega), hw, if_neg (show ¬ (d.size : Int) < 1 by omega)]
        by_cases hg : bt d 0 ≥ (d.size : Int)
        · rw [if_pos hg, if_pos ⟨h8, by omega⟩]
        · rw [if_neg hg, if_neg (fun h_ => hg (by omega)), if_neg (by simp)]
    · have e : ex 0 b = 0 := by simp [ex, h8]
      simp only [nuncioref14_Wrong.j0]
      rw [if_neg (by simp [h8]), e, flag_f 8 (by omega) hb.1 hb.2, if_neg (by simp), Option.bind_some, if_neg (by simp [h8]), if_neg (by omega), if_neg (fun h_ => h8 h_.1), if_neg (by simp)]
  rw [if_neg h0, if_neg h0]
  by_cases h1 : a = 1
  · subst h1
    rw [if_pos rfl, if_pos rfl, headers_f (k := k + 1) hb hs (by omega)]
    rfl
  rw [if_neg h1, if_neg h1]
  by_cases h2 : a = 2
  · subst h2
    rw [if_pos rfl, if_pos rfl]
    by_cases hc : c = 0
    · rw [if_pos hc, if_pos hc]
    rw [if_neg hc, if_neg hc]
    by_cases h5 : (d.size : Int) = 5
    · rw [if_pos h5, if_pos h5, self_f hs (by omega) (by omega) (by omega), Option.bind_some]
      by_cases hn : num31 d 0 = c <;> simp [hn]
    · rw [if_neg h5, if_neg h5]
  rw [if_neg h2, if_neg h2]
  by_cases h3 : a = 3
  · subst h3
    by_cases hc : c = 0 <;> by_cases h4 : (d.size : Int) = 4 <;> simp [hc, h4]
  rw [if_neg h3, if_neg h3]
  by_cases h4 : a = 4
  · subst h4
    rw [if_pos rfl, if_pos rfl, flag_f 1 (by omega) hb.1 hb.2, Option.bind_some, Int.ediv_one]
    by_cases hc : c = 0
    · rw [if_pos hc, if_pos hc]
      unfold sz4
      by_cases p1 : b % 2 = 1
      · rw [if_pos (decide_eq_true p1)]
        by_cases pz : (d.size : Int) = 0
        · rw [if_pos pz, if_pos (by omega), if_neg (by omega)]
        · rw [if_neg pz, if_pos (by omega)]
      · rw [if_neg (by simpa using p1)]
        by_cases p6 : (d.size : Int) % 6 = 0
        · rw [if_pos p6, if_neg (by omega)]
        · rw [if_neg p6, if_pos (by omega)]
    · rw [if_neg hc, if_neg hc]
  rw [if_neg h4, if_neg h4]
  by_cases h5 : a = 5
  · rw [if_pos h5, if_pos h5]
  rw [if_neg h5, if_neg h5]
  by_cases h6 : a = 6
  · rw [if_pos h6, if_pos h6]
    by_cases hc : c = 0 <;> by_cases hz : (d.size : Int) = 8 <;> simp [hc, hz]
  rw [if_neg h6, if_neg h6]
  by_cases h7 : a = 7
  · rw [if_pos h7, if_pos h7]
    by_cases hc : c = 0 <;> by_cases hz : (d.size : Int) < 8 <;> simp [hc, hz]
  rw [if_neg h7, if_neg h7]
  by_cases h8 : a = 8
  · rw [if_pos h8, if_pos h8]
    by_cases hz : (d.size : Int) = 4
    · have b4 := four_range (d := d) (at_ := 0) (by omega) (by omega)
      have e : num31 d 0 = beVal 0 (((bytesOf d).drop (0 : Int).toNat).take 4) % 2147483648 := rfl
      rw [if_pos hz, if_pos hz, rget_f hs (by omega) (by omega) (by omega), Option.bind_some, tmod_pos _ b4.1, ← e]
      by_cases hn : num31 d 0 = 0
      · rw [if_pos hn, if_pos hn]
        simp only [nuncioref14_Wrong.j1]
        rw [rget_f hs (by omega) (by omega) (by omega), Option.bind_some, tmod_pos _ b4.1, ← e, if_pos hn]
        by_cases hc : c = 0 <;> simp [hc]
      · rw [if_neg hn, if_neg hn]
        simp only [nuncioref14_Wrong.j1]
        rw [rget_f hs (by omega) (by omega) (by omega), Option.bind_some, tmod_pos _ b4.1, ← e, if_neg hn]
        simp
    · rw [if_neg hz, if_neg hz]
  rw [if_neg h8, if_neg h8]
  by_cases h9 : a = 9
  · rw [if_pos h9, if_pos h9]
    by_cases hc : c = 0 <;> simp [hc]
  rw [if_neg h9, if_neg h9]
def Sc (x : Int × Int) : Prop := 0 ≤ x.2 ∧ x.2 < 10
theorem sc_ite {p : Prop} [Decidable p] {x y : Int × Int} (hx : Sc x) (hy : Sc y) : Sc (if p then x else y) := by split <;> assumption
theorem sc_lit {m n : Int} (h : 0 ≤ n ∧ n < 10) : Sc (m, n) := h
theorem wr_scope (a b c : Int) (d : ByteArray) : Sc (wr a b c d) := by
  unfold wr pd sz4
  repeat (first | apply sc_ite | exact sc_lit (by omega))
theorem pd_ok {a b c : Int} {d : ByteArray} (h : ¬ (pd a b c d).1 = 2) : ex a b ≤ d.size ∧ (b / 8 % 2 = 1 → ex a b ≤ (d.size : Int) - bt d 0) := by
  unfold pd at h
  split at h
  · exact absurd rfl h
  rename_i h1
  split at h
  · exact absurd rfl h
  rename_i h2
  exact ⟨by omega, fun h8 => by have : ¬ ((d.size : Int) - ex a b < bt d 0) := fun h_ => h2 ⟨h8, h_⟩; omega⟩
theorem wr_ok {a b c : Int} {d : ByteArray} (ha : a = 0 ∨ a = 1) (h : ¬ (wr a b c d).1 = 2) : ex a b ≤ d.size ∧ (b / 8 % 2 = 1 → ex a b ≤ (d.size : Int) - bt d 0) := by
  rcases ha with rfl | rfl
  · unfold wr at h
    rw [if_pos rfl] at h
    split at h
    · exact absurd rfl h
    · exact pd_ok h
  · unfold wr at h
    rw [if_neg (by omega), if_pos rfl] at h
    split at h
    · exact absurd rfl h
    · exact pd_ok h
/-- The content. -/
def ct (a b : Int) (d : ByteArray) : ByteArray := d.extract (ex a b).toNat ((d.size : Int) - if b / 8 % 2 = 1 then bt d 0 else 0).toNat
theorem content_j {k : Nat} {a b c : Int} {d : ByteArray} (hb : 0 ≤ b ∧ b ≤ 255) (hs : d.size ≤ 40000) (h1 : ex a b ≤ d.size) (h2 : b / 8 % 2 = 1 → ex a b ≤ (d.size : Int) - bt d 0) :
    frame_Content.j0 (k + 1) false a b c d = some (ct a b d) ∧ nuncioref14_Content.j0 (k + 1) false a b c d = some (ct a b d) := by
  have hr := ex_range a b
  simp only [frame_Content.j0, nuncioref14_Content.j0, ct]
  rw [extra_f hb, ahead_f hb, flag_f 8 (by omega) hb.1 hb.2, Option.bind_some, Option.bind_some, Option.bind_some]
  by_cases h8 : b / 8 % 2 = 1
  · have hx := ex8 (a := a) h8
    have h3 := h2 h8
    have hbr := byte_range (d := d) (by omega)
    rw [w64 (x := bt d 0) (by omega) (by omega), w64 (x := (d.size : Int) - bt d 0) (by omega) (by omega), if_neg (by simp), if_neg (by rw [and8 hb]; simp [h8]), if_pos (show 0 < (d.size : Int) by omega), if_pos (show 0 ≤ ex a b by omega), if_pos (by omega), if_pos (show (d.size : Int) - bt d 0 ≤ (d.size : Int) by omega), if_pos h8,
      if_neg (by simp), if_pos (decide_eq_true h8)]
    exact ⟨rfl, rfl⟩
  · rw [if_neg (by simp), if_pos (by rw [and8 hb]; exact h8), if_pos (show 0 ≤ ex a b by omega), if_pos (by omega), if_pos (Int.le_refl _), if_neg h8, if_neg (by simp), if_neg (by simp [h8]), Int.sub_zero]
    exact ⟨rfl, rfl⟩
theorem content_same {k : Nat} {a b c : Int} {d : ByteArray} (ha : 0 ≤ a) (hb : 0 ≤ b ∧ b ≤ 255) (hs : d.size ≤ 40000) (hk : 9 < k) : ∃ r, frame_Content.f (k + 1 + 1) a b c d = some r ∧ nuncioref14_Content.f (k + 1 + 1) a b c d = some r := by
  unfold frame_Content.f nuncioref14_Content.f
  rw [wrong_f hb hs hk, rwrong_f hb hs hk, Option.bind_some, Option.bind_some]
  by_cases h2 : (wr a b c d).1 = 2
  · rw [if_pos h2]
    refine ⟨d, ?_, ?_⟩
    · simp only [frame_Content.j0]; rw [if_pos trivial]
    · simp only [nuncioref14_Content.j0]; split <;> simp [h2]
  rw [if_neg h2]
  by_cases hg : a > 1
  · rw [if_pos hg, if_neg (by omega)]
    refine ⟨d, ?_, ?_⟩
    · simp only [frame_Content.j0]; rw [if_pos (by simp; omega)]
    · simp only [nuncioref14_Content.j0]; rw [if_pos trivial]
  rw [if_neg hg, show ((wr a b c d).1 == 2) = false by simpa using h2]
  have h01 : a = 0 ∨ a = 1 := by omega
  obtain ⟨q1, q2⟩ := wr_ok h01 h2
  obtain ⟨r1, r2⟩ := content_j (k := k + 1) (a := a) (c := c) hb hs q1 q2
  refine ⟨_, ?_, r2⟩
  rcases h01 with h | h
  · rw [if_pos h]; exact r1
  · rw [if_neg (by omega), show (a != 1) = false by simp [h]]; exact r1
theorem FrameWrong : nunciolaw14_FrameWrong.Pure := by
  intro a b c d ha hb hc hd
  have ha := b_u8 ha
  have hb := b_u8 hb
  refine ⟨299 + 1 + 1, ?_⟩
  unfold nunciolaw14_FrameWrong.f
  rw [awake14 (by omega), Option.bind_some, if_pos rfl]
  by_cases h1 : (d.size : Int) > 40000
  · rw [if_pos h1]
  obtain ⟨r, e1, e2⟩ := content_same (k := 299) (a := a) (c := c) ha.1 hb (d := d) (by omega) (by omega)
  have hs := wr_scope a b c d
  unfold Sc at hs
  rw [if_neg h1, wrong_f hb (by omega) (by omega), rwrong_f hb (by omega) (by omega), Option.bind_some, Option.bind_some, if_pos rfl, if_pos (w64 (by omega) (by omega)), e1, e2, Option.bind_some, Option.bind_some]
  simp
end Go.Proofs.Ytimhhacnpjcjnaa.Pure
