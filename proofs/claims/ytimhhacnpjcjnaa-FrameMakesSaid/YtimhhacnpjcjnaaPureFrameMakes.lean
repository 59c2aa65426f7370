import Derived.Test.YtimhhacnpjcjnaaMinex25
import Derived.Test.YtimhhacnpjcjnaaMinex12
import Derived.Test.YtimhhacnpjcjnaaMinex13
import Derived.Test.YtimhhacnpjcjnaaMinex24
import Derived.Test.YtimhhacnpjcjnaaMinex16
import Derived.Test.YtimhhacnpjcjnaaPureFrameParses
namespace Go.Proofs.Ytimhhacnpjcjnaa.Pure
open Go.RowKit Go.Proofs.Ytimhhacnpjcjnaa.Mine Go.Proofs.YtimhhacnpjcjnaaW.PrintWords Go.Proofs.YtimhhacnpjcjnaaW.PrintLast Go.Proofs.YtimhhacnpjcjnaaW.PrintMore

/-- The bytes that settings are. -/
def es : List S50 → List Int
  | [] => []
  | x :: l => be x.f0 2 ++ (be x.f1 4 ++ es l)
theorem es_length : ∀ l, (es l).length = 6 * l.length
  | [] => rfl
  | x :: l => by simp only [es, List.length_append, be_length, es_length l, List.length_cons]; omega
theorem es_bytes : ∀ l, Bytes (es l)
  | [] => Bytes.nil
  | x :: l => (be_bytes x.f0 2).append ((be_bytes x.f1 4).append (es_bytes l))
theorem fset_l0 (l : List S50) (hl : l.length ≤ 1000000) (hw : ∀ x ∈ l, k50_wf x) : ∀ (d k i : Nat) (acc : List Int), i + d = l.length → d + 10 < k → acc.length + 6 * d ≤ 100000000 →
    frame_Settings.l0 k acc l (l.length : Int) (i : Int) = some (4, 0, 0, strOfNums (acc ++ es (l.drop i)))
  | 0, k, i, acc, hd, hk, ha => by
    obtain ⟨k, rfl⟩ : ∃ m, k = m + 1 := ⟨k - 1, by omega⟩
    simp only [frame_Settings.l0]
    rw [if_neg (by omega), List.drop_eq_nil_of_le (by omega)]
    simp [es]
  | d + 1, k, i, acc, hd, hk, ha => by
    obtain ⟨k, rfl⟩ : ∃ m, k = m + 1 := ⟨k - 1, by omega⟩
    have hi : i < l.length := by omega
    have e0 : wrap64 ((i : Int) + 1) = ((i + 1 : Nat) : Int) := by rw [w64 (by omega) (by omega)]; omega
    have e2 : rd_T50 l (i : Int) = l[i] := by unfold rd_T50; rw [Int.toNat_natCast]; simp [hi]
    obtain ⟨h1, h2⟩ := hw l[i] (List.getElem_mem hi)
    have h1 := b_u16 h1
    have h2 := b_u32 h2
    have s2 : szOf 2 = 2 := by decide
    have s4 : szOf 4 = 4 := by decide
    have p1 : num_Put.f k acc (IntKind.u64.wrap (l[i]).f0) 2 = some (acc ++ be (l[i]).f0 2) := by
      have := put_f (k := k) (l := acc) (l[i]).f0 2 (by omega) (by omega)
      rw [s2] at this
      rw [wu64_id (n := (l[i]).f0) h1.1 (by omega)]; exact this
    have p2 : num_Put.f k (acc ++ be (l[i]).f0 2) (IntKind.u64.wrap (l[i]).f1) 4 = some (acc ++ be (l[i]).f0 2 ++ be (l[i]).f1 4) := by
      have := put_f (k := k) (l := acc ++ be (l[i]).f0 2) (l[i]).f1 4 (by rw [List.length_append, be_length]; omega) (by omega)
      rw [s4] at this
      rw [wu64_id (n := (l[i]).f1) h2.1 (by omega)]; exact this
    have ih := fset_l0 l hl hw d k (i + 1) (acc ++ be (l[i]).f0 2 ++ be (l[i]).f1 4) (by omega) (by omega) (by rw [List.length_append, List.length_append, be_length, be_length]; omega)
    have e5 : acc ++ be (l[i]).f0 2 ++ be (l[i]).f1 4 ++ es (l.drop (i + 1)) = acc ++ es (l.drop i) := by
      rw [List.drop_eq_getElem_cons hi, es, List.append_assoc, List.append_assoc]
    rw [e5] at ih
    simp only [frame_Settings.l0]
    rw [if_pos (by omega), if_pos (by omega), if_pos (by omega), e2, p1]
    rw [Option.bind_some]
    rw [p2]
    rw [Option.bind_some]
    rw [e0]
    exact ih
theorem and31b {m : Int} (h0 : 0 ≤ m) (h1 : m < 4294967296) : Go.bits .and .u32 m 2147483647 = m % 2147483648 := by
  have := and31 h0 h1
  rwa [Int.emod_eq_of_lt h0 h1] at this
theorem four_f {k : Nat} {b : Int} (h0 : 0 ≤ b) (h1 : b < 4294967296) (hk : 8 < k) : frame_four.f k b = some (strOfNums (be b 4)) := by
  have s4 : szOf 4 = 4 := by decide
  have := put_f (k := k) (l := []) b 4 (by simp) hk
  rw [s4, List.nil_append] at this
  unfold frame_four.f
  rw [wu64_id h0 (by omega), this, Option.bind_some]
theorem rfour_f {k : Nat} {b : Int} (h0 : 0 ≤ b) (h1 : b < 4294967296) (hk : 8 < k) : nuncioref01_Put.f k (⟨#[]⟩ : ByteArray) (IntKind.u64.wrap b) 4 = some (strOfNums (be b 4)) := by
  have := rput_f (k := k) (s := (⟨#[]⟩ : ByteArray)) (n := b) 4 h0 (by omega) (by decide) (by omega) hk
  rw [wu64_id h0 (by omega)]
  have e0 : (⟨#[]⟩ : ByteArray) ++ strOfNums (be b 4) = strOfNums (be b 4) := by
    apply bytesOf_inj; rw [bytesOf_append, bytesOf_empty, List.nil_append]
  rw [e0] at this; exact this
theorem makes_l0 (l : List S50) (a b : Int) (ha : 0 ≤ a ∧ a ≤ 4294967295) (hb : 0 ≤ b ∧ b ≤ 4294967295) (hl : l.length ≤ 2000) (hw : ∀ x ∈ l, k50_wf x) : ∀ (d k i : Nat) (acc : List Int), i + d = l.length → d + 2100 < k → Bytes acc → acc ++ es (l.drop i) = es l →
    nunciolaw14_FrameMakes.l0 k l a b (strOfNums acc) (i : Int) = some true
  | 0, k, i, acc, hd, hk, _, he => by
    obtain ⟨k, rfl⟩ : ∃ m, k = m + 1 := ⟨k - 1, by omega⟩
    have he2 : acc = es l := by rw [List.drop_eq_nil_of_le (by omega)] at he; simpa [es] using he
    have e3 : frame_Settings.f k l = some (4, 0, 0, strOfNums (es l)) := by
      have := fset_l0 l (by omega) hw l.length k 0 [] (by omega) (by omega) (by simp; omega)
      rw [List.drop_zero, List.nil_append] at this
      unfold frame_Settings.f; exact this
    have q0 : (strOfNums (be b 4)).size = 4 := by rw [strOfNums_size, be_length]
    have q1 : (strOfNums (be (a % 2147483648) 4)).size = 4 := by rw [strOfNums_size, be_length]
    have r1 : frame_Reset.f k a b = some (3, 0, a % 2147483648, strOfNums (be b 4)) := by
      unfold frame_Reset.f; rw [four_f hb.1 (by omega) (by omega), Option.bind_some, and31b ha.1 (by omega)]
    have r2 : frame_Window.f k b a = some (8, 0, b % 2147483648, strOfNums (be (a % 2147483648) 4)) := by
      unfold frame_Window.f; rw [and31b ha.1 (by omega), four_f (by omega) (by omega) (by omega), Option.bind_some, and31b hb.1 (by omega)]
    have r3 : frame_Goaway.f k a b = some (7, 0, 0, strOfNums (be (a % 2147483648) 4) ++ strOfNums (be b 4)) := by
      unfold frame_Goaway.f; rw [and31b ha.1 (by omega), four_f (by omega) (by omega) (by omega), Option.bind_some, four_f hb.1 (by omega) (by omega), Option.bind_some, if_pos (by rw [q0, q1]; decide)]
    simp only [nunciolaw14_FrameMakes.l0]
    rw [if_neg (by omega), tmod_pos 2147483648 ha.1, tmod_pos 2147483648 hb.1, rfour_f hb.1 (by omega) (by omega), Option.bind_some, Option.bind_some, if_pos (by simp only [List.length_nil]; omega), List.nil_append, e3, Option.bind_some, he2, if_pos (by simp), r1, Option.bind_some, if_pos (by simp), r3, Option.bind_some,
      rfour_f (b := a % 2147483648) (by omega) (by omega) (by omega), Option.bind_some, if_pos (by rw [q0, q1]; decide), if_pos (by simp), r2, Option.bind_some, Option.bind_some]
    simp
  | d + 1, k, i, acc, hd, hk, hba, he => by
    obtain ⟨k, rfl⟩ : ∃ m, k = m + 1 := ⟨k - 1, by omega⟩
    have hi : i < l.length := by omega
    have e0 : wrap64 ((i : Int) + 1) = ((i + 1 : Nat) : Int) := by rw [w64 (by omega) (by omega)]; omega
    have e2 : rd_T50 l (i : Int) = l[i] := by unfold rd_T50; rw [Int.toNat_natCast]; simp [hi]
    obtain ⟨h1, h2⟩ := hw l[i] (List.getElem_mem hi)
    have h1 := b_u16 h1
    have h2 := b_u32 h2
    have hlen : acc.length ≤ 6 * l.length := by have := congrArg List.length he; rw [List.length_append, es_length l] at this; omega
    have b2 := be_bytes (l[i]).f0 2
    have b4 := be_bytes (l[i]).f1 4
    have p1 : nuncioref01_Put.f k (strOfNums acc) (IntKind.u64.wrap (l[i]).f0) 2 = some (strOfNums (acc ++ be (l[i]).f0 2)) := by
      rw [wu64_id (n := (l[i]).f0) h1.1 (by omega), str_append hba b2]
      exact rput_f (k := k) 2 h1.1 (by omega) (by rw [strOfNums_size]; omega) (by omega) (by omega)
    have p2 : nuncioref01_Put.f k (strOfNums (acc ++ be (l[i]).f0 2)) (IntKind.u64.wrap (l[i]).f1) 4 = some (strOfNums (acc ++ be (l[i]).f0 2 ++ be (l[i]).f1 4)) := by
      rw [wu64_id (n := (l[i]).f1) h2.1 (by omega), str_append (hba.append b2) b4]
      exact rput_f (k := k) 4 h2.1 (by omega) (by rw [strOfNums_size, List.length_append, be_length]; omega) (by omega) (by omega)
    have e5 : acc ++ be (l[i]).f0 2 ++ be (l[i]).f1 4 ++ es (l.drop (i + 1)) = es l := by
      rw [← he, List.drop_eq_getElem_cons hi, es, List.append_assoc, List.append_assoc]
    have ih := makes_l0 l a b ha hb hl hw d k (i + 1) (acc ++ be (l[i]).f0 2 ++ be (l[i]).f1 4) (by omega) (by omega) ((hba.append b2).append b4) e5
    simp only [nunciolaw14_FrameMakes.l0]
    rw [if_pos (by omega), if_pos (by omega), e2, p1, Option.bind_some, p2, Option.bind_some, e0]
    exact ih
theorem FrameMakes : nunciolaw14_FrameMakes.Pure := by
  intro l a b hl ha hb
  refine ⟨5000, ?_⟩
  unfold nunciolaw14_FrameMakes.f
  rw [awake14 (by omega), Option.bind_some, if_pos rfl]
  by_cases h1 : (l.length : Int) > 2000
  · rw [if_pos h1]
  rw [if_neg h1]
  exact makes_l0 l a b (b_u32 ha) (b_u32 hb) (by omega) hl.2.2 l.length 5000 0 [] (by omega) (by omega) Bytes.nil (by rw [List.drop_zero, List.nil_append])
end Go.Proofs.Ytimhhacnpjcjnaa.Pure
