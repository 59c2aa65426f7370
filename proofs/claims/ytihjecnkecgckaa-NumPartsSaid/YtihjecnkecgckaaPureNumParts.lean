/- The parts of a text, one behind the other, are the text, whatever sizes they have; a reader that goes through them is at the end then: for any text, any sizes. -/
import Derived.Test.YtihjecnkecgckaaMinex4
import Derived.Test.YtihjecnkecgckaaMinex3
import Derived.Test.YtihjecnkecgckaaLNum
namespace Go.Proofs.Ytihjecnkecgckaa.Pure
open Go.RowKit Go.Proofs.Ytihjecnkecgckaa.Mine Go.Proofs.YtihjecnkecgckaaW.PrintWords Go.Proofs.YtihjecnkecgckaaW.PrintLast Go.Proofs.YtihjecnkecgckaaW.PrintMore

theorem cut_size (s : ByteArray) {a b : Nat} (h : a ≤ b) (hb : b ≤ s.size) : (s.extract a b).size = b - a := by
  rw [size_bytesOf, bytesOf_extract, List.length_take, List.length_drop, ← size_bytesOf]; omega
theorem cut_join (s : ByteArray) (a n : Nat) (_h : a + n ≤ s.size) : s.extract 0 a ++ s.extract a (a + n) = s.extract 0 (a + n) := by
  apply bytesOf_inj
  rw [bytesOf_append, bytesOf_extract, bytesOf_extract, bytesOf_extract, List.drop_zero, Nat.sub_zero, Nat.sub_zero, Nat.add_sub_cancel_left, List.take_add]
theorem cut_behind (t e : ByteArray) : (t ++ e).extract t.size (t.size + e.size) = e := by
  apply bytesOf_inj
  rw [bytesOf_extract, bytesOf_append, size_bytesOf t, List.drop_left, Nat.add_sub_cancel_left, size_bytesOf e, List.take_length]
theorem cut_all (s : ByteArray) : s.extract 0 s.size = s := by
  apply bytesOf_inj
  rw [bytesOf_extract, List.drop_zero, Nat.sub_zero, size_bytesOf, List.take_length]
theorem text_yes {s : ByteArray} {a n : Int} (hs : s.size ≤ 4611686018427387904) (h0 : 0 ≤ a) (h1 : 0 ≤ n) (h2 : a + n ≤ s.size) :
    num_Reader_Text.f s a n = some (s.extract a.toNat (a + n).toNat, s, a + n) := by
  unfold num_Reader_Text.f
  rw [part_yes hs h0 h1 h2]
  simp only [Option.bind_some, if_true]
  rw [w64 (by omega) (by omega)]
theorem parts_l0 (s : ByteArray) (hs : s.size ≤ 20000) (l : List Int) (hl : l.length ≤ 200) : ∀ (d k i a : Nat), i + d = l.length → 2 * d < k → a ≤ s.size →
    nunciolaw01_NumParts.l0 k s l (s.extract 0 a) (i : Int) s (a : Int) = some true
  | 0, k, i, a, hd, hk, ha => by
    obtain ⟨k, rfl⟩ : ∃ m, k = m + 1 := ⟨k - 1, by omega⟩
    have hts : (s.extract 0 a).size = a := by rw [cut_size s (by omega) ha]; omega
    have e1 : wrap64 ((s.size : Int) - (a : Int)) = (s.size : Int) - (a : Int) := w64 (by omega) (by omega)
    have e2 : wrap64 ((s.size : Int) - ((a : Int) + ((s.size : Int) - (a : Int)))) = 0 := by rw [w64 (by omega) (by omega)]; omega
    have hr : (s.extract (a : Int).toNat ((a : Int) + ((s.size : Int) - (a : Int))).toNat) = s.extract a (a + (s.size - a)) := by
      rw [Int.toNat_natCast, show ((a : Int) + ((s.size : Int) - (a : Int))).toNat = a + (s.size - a) by omega]
    have hrs : (s.extract a (a + (s.size - a))).size = s.size - a := by rw [cut_size s (by omega) (by omega)]; omega
    simp only [nunciolaw01_NumParts.l0]
    rw [if_neg (by omega)]
    unfold num_Reader_Left.f
    simp only [Option.bind_some]
    rw [e1, text_yes (by omega) (by omega) (by omega) (by omega), hr]
    simp only [Option.bind_some]
    rw [if_pos (by omega), cut_join s a _ (by omega), show a + (s.size - a) = s.size by omega, cut_all, if_pos rfl, e2]
    simp only [if_true]
    unfold num_Reader_At.f
    simp only [Option.bind_some]
    congr 1
    rw [beq_iff_eq]; omega
  | d + 1, k, i, a, hd, hk, ha => by
    obtain ⟨k, rfl⟩ : ∃ m, k = m + 2 := ⟨k - 2, by omega⟩
    have hts : (s.extract 0 a).size = a := by rw [cut_size s (by omega) ha]; omega
    have e1 : wrap64 ((s.size : Int) - (a : Int)) = (s.size : Int) - (a : Int) := w64 (by omega) (by omega)
    have hn : 0 ≤ mx 0 (mn (rd l (i : Int)) ((s.size : Int) - (a : Int))) ∧ mx 0 (mn (rd l (i : Int)) ((s.size : Int) - (a : Int))) ≤ (s.size : Int) - (a : Int) := by
      unfold mx mn
      split <;> split <;> omega
    simp only [nunciolaw01_NumParts.l0]
    rw [if_pos (by omega), if_pos (by omega)]
    unfold num_Reader_Left.f
    simp only [Option.bind_some]
    rw [e1, hts]
    generalize mx 0 (mn (rd l (i : Int)) ((s.size : Int) - (a : Int))) = n at hn ⊢
    obtain ⟨n, rfl⟩ := Int.eq_ofNat_of_zero_le hn.1
    have hr : (s.extract (a : Int).toNat ((a : Int) + (n : Int)).toNat) = s.extract a (a + n) := by
      rw [Int.toNat_natCast, show ((a : Int) + (n : Int)).toNat = a + n by omega]
    have hrs : (s.extract a (a + n)).size = n := by rw [cut_size s (by omega) (by omega)]; omega
    rw [part_yes (by omega) (by omega) (by omega) (by omega), hr]
    simp only [Option.bind_some, if_true]
    unfold num_Reader_At.f
    simp only [Option.bind_some]
    rw [show ((a : Int) != (a : Int)) = false by simp]
    simp only [nunciolaw01_NumParts.j2]
    rw [if_neg (by simp), text_yes (by omega) (by omega) (by omega) (by omega), hr]
    simp only [Option.bind_some]
    have e3 : wrap64 (((s.extract 0 a).size : Int) + ((s.extract a (a + n)).size : Int) - (n : Int)) = (a : Int) := by rw [w64 (by omega) (by omega)]; omega
    have e4 : (s.extract 0 a ++ s.extract a (a + n)).extract a ((s.extract 0 a).size + (s.extract a (a + n)).size) = s.extract a (a + n) := by
      have := cut_behind (s.extract 0 a) (s.extract a (a + n))
      rwa [hts] at this ⊢
    have e5 : wrap64 ((i : Int) + 1) = ((i + 1 : Nat) : Int) := by rw [w64 (by omega) (by omega)]; omega
    rw [if_pos (by omega), if_pos (by omega), e3, if_pos (by omega), if_pos (by omega), Int.toNat_natCast, e4, if_pos rfl, cut_join s a n (by omega), e5, show (a : Int) + (n : Int) = ((a + n : Nat) : Int) by omega]
    exact parts_l0 s hs l hl d k (i + 1) (a + n) (by omega) (by omega) (by omega)
theorem awake01p : nunciolaw01_awake.f 410 = some true := by decide +kernel
theorem NumParts : nunciolaw01_NumParts.Pure := by
  intro s l _ _ _ _
  refine ⟨410, ?_⟩
  unfold nunciolaw01_NumParts.f
  rw [awake01p]
  simp only [Option.bind_some, if_true]
  by_cases h1 : (s.size : Int) > 20000
  · rw [if_pos h1]; simp [nunciolaw01_NumParts.j0]
  rw [if_neg h1]
  by_cases h2 : (l.length : Int) > 200
  · rw [show decide ((l.length : Int) > 200) = true from decide_eq_true h2]; simp [nunciolaw01_NumParts.j0]
  rw [show decide ((l.length : Int) > 200) = false from decide_eq_false h2]
  simp only [nunciolaw01_NumParts.j0]
  rw [if_neg (by simp)]
  unfold num_New.f
  simp only [Option.bind_some]
  have := parts_l0 s (by omega) l (by omega) l.length 409 0 0 (by omega) (by omega) (by omega)
  have e0 : s.extract 0 0 = (⟨#[]⟩ : ByteArray) := by
    apply bytesOf_inj
    rw [bytesOf_extract, List.drop_zero, Nat.sub_zero, List.take_zero]; rfl
  rw [e0] at this
  exact this
end Go.Proofs.Ytihjecnkecgckaa.Pure
