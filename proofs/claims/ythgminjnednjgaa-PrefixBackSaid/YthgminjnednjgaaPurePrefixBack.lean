/- What was put is got, whatever stands ahead of it and behind it; a greater number than may be is refused; cut off, it is too short: for any bytes, prefix, number. -/
import Derived.Test.YthgminjnednjgaaMinex7
import Derived.Test.YthgminjnednjgaaMinex3
import Derived.Test.YthgminjnednjgaaLPrefix
namespace Go.Proofs.Ythgminjnednjgaa.Pure
open Go.RowKit Go.Proofs.Ythgminjnednjgaa.Mine Go.Proofs.YthgminjnednjgaaW.PrintWords Go.Proofs.YthgminjnednjgaaW.PrintLast Go.Proofs.YthgminjnednjgaaW.PrintMore

theorem awake09 : nunciolaw09_awake.f 20 = some true := by decide +kernel
theorem rd_append_right {l r : List Int} (h : 0 < r.length) : rd (l ++ r) (l.length : Int) = r[0] := by
  rw [rd_nat (by rw [List.length_append]; omega), List.getElem_append_right (by omega)]
  simp
theorem getI_enc {first n : Int} (bits : Int) (ahead more : List Int) (hn : 0 ≤ n) (hn2 : n ≤ 18446744073709551615) :
    getI (ful bits) (ahead ++ (encI first (ful bits) n ++ more)) (ahead.length : Int) = if n > 4294967295 then (0, 0, 90) else (n, (ahead.length : Int) + (encI first (ful bits) n).length, 0) := by
  have hr := ful_range bits
  have hlen : (ahead ++ (encI first (ful bits) n ++ more)).length > ahead.length := by
    have := encI_pos first (ful bits) n
    rw [List.length_append, List.length_append]; omega
  unfold getI
  rw [if_neg (by omega), Int.toNat_natCast]
  by_cases hf : n < ful bits
  · rw [rd_append_right (by unfold encI; rw [if_pos hf]; simp)]
    unfold encI
    simp only [if_pos hf, List.singleton_append, List.getElem_cons_zero, List.length_singleton]
    have e : (first / (ful bits + 1) * (ful bits + 1) + n) % (ful bits + 1) = n := by rw [Int.add_comm, Int.add_mul_emod_self_right]; exact Int.emod_eq_of_lt hn (by omega)
    rw [e, if_pos hf, if_neg (by omega)]
    rfl
  · rw [rd_append_right (by unfold encI; rw [if_neg hf]; simp)]
    unfold encI
    simp only [if_neg hf, List.cons_append, List.getElem_cons_zero, List.length_cons]
    have e : (first / (ful bits + 1) * (ful bits + 1) + ful bits) % (ful bits + 1) = ful bits := by rw [Int.add_comm, Int.add_mul_emod_self_right]; exact Int.emod_eq_of_lt (by omega) (by omega)
    have h10 : (128 : Int) ^ (9 + 1) = 1180591620717411303424 := by decide
    rw [e, if_neg (by omega), List.drop_append, List.drop_eq_nil_of_le (by omega), show ahead.length + 1 - ahead.length = 1 by omega, List.nil_append, List.drop_one, List.tail_cons,
      getT_vint more _ 9 5 0 (ful bits) (n - ful bits) (by omega) (by omega) (by omega) (by omega) (.inl rfl)]
    simp only [Int.pow_zero, Int.mul_one]
    rw [show ful bits + (n - ful bits) = n by omega]
    split
    · rfl
    · congr 2; omega
theorem getI_cut {first n : Int} (bits : Int) (ahead : List Int) (hn : 0 ≤ n) (hn2 : n ≤ 4294967295) :
    (getI (ful bits) (ahead ++ (encI first (ful bits) n).dropLast) (ahead.length : Int)).2.2 = 2 := by
  have hr := ful_range bits
  unfold getI
  by_cases hf : n < ful bits
  · unfold encI
    rw [if_pos hf, if_pos (.inr (by simp))]
  · have hne : vint 9 (n - ful bits) ≠ [] := fun e => by have := vint_pos 9 (n - ful bits); rw [e] at this; simp at this
    have e : (first / (ful bits + 1) * (ful bits + 1) + ful bits) % (ful bits + 1) = ful bits := by rw [Int.add_comm, Int.add_mul_emod_self_right]; exact Int.emod_eq_of_lt (by omega) (by omega)
    have h10 : (128 : Int) ^ (9 + 1) = 1180591620717411303424 := by decide
    unfold encI
    rw [if_neg hf, List.dropLast_cons_of_ne_nil hne, if_neg (by simp; omega), rd_append_right (by simp)]
    simp only [List.getElem_cons_zero]
    rw [e, if_neg (by omega), Int.toNat_natCast, List.drop_append, List.drop_eq_nil_of_le (by omega), show ahead.length + 1 - ahead.length = 1 by omega, List.nil_append, List.drop_one, List.tail_cons,
      getT_cut _ 9 5 0 (ful bits) (n - ful bits) (by omega) (by omega) (by omega) (by omega) (.inl rfl) (by simp; omega)]
theorem PrefixBack : nunciolaw09_PrefixBack.Pure := by
  intro l first bits n more _ hl hb hf _ hn hm
  refine ⟨20, ?_⟩
  have hB := bytes_wf hb
  have hf := b_u8 hf
  have hn := b_u64 hn
  unfold nunciolaw09_PrefixBack.f
  rw [awake09]
  simp only [Option.bind_some, if_true]
  by_cases h1 : (l.length : Int) > 20000
  · rw [if_pos h1]; simp [nunciolaw09_PrefixBack.j0]
  rw [if_neg h1]
  by_cases h2 : (more.size : Int) > 20000
  · rw [show decide ((more.size : Int) > 20000) = true from decide_eq_true h2]; simp [nunciolaw09_PrefixBack.j0]
  rw [show decide ((more.size : Int) > 20000) = false from decide_eq_false h2]
  have hE : Bytes (encI first (ful bits) n) := encI_bytes bits hf.1 (by omega) hn.1 hn.2
  have hLE : Bytes (l ++ encI first (ful bits) n) := hB.append hE
  have hlenE : (encI first (ful bits) n).length ≤ 11 := by
    unfold encI
    split
    · simp
    · have := vint_length 9 (n - ful bits); simp; omega
  have hpos := encI_pos first (ful bits) n
  have hlen : (l ++ encI first (ful bits) n).length = l.length + (encI first (ful bits) n).length := List.length_append
  have hss : (strOfNums (l ++ encI first (ful bits) n)).size = l.length + (encI first (ful bits) n).length := by rw [strOfNums_size, hlen]
  have hcat : bytesOf (strOfNums (l ++ encI first (ful bits) n) ++ more) = l ++ (encI first (ful bits) n ++ bytesOf more) := by rw [bytesOf_append, bytesOf_str hLE, List.append_assoc]
  have hcs : (strOfNums (l ++ encI first (ful bits) n) ++ more).size ≤ 4611686018427387904 := by
    rw [size_bytesOf, hcat, List.length_append, List.length_append, ← size_bytesOf]; omega
  simp only [nunciolaw09_PrefixBack.j0]
  rw [if_neg (by simp), pput_f bits (by omega) hf.1 (by omega) hn.1 hn.2 (by omega)]
  simp only [Option.bind_some]
  rw [if_pos (by omega), pget_f bits hcs (by omega), hcat, getI_enc bits l (bytesOf more) hn.1 hn.2]
  simp only [Option.bind_some]
  by_cases hg : n > 4294967295
  · rw [if_pos hg, if_pos hg]; simp
  · rw [if_neg hg, if_neg hg]
    have e1 : wrap64 (((l ++ encI first (ful bits) n).length : Int) - 1) = (((l ++ encI first (ful bits) n).length - 1 : Nat) : Int) := by rw [w64 (by omega) (by omega)]; omega
    have e2 : (l ++ encI first (ful bits) n).take ((l ++ encI first (ful bits) n).length - 1) = l ++ (encI first (ful bits) n).dropLast := by
      rw [← List.dropLast_eq_take, List.dropLast_append_of_ne_nil (fun e => by rw [e] at hpos; simp at hpos)]
    have hb2 : Bytes (l ++ (encI first (ful bits) n).dropLast) := by rw [← e2]; exact hLE.take _
    simp only [if_true]
    rw [if_pos (by omega), e1, if_pos (by omega), if_pos (by omega), Int.toNat_natCast, e2, pget_f bits (by rw [strOfNums_size, ← e2, List.length_take]; omega) (by omega), bytesOf_str hb2]
    simp only [Option.bind_some]
    rw [getI_cut bits l hn.1 (by omega)]
    rfl
end Go.Proofs.Ythgminjnednjgaa.Pure
