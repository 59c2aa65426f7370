/- No other bytes than those that Put lays are as few and are got as the same number: for any bytes. -/
import Derived.Test.YthgminjnednjgaaMinex8
import Derived.Test.YthgminjnednjgaaMinex3
import Derived.Test.YthgminjnednjgaaLPrefix
namespace Go.Proofs.Ythgminjnednjgaa.Pure
open Go.RowKit Go.Proofs.Ythgminjnednjgaa.Mine Go.Proofs.YthgminjnednjgaaW.PrintWords Go.Proofs.YthgminjnednjgaaW.PrintLast Go.Proofs.YthgminjnednjgaaW.PrintMore

theorem awake09l : nunciolaw09_awake.f 20 = some true := by decide +kernel
theorem least_tail {s : ByteArray} {bits n : Int} {nx : Nat} (hs : s.size ≤ 20000) (h0 : 0 < s.size) (hn : 0 ≤ n) (hn2 : n ≤ 4294967295) (hnx : nx ≤ s.size)
    (hl : (encI (rd (bytesOf s) 0) (ful bits) n).length ≤ nx) (he : (encI (rd (bytesOf s) 0) (ful bits) n).length = nx → encI (rd (bytesOf s) 0) (ful bits) n = (bytesOf s).take nx) :
    (if 0 < (s.size : Int) then ((prefix_Put.f 20 ([] : List Int) (bt s 0) bits n).bind fun t178 => (if (t178.length : Int) ≤ (nx : Int) then (if (t178.length : Int) < (nx : Int) then (some true) else (if 0 ≤ (nx : Int) then (if (nx : Int) ≤ (s.size : Int) then (some ((strOfNums t178).toList == (s.extract 0 ((nx : Int) : Int).toNat).toList)) else (none)) else (none))) else (some false))) else (none)) = some true := by
  have hi : 0 < (bytesOf s).length := by have := size_bytesOf s; omega
  have hc := bytesOf_bytes s _ (List.getElem_mem hi)
  have hrd : rd (bytesOf s) 0 = (bytesOf s)[0] := rd_nat (i := 0) hi
  rw [if_pos (by omega), bt_eq, pput_f bits (by simp) (by rw [hrd]; exact hc.1) (by rw [hrd]; exact hc.2) hn (by omega) (by omega)]
  simp only [Option.bind_some, List.nil_append]
  rw [if_pos (by omega)]
  by_cases hlt : (encI (rd (bytesOf s) 0) (ful bits) n).length < nx
  · rw [if_pos (by omega)]
  · rw [if_neg (by omega), if_pos (by omega), if_pos (by omega), he (by omega), Int.toNat_natCast]
    congr 1
    rw [beq_iff_eq, toList_inj]
    apply bytesOf_inj
    rw [bytesOf_str ((bytesOf_bytes s).take nx), bytesOf_extract, List.drop_zero, Nat.sub_zero]
theorem PrefixLeast : nunciolaw09_PrefixLeast.Pure := by
  intro s bits _ _
  refine ⟨20, ?_⟩
  unfold nunciolaw09_PrefixLeast.f
  rw [awake09l]
  simp only [Option.bind_some, if_true]
  by_cases h1 : (s.size : Int) > 20000
  · rw [if_pos h1]
  have hsz := size_bytesOf s
  have hr := ful_range bits
  rw [if_neg h1, pget_f bits (by omega) (by omega)]
  simp only [Option.bind_some]
  by_cases h0 : s.size = 0
  · have e : getI (ful bits) (bytesOf s) 0 = (0, 0, 2) := by unfold getI; rw [if_pos (.inr (by omega))]
    rw [e]; simp
  have hi : 0 < (bytesOf s).length := by omega
  have hc := bytesOf_bytes s _ (List.getElem_mem hi)
  have hrd : rd (bytesOf s) 0 = (bytesOf s)[0] := rd_nat (i := 0) hi
  have hcons : bytesOf s = (bytesOf s)[0] :: (bytesOf s).drop 1 := by
    have := List.drop_eq_getElem_cons hi
    rwa [List.drop_zero] at this
  have hm1 := Int.emod_nonneg (bytesOf s)[0] (show ful bits + 1 ≠ 0 by omega)
  have hm2 := Int.emod_lt_of_pos (bytesOf s)[0] (show 0 < ful bits + 1 by omega)
  have hdm := Int.ediv_mul_add_emod (bytesOf s)[0] (ful bits + 1)
  have hgi : getI (ful bits) (bytesOf s) 0 = if (bytesOf s)[0] % (ful bits + 1) < ful bits then ((bytesOf s)[0] % (ful bits + 1), 1, 0) else getT 5 0 ((bytesOf s)[0] % (ful bits + 1)) ((bytesOf s).drop 1) 0 := by
    unfold getI
    rw [if_neg (by omega), hrd]
    rfl
  rw [hgi]
  by_cases hf : (bytesOf s)[0] % (ful bits + 1) < ful bits
  · rw [if_pos hf]
    simp only [if_true]
    have he : encI (rd (bytesOf s) 0) (ful bits) ((bytesOf s)[0] % (ful bits + 1)) = [(bytesOf s)[0]] := by unfold encI; rw [if_pos hf, hrd, hdm]
    refine least_tail (nx := 1) (by omega) (by omega) hm1 (by omega) (by omega) (by rw [he]; simp) (fun _ => ?_)
    rw [he]
    conv => rhs; rw [hcons]
    simp
  · rw [if_neg hf]
    have hF : (bytesOf s)[0] % (ful bits + 1) = ful bits := by omega
    rw [hF] at hdm ⊢
    generalize hq : getT 5 0 (ful bits) ((bytesOf s).drop 1) 0 = q
    obtain ⟨r, nx, e⟩ := q
    rcases getT_least 0 5 0 (ful bits) _ r nx e ((bytesOf_bytes s).drop 1) hq with ⟨he, hr0, hn0⟩ | ⟨rfl, ds, rest, m, hl, hd5, hnx, hm0, hm1, hrm, hrl, hpos, hv⟩
    · subst hr0; subst hn0
      simp only
      rw [if_neg he]
      simp
    · have hv9 := hv 9 (by omega)
      have hsl : ds.length + rest.length + 1 = (bytesOf s).length := by
        have h5 := congrArg List.length hl
        rw [List.length_drop, List.length_append] at h5
        omega
      have hnx2 : nx = ((1 + ds.length : Nat) : Int) := by rw [hnx]; omega
      have hrF : r = ful bits + m := by rw [hrm]; simp
      subst hnx2
      simp only [if_true]
      have hee : encI (rd (bytesOf s) 0) (ful bits) r = (bytesOf s)[0] :: vint 9 m := by unfold encI; rw [if_neg (by omega), hrd, hdm, hrF, show ful bits + m - ful bits = m by omega]
      refine least_tail (nx := 1 + ds.length) (by omega) (by omega) (by omega) hrl (by omega) (by rw [hee, List.length_cons]; omega) (fun hq2 => ?_)
      rw [hee, List.length_cons] at hq2
      rw [hee, hv9.2 (by omega)]
      conv => rhs; rw [hcons, hl]
      rw [Nat.add_comm, List.take_succ_cons, List.take_left]
end Go.Proofs.Ythgminjnednjgaa.Pure
