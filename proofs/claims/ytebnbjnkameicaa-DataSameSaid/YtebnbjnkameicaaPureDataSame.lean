import Derived.Test.YtebnbjnkameicaaMinex27
import Derived.Test.YtebnbjnkameicaaMinex13
import Derived.Test.YtebnbjnkameicaaMinex11
import Derived.Test.YtebnbjnkameicaaMinex26
import Derived.Test.YtebnbjnkameicaaMinex25
import Derived.Test.YtebnbjnkameicaaMinex24
import Derived.Test.YtebnbjnkameicaaLSame
import Derived.Test.YtebnbjnkameicaaLCopied
namespace Go.Proofs.Ytebnbjnkameicaa.Pure
open Go.RowKit Go.Proofs.Ytebnbjnkameicaa.Mine Go.Proofs.YtebnbjnkameicaaW.PrintWords Go.Proofs.YtebnbjnkameicaaW.PrintLast Go.Proofs.YtebnbjnkameicaaW.PrintMore
set_option linter.unusedSimpArgs false
set_option linter.unusedVariables false

theorem awake05 {k : Nat} (hk : 400 ≤ k) : nunciolaw05_awake.f k = some true := by
  have h : nunciolaw05_awake.f 400 = some true := by decide +kernel
  exact leO_ge (nunciolaw05_awake.mono) h hk
theorem rcopy_f {a : ByteArray} (t c e : Int) {ns : List ByteArray} {us : List Int} {ts : List ByteArray} (h : Rec a ns us ts) : rdata_Copy.f a t c e ns us ts = some (a, t, c, e, ns, us, ts) := by
  have h2 := h.hn
  have h3 := h.hu
  have h4 := h.ht
  have h5 := tot_len ns
  have h6 := tot_len ts
  unfold rdata_Copy.f slices_Clone_string_string.f slices_Clone_uint32_uint32.f
  rw [if_pos (by omega), if_pos (by omega), if_pos (by omega)]
  rfl
theorem rtexts_l0 (l m : List ByteArray) (hl : l.length ≤ 1000000) (he : l.length = m.length) : ∀ (d k i : Nat), i + d = l.length → d < k → nuncioref05_texts.l0 k l m (i : Int) = some (decide (l.drop i = m.drop i))
  | 0, k, i, hd, hk => by
    obtain ⟨k, rfl⟩ : ∃ m, k = m + 1 := ⟨k - 1, by omega⟩
    simp only [nuncioref05_texts.l0]
    rw [if_neg (by omega), List.drop_eq_nil_of_le (by omega), List.drop_eq_nil_of_le (by omega)]; simp
  | d + 1, k, i, hd, hk => by
    obtain ⟨k, rfl⟩ : ∃ m, k = m + 1 := ⟨k - 1, by omega⟩
    have hi : i < l.length := by omega
    have hj : i < m.length := by omega
    have ih := rtexts_l0 l m hl he d k (i + 1) (by omega) (by omega)
    simp only [nuncioref05_texts.l0]
    rw [if_pos (by omega), if_pos (by omega), if_pos (by omega), rdo hi, rdo hj, w64 (by omega) (by omega), List.drop_eq_getElem_cons hi, List.drop_eq_getElem_cons hj]
    by_cases h : l[i] = m[i]
    · rw [if_pos (by rw [h]), dec_cons _ _ _ _ h]; exact ih
    · rw [if_neg (fun e => h (toList_inj.1 e)), decide_eq_false (fun e => h (List.cons.inj e).1)]
theorem rtexts_f {k : Nat} {l m : List ByteArray} (hl : l.length ≤ 1000000) (hk : l.length < k) : nuncioref05_texts.f k l m = some (decide (l = m)) := by
  unfold nuncioref05_texts.f
  by_cases he : l.length = m.length
  · have := rtexts_l0 l m hl he l.length k 0 (by omega) hk
    rw [List.drop_zero, List.drop_zero] at this
    rw [if_pos (by omega)]; exact this
  · rw [if_neg (by omega), decide_eq_false (fun e => he (by rw [e]))]
theorem rsame_l0 (a : ByteArray) (t c e : Int) (ns : List ByteArray) (us : List Int) (ts : List ByteArray) (a' : ByteArray) (t' c' e' : Int) (ns' : List ByteArray) (us' : List Int) (ts' : List ByteArray) (hl : us.length ≤ 1000000) (he : us.length = us'.length) :
    ∀ (d k i : Nat), i + d = us.length → d < k → nuncioref05_Same.l0 k (i : Int) a t c e ns us ts a' t' c' e' ns' us' ts' = some (decide (us.drop i = us'.drop i))
  | 0, k, i, hd, hk => by
    obtain ⟨k, rfl⟩ : ∃ m, k = m + 1 := ⟨k - 1, by omega⟩
    simp only [nuncioref05_Same.l0]
    rw [if_neg (by omega), List.drop_eq_nil_of_le (by omega), List.drop_eq_nil_of_le (by omega)]; simp
  | d + 1, k, i, hd, hk => by
    obtain ⟨k, rfl⟩ : ∃ m, k = m + 1 := ⟨k - 1, by omega⟩
    have hi : i < us.length := by omega
    have hj : i < us'.length := by omega
    have ih := rsame_l0 a t c e ns us ts a' t' c' e' ns' us' ts' hl he d k (i + 1) (by omega) (by omega)
    simp only [nuncioref05_Same.l0]
    rw [if_pos (by omega), if_pos (by omega), if_pos (by omega), rd_nat hi, rd_nat hj, w64 (by omega) (by omega), List.drop_eq_getElem_cons hi, List.drop_eq_getElem_cons hj]
    by_cases h : us[i] = us'[i]
    · rw [if_pos h, dec_cons _ _ _ _ h]; exact ih
    · rw [if_neg h, decide_eq_false (fun e => h (List.cons.inj e).1)]
theorem rsame_f {k : Nat} {a : ByteArray} (t c e : Int) {ns : List ByteArray} {us : List Int} {ts : List ByteArray} (h : Rec a ns us ts) (a' : ByteArray) (t' c' e' : Int) (ns' : List ByteArray) (us' : List Int) (ts' : List ByteArray) (hk : 20000 < k) :
    nuncioref05_Same.f k a t c e ns us ts a' t' c' e' ns' us' ts' = some (decide (SA a t c e ns us ts a' t' c' e' ns' us' ts')) := by
  have h2 := h.hn
  have h3 := h.hu
  have h4 := h.ht
  have h5 := tot_len ns
  have h6 := tot_len ts
  obtain ⟨k, rfl⟩ : ∃ m, k = m + 1 := ⟨k - 1, by omega⟩
  have T : nuncioref05_Same.j0 (k + 1) true a t c e ns us ts a' t' c' e' ns' us' ts' = some false := by simp only [nuncioref05_Same.j0]; rw [if_pos trivial]
  have F : nuncioref05_Same.j0 (k + 1) ((us.length : Int) != (us'.length : Int)) a t c e ns us ts a' t' c' e' ns' us' ts' = some (decide (us = us')) := by
    by_cases he : us.length = us'.length
    · have := rsame_l0 a t c e ns us ts a' t' c' e' ns' us' ts' (by omega) he us.length k 0 (by omega) (by omega)
      rw [List.drop_zero, List.drop_zero] at this
      rw [show ((us.length : Int) != (us'.length : Int)) = false by simp [he]]
      simp only [nuncioref05_Same.j0]; rw [if_neg (by simp)]
      exact this
    · rw [show ((us.length : Int) != (us'.length : Int)) = true by simp; omega, T, decide_eq_false (fun e => he (by rw [e]))]
  unfold nuncioref05_Same.f
  rw [rtexts_f (by omega) (by omega), rtexts_f (by omega) (by omega), Option.bind_some, Option.bind_some, T, F]
  simp only [toList_inj, SA]
  by_cases e1 : a = a'
  · by_cases e2 : t = t'
    · by_cases e3 : c = c'
      · by_cases e4 : e = e'
        · by_cases e5 : ns = ns'
          · by_cases e6 : ts = ts'
            · simp [e1, e2, e3, e4, e5, e6]
            · simp [e1, e2, e3, e4, e5, e6]
          · simp [e1, e2, e3, e4, e5]
        · simp [e1, e2, e3, e4]
      · simp [e1, e2, e3]
    · simp [e1, e2]
  · simp [e1]
theorem spoil_l2 (a : ByteArray) (t c e : Int) (ns : List ByteArray) (us : List Int) (n : Nat) (hn : n ≤ 1000000) : ∀ (d k i : Nat) (ts : List ByteArray), ts.length = n → i + d = n → d < k → ∃ r, nunciolaw05_Spoil.l2 k (i : Int) a t c e ns us ts = some r
  | 0, k, i, ts, hl, hd, hk => by
    obtain ⟨k, rfl⟩ : ∃ m, k = m + 1 := ⟨k - 1, by omega⟩
    simp only [nunciolaw05_Spoil.l2]
    rw [if_neg (by omega)]; exact ⟨_, rfl⟩
  | d + 1, k, i, ts, hl, hd, hk => by
    obtain ⟨k, rfl⟩ : ∃ m, k = m + 1 := ⟨k - 1, by omega⟩
    simp only [nunciolaw05_Spoil.l2]
    rw [if_pos (by omega), if_pos (by omega), w64 (by omega) (by omega)]
    exact spoil_l2 a t c e ns us n hn d k (i + 1) _ (by rw [List.length_set]; exact hl) (by omega) (by omega)
theorem spoil_l1 (a : ByteArray) (t c e : Int) (ns : List ByteArray) (ts : List ByteArray) (ht : ts.length ≤ 1000000) (n : Nat) (hn : n ≤ 1000000) : ∀ (d k i : Nat) (us : List Int), us.length = n → i + d = n → d + ts.length + 1 < k → ∃ r, nunciolaw05_Spoil.l1 k (i : Int) a t c e ns us ts = some r
  | 0, k, i, us, hl, hd, hk => by
    obtain ⟨k, rfl⟩ : ∃ m, k = m + 1 := ⟨k - 1, by omega⟩
    simp only [nunciolaw05_Spoil.l1]
    rw [if_neg (by omega)]
    exact spoil_l2 a t c e ns us ts.length ht ts.length k 0 ts rfl (by omega) (by omega)
  | d + 1, k, i, us, hl, hd, hk => by
    obtain ⟨k, rfl⟩ : ∃ m, k = m + 1 := ⟨k - 1, by omega⟩
    simp only [nunciolaw05_Spoil.l1]
    rw [if_pos (by omega), if_pos (by omega), w64 (by omega) (by omega)]
    exact spoil_l1 a t c e ns ts ht n hn d k (i + 1) _ (by rw [List.length_set]; exact hl) (by omega) (by omega)
theorem spoil_l0 (a : ByteArray) (t c e : Int) (us : List Int) (ts : List ByteArray) (hu : us.length ≤ 1000000) (ht : ts.length ≤ 1000000) (n : Nat) (hn : n ≤ 1000000) : ∀ (d k i : Nat) (ns : List ByteArray), ns.length = n → i + d = n → d + us.length + ts.length + 2 < k → ∃ r, nunciolaw05_Spoil.l0 k (i : Int) a t c e ns us ts = some r
  | 0, k, i, ns, hl, hd, hk => by
    obtain ⟨k, rfl⟩ : ∃ m, k = m + 1 := ⟨k - 1, by omega⟩
    simp only [nunciolaw05_Spoil.l0]
    rw [if_neg (by omega)]
    exact spoil_l1 a t c e ns ts ht us.length hu us.length k 0 us rfl (by omega) (by omega)
  | d + 1, k, i, ns, hl, hd, hk => by
    obtain ⟨k, rfl⟩ : ∃ m, k = m + 1 := ⟨k - 1, by omega⟩
    simp only [nunciolaw05_Spoil.l0]
    rw [if_pos (by omega), if_pos (by omega), w64 (by omega) (by omega)]
    exact spoil_l0 a t c e us ts hu ht n hn d k (i + 1) _ (by rw [List.length_set]; exact hl) (by omega) (by omega)
theorem spoil_f {k : Nat} {a : ByteArray} (t c e : Int) {ns : List ByteArray} {us : List Int} {ts : List ByteArray} (h : Rec a ns us ts) (hk : 20000 < k) : ∃ r, nunciolaw05_Spoil.f k a t c e ns us ts = some r := by
  have h2 := h.hn
  have h3 := h.hu
  have h4 := h.ht
  have h5 := tot_len ns
  have h6 := tot_len ts
  exact spoil_l0 a t c e us ts (by omega) (by omega) ns.length (by omega) ns.length k 0 ns rfl (by omega) (by omega)
theorem DataSame : nunciolaw05_DataSame.Pure := by
  intro a t c e ns us ts a' t' c' e' ns' us' ts' _ _ _ _ hns hus hts _ _ _ _ hns' hus' hts'
  obtain ⟨K, hK, hK2, hK3⟩ : ∃ K, 60001 ≤ K ∧ ns.length + ts.length < K ∧ ns'.length + ts'.length < K := ⟨60001 + ns.length + ts.length + ns'.length + ts'.length, by omega, by omega, by omega⟩
  refine ⟨K + 1 + 1, ?_⟩
  obtain ⟨b, e1, f1⟩ := rfew_f (k := K + 1 + 1) a t c e ns us ts (by omega) (by omega) hus.2.2 (by omega)
  obtain ⟨b', e1', f1'⟩ := rfew_f (k := K + 1 + 1) a' t' c' e' ns' us' ts' (by omega) (by omega) hus'.2.2 (by omega)
  have T : nunciolaw05_DataSame.j0 (K + 1 + 1) true a t c e ns us ts a' t' c' e' ns' us' ts' = some true := by simp only [nunciolaw05_DataSame.j0]; rw [if_pos trivial]
  unfold nunciolaw05_DataSame.f
  rw [awake05 (by omega), Option.bind_some, if_pos rfl, e1, Option.bind_some]
  cases b with
  | false => rw [if_neg (by simp), T]
  | true =>
    obtain ⟨_, _, _, _, hr⟩ := f1 rfl
    rw [if_pos rfl, e1', Option.bind_some]
    cases b' with
    | false => exact T
    | true =>
      obtain ⟨r, hs⟩ := spoil_f (k := K) t c e hr (by omega)
      have hS : SA a t c e ns us ts a t c e ns us ts := ⟨rfl, rfl, rfl, rfl, rfl, rfl, rfl⟩
      simp only [nunciolaw05_DataSame.j0, nunciolaw05_DataSame.j1]
      rw [Bool.not_true, if_neg (by simp), copied_f _ _ _ hr, Option.bind_some, rcopy_f _ _ _ hr, Option.bind_some, same_f _ _ _ hr _ _ _ _ _ _ _ (by omega), Option.bind_some, rsame_f _ _ _ hr _ _ _ _ _ _ _ (by omega), Option.bind_some, bne_self_eq_false, if_neg (by simp), same_f _ _ _ hr _ _ _ _ _ _ _ (by omega), Option.bind_some, decide_eq_true hS, Bool.not_true, if_neg (by simp), hs, Option.bind_some, rsame_f _ _ _ hr _ _ _ _ _ _ _ (by omega), Option.bind_some, decide_eq_true hS]
end Go.Proofs.Ytebnbjnkameicaa.Pure
