import Derived.Test.YtpnflloamidecaaMinex23
import Derived.Test.YtpnflloamidecaaPureNameMakes
namespace Go.Proofs.Ytpnflloamidecaa.Pure
open Go.RowKit Go.Proofs.Ytpnflloamidecaa.Mine Go.Proofs.YtpnflloamidecaaW.PrintWords Go.Proofs.YtpnflloamidecaaW.PrintLast Go.Proofs.YtpnflloamidecaaW.PrintMore
set_option linter.unusedSimpArgs false

theorem fo_eq_iff {a b : ByteArray} {la lb : List ByteArray} (ha : LB a = some la) (hb : LB b = some lb) : fo a = fo b ↔ la.map fo = lb.map fo := by
  have h1 : LB (fo a) = some (la.map fo) := by rw [LB_fo, ha]; rfl
  have h2 : LB (fo b) = some (lb.map fo) := by rw [LB_fo, hb]; rfl
  constructor
  · intro h
    rw [h, h2] at h1
    exact (Option.some.inj h1).symm
  · intro h
    have e1 := LB_back h1
    have e2 := LB_back h2
    rw [h, e2] at e1
    exact (Prod.mk.inj e1).1.symm
theorem UN_some {a b : ByteArray} {la lb : List ByteArray} (ha : LB a = some la) (hb : LB b = some lb) : UN a b = (decide (lb.length ≤ la.length) && decide ((la.drop (la.length - lb.length)).map fo = lb.map fo)) := by
  unfold UN; rw [ha, hb]
theorem UN_self {a : ByteArray} {la : List ByteArray} (ha : LB a = some la) : UN a a = true := by
  rw [UN_some ha ha, Nat.sub_self, List.drop_zero]; simp
theorem LB_root : LB (⟨#[0]⟩ : ByteArray) = some [] := by decide
theorem UN_root {a : ByteArray} {la : List ByteArray} (ha : LB a = some la) : UN a (⟨#[0]⟩ : ByteArray) = true := by
  rw [UN_some ha LB_root]
  simp
theorem UN_back {a b : ByteArray} {la lb : List ByteArray} (ha : LB a = some la) (hb : LB b = some lb) (h : UN a b = true) : UN b a = SM a b := by
  unfold SM
  rw [UN_some hb ha, ha, hb]
  rw [UN_some ha hb] at h
  simp only [Bool.and_eq_true, decide_eq_true_eq] at h
  obtain ⟨h1, h2⟩ := h
  simp only [Option.isSome_some, Bool.true_and]
  by_cases hl : la.length ≤ lb.length
  · have e : la.length = lb.length := by omega
    rw [show la.length - lb.length = 0 by omega, List.drop_zero] at h2
    rw [decide_eq_true hl, Bool.true_and, show lb.length - la.length = 0 by omega, List.drop_zero, decide_eq_decide, fo_eq_iff ha hb]
    exact ⟨fun h_ => h_.symm, fun h_ => h_.symm⟩
  · rw [decide_eq_false hl, Bool.false_and]
    symm
    rw [decide_eq_false_iff_not, fo_eq_iff ha hb]
    intro h_
    have := congrArg List.length h_
    rw [List.length_map, List.length_map] at this
    omega
theorem MK_zero {l : List ByteArray} (h : (MK l).2 = 0) : (MK l).1 = strOfNums (enc l) ∧ l.all okB = true ∧ (enc l).length ≤ 255 := by
  unfold MK at h ⊢
  by_cases h1 : l.all okB = true
  · rw [if_pos h1] at h ⊢
    by_cases h2 : (enc l).length ≤ 255
    · rw [if_pos h2]; exact ⟨rfl, h1, h2⟩
    · rw [if_neg h2] at h; exact absurd h (by simp)
  · rw [if_neg h1] at h; exact absurd h (by simp)
theorem MK_not {l : List ByteArray} (h : ¬ (MK l).2 = 0) : (MK l).1 = E0 := by
  unfold MK at h ⊢
  by_cases h1 : l.all okB = true
  · rw [if_pos h1] at h ⊢
    by_cases h2 : (enc l).length ≤ 255
    · rw [if_pos h2] at h; exact absurd rfl h
    · rw [if_neg h2]
  · rw [if_neg h1]
theorem zones_j1 {k : Nat} {a b x : ByteArray} {la lb : List ByteArray} (ha : LB a = some la) (hb : LB b = some lb) (hx : x.size ≤ 100) (hk : 20000 < k) : nunciolaw04_NameZones.j1 (k + 1) a b x false = some true := by
  obtain ⟨a1, a2, a3⟩ := LB_some ha
  obtain ⟨b1, b2, b3⟩ := LB_some hb
  have ga := lab_len ha
  have hasz := size_bytesOf a
  simp only [nunciolaw04_NameZones.j1]
  rw [if_neg (by simp), Option.bind_some, labels_f (by omega) (by omega), Option.bind_some, ha]
  simp only [Option.getD_some]
  rw [if_pos (by simp only [List.length_singleton]; omega), make_f (by rw [List.length_append, List.length_singleton]; omega) (by rw [List.length_append, List.length_singleton]; omega), Option.bind_some]
  by_cases hz : (MK ([x] ++ la)).2 = 0
  · obtain ⟨m1, m2, m3⟩ := MK_zero hz
    have hL : LB (MK ([x] ++ la)).1 = some ([x] ++ la) := by rw [m1]; exact LB_enc m2 m3
    have hLs : (MK ([x] ++ la)).1.size = a.size + x.size + 1 := by
      have e : enc ([x] ++ la) = (x.size : Int) :: (bytesOf x ++ enc la) := by simp [enc, encs]
      rw [m1, strOfNums_size, e, List.length_cons, List.length_append, ← size_bytesOf, a1, ← hasz]
      omega
    have u1 : UN (MK ([x] ++ la)).1 a = true := by
      rw [UN_some hL ha]
      rw [show ([x] ++ la).length - la.length = 1 by rw [List.length_append, List.length_singleton]; omega]
      simp
    have u2 : UN a (MK ([x] ++ la)).1 = false := by
      rw [UN_some ha hL, decide_eq_false (by rw [List.length_append, List.length_singleton]; omega), Bool.false_and]
    have u3 : UN a b = true → UN (MK ([x] ++ la)).1 b = true := by
      rw [UN_some ha hb, UN_some hL hb]
      simp only [Bool.and_eq_true, decide_eq_true_eq]
      rintro ⟨h1, h2⟩
      refine ⟨by rw [List.length_append, List.length_singleton]; omega, ?_⟩
      rw [show ([x] ++ la).length - lb.length = (la.length - lb.length) + 1 by rw [List.length_append, List.length_singleton]; omega]
      exact h2
    have hF : FO (MK ([x] ++ la)).1 = fo (MK ([x] ++ la)).1 := by unfold FO; rw [hL]; rfl
    have hLs2 : (MK ([x] ++ la)).1.size ≤ 900000 := by omega
    generalize (MK ([x] ++ la)).1 = t at *
    have e : ((t.size : Nat) : Int) = wrap64 (wrap64 ((a.size : Int) + (x.size : Int)) + 1) := by rw [w64 (x := (a.size : Int) + (x.size : Int)) (by omega) (by omega), w64 (by omega) (by omega)]; omega
    rw [if_pos hz, under_f hLs2 (by omega) (by omega), Option.bind_some, u1, if_pos rfl, under_f (by omega) hLs2 (by omega), Option.bind_some, u2, if_neg (by simp), under_f (by omega) (by omega) (by omega), Option.bind_some]
    by_cases hu : UN a b = true
    · rw [if_pos hu, under_f hLs2 (by omega) (by omega), Option.bind_some, u3 hu, if_pos rfl, if_pos e, rfold2_f hLs2 (by omega), Option.bind_some, fold_f hLs2 (by omega), Option.bind_some, hF]
      simp
    · rw [if_neg hu, if_pos e, rfold2_f hLs2 (by omega), Option.bind_some, fold_f hLs2 (by omega), Option.bind_some, hF]
      simp
  · rw [if_neg hz, MK_not hz, toList_eq]
    rfl
theorem zones_j0 {k : Nat} {a b x : ByteArray} {la lb : List ByteArray} (ha : LB a = some la) (hb : LB b = some lb) (hx : x.size ≤ 100) (hk : 20001 < k) : nunciolaw04_NameZones.j0 (k + 1) a b x false = some true := by
  obtain ⟨k, rfl⟩ : ∃ m, k = m + 1 := ⟨k - 1, by omega⟩
  obtain ⟨a1, a2, a3⟩ := LB_some ha
  obtain ⟨b1, b2, b3⟩ := LB_some hb
  simp only [nunciolaw04_NameZones.j0]
  rw [if_neg (by simp), under_f (by omega) (by omega) (by omega), Option.bind_some, UN_self ha, if_pos rfl, under_f (by omega) (by decide) (by omega), Option.bind_some, UN_root ha, if_pos rfl, under_f (by omega) (by omega) (by omega), Option.bind_some]
  by_cases hu : UN a b = true
  · rw [if_pos hu, under_f (by omega) (by omega) (by omega), Option.bind_some, same_f (by omega) (by omega) (by omega), Option.bind_some, UN_back ha hb hu, show (SM a b != SM a b) = false by simp]
    exact zones_j1 ha hb hx (by omega)
  · rw [if_neg hu]
    exact zones_j1 ha hb hx (by omega)
theorem NameZones : nunciolaw04_NameZones.Pure := by
  intro a b x _ _ _
  obtain ⟨K, hK⟩ : ∃ K, K = 200000 := ⟨_, rfl⟩
  have T : ∀ k a b x, nunciolaw04_NameZones.j0 (k + 1) a b x true = some true := by
    intro k a b x
    simp only [nunciolaw04_NameZones.j0]; rw [if_pos trivial]
  refine ⟨K + 1, ?_⟩
  unfold nunciolaw04_NameZones.f
  rw [awake04 (by omega), Option.bind_some, if_pos rfl]
  by_cases h1 : (a.size : Int) > 5000
  · rw [if_pos h1]; exact T _ _ _ _
  rw [if_neg h1]
  by_cases h2 : (b.size : Int) > 5000
  · rw [if_pos h2]; exact T _ _ _ _
  rw [if_neg h2]
  by_cases h3 : (x.size : Int) > 100
  · rw [if_pos h3]; exact T _ _ _ _
  rw [if_neg h3, is_f (by omega) (by omega), Option.bind_some]
  cases ha : LB a with
  | none => simp only [Option.isSome_none, Bool.false_eq_true, if_false]; exact T _ _ _ _
  | some la =>
    simp only [Option.isSome_some, if_true]
    rw [is_f (by omega) (by omega), Option.bind_some]
    cases hb : LB b with
    | none => exact T _ _ _ _
    | some lb => exact zones_j0 ha hb (by omega) (by omega)
end Go.Proofs.Ytpnflloamidecaa.Pure
