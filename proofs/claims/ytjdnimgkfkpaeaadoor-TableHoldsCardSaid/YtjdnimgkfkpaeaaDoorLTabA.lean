/- What the document's functions tell, and the program's methods At and Find. -/
import Derived.Test.YtjdnimgkfkpaeaaDoorMinex5
import Derived.Test.YtjdnimgkfkpaeaaDoorMinex6
import Derived.Test.YtjdnimgkfkpaeaaDoorMinex8
import Derived.Test.YtjdnimgkfkpaeaaDoorMinex9
import Derived.Test.YtjdnimgkfkpaeaaDoorMinex4
import Derived.Test.YtjdnimgkfkpaeaaDoorMinex12
import Derived.Test.YtjdnimgkfkpaeaaDoorLTabF
namespace Go.Proofs.YtjdnimgkfkpaeaaDoor.Pure
open Go.RowKit Go.Proofs.YtjdnimgkfkpaeaaDoor.Mine Go.Proofs.YtjdnimgkfkpaeaaDoorW.PrintWords Go.Proofs.YtjdnimgkfkpaeaaDoorW.PrintLast Go.Proofs.YtjdnimgkfkpaeaaDoorW.PrintMore
set_option linter.unusedSimpArgs false
set_option linter.unusedVariables false

theorem rd_at {l : List S38} {i : Nat} {x : S38} {r : List S38} (h : l.drop i = x :: r) : rd_T38 l (i : Int) = x := by
  have hl : i < l.length := by
    rcases Nat.lt_or_ge i l.length with h1 | h1
    · exact h1
    · rw [List.drop_of_length_le h1] at h; cases h
  rw [List.drop_eq_getElem_cons hl] at h
  injection h with h1 h2
  unfold rd_T38
  rw [Int.toNat_natCast, List.getD_eq_getElem?_getD, List.getElem?_eq_getElem hl, h1]
  rfl
theorem len_at {l : List S38} {i : Nat} {x : S38} {r : List S38} (h : l.drop i = x :: r) : i < l.length := by
  rcases Nat.lt_or_ge i l.length with h1 | h1
  · exact h1
  · rw [List.drop_of_length_le h1] at h; cases h
theorem len_end {l : List S38} {i : Nat} (h : l.drop i = []) : l.length ≤ i := by
  have := congrArg List.length h
  rw [List.length_drop] at this
  simp only [List.length_nil] at this
  omega
theorem rsize_loop (a : Int) (l : List S38) : ∀ (r : List S38) (i : Nat) (s : Int), l.drop i = r → l.length ≤ 1000000 → 0 ≤ s → s + sm r ≤ 1000000000000 → Ev (fun k => nuncioref11_Size.l0 k s (i : Int) a l) (s + sm r)
  | [], i, s, h, hl, h0, hs => by
    have := len_end h
    refine Ev.step (fun k => by rw [nuncioref11_Size.l0]) ?_
    refine ev_neg (by omega) (ev_val (by simp [sm]))
  | x :: r, i, s, h, hl, h0, hs => by
    have h1 := len_at h
    have h2 := sm_nonneg r
    have h3 := es_ge x
    have h4 : es x = (x.f0.size : Int) + x.f1.size + 32 := rfl
    rw [sm] at hs
    refine Ev.step (fun k => by rw [nuncioref11_Size.l0]) ?_
    refine ev_pos (by omega) (ev_pos (by omega) ?_)
    rw [rd_at h, w64 (x := s + (x.f0.size : Int)) (by omega) (by omega), w64 (x := s + (x.f0.size : Int) + (x.f1.size : Int)) (by omega) (by omega), w64 (x := s + (x.f0.size : Int) + (x.f1.size : Int) + 32) (by omega) (by omega), w64 (x := (i : Int) + 1) (by omega) (by omega)]
    have := rsize_loop a l r (i + 1) (s + es x) (drop_succ h) hl (by omega) (by omega)
    rw [show s + (x.f0.size : Int) + (x.f1.size : Int) + 32 = s + es x by omega, show (i : Int) + 1 = ((i + 1 : Nat) : Int) by omega, sm, ← Int.add_assoc]
    exact this
theorem rsize_ev {n : Nat} {m : M} (h : Ok n m) (hn : n ≤ 100000) : Ev (fun k => nuncioref11_Size.f k m.1 m.2) (sm m.2) := by
  have h1 := sm_le m.2 h.2.2.1
  have h2 := h.2.1
  have := rsize_loop m.1 m.2 m.2 0 0 rfl (by omega) (by omega) (by omega)
  rw [Int.zero_add] at this
  exact this
theorem least_loop (l : List S38) (t : Int) : ∀ (r out : List S38) (i : Nat) (s : Int), l.drop i = r → l.length ≤ 1000000 → out.length + r.length ≤ 1000000 → 0 ≤ s → s + sm r ≤ 1000000000000 → Ev (fun k => nuncioref11_least.l0 k l t out s (i : Int)) (out ++ kp (t - s) r)
  | [], out, i, s, h, hl, ho, h0, hs => by
    have := len_end h
    refine Ev.step (fun k => by rw [nuncioref11_least.l0]) ?_
    refine ev_neg (by omega) (ev_val (by simp [kp]))
  | x :: r, out, i, s, h, hl, ho, h0, hs => by
    have h1 := len_at h
    have h2 := sm_nonneg r
    have h3 := es_ge x
    have h4 : es x = (x.f0.size : Int) + x.f1.size + 32 := rfl
    rw [sm] at hs
    simp only [List.length_cons] at ho
    refine Ev.step (fun k => by rw [nuncioref11_least.l0]) ?_
    refine ev_pos (by omega) (ev_pos (by omega) ?_)
    rw [rd_at h, w64 (x := s + (x.f0.size : Int)) (by omega) (by omega), w64 (x := s + (x.f0.size : Int) + (x.f1.size : Int)) (by omega) (by omega), w64 (x := s + (x.f0.size : Int) + (x.f1.size : Int) + 32) (by omega) (by omega), w64 (x := (i : Int) + 1) (by omega) (by omega)]
    rw [show s + (x.f0.size : Int) + (x.f1.size : Int) + 32 = s + es x by omega, show (i : Int) + 1 = ((i + 1 : Nat) : Int) by omega, kp]
    by_cases hc : es x ≤ t - s
    · refine ev_neg (by omega) (ev_pos (by omega) ?_)
      rw [if_pos hc, show out ++ x :: kp (t - s - es x) r = (out ++ [x]) ++ kp (t - (s + es x)) r by rw [List.append_assoc, show t - (s + es x) = t - s - es x by omega]; rfl]
      exact least_loop l t r (out ++ [x]) (i + 1) (s + es x) (drop_succ h) hl (by rw [List.length_append, List.length_singleton]; omega) (by omega) (by omega)
    · rw [if_neg hc]
      exact ev_pos (by omega) (ev_val (by simp))
theorem least_ev {l : List S38} (t : Int) (h : ∀ x ∈ l, es x ≤ 10000) (hl : l.length ≤ 100000) : Ev (fun k => nuncioref11_least.f k l t) (kp t l) := by
  have h1 := sm_le l h
  have := least_loop l t l [] 0 0 rfl (by omega) (by simp only [List.length_nil]; omega) (by omega) (by omega)
  rw [Int.sub_zero, List.nil_append] at this
  exact this
theorem rnew_f (n : Int) : nuncioref11_New.f n = some (mx n 0, []) := by
  unfold nuncioref11_New.f mx
  by_cases h : n < 0
  · simp only [if_pos h]
  · simp only [if_neg h]
theorem rresize_ev {n : Nat} {m : M} (h : Ok n m) (hn : n ≤ 100000) (x : Int) : Ev (fun k => nuncioref11_Resize.f k m.1 m.2 x) (rsz m x) := by
  have h2 := h.2.1
  unfold nuncioref11_Resize.f rsz mx
  by_cases hx : x < 0
  · rw [if_pos hx]
    exact ev_pos hx (Ev.bind (least_ev 0 h.2.2.1 (by omega)) (Ev.now _))
  · rw [if_neg hx]
    exact ev_neg hx (Ev.bind (least_ev x h.2.2.1 (by omega)) (Ev.now _))
theorem radd_ev {n : Nat} {m : M} (h : Ok n m) (hn : n ≤ 99999) {a b : ByteArray} (he : es ⟨a, b⟩ ≤ 10000) : Ev (fun k => nuncioref11_Add.f k m.1 m.2 a b) (add m a b) := by
  have h2 := h.2.1
  unfold nuncioref11_Add.f add
  refine ev_some (ev_pos (by simp only [List.length_singleton]; omega) ?_)
  refine Ev.bind (a := kp m.1 (⟨a, b⟩ :: m.2)) (least_ev m.1 (fun x hx => ?_) ?_) (Ev.now _)
  · rcases List.mem_cons.1 hx with rfl | hx
    · exact he
    · exact h.2.2.1 x hx
  · show (List.length m.2) + 1 ≤ 100000; omega
/-- The entry at a number. -/
def atF (F : List S38) (m : M) (n : Int) : ByteArray × ByteArray × Bool := if 1 ≤ n ∧ n ≤ 61 + (m.2.length : Int) then (((F ++ m.2).getD (n - 1).toNat z38).f0, ((F ++ m.2).getD (n - 1).toNat z38).f1, true) else ((⟨#[]⟩ : ByteArray), (⟨#[]⟩ : ByteArray), false)
def atM (m : M) (n : Int) : ByteArray × ByteArray × Bool := atF F38 m n
theorem tbAt_F {fx : List S62} (hf : fx.length = 61) (m : M) (n : Int) : tbAt fx (m.2.map bk).reverse n = atF (fx.map cv) m n := by
  unfold tbAt atF
  simp only [List.length_reverse, List.length_map, hf]
  by_cases h1 : n < 1
  · rw [if_pos h1, if_neg (by omega)]
  rw [if_neg h1]
  by_cases h2 : n > ((61 : Nat) : Int) + (m.2.length : Int)
  · rw [if_pos h2, if_neg (by omega)]
  rw [if_neg h2, if_pos (show 1 ≤ n ∧ n ≤ 61 + (m.2.length : Int) by omega)]
  by_cases h3 : n ≤ ((61 : Nat) : Int)
  · rw [if_pos h3]
    have hj : (n - 1).toNat < fx.length := by rw [hf]; omega
    have hj2 : (n - 1).toNat < (fx.map cv).length := by rw [List.length_map]; exact hj
    have e1 : rd_T62 fx (n - 1) = fx[(n - 1).toNat] := by unfold rd_T62; rw [List.getD_eq_getElem?_getD, List.getElem?_eq_getElem hj]; rfl
    have e2 : (fx.map cv ++ m.2).getD (n - 1).toNat z38 = cv (fx[(n - 1).toNat]) := by
      rw [List.getD_eq_getElem?_getD, List.getElem?_append_left hj2, List.getElem?_map, List.getElem?_eq_getElem hj]
      rfl
    rw [e1, e2]
    rfl
  · rw [if_neg h3]
    have hp : ((m.2.length : Int) - (n - ((61 : Nat) : Int))).toNat < (m.2.map bk).reverse.length := by simp only [List.length_reverse, List.length_map]; omega
    have hq : (n - 1).toNat - 61 < m.2.length := by omega
    have e1 : rd_T62 (m.2.map bk).reverse ((m.2.length : Int) - (n - ((61 : Nat) : Int))) = bk (m.2[(n - 1).toNat - 61]) := by
      unfold rd_T62
      rw [List.getD_eq_getElem?_getD, List.getElem?_eq_getElem hp, List.getElem_reverse, List.getElem_map]
      simp only [Option.getD_some, List.length_map]
      congr 1
      apply getElem_congr rfl
      omega
    have e2 : (fx.map cv ++ m.2).getD (n - 1).toNat z38 = m.2[(n - 1).toNat - 61] := by
      rw [List.getD_eq_getElem?_getD, List.getElem?_append_right (by rw [List.length_map, hf]; omega), List.length_map, hf, List.getElem?_eq_getElem hq]
      rfl
    rw [e1, e2]
    rfl
theorem at_F {fx : List S62} (hf : fx.length = 61) {k : Nat} {m : M} (h : Ok k m) (hk : k ≤ 100000) {n : Int} (hn : n ≤ 9223372036854775807) : table_Table_At.f ⟨m.1, sm m.2, (m.2.map bk).reverse, fx⟩ n = some ((atF (fx.map cv) m n).1, (atF (fx.map cv) m n).2.1, (atF (fx.map cv) m n).2.2, ⟨m.1, sm m.2, (m.2.map bk).reverse, fx⟩) := by
  have h2 := h.2.1
  unfold table_Table_At.f
  dsimp only
  rw [if_pos ⟨hn, by simp only [List.length_reverse, List.length_map]; omega, by rw [hf]; omega⟩, tbAt_F hf]
theorem at_f {k : Nat} {m : M} (h : Ok k m) (hk : k ≤ 100000) {n : Int} (hn : n ≤ 9223372036854775807) : table_Table_At.f (mkT m) n = some ((atM m n).1, (atM m n).2.1, (atM m n).2.2, mkT m) := by
  have e := at_F tbFixed_len h hk hn
  rw [fixed_cv] at e
  exact e
theorem all_len (m : M) : ((F38 ++ m.2).length : Int) = 61 + (m.2.length : Int) := by rw [List.length_append, F38_len]; omega
theorem rat_ev {k : Nat} {m : M} (h : Ok k m) (hk : k ≤ 100000) {n : Int} (hn : n ≤ 9223372036854775807) : Ev (fun k => nuncioref11_At.f k m.1 m.2 n) (atM m n) := by
  have h2 := h.2.1
  have hl := all_len m
  unfold nuncioref11_At.f
  refine Ev.bind (all_ev (by omega)) ?_
  by_cases h1 : n < 1
  · rw [show atM m n = ((⟨#[]⟩ : ByteArray), (⟨#[]⟩ : ByteArray), false) by unfold atM atF; rw [if_neg (by omega)]]
    exact ev_pos h1 (Ev.now _)
  refine ev_neg h1 ?_
  by_cases h3 : n > 61 + (m.2.length : Int)
  · rw [show atM m n = ((⟨#[]⟩ : ByteArray), (⟨#[]⟩ : ByteArray), false) by unfold atM atF; rw [if_neg (by omega)]]
    exact ev_pos (by omega) (Ev.now _)
  refine ev_neg (by omega) ?_
  have hw : wrap64 (n - 1) = n - 1 := w64 (by omega) (by omega)
  rw [show atM m n = (((F38 ++ m.2).getD (n - 1).toNat z38).f0, ((F38 ++ m.2).getD (n - 1).toNat z38).f1, true) by unfold atM atF; rw [if_pos (by omega)]]
  rw [hw]
  exact ev_pos (by omega) (ev_pos (by omega) (Ev.now _))
/-- Where a name and a value are found; where a name is. -/
def exI (nm vl : ByteArray) : List S38 → Int → Option Int
  | [], _ => none
  | x :: l, i => if x.f0 = nm ∧ x.f1 = vl then some i else exI nm vl l (i + 1)
def nmI (nm : ByteArray) : List S38 → Int → Int
  | [], _ => 0
  | x :: l, i => if x.f0 = nm then i else nmI nm l (i + 1)
def fdF (F : List S38) (m : M) (nm vl : ByteArray) : Int × Bool := match exI nm vl (F ++ m.2) 1 with
  | some j => (j, true)
  | none => (nmI nm (F ++ m.2) 1, false)
def fdM (m : M) (nm vl : ByteArray) : Int × Bool := fdF F38 m nm vl
theorem find_loop {fx : List S62} (hf : fx.length = 61) (m : M) (nm vl : ByteArray) : ∀ (r : List S38) (k i : Nat) (n : Int), (fx.map cv ++ m.2).drop i = r → k = r.length → tbFind fx (m.2.map bk).reverse nm vl k ((i : Int) + 1) n = match exI nm vl r ((i : Int) + 1) with
    | some j => (j, true)
    | none => (if n = 0 then nmI nm r ((i : Int) + 1) else n, false)
  | [], k, i, n, h, hk => by
    subst hk
    show (n, false) = _
    simp only [exI, nmI]
    by_cases hn : n = 0
    · rw [if_pos hn, hn]
    · rw [if_neg hn]
  | x :: r, k, i, n, h, hk => by
    subst hk
    have h1 := len_at h
    have h2 := rd_at h
    have hl : ((fx.map cv ++ m.2).length : Int) = 61 + (m.2.length : Int) := by rw [List.length_append, List.length_map, hf]; omega
    have ha : atF (fx.map cv) m ((i : Int) + 1) = (x.f0, x.f1, true) := by
      unfold atF
      rw [if_pos ⟨by omega, by omega⟩]
      have e : (fx.map cv ++ m.2).getD ((i : Int) + 1 - 1).toNat z38 = x := by rw [show (i : Int) + 1 - 1 = (i : Int) by omega]; exact h2
      rw [e]
    show tbFind _ _ _ _ (r.length + 1) _ _ = _
    rw [tbFind, tbAt_F hf, ha, exI, nmI]
    have e1 : (x.f0.toList = nm.toList) = (x.f0 = nm) := propext toList_inj
    have e2 : (x.f1.toList = vl.toList) = (x.f1 = vl) := propext toList_inj
    simp only [e1, e2]
    have ih := fun n => find_loop hf m nm vl r r.length (i + 1) n (drop_succ h) rfl
    rw [show (((i + 1 : Nat) : Int) + 1) = (i : Int) + 1 + 1 by omega] at ih
    by_cases h3 : x.f0 = nm
    · rw [if_pos h3, if_pos h3]
      by_cases h4 : x.f1 = vl
      · rw [if_pos h4, if_pos ⟨h3, h4⟩]
      · have e3 : ¬ (x.f0 = nm ∧ x.f1 = vl) := fun h => h4 h.2
        rw [if_neg h4, if_neg e3]
        by_cases h5 : n = 0
        · rw [if_pos h5, ih]
          cases exI nm vl r ((i : Int) + 1 + 1) with
          | some j => rfl
          | none => simp only [if_pos h5, if_neg (show ¬ ((i : Int) + 1 = 0) by omega)]
        · rw [if_neg h5, ih]
          cases exI nm vl r ((i : Int) + 1 + 1) with
          | some j => rfl
          | none => simp only [if_neg h5]
    · have e3 : ¬ (x.f0 = nm ∧ x.f1 = vl) := fun h => h3 h.1
      rw [if_neg h3, if_neg e3, if_neg h3, ih]
theorem find_F {fx : List S62} (hf : fx.length = 61) {k : Nat} {m : M} (h : Ok k m) (hk : k ≤ 100000) (nm vl : ByteArray) : table_Table_Find.f ⟨m.1, sm m.2, (m.2.map bk).reverse, fx⟩ nm vl = some ((fdF (fx.map cv) m nm vl).1, (fdF (fx.map cv) m nm vl).2, ⟨m.1, sm m.2, (m.2.map bk).reverse, fx⟩) := by
  have h2 := h.2.1
  have e := find_loop hf m nm vl (fx.map cv ++ m.2) (fx.length + ((m.2.map bk).reverse).length) 0 0 rfl (by simp only [List.length_append, List.length_reverse, List.length_map])
  rw [show ((0 : Nat) : Int) + 1 = 1 from rfl] at e
  unfold table_Table_Find.f
  dsimp only
  rw [if_pos ⟨by simp only [List.length_reverse, List.length_map]; omega, by rw [hf]; omega⟩, e]
  unfold fdF
  cases exI nm vl (fx.map cv ++ m.2) 1 <;> rfl
theorem find_f {k : Nat} {m : M} (h : Ok k m) (hk : k ≤ 100000) (nm vl : ByteArray) : table_Table_Find.f (mkT m) nm vl = some ((fdM m nm vl).1, (fdM m nm vl).2, mkT m) := by
  have e := find_F tbFixed_len h hk nm vl
  rw [fixed_cv] at e
  exact e
theorem rname_loop (nm : ByteArray) (l : List S38) (hl : l.length ≤ 1000000) : ∀ (r : List S38) (i : Nat), l.drop i = r → Ev (fun k => nuncioref11_Find.l1 k nm l (i : Int)) (nmI nm r ((i : Int) + 1), false)
  | [], i, h => by
    have := len_end h
    refine Ev.step (fun k => by rw [nuncioref11_Find.l1]) ?_
    exact ev_neg (by omega) (Ev.now _)
  | x :: r, i, h => by
    have h1 := len_at h
    refine Ev.step (fun k => by rw [nuncioref11_Find.l1]) ?_
    refine ev_pos (by omega) (ev_pos (by omega) ?_)
    rw [rd_at h, w64 (by omega) (by omega), nmI]
    by_cases h3 : x.f0 = nm
    · rw [if_pos h3]
      exact ev_pos (toList_inj.2 h3) (Ev.now _)
    · rw [if_neg h3]
      refine ev_neg (fun e => h3 (toList_inj.1 e)) ?_
      have := rname_loop nm l hl r (i + 1) (drop_succ h)
      rwa [show ((i + 1 : Nat) : Int) = (i : Int) + 1 by omega] at this
theorem rfind_loop (nm vl : ByteArray) (l : List S38) (hl : l.length ≤ 1000000) : ∀ (r : List S38) (i : Nat), l.drop i = r → Ev (fun k => nuncioref11_Find.l0 k nm vl l (i : Int)) (match exI nm vl r ((i : Int) + 1) with
    | some j => (j, true)
    | none => (nmI nm l 1, false))
  | [], i, h => by
    have := len_end h
    refine Ev.step (fun k => by rw [nuncioref11_Find.l0]) ?_
    exact ev_neg (by omega) (rname_loop nm l hl l 0 rfl)
  | x :: r, i, h => by
    have h1 := len_at h
    have ih := rfind_loop nm vl l hl r (i + 1) (drop_succ h)
    rw [show ((i + 1 : Nat) : Int) = (i : Int) + 1 by omega] at ih
    refine Ev.step (fun k => by rw [nuncioref11_Find.l0]) ?_
    refine ev_pos (by omega) (ev_pos (by omega) ?_)
    rw [rd_at h, w64 (by omega) (by omega), exI]
    by_cases h3 : x.f0 = nm
    · refine ev_pos (toList_inj.2 h3) ?_
      by_cases h4 : x.f1 = vl
      · rw [if_pos ⟨h3, h4⟩]
        exact ev_pos (toList_inj.2 h4) (Ev.now _)
      · rw [if_neg (fun h => h4 h.2)]
        exact ev_neg (fun e => h4 (toList_inj.1 e)) ih
    · rw [if_neg (fun h => h3 h.1)]
      exact ev_neg (fun e => h3 (toList_inj.1 e)) ih
theorem rfind_ev {k : Nat} {m : M} (h : Ok k m) (hk : k ≤ 100000) (nm vl : ByteArray) : Ev (fun k => nuncioref11_Find.f k m.1 m.2 nm vl) (fdM m nm vl) := by
  have h2 := h.2.1
  have hl := all_len m
  unfold nuncioref11_Find.f
  refine Ev.bind (all_ev (by omega)) ?_
  have := rfind_loop nm vl (F38 ++ m.2) (by omega) (F38 ++ m.2) 0 rfl
  exact this
end Go.Proofs.YtjdnimgkfkpaeaaDoor.Pure
