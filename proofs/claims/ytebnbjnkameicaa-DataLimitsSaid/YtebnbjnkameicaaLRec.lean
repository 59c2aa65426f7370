/- What the program's functions of a record answer. -/
import Derived.Test.YtebnbjnkameicaaMinex1
import Derived.Test.YtebnbjnkameicaaMinex4
import Derived.Test.YtebnbjnkameicaaMinex5
import Derived.Test.YtebnbjnkameicaaMinex7
import Derived.Test.YtebnbjnkameicaaMinex9
import Derived.Test.YtebnbjnkameicaaMinex10
import Derived.Test.YtebnbjnkameicaaMinex3
import Derived.Test.YtebnbjnkameicaaMinex8
import Derived.Test.YtebnbjnkameicaaMinex14
import Derived.Test.YtebnbjnkameicaaLPut
import Derived.Test.YtebnbjnkameicaaLLab
namespace Go.Proofs.Ytebnbjnkameicaa.Pure
open Go.RowKit Go.Proofs.Ytebnbjnkameicaa.Mine Go.Proofs.YtebnbjnkameicaaW.PrintWords Go.Proofs.YtebnbjnkameicaaW.PrintLast Go.Proofs.YtebnbjnkameicaaW.PrintMore
set_option linter.unusedSimpArgs false
set_option linter.unusedVariables false

/-- The bytes of texts, and one for each. -/
def tot (l : List ByteArray) : Nat := (l.map (fun s => s.size + 1)).sum
theorem tot_cons (s : ByteArray) (l : List ByteArray) : tot (s :: l) = s.size + 1 + tot l := by simp [tot]
theorem tot_nil : tot [] = 0 := rfl
theorem tot_drop {l : List ByteArray} {i : Nat} (h : i < l.length) : tot (l.drop i) = l[i].size + 1 + tot (l.drop (i + 1)) := by
  rw [List.drop_eq_getElem_cons h, tot_cons]
theorem tot_append (a b : List ByteArray) : tot (a ++ b) = tot a + tot b := by simp [tot]
theorem tot_len : ∀ l : List ByteArray, l.length ≤ tot l
  | [] => by simp [tot]
  | s :: l => by rw [tot_cons, List.length_cons]; have := tot_len l; omega
theorem tot_mem : ∀ {l : List ByteArray} {s : ByteArray}, s ∈ l → s.size < tot l
  | x :: l, s, h => by
    rw [tot_cons]
    rcases List.mem_cons.1 h with rfl | h
    · omega
    · have := tot_mem h; omega
def shp (t : Int) : Int × Int × Int := if t = 2 ∨ t = 5 ∨ t = 12 then (1, 0, 0) else if t = 6 then (2, 5, 0) else if t = 15 then (1, 1, 0) else if t = 33 then (1, 3, 0) else (0, 0, 1)
theorem shape_f {k : Nat} (t : Int) (hk : 0 < k) : rdata_Shape.f k t = some (shp t) := by
  obtain ⟨k, rfl⟩ : ∃ m, k = m + 1 := ⟨k - 1, by omega⟩
  simp only [rdata_Shape.f, rdata_Shape.j0, shp]
  by_cases h2 : t = 2
  · subst h2; simp
  by_cases h5 : t = 5
  · subst h5; simp
  by_cases h12 : t = 12
  · subst h12; simp
  simp [h2, h5, h12]
  repeat' (split <;> try rfl)
def uOK (t u : Int) : Bool := decide (t = 6) || decide (u ≤ 65535)
def tOK (t : Int) (s : ByteArray) : Bool := if t = 16 then decide ((s.size : Int) ≤ 255) else if t = 1 then decide ((s.size : Int) = 4) else if t = 28 then decide ((s.size : Int) = 16) else true
def SHL (t : Int) (ns : List ByteArray) (us : List Int) (ts : List ByteArray) : Bool :=
  decide ((ns.length : Int) = (shp t).1) && decide ((us.length : Int) = (shp t).2.1) && (decide ((ts.length : Int) = (shp t).2.2) || (decide (t = 16) && decide (0 < ts.length)))
/-- Has a record its type's shape? -/
def SH (t : Int) (ns : List ByteArray) (us : List Int) (ts : List ByteArray) : Bool := SHL t ns us ts && us.all (uOK t) && ts.all (tOK t)
theorem idx37 (l : List ByteArray) (hl : l.length ≤ 1000000) : ∀ (d k i : Nat), i + d = l.length → d < k →
    ∃ r, slices_IndexFunc_string_string_37.l0 k l (l.length : Int) (i : Int) = some r ∧ (decide (r ≥ 0)) = !((l.drop i).all fun s => decide ((s.size : Int) ≤ 255))
  | 0, k, i, hd, hk => by
    obtain ⟨k, rfl⟩ : ∃ m, k = m + 1 := ⟨k - 1, by omega⟩
    simp only [slices_IndexFunc_string_string_37.l0]
    rw [if_neg (by omega), List.drop_eq_nil_of_le (by omega)]
    exact ⟨_, rfl, by simp⟩
  | d + 1, k, i, hd, hk => by
    obtain ⟨k, rfl⟩ : ∃ m, k = m + 1 := ⟨k - 1, by omega⟩
    have hi : i < l.length := by omega
    simp only [slices_IndexFunc_string_string_37.l0]
    rw [if_pos (by omega), if_pos (by omega), if_pos (by omega), rdo hi, rdata_shaped_1.f, Option.bind_some, List.drop_eq_getElem_cons hi, List.all_cons, w64 (by omega) (by omega)]
    by_cases h : (l[i].size : Int) > 255
    · rw [decide_eq_true h, if_pos rfl]
      exact ⟨_, rfl, by rw [decide_eq_true (by omega), decide_eq_false (by omega : ¬ ((l[i].size : Int) ≤ 255))]; rfl⟩
    · rw [decide_eq_false h, if_neg (by simp), decide_eq_true (by omega : (l[i].size : Int) ≤ 255), Bool.true_and]
      exact idx37 l hl d k (i + 1) (by omega) (by omega)
theorem con37 {k : Nat} {l : List ByteArray} (hl : l.length ≤ 1000000) (hk : l.length < k) : slices_ContainsFunc_string_string_37.f k l = some (!(l.all fun s => decide ((s.size : Int) ≤ 255))) := by
  obtain ⟨r, h1, h2⟩ := idx37 l hl l.length k 0 (by omega) hk
  unfold slices_ContainsFunc_string_string_37.f slices_IndexFunc_string_string_37.f
  rw [show ((0 : Nat) : Int) = 0 from rfl] at h1
  rw [h1, Option.bind_some, h2, List.drop_zero]
theorem idx23 (l : List ByteArray) (hl : tot l ≤ 900000) : ∀ (d k i : Nat), i + d = l.length → d + 600 < k →
    ∃ r, slices_IndexFunc_string_string_23.l0 k l (l.length : Int) (i : Int) = some r ∧ (decide (r ≥ 0)) = !((l.drop i).all fun s => (LB s).isSome)
  | 0, k, i, hd, hk => by
    obtain ⟨k, rfl⟩ : ∃ m, k = m + 1 := ⟨k - 1, by omega⟩
    simp only [slices_IndexFunc_string_string_23.l0]
    rw [if_neg (by omega), List.drop_eq_nil_of_le (by omega)]
    exact ⟨_, rfl, by simp⟩
  | d + 1, k, i, hd, hk => by
    obtain ⟨k, rfl⟩ : ∃ m, k = m + 1 := ⟨k - 1, by omega⟩
    have hi : i < l.length := by omega
    have hs := tot_mem (List.getElem_mem hi)
    have := tot_len l
    simp only [slices_IndexFunc_string_string_23.l0]
    rw [if_pos (by omega), if_pos (by omega), if_pos (by omega), rdo hi, rdata_Check_1.f, is_f (by omega) (by omega), Option.bind_some, Option.bind_some, List.drop_eq_getElem_cons hi, List.all_cons, w64 (by omega) (by omega)]
    cases h : (LB l[i]).isSome with
    | false =>
      rw [if_pos (by simp)]
      exact ⟨_, rfl, by rw [decide_eq_true (by omega)]; rfl⟩
    | true =>
      rw [if_neg (by simp), Bool.true_and]
      exact idx23 l hl d k (i + 1) (by omega) (by omega)
theorem con23 {k : Nat} {l : List ByteArray} (hl : tot l ≤ 900000) (hk : l.length + 600 < k) : slices_ContainsFunc_string_string_23.f k l = some (!(l.all fun s => (LB s).isSome)) := by
  obtain ⟨r, h1, h2⟩ := idx23 l hl l.length k 0 (by omega) hk
  unfold slices_ContainsFunc_string_string_23.f slices_IndexFunc_string_string_23.f
  rw [show ((0 : Nat) : Int) = 0 from rfl] at h1
  rw [h1, Option.bind_some, h2, List.drop_zero]
theorem shaped_l0 (a : ByteArray) (t c e : Int) (ns : List ByteArray) (us : List Int) (ts : List ByteArray) (hu : us.length ≤ 1000000) (hts : ts.length ≤ 1000000) (h1 : t = 1 ∨ t = 28 → ts.length = 1) :
    ∀ (d k i : Nat), i + d = us.length → d + ts.length + 1 < k → rdata_shaped.l0 k us (us.length : Int) (i : Int) a t c e ns us ts = some ((us.drop i).all (uOK t) && ts.all (tOK t))
  | 0, k, i, hd, hk => by
    obtain ⟨k, rfl⟩ : ∃ m, k = m + 1 := ⟨k - 1, by omega⟩
    simp only [rdata_shaped.l0]
    rw [if_neg (by omega), List.drop_eq_nil_of_le (by omega), List.all_nil, Bool.true_and]
    by_cases e1 : t = 1
    · subst e1
      obtain ⟨s, rfl⟩ : ∃ s, ts = [s] := List.length_eq_one_iff.1 (h1 (Or.inl rfl))
      rw [if_pos rfl, if_pos (by simp)]
      simp [tOK, rdOf, beq_iff_eq]
      rfl
    · rw [if_neg e1]
      by_cases e2 : t = 28
      · subst e2
        obtain ⟨s, rfl⟩ : ∃ s, ts = [s] := List.length_eq_one_iff.1 (h1 (Or.inr rfl))
        rw [if_pos rfl, if_pos (by simp)]
        simp [tOK, rdOf, beq_iff_eq]
        rfl
      · rw [if_neg e2]
        by_cases e3 : t = 16
        · rw [if_pos e3, con37 hts (by omega), Option.bind_some, Bool.not_not]
          congr 1
          exact congrArg (fun p => ts.all p) (funext fun s => by simp [tOK, e3])
        · rw [if_neg e3]
          simp [tOK, e1, e2, e3]
  | d + 1, k, i, hd, hk => by
    obtain ⟨k, rfl⟩ : ∃ m, k = m + 1 := ⟨k - 1, by omega⟩
    have hi : i < us.length := by omega
    have ih := shaped_l0 a t c e ns us ts hu hts h1 d k (i + 1) (by omega) (by omega)
    simp only [rdata_shaped.l0]
    rw [if_pos (by omega), if_pos (by omega), if_pos (by omega), rd_nat hi, List.drop_eq_getElem_cons hi, List.all_cons, w64 (by omega) (by omega)]
    by_cases e6 : t = 6
    · rw [if_pos e6, show uOK t us[i] = true by simp [uOK, e6], Bool.true_and]
      exact ih
    · rw [if_neg e6]
      by_cases h : us[i] > 65535
      · rw [if_pos h, show uOK t us[i] = false by simp [uOK, e6]; omega]; simp
      · rw [if_neg h, show uOK t us[i] = true by simp [uOK]; omega, Bool.true_and]
        exact ih
theorem shaped_f {k : Nat} (a : ByteArray) (t c e : Int) {ns : List ByteArray} {us : List Int} {ts : List ByteArray} (hu : us.length ≤ 1000000) (hts : ts.length ≤ 1000000) (hk : us.length + ts.length + 10 < k) :
    rdata_shaped.f k a t c e ns us ts = some (SH t ns us ts) := by
  obtain ⟨k, rfl⟩ : ∃ m, k = m + 1 := ⟨k - 1, by omega⟩
  have T : rdata_shaped.j0 (k + 1) true a t c e ns us ts = some false := by simp only [rdata_shaped.j0]; rw [if_pos trivial]
  have F : (t = 1 ∨ t = 28 → ts.length = 1) → rdata_shaped.j0 (k + 1) false a t c e ns us ts = some (us.all (uOK t) && ts.all (tOK t)) := by
    intro h1
    have := shaped_l0 a t c e ns us ts hu hts h1 us.length k 0 (by omega) (by omega)
    simp only [rdata_shaped.j0]; rw [if_neg (by simp)]
    exact this
  unfold rdata_shaped.f SH SHL
  rw [shape_f _ (by omega), Option.bind_some]
  by_cases hn : (ns.length : Int) = (shp t).1
  · rw [if_pos hn, decide_eq_true hn]
    by_cases hm : (us.length : Int) = (shp t).2.1
    · rw [if_pos hm, decide_eq_true hm]
      by_cases ht : (ts.length : Int) = (shp t).2.2
      · rw [if_pos ht, decide_eq_true ht, F]
        · simp
        · intro h
          have : (shp t).2.2 = 1 := by rcases h with rfl | rfl <;> rfl
          omega
      · rw [if_neg ht, decide_eq_false ht]
        by_cases e3 : t = 16
        · rw [if_pos e3, decide_eq_true e3]
          by_cases hz : ts.length = 0
          · rw [show ((ts.length : Int) == 0) = true by simp [hz], T, decide_eq_false (by omega)]; simp
          · rw [show ((ts.length : Int) == 0) = false by simp [hz], F (by omega), decide_eq_true (by omega)]; simp
        · rw [if_neg e3, T, decide_eq_false e3]; simp
    · rw [if_neg hm, T, decide_eq_false hm]; simp
  · rw [if_neg hn, T, decide_eq_false hn]; simp
theorem size_l1 (ts : List ByteArray) (hz : ts.length ≤ 1000000) : ∀ (d k i : Nat) (n : Int), i + d = ts.length → d < k → 0 ≤ n → n + (tot (ts.drop i) : Int) ≤ 131070 → rdata_size.l1 k n ts (ts.length : Int) (i : Int) = some (n + (tot (ts.drop i) : Int))
  | 0, k, i, n, hd, hk, h0, hn => by
    obtain ⟨k, rfl⟩ : ∃ m, k = m + 1 := ⟨k - 1, by omega⟩
    simp only [rdata_size.l1]
    rw [if_neg (by omega), List.drop_eq_nil_of_le (by omega), tot_nil]; simp
  | d + 1, k, i, n, hd, hk, h0, hn => by
    obtain ⟨k, rfl⟩ : ∃ m, k = m + 1 := ⟨k - 1, by omega⟩
    have hi : i < ts.length := by omega
    have hl := tot_len (ts.drop i)
    rw [List.length_drop] at hl
    have ht := tot_drop hi
    have ih := size_l1 ts hz d k (i + 1) (n + ((ts[i].size : Int) + 1)) (by omega) (by omega) (by omega) (by omega)
    simp only [rdata_size.l1]
    rw [if_pos (by omega), if_pos (by omega), if_pos (by omega), rdo hi, w64 (x := (ts[i].size : Int) + 1) (by omega) (by omega), w64 (x := n + _) (by omega) (by omega), if_neg (by omega), w64 (x := (i : Int) + 1) (by omega) (by omega)]
    rw [show ((i : Int) + 1) = ((i + 1 : Nat) : Int) by omega, ih, ht]
    congr 1; omega
theorem size_l0 (a : ByteArray) (t c e : Int) (ns : List ByteArray) (us : List Int) (ts : List ByteArray) (hz0 : ns.length ≤ 1000000) (hz : ts.length ≤ 1000000) : ∀ (d k i : Nat) (n : Int), i + d = ns.length → d + ts.length + 1 < k → 0 ≤ n → n + (tot (ns.drop i) : Int) + (tot ts : Int) ≤ 131070 →
    ∃ r, rdata_size.l0 k n ns (ns.length : Int) (i : Int) a t c e ns us ts = some r ∧ r ≤ 131070
  | 0, k, i, n, hd, hk, h0, hn => by
    obtain ⟨k, rfl⟩ : ∃ m, k = m + 1 := ⟨k - 1, by omega⟩
    have := size_l1 ts hz ts.length k 0 n (by omega) (by omega) h0 (by rw [List.drop_zero]; omega)
    rw [List.drop_zero, show ((0 : Nat) : Int) = 0 from rfl] at this
    simp only [rdata_size.l0]
    rw [if_neg (by omega), this]
    exact ⟨_, rfl, by omega⟩
  | d + 1, k, i, n, hd, hk, h0, hn => by
    obtain ⟨k, rfl⟩ : ∃ m, k = m + 1 := ⟨k - 1, by omega⟩
    have hi : i < ns.length := by omega
    have hl := tot_len (ns.drop i)
    rw [List.length_drop] at hl
    have ht := tot_drop hi
    simp only [rdata_size.l0]
    rw [if_pos (by omega), if_pos (by omega), if_pos (by omega), rdo hi, w64 (x := n + _) (by omega) (by omega), w64 (x := (i : Int) + 1) (by omega) (by omega)]
    exact size_l0 a t c e ns us ts hz0 hz d k (i + 1) _ (by omega) (by omega) (by omega) (by omega)
theorem size_f {k : Nat} (a : ByteArray) (t c e : Int) {ns : List ByteArray} {us : List Int} {ts : List ByteArray} (hn : tot ns ≤ 6000) (hu : us.length ≤ 6000) (ht : tot ts ≤ 6000) (hk : 20000 < k) :
    ∃ r, rdata_size.f k a t c e ns us ts = some r ∧ r ≤ 131070 := by
  have := tot_len ns
  have := tot_len ts
  unfold rdata_size.f
  rw [w64 (by omega) (by omega)]
  exact size_l0 a t c e ns us ts (by omega) (by omega) ns.length k 0 _ (by omega) (by omega) (by omega) (by rw [List.drop_zero]; omega)
def tB (t : Int) (s : ByteArray) : List Int := (if t = 16 then [(s.size : Int) % 256] else []) ++ bytesOf s
/-- The plain bytes of a record's data. -/
def PL (t : Int) (ns : List ByteArray) (us : List Int) (ts : List ByteArray) : List Int :=
  (if t = 6 then [] else us.flatMap (be · 2)) ++ (ns.flatMap bytesOf ++ ((if t = 6 then us.flatMap (be · 4) else []) ++ ts.flatMap (tB t)))
theorem tB_len (t : Int) (s : ByteArray) : (tB t s).length ≤ s.size + 1 := by
  unfold tB; rw [List.length_append, ← size_bytesOf]; split <;> simp <;> omega
theorem tB_bytes (t : Int) (s : ByteArray) : Bytes (tB t s) := by
  unfold tB; refine Bytes.append ?_ (bytesOf_bytes s); split
  · exact Bytes.cons (by omega) (by omega) Bytes.nil
  · exact Bytes.nil
theorem plain_l3 (a : ByteArray) (t c e : Int) (ns : List ByteArray) (us : List Int) (ts : List ByteArray) (hz0 : ns.length ≤ 1000000) (hz1 : us.length ≤ 1000000) (hz : ts.length ≤ 1000000) : ∀ (d k i : Nat) (x : List Int), i + d = ts.length → d < k → x.length + tot (ts.drop i) ≤ 100000000 →
    rdata_plain.l3 k x ts (ts.length : Int) (i : Int) a t c e ns us ts = some (x ++ (ts.drop i).flatMap (tB t))
  | 0, k, i, x, hd, hk, hx => by
    obtain ⟨k, rfl⟩ : ∃ m, k = m + 1 := ⟨k - 1, by omega⟩
    simp only [rdata_plain.l3]
    rw [if_neg (by omega), List.drop_eq_nil_of_le (by omega)]; simp
  | d + 1, k, i, x, hd, hk, hx => by
    obtain ⟨k, rfl⟩ : ∃ m, k = m + 1 := ⟨k - 1, by omega⟩
    have hi : i < ts.length := by omega
    have hl := tot_len (ts.drop i)
    rw [List.length_drop] at hl
    have ht := tot_drop hi
    have hb := size_bytesOf ts[i]
    have hy := tB_len t ts[i]
    have ih := plain_l3 a t c e ns us ts hz0 hz1 hz d k (i + 1) (x ++ tB t ts[i]) (by omega) (by omega) (by rw [List.length_append]; omega)
    simp only [rdata_plain.l3]
    rw [if_pos (by omega), if_pos (by omega), if_pos (by omega), rdo hi, w64 (x := (i : Int) + 1) (by omega) (by omega), List.drop_eq_getElem_cons hi, List.flatMap_cons, ← List.append_assoc]
    rw [show ((i : Int) + 1) = ((i + 1 : Nat) : Int) by omega, ← ih]
    by_cases e3 : t = 16
    · rw [if_pos e3, if_pos (by omega), Option.bind_some, if_pos (by simp; omega)]
      unfold tB
      rw [if_pos e3, List.append_assoc]
    · rw [if_neg e3, if_pos (by omega)]
      unfold tB
      rw [if_neg e3, List.nil_append]
theorem plain_j4 {k : Nat} (a : ByteArray) (t c e : Int) (ns : List ByteArray) (us : List Int) (ts : List ByteArray) (hz0 : ns.length ≤ 1000000) (hz1 : us.length ≤ 1000000) (hz : ts.length ≤ 1000000) (x : List Int) (hx : x.length + tot ts ≤ 100000000) (hk : ts.length + 1 < k) :
    rdata_plain.j4 k x a t c e ns us ts = some (x ++ ts.flatMap (tB t)) := by
  obtain ⟨k, rfl⟩ : ∃ m, k = m + 1 := ⟨k - 1, by omega⟩
  simp only [rdata_plain.j4]
  exact plain_l3 a t c e ns us ts hz0 hz1 hz ts.length k 0 x (by omega) (by omega) (by rw [List.drop_zero]; exact hx)
theorem plain_l2 (a : ByteArray) (t c e : Int) (ns : List ByteArray) (us : List Int) (ts : List ByteArray) (hz0 : ns.length ≤ 1000000) (hz1 : us.length ≤ 1000000) (hz : ts.length ≤ 1000000) (hus : ∀ u ∈ us, 0 ≤ u ∧ u < 4294967296) : ∀ (d k i : Nat) (x : List Int), i + d = us.length → d + ts.length + 12 < k → x.length + 4 * d + tot ts ≤ 100000000 →
    rdata_plain.l2 k x us (us.length : Int) (i : Int) a t c e ns us ts = some (x ++ ((us.drop i).flatMap (be · 4) ++ ts.flatMap (tB t)))
  | 0, k, i, x, hd, hk, hx => by
    obtain ⟨k, rfl⟩ : ∃ m, k = m + 1 := ⟨k - 1, by omega⟩
    simp only [rdata_plain.l2]
    rw [if_neg (by omega), List.drop_eq_nil_of_le (by omega), plain_j4 _ _ _ _ _ _ _ hz0 hz1 hz _ (by omega) (by omega)]; simp
  | d + 1, k, i, x, hd, hk, hx => by
    obtain ⟨k, rfl⟩ : ∃ m, k = m + 1 := ⟨k - 1, by omega⟩
    have hi : i < us.length := by omega
    have hu := hus us[i] (List.getElem_mem hi)
    have ih := plain_l2 a t c e ns us ts hz0 hz1 hz hus d k (i + 1) (x ++ be us[i] 4) (by omega) (by omega) (by rw [List.length_append, be_length]; omega)
    have hp := put_f (k := k) (l := x) us[i] 4 (by omega) (by omega)
    simp only [rdata_plain.l2]
    rw [if_pos (by omega), if_pos (by omega), if_pos (by omega), rd_nat hi, wu64_id (by omega) (by omega), hp, Option.bind_some, w64 (x := (i : Int) + 1) (by omega) (by omega), List.drop_eq_getElem_cons hi, List.flatMap_cons, List.append_assoc, ← List.append_assoc x]
    exact ih
theorem plain_l1 (a : ByteArray) (t c e : Int) (ns : List ByteArray) (us : List Int) (ts : List ByteArray) (hz0 : ns.length ≤ 1000000) (hz1 : us.length ≤ 1000000) (hz : ts.length ≤ 1000000) (hus : ∀ u ∈ us, 0 ≤ u ∧ u < 4294967296) : ∀ (d k i : Nat) (x : List Int), i + d = ns.length → d + us.length + ts.length + 14 < k → x.length + tot (ns.drop i) + 4 * us.length + tot ts ≤ 100000000 →
    rdata_plain.l1 k x ns (ns.length : Int) (i : Int) a t c e ns us ts = some (x ++ ((ns.drop i).flatMap bytesOf ++ ((if t = 6 then us.flatMap (be · 4) else []) ++ ts.flatMap (tB t))))
  | 0, k, i, x, hd, hk, hx => by
    obtain ⟨k, rfl⟩ : ∃ m, k = m + 1 := ⟨k - 1, by omega⟩
    have h2 := plain_l2 a t c e ns us ts hz0 hz1 hz hus us.length k 0 x (by omega) (by omega) (by omega)
    rw [List.drop_zero, show ((0 : Nat) : Int) = 0 from rfl] at h2
    simp only [rdata_plain.l1]
    rw [if_neg (by omega), List.drop_eq_nil_of_le (by omega)]
    by_cases e6 : t = 6
    · rw [if_pos e6, if_pos e6, h2]; simp
    · rw [if_neg e6, if_neg e6, plain_j4 _ _ _ _ _ _ _ hz0 hz1 hz _ (by omega) (by omega)]; simp
  | d + 1, k, i, x, hd, hk, hx => by
    obtain ⟨k, rfl⟩ : ∃ m, k = m + 1 := ⟨k - 1, by omega⟩
    have hi : i < ns.length := by omega
    have hb := size_bytesOf ns[i]
    have hl := tot_len (ns.drop i)
    rw [List.length_drop] at hl
    have ht := tot_drop hi
    have ih := plain_l1 a t c e ns us ts hz0 hz1 hz hus d k (i + 1) (x ++ bytesOf ns[i]) (by omega) (by omega) (by rw [List.length_append]; omega)
    simp only [rdata_plain.l1]
    rw [if_pos (by omega), if_pos (by omega), if_pos (by omega), rdo hi, if_pos (by omega), w64 (x := (i : Int) + 1) (by omega) (by omega), List.drop_eq_getElem_cons hi, List.flatMap_cons, List.append_assoc, ← List.append_assoc x]
    exact ih
theorem plain_j1 {k : Nat} (a : ByteArray) (t c e : Int) (ns : List ByteArray) (us : List Int) (ts : List ByteArray) (hz0 : ns.length ≤ 1000000) (hz1 : us.length ≤ 1000000) (hz : ts.length ≤ 1000000) (hus : ∀ u ∈ us, 0 ≤ u ∧ u < 4294967296) (x : List Int) (hx : x.length + tot ns + 4 * us.length + tot ts ≤ 100000000) (hk : ns.length + us.length + ts.length + 15 < k) :
    rdata_plain.j1 k x a t c e ns us ts = some (x ++ (ns.flatMap bytesOf ++ ((if t = 6 then us.flatMap (be · 4) else []) ++ ts.flatMap (tB t)))) := by
  obtain ⟨k, rfl⟩ : ∃ m, k = m + 1 := ⟨k - 1, by omega⟩
  simp only [rdata_plain.j1]
  exact plain_l1 a t c e ns us ts hz0 hz1 hz hus ns.length k 0 x (by omega) (by omega) (by rw [List.drop_zero]; exact hx)
theorem plain_l0 (a : ByteArray) (t c e : Int) (ns : List ByteArray) (us : List Int) (ts : List ByteArray) (hz0 : ns.length ≤ 1000000) (hz1 : us.length ≤ 1000000) (hz : ts.length ≤ 1000000) (hus : ∀ u ∈ us, 0 ≤ u ∧ u < 4294967296) : ∀ (d k i : Nat) (x : List Int), i + d = us.length → d + ns.length + us.length + ts.length + 20 < k → x.length + 2 * d + tot ns + 4 * us.length + tot ts ≤ 100000000 →
    rdata_plain.l0 k x us (us.length : Int) (i : Int) a t c e ns us ts = some (x ++ ((us.drop i).flatMap (be · 2) ++ (ns.flatMap bytesOf ++ ((if t = 6 then us.flatMap (be · 4) else []) ++ ts.flatMap (tB t)))))
  | 0, k, i, x, hd, hk, hx => by
    obtain ⟨k, rfl⟩ : ∃ m, k = m + 1 := ⟨k - 1, by omega⟩
    simp only [rdata_plain.l0]
    rw [if_neg (by omega), List.drop_eq_nil_of_le (by omega), plain_j1 _ _ _ _ _ _ _ hz0 hz1 hz hus _ (by omega) (by omega)]; simp
  | d + 1, k, i, x, hd, hk, hx => by
    obtain ⟨k, rfl⟩ : ∃ m, k = m + 1 := ⟨k - 1, by omega⟩
    have hi : i < us.length := by omega
    have hu := hus us[i] (List.getElem_mem hi)
    have ih := plain_l0 a t c e ns us ts hz0 hz1 hz hus d k (i + 1) (x ++ be us[i] 2) (by omega) (by omega) (by rw [List.length_append, be_length]; omega)
    have hp := put_f (k := k) (l := x) us[i] 2 (by omega) (by omega)
    simp only [rdata_plain.l0]
    rw [if_pos (by omega), if_pos (by omega), if_pos (by omega), rd_nat hi, wu64_id (by omega) (by omega), hp, Option.bind_some, w64 (x := (i : Int) + 1) (by omega) (by omega), List.drop_eq_getElem_cons hi, List.flatMap_cons, List.append_assoc, ← List.append_assoc x]
    exact ih
theorem plain_f {k : Nat} (a : ByteArray) (t c e : Int) {ns : List ByteArray} {us : List Int} {ts : List ByteArray} (hus : ∀ u ∈ us, 0 ≤ u ∧ u < 4294967296) (hn : tot ns ≤ 6000) (hu : us.length ≤ 6000) (ht : tot ts ≤ 6000) (hk : 30000 < k) :
    rdata_plain.f k a t c e ns us ts = some (PL t ns us ts) := by
  have := tot_len ns
  have := tot_len ts
  unfold rdata_plain.f PL
  by_cases e6 : t = 6
  · rw [if_pos e6, plain_j1 _ _ _ _ _ _ _ (by omega) (by omega) (by omega) hus _ (by rw [List.length_nil]; omega) (by omega)]; simp [e6]
  · have := plain_l0 a t c e ns us ts (by omega) (by omega) (by omega) hus us.length k 0 [] (by omega) (by omega) (by rw [List.length_nil]; omega)
    rw [List.drop_zero, show ((0 : Nat) : Int) = 0 from rfl] at this
    rw [if_neg e6, this]; simp [e6]
theorem flat_len {α : Type} (f : α → List Int) (n : Nat) : ∀ l : List α, (∀ x ∈ l, (f x).length = n) → (l.flatMap f).length = n * l.length
  | [], _ => by simp
  | x :: l, h => by
    rw [List.flatMap_cons, List.length_append, h x List.mem_cons_self, flat_len f n l (fun y hy => h y (List.mem_cons_of_mem _ hy)), List.length_cons, Nat.mul_add, Nat.mul_one, Nat.add_comm]
theorem flat_tot (f : ByteArray → List Int) (hf : ∀ s, (f s).length ≤ s.size + 1) : ∀ l : List ByteArray, (l.flatMap f).length ≤ tot l
  | [] => by simp [tot]
  | x :: l => by
    rw [List.flatMap_cons, List.length_append, tot_cons]
    have := flat_tot f hf l
    have := hf x
    omega
theorem PL_len {t : Int} {ns : List ByteArray} {us : List Int} {ts : List ByteArray} (hn : tot ns ≤ 6000) (hu : us.length ≤ 6000) (ht : tot ts ≤ 6000) : (PL t ns us ts).length ≤ 36000 := by
  have h1 := flat_tot bytesOf (fun s => by rw [← size_bytesOf]; omega) ns
  have h2 := flat_tot (tB t) (tB_len t) ts
  have h3 : (us.flatMap (be · 2)).length = 2 * us.length := flat_len _ 2 us (fun x _ => be_length x 2)
  have h4 : (us.flatMap (be · 4)).length = 4 * us.length := flat_len _ 4 us (fun x _ => be_length x 4)
  unfold PL
  rw [List.length_append, List.length_append, List.length_append]
  split <;> simp only [List.length_nil] <;> omega
/-- What Check tells. -/
def CK (a : ByteArray) (t e : Int) (ns : List ByteArray) (us : List Int) (ts : List ByteArray) : Int :=
  if ((LB a).isSome && ns.all fun s => (LB s).isSome) = true then (if SH t ns us ts = true then (if e > 2147483647 then (if t = 41 then 0 else 1) else 0) else 50) else 40
structure Rec (a : ByteArray) (ns : List ByteArray) (us : List Int) (ts : List ByteArray) : Prop where
  ha : a.size ≤ 6000
  hn : tot ns ≤ 6000
  hu : us.length ≤ 6000
  ht : tot ts ≤ 6000
  num : ∀ u ∈ us, 0 ≤ u ∧ u < 4294967296
theorem check_f {k : Nat} {a : ByteArray} (t c e : Int) {ns : List ByteArray} {us : List Int} {ts : List ByteArray} (h : Rec a ns us ts) (hk : 40000 < k) : rdata_Check.f k a t c e ns us ts = some (CK a t e ns us ts) := by
  obtain ⟨k, rfl⟩ : ∃ m, k = m + 1 + 1 := ⟨k - 2, by omega⟩
  have h1 := h.ha
  have h2 := h.hn
  have h3 := h.hu
  have h4 := h.ht
  have h5 := tot_len ns
  have h6 := tot_len ts
  have T : rdata_Check.j0 (k + 1 + 1) true a t c e ns us ts = some 40 := by simp only [rdata_Check.j0]; rw [if_pos trivial]
  unfold rdata_Check.f CK
  rw [is_f (by omega) (by omega), Option.bind_some]
  cases hA : (LB a).isSome with
  | false => rw [if_neg (by simp), T]; rfl
  | true =>
    rw [if_pos rfl, con23 (by omega) (by omega), Option.bind_some, Bool.true_and]
    cases hN : ns.all fun s => (LB s).isSome with
    | false => rw [Bool.not_false, T]; rfl
    | true =>
      obtain ⟨r, hr, hr2⟩ := size_f (k := k + 1) a t c e h2 h3 h4 (by omega)
      have hp := plain_f (k := k + 1) a t c e h.num h2 h3 h4 (by omega)
      have hl := PL_len (t := t) h2 h3 h4
      simp only [Bool.not_true, rdata_Check.j0, rdata_Check.j1]
      rw [if_neg (by simp), shaped_f a t c e (by omega) (by omega) (by omega), Option.bind_some]
      cases hS : SH t ns us ts with
      | false => simp
      | true =>
        rw [if_pos rfl, hr, Option.bind_some, if_neg (by omega), hp, Option.bind_some, decide_eq_false (by omega), if_neg (by simp)]
        simp only [if_true]
        split
        · split <;> rfl
        · rfl
theorem cplain_f {k : Nat} {a : ByteArray} (t c e : Int) {ns : List ByteArray} {us : List Int} {ts : List ByteArray} (h : Rec a ns us ts) (hk : 40000 < k) : rdata_Plain.f k a t c e ns us ts = some (if CK a t e ns us ts = 0 then strOfNums (PL t ns us ts) else (⟨#[]⟩ : ByteArray)) := by
  unfold rdata_Plain.f
  rw [check_f t c e h hk, Option.bind_some, plain_f a t c e h.num h.hn h.hu h.ht (by omega), Option.bind_some]
  split <;> rfl
theorem few_l0 (l : List ByteArray) (hl : l.length ≤ 9000000000000) : ∀ (d k i : Nat) (n : Int), i + d = l.length → d < k → 0 ≤ n → n ≤ 20000 →
    ∃ b, nunciolaw04_Few.l0 k l n (i : Int) = some b ∧ (b = true → n + (tot (l.drop i) : Int) < 5000 + (d : Int))
  | 0, k, i, n, hd, hk, h0, hn => by
    obtain ⟨k, rfl⟩ : ∃ m, k = m + 1 := ⟨k - 1, by omega⟩
    simp only [nunciolaw04_Few.l0]
    rw [if_neg (by omega), List.drop_eq_nil_of_le (by omega)]
    refine ⟨_, rfl, fun h => ?_⟩
    have := of_decide_eq_true h
    rw [tot_nil]
    omega
  | d + 1, k, i, n, hd, hk, h0, hn => by
    obtain ⟨k, rfl⟩ : ∃ m, k = m + 1 := ⟨k - 1, by omega⟩
    have hi : i < l.length := by omega
    simp only [nunciolaw04_Few.l0]
    rw [if_pos (by omega)]
    by_cases hc : n < 5000
    · have hm0 : 0 ≤ mn (l[i].size : Int) 5000 := by unfold mn; split <;> omega
      have hm1 : mn (l[i].size : Int) 5000 ≤ 5000 := by unfold mn; split <;> omega
      obtain ⟨b, hb, hb2⟩ := few_l0 l hl d k (i + 1) (n + mn (l[i].size : Int) 5000) (by omega) (by omega) (by omega) (by omega)
      rw [if_pos hc, if_pos (by omega), rdo hi, w64 (x := (i : Int) + 1) (by omega) (by omega), w64 (x := n + mn (l[i].size : Int) 5000) (by omega) (by omega)]
      refine ⟨b, hb, fun h => ?_⟩
      have h2 := hb2 h
      have hz := tot_len (l.drop (i + 1))
      rw [List.length_drop] at hz
      rw [tot_drop hi]
      have hm2 : mn (l[i].size : Int) 5000 < 5000 → mn (l[i].size : Int) 5000 = (l[i].size : Int) := by unfold mn; split <;> omega
      omega
    · rw [if_neg hc]
      exact ⟨_, rfl, fun h => absurd (of_decide_eq_true h) hc⟩
theorem few_f {k : Nat} (l : List ByteArray) (hl : l.length ≤ 9000000000000) (hk : l.length < k) : ∃ b, nunciolaw04_Few.f k l = some b ∧ (b = true → tot l < 5000) := by
  unfold nunciolaw04_Few.f
  have h0 : 0 ≤ mn (l.length : Int) 5000 := by unfold mn; split <;> omega
  have h1 : mn (l.length : Int) 5000 ≤ 5000 := by unfold mn; split <;> omega
  have h2 : mn (l.length : Int) 5000 < 5000 → mn (l.length : Int) 5000 = (l.length : Int) := by unfold mn; split <;> omega
  obtain ⟨b, hb, hb2⟩ := few_l0 l hl l.length k 0 (mn (l.length : Int) 5000) (by omega) hk h0 (by omega)
  refine ⟨b, hb, fun h => ?_⟩
  have := hb2 h
  have := tot_len l
  rw [List.drop_zero] at *
  omega
theorem rfew_f {k : Nat} (a : ByteArray) (t c e : Int) (ns : List ByteArray) (us : List Int) (ts : List ByteArray) (h1 : ns.length ≤ 9000000000000) (h2 : ts.length ≤ 9000000000000) (hu : ∀ u ∈ us, (Lit.int .u32 u).wf = true) (hk : ns.length + ts.length < k) :
    ∃ b, nunciolaw05_Few.f k a t c e ns us ts = some b ∧ (b = true → a.size ≤ 5000 ∧ tot ns ≤ 5000 ∧ us.length ≤ 5000 ∧ tot ts ≤ 5000 ∧ Rec a ns us ts) := by
  obtain ⟨b1, e1, f1⟩ := few_f (k := k) ns h1 (by omega)
  obtain ⟨b2, e2, f2⟩ := few_f (k := k) ts h2 (by omega)
  have hu' : ∀ u ∈ us, 0 ≤ u ∧ u < 4294967296 := fun u h => by have := b_u32 (hu u h); omega
  unfold nunciolaw05_Few.f
  rw [e1, e2, Option.bind_some, Option.bind_some]
  cases b1 with
  | false => exact ⟨_, rfl, fun h => absurd h (by simp)⟩
  | true =>
    cases b2 with
    | false => exact ⟨_, rfl, fun h => absurd h (by simp)⟩
    | true =>
      have g1 := f1 rfl
      have g2 := f2 rfl
      rw [if_pos rfl, if_pos rfl]
      split
      · exact ⟨_, rfl, fun h => by
          have := of_decide_eq_true h
          exact ⟨by omega, by omega, by omega, by omega, ⟨by omega, by omega, by omega, by omega, hu'⟩⟩⟩
      · exact ⟨_, rfl, fun h => absurd h (by simp)⟩
end Go.Proofs.Ytebnbjnkameicaa.Pure
