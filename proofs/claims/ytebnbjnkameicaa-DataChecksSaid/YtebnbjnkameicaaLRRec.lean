/- What the document's functions of a record answer. -/
import Derived.Test.YtebnbjnkameicaaMinex15
import Derived.Test.YtebnbjnkameicaaMinex17
import Derived.Test.YtebnbjnkameicaaMinex19
import Derived.Test.YtebnbjnkameicaaMinex20
import Derived.Test.YtebnbjnkameicaaMinex21
import Derived.Test.YtebnbjnkameicaaLRec
import Derived.Test.YtebnbjnkameicaaLRPut
namespace Go.Proofs.Ytebnbjnkameicaa.Pure
open Go.RowKit Go.Proofs.Ytebnbjnkameicaa.Mine Go.Proofs.YtebnbjnkameicaaW.PrintWords Go.Proofs.YtebnbjnkameicaaW.PrintLast Go.Proofs.YtebnbjnkameicaaW.PrintMore
set_option linter.unusedSimpArgs false
set_option linter.unusedVariables false

theorem rshape_f {k : Nat} (t : Int) (hk : 0 < k) : nuncioref05_Shape.f k t = some (shp t) := by
  obtain ⟨k, rfl⟩ : ∃ m, k = m + 1 := ⟨k - 1, by omega⟩
  simp only [nuncioref05_Shape.f, nuncioref05_Shape.j0, shp]
  by_cases h2 : t = 2
  · subst h2; simp
  by_cases h5 : t = 5
  · subst h5; simp
  by_cases h12 : t = 12
  · subst h12; simp
  simp [h2, h5, h12]
  repeat' (split <;> try rfl)
theorem rshaped_l1 (a : ByteArray) (t c e : Int) (ns : List ByteArray) (us : List Int) (ts : List ByteArray) (hts : ts.length ≤ 1000000) :
    ∀ (d k i : Nat), i + d = ts.length → d < k → nuncioref05_shaped.l1 k (i : Int) a t c e ns us ts = some ((ts.drop i).all (tOK t))
  | 0, k, i, hd, hk => by
    obtain ⟨k, rfl⟩ : ∃ m, k = m + 1 := ⟨k - 1, by omega⟩
    simp only [nuncioref05_shaped.l1]
    rw [if_neg (by omega), List.drop_eq_nil_of_le (by omega)]; rfl
  | d + 1, k, i, hd, hk => by
    obtain ⟨k, rfl⟩ : ∃ m, k = m + 1 := ⟨k - 1, by omega⟩
    have hi : i < ts.length := by omega
    have ih := rshaped_l1 a t c e ns us ts hts d k (i + 1) (by omega) (by omega)
    rw [show ((i + 1 : Nat) : Int) = (i : Int) + 1 by omega] at ih
    have h0 : (0 : Int) ≤ (i : Int) := by omega
    have hw : wrap64 ((i : Int) + 1) = (i : Int) + 1 := w64 (by omega) (by omega)
    simp only [nuncioref05_shaped.l1, rdo hi, h0, hw, ih, if_true]
    rw [if_pos (by omega), List.drop_eq_getElem_cons hi, List.all_cons, tOK]
    by_cases e16 : t = 16
    · simp only [e16, if_true]
      by_cases h : (ts[i].size : Int) > 255
      · rw [if_pos h, decide_eq_false (by omega)]; rfl
      · rw [if_neg h, decide_eq_true (by omega), if_neg (by omega), if_neg (by omega)]; simp
    · simp only [e16, if_false]
      by_cases e1 : t = 1
      · simp only [e1, if_true]
        by_cases h : (ts[i].size : Int) = 4
        · rw [if_pos h, decide_eq_true h, if_neg (by omega)]; simp
        · rw [if_neg h, decide_eq_false h]; rfl
      · simp only [e1, if_false]
        by_cases e28 : t = 28
        · simp only [e28, if_true]
          by_cases h : (ts[i].size : Int) = 16
          · rw [if_pos h, decide_eq_true h]; simp
          · rw [if_neg h, decide_eq_false h]; rfl
        · simp only [e28, if_false, Bool.true_and]
theorem rshaped_l0 (a : ByteArray) (t c e : Int) (ns : List ByteArray) (us : List Int) (ts : List ByteArray) (hu : us.length ≤ 1000000) (hts : ts.length ≤ 1000000) :
    ∀ (d k i : Nat), i + d = us.length → d + ts.length + 1 < k → nuncioref05_shaped.l0 k (i : Int) a t c e ns us ts = some ((us.drop i).all (uOK t) && ts.all (tOK t))
  | 0, k, i, hd, hk => by
    obtain ⟨k, rfl⟩ : ∃ m, k = m + 1 := ⟨k - 1, by omega⟩
    have := rshaped_l1 a t c e ns us ts hts ts.length k 0 (by omega) (by omega)
    simp only [nuncioref05_shaped.l0]
    rw [if_neg (by omega), List.drop_eq_nil_of_le (by omega), List.all_nil, Bool.true_and]
    exact this
  | d + 1, k, i, hd, hk => by
    obtain ⟨k, rfl⟩ : ∃ m, k = m + 1 := ⟨k - 1, by omega⟩
    have hi : i < us.length := by omega
    have ih := rshaped_l0 a t c e ns us ts hu hts d k (i + 1) (by omega) (by omega)
    simp only [nuncioref05_shaped.l0]
    rw [if_pos (by omega), rd_nat hi, List.drop_eq_getElem_cons hi, List.all_cons, w64 (by omega) (by omega)]
    by_cases e6 : t = 6
    · rw [if_pos e6, show uOK t us[i] = true by simp [uOK, e6], Bool.true_and]
      exact ih
    · rw [if_neg e6, if_pos (by omega)]
      by_cases h : us[i] > 65535
      · rw [if_pos h, show uOK t us[i] = false by simp [uOK, e6]; omega]; simp
      · rw [if_neg h, show uOK t us[i] = true by simp [uOK]; omega, Bool.true_and]
        exact ih
theorem rshaped_f {k : Nat} (a : ByteArray) (t c e : Int) {ns : List ByteArray} {us : List Int} {ts : List ByteArray} (hu : us.length ≤ 1000000) (hts : ts.length ≤ 1000000) (hk : us.length + ts.length + 10 < k) :
    nuncioref05_shaped.f k a t c e ns us ts = some (SH t ns us ts) := by
  obtain ⟨k, rfl⟩ : ∃ m, k = m + 1 + 1 := ⟨k - 2, by omega⟩
  have T : ∀ n, nuncioref05_shaped.j0 (k + 1 + 1) n true a t c e ns us ts = some false := by intro n; simp only [nuncioref05_shaped.j0]; rw [if_pos trivial]
  have T1 : nuncioref05_shaped.j1 (k + 1) true a t c e ns us ts = some false := by simp only [nuncioref05_shaped.j1]; rw [if_pos trivial]
  have F : nuncioref05_shaped.j1 (k + 1) false a t c e ns us ts = some (us.all (uOK t) && ts.all (tOK t)) := by
    have := rshaped_l0 a t c e ns us ts hu hts us.length k 0 (by omega) (by omega)
    simp only [nuncioref05_shaped.j1]; rw [if_neg (by simp)]
    exact this
  unfold nuncioref05_shaped.f SH SHL
  rw [rshape_f _ (by omega), Option.bind_some]
  by_cases hn : (ns.length : Int) = (shp t).1
  · rw [if_pos hn, decide_eq_true hn]
    by_cases hm : (us.length : Int) = (shp t).2.1
    · rw [show ((us.length : Int) != (shp t).2.1) = false by simp [hm], decide_eq_true hm]
      simp only [nuncioref05_shaped.j0]
      rw [if_neg (by simp)]
      by_cases e3 : t = 16
      · rw [if_pos e3, decide_eq_true e3]
        have hs : (shp t).2.2 = 1 := by subst e3; rfl
        by_cases hz : (ts.length : Int) = 0
        · rw [if_pos hz, T1, decide_eq_false (by omega), decide_eq_false (by omega)]; simp
        · rw [if_neg hz, F, decide_eq_true (by omega : 0 < ts.length)]; simp
      · rw [if_neg e3, decide_eq_false e3]
        by_cases ht : (ts.length : Int) = (shp t).2.2
        · rw [show ((ts.length : Int) != (shp t).2.2) = false by simp [ht], F, decide_eq_true ht]; simp
        · rw [show ((ts.length : Int) != (shp t).2.2) = true by simp [ht], T1, decide_eq_false ht]; simp
    · rw [show ((us.length : Int) != (shp t).2.1) = true by simp [hm], T, decide_eq_false hm]; simp
  · rw [if_neg hn, T, decide_eq_false hn]; simp
theorem flat_bytes {α : Type} (f : α → List Int) (hf : ∀ x, Bytes (f x)) : ∀ l : List α, Bytes (l.flatMap f)
  | [] => Bytes.nil
  | x :: l => by rw [List.flatMap_cons]; exact (hf x).append (flat_bytes f hf l)
theorem str_nil : strOfNums [] = (⟨#[]⟩ : ByteArray) := rfl
theorem str_cons_flat {α : Type} (f : α → List Int) (hf : ∀ x, Bytes (f x)) (y : α) (l : List α) (x : ByteArray) : x ++ strOfNums ((y :: l).flatMap f) = (x ++ strOfNums (f y)) ++ strOfNums (l.flatMap f) := by
  rw [List.flatMap_cons, str_append (hf y) (flat_bytes f hf l), ByteArray.append_assoc]
theorem rplain_l4 (a : ByteArray) (t c e : Int) (ns : List ByteArray) (us : List Int) (ts : List ByteArray) (hz : ts.length ≤ 1000000) : ∀ (d k i : Nat) (x : ByteArray), i + d = ts.length → d < k → x.size + tot (ts.drop i) ≤ 100000000 →
    nuncioref05_plain.l4 k x (i : Int) a t c e ns us ts = some (x ++ strOfNums ((ts.drop i).flatMap (tB t)), true)
  | 0, k, i, x, hd, hk, hx => by
    obtain ⟨k, rfl⟩ : ∃ m, k = m + 1 := ⟨k - 1, by omega⟩
    simp only [nuncioref05_plain.l4]
    rw [if_neg (by omega), List.drop_eq_nil_of_le (by omega), List.flatMap_nil, str_nil, show (⟨#[]⟩ : ByteArray) = ByteArray.empty from rfl, ByteArray.append_empty]
  | d + 1, k, i, x, hd, hk, hx => by
    obtain ⟨k, rfl⟩ : ∃ m, k = m + 1 := ⟨k - 1, by omega⟩
    have hi : i < ts.length := by omega
    have ht := tot_drop hi
    have hy := tB_len t ts[i]
    have ih := rplain_l4 a t c e ns us ts hz d k (i + 1) (x ++ strOfNums (tB t ts[i])) (by omega) (by omega) (by rw [ByteArray.size_append, strOfNums_size]; omega)
    rw [List.drop_eq_getElem_cons hi, str_cons_flat _ (tB_bytes t), ← ih]
    have hs : (strOfNums [((ts[i].size : Int)) % 256]).size = 1 := by rw [strOfNums_size]; rfl
    have hb : Bytes [((ts[i].size : Int)) % 256] := Bytes.cons (by omega) (by omega) Bytes.nil
    simp only [nuncioref05_plain.l4]
    rw [if_pos (by omega), rdo hi, w64 (x := (i : Int) + 1) (by omega) (by omega)]
    by_cases e3 : t = 16
    · rw [if_pos e3, if_pos (by omega), Option.bind_some, if_pos (by omega), if_pos (by omega)]
      unfold tB
      rw [if_pos e3, str_append hb (bytesOf_bytes _), str_bytesOf, ByteArray.append_assoc]
      rfl
    · rw [if_neg e3, if_pos (by omega), if_pos (by omega)]
      unfold tB
      rw [if_neg e3, List.nil_append, str_bytesOf]
      rfl
theorem rplain_j5 {k : Nat} (a : ByteArray) (t c e : Int) (ns : List ByteArray) (us : List Int) (ts : List ByteArray) (hz : ts.length ≤ 1000000) (x : ByteArray) (hx : x.size + tot ts ≤ 100000000) (hk : ts.length + 1 < k) :
    nuncioref05_plain.j5 k x a t c e ns us ts = some (x ++ strOfNums (ts.flatMap (tB t)), true) := by
  obtain ⟨k, rfl⟩ : ∃ m, k = m + 1 := ⟨k - 1, by omega⟩
  simp only [nuncioref05_plain.j5]
  exact rplain_l4 a t c e ns us ts hz ts.length k 0 x (by omega) (by omega) (by rw [List.drop_zero]; exact hx)
theorem rplain_l3 (a : ByteArray) (t c e : Int) (ns : List ByteArray) (us : List Int) (ts : List ByteArray) (hz1 : us.length ≤ 1000000) (hz : ts.length ≤ 1000000) (hus : ∀ u ∈ us, 0 ≤ u ∧ u < 4294967296) : ∀ (d k i : Nat) (x : ByteArray), i + d = us.length → d + ts.length + 12 < k → x.size + 4 * d + tot ts ≤ 100000000 → (t ≠ 6 → i = 0) →
    nuncioref05_plain.l3 k x (i : Int) a t c e ns us ts = some (x ++ strOfNums ((if t = 6 then (us.drop i).flatMap (be · 4) else []) ++ ts.flatMap (tB t)), true)
  | 0, k, i, x, hd, hk, hx, h6 => by
    obtain ⟨k, rfl⟩ : ∃ m, k = m + 1 := ⟨k - 1, by omega⟩
    simp only [nuncioref05_plain.l3]
    rw [if_neg (by omega), List.drop_eq_nil_of_le (by omega), rplain_j5 _ _ _ _ _ _ _ hz _ (by omega) (by omega)]; simp
  | d + 1, k, i, x, hd, hk, hx, h6 => by
    obtain ⟨k, rfl⟩ : ∃ m, k = m + 1 := ⟨k - 1, by omega⟩
    have hi : i < us.length := by omega
    have hu := hus us[i] (List.getElem_mem hi)
    simp only [nuncioref05_plain.l3]
    rw [if_pos (by omega)]
    by_cases e6 : t = 6
    · have ih := rplain_l3 a t c e ns us ts hz1 hz hus d k (i + 1) (x ++ strOfNums (be us[i] 4)) (by omega) (by omega) (by rw [ByteArray.size_append, strOfNums_size, be_length]; omega) (fun h => absurd e6 h)
      have hp := rput_f (k := k) (s := x) (n := us[i]) 4 (by omega) (by omega) (by omega) (by omega) (by omega)
      rw [show ((4 : Nat) : Int) = 4 from rfl] at hp
      rw [if_pos e6, if_pos (by omega), rd_nat hi, wu64_id (by omega) (by omega), hp, Option.bind_some, w64 (x := (i : Int) + 1) (by omega) (by omega), if_pos e6]
      rw [show ((i : Int) + 1) = ((i + 1 : Nat) : Int) by omega, ih, if_pos e6, List.drop_eq_getElem_cons hi, List.flatMap_cons, List.append_assoc, str_append (be_bytes _ _) ((flat_bytes _ (fun n => be_bytes n 4) _).append (flat_bytes _ (tB_bytes t) _)), ByteArray.append_assoc]
    · rw [if_neg e6, if_neg e6, rplain_j5 _ _ _ _ _ _ _ hz _ (by omega) (by omega)]; simp
theorem rplain_l2 (a : ByteArray) (t c e : Int) (ns : List ByteArray) (us : List Int) (ts : List ByteArray) (hz0 : ns.length ≤ 1000000) (hz1 : us.length ≤ 1000000) (hz : ts.length ≤ 1000000) (hus : ∀ u ∈ us, 0 ≤ u ∧ u < 4294967296) : ∀ (d k i : Nat) (x : ByteArray), i + d = ns.length → d + us.length + ts.length + 14 < k → x.size + tot (ns.drop i) + 4 * us.length + tot ts ≤ 100000000 →
    nuncioref05_plain.l2 k x (i : Int) a t c e ns us ts = some (x ++ strOfNums ((ns.drop i).flatMap bytesOf ++ ((if t = 6 then us.flatMap (be · 4) else []) ++ ts.flatMap (tB t))), true)
  | 0, k, i, x, hd, hk, hx => by
    obtain ⟨k, rfl⟩ : ∃ m, k = m + 1 := ⟨k - 1, by omega⟩
    have := rplain_l3 a t c e ns us ts hz1 hz hus us.length k 0 x (by omega) (by omega) (by omega) (fun _ => rfl)
    rw [List.drop_zero, show ((0 : Nat) : Int) = 0 from rfl] at this
    simp only [nuncioref05_plain.l2]
    rw [if_neg (by omega), List.drop_eq_nil_of_le (by omega), this]; simp
  | d + 1, k, i, x, hd, hk, hx => by
    obtain ⟨k, rfl⟩ : ∃ m, k = m + 1 := ⟨k - 1, by omega⟩
    have hi : i < ns.length := by omega
    have ht := tot_drop hi
    have ih := rplain_l2 a t c e ns us ts hz0 hz1 hz hus d k (i + 1) (x ++ ns[i]) (by omega) (by omega) (by rw [ByteArray.size_append]; omega)
    have hB : Bytes ((if t = 6 then us.flatMap (be · 4) else []) ++ ts.flatMap (tB t)) := by
      refine Bytes.append ?_ (flat_bytes _ (tB_bytes t) _)
      split
      · exact flat_bytes _ (fun n => be_bytes n 4) _
      · exact Bytes.nil
    simp only [nuncioref05_plain.l2]
    rw [if_pos (by omega), if_pos (by omega), rdo hi, if_pos (by omega), w64 (x := (i : Int) + 1) (by omega) (by omega)]
    rw [show ((i : Int) + 1) = ((i + 1 : Nat) : Int) by omega, ih, List.drop_eq_getElem_cons hi, List.flatMap_cons, List.append_assoc, str_append (bytesOf_bytes _) ((flat_bytes _ bytesOf_bytes _).append hB), str_bytesOf, ByteArray.append_assoc]
theorem rplain_j2 {k : Nat} (a : ByteArray) (t c e : Int) (ns : List ByteArray) (us : List Int) (ts : List ByteArray) (hz0 : ns.length ≤ 1000000) (hz1 : us.length ≤ 1000000) (hz : ts.length ≤ 1000000) (hus : ∀ u ∈ us, 0 ≤ u ∧ u < 4294967296) (x : ByteArray) (hx : x.size + tot ns + 4 * us.length + tot ts ≤ 100000000) (hk : ns.length + us.length + ts.length + 15 < k) :
    nuncioref05_plain.j2 k x a t c e ns us ts = some (x ++ strOfNums (ns.flatMap bytesOf ++ ((if t = 6 then us.flatMap (be · 4) else []) ++ ts.flatMap (tB t))), true) := by
  obtain ⟨k, rfl⟩ : ∃ m, k = m + 1 := ⟨k - 1, by omega⟩
  simp only [nuncioref05_plain.j2]
  exact rplain_l2 a t c e ns us ts hz0 hz1 hz hus ns.length k 0 x (by omega) (by omega) (by rw [List.drop_zero]; exact hx)
theorem PL_bytes (t : Int) (ns : List ByteArray) (us : List Int) (ts : List ByteArray) : Bytes (PL t ns us ts) := by
  unfold PL
  refine Bytes.append ?_ ((flat_bytes _ bytesOf_bytes _).append (Bytes.append ?_ (flat_bytes _ (tB_bytes t) _)))
  · split
    · exact Bytes.nil
    · exact flat_bytes _ (fun n => be_bytes n 2) _
  · split
    · exact flat_bytes _ (fun n => be_bytes n 4) _
    · exact Bytes.nil
theorem rplain_l1 (a : ByteArray) (t c e : Int) (ns : List ByteArray) (us : List Int) (ts : List ByteArray) (hz0 : ns.length ≤ 1000000) (hz1 : us.length ≤ 1000000) (hz : ts.length ≤ 1000000) (hus : ∀ u ∈ us, 0 ≤ u ∧ u < 4294967296) : ∀ (d k i : Nat) (x : ByteArray), i + d = us.length → d + ns.length + us.length + ts.length + 20 < k → x.size + 2 * d + tot ns + 4 * us.length + tot ts ≤ 100000000 → (t = 6 → i = 0) →
    nuncioref05_plain.l1 k x (i : Int) a t c e ns us ts = some (x ++ strOfNums (PL t ns (if t = 6 then us else us.drop i) ts), true)
  | 0, k, i, x, hd, hk, hx, h6 => by
    obtain ⟨k, rfl⟩ : ∃ m, k = m + 1 := ⟨k - 1, by omega⟩
    simp only [nuncioref05_plain.l1]
    rw [if_neg (by omega), rplain_j2 _ _ _ _ _ _ _ hz0 hz1 hz hus _ (by omega) (by omega)]
    unfold PL
    by_cases e6 : t = 6
    · simp [e6]
    · rw [List.drop_eq_nil_of_le (by omega)]; simp [e6]
  | d + 1, k, i, x, hd, hk, hx, h6 => by
    obtain ⟨k, rfl⟩ : ∃ m, k = m + 1 := ⟨k - 1, by omega⟩
    have hi : i < us.length := by omega
    have hu := hus us[i] (List.getElem_mem hi)
    simp only [nuncioref05_plain.l1]
    rw [if_pos (by omega)]
    by_cases e6 : t = 6
    · rw [if_pos e6, rplain_j2 _ _ _ _ _ _ _ hz0 hz1 hz hus _ (by omega) (by omega), if_pos e6]
      unfold PL
      simp [e6]
    · have ih := rplain_l1 a t c e ns us ts hz0 hz1 hz hus d k (i + 1) (x ++ strOfNums (be us[i] 2)) (by omega) (by omega) (by rw [ByteArray.size_append, strOfNums_size, be_length]; omega) (fun h => absurd h e6)
      have hp := rput_f (k := k) (s := x) (n := us[i]) 2 (by omega) (by omega) (by omega) (by omega) (by omega)
      rw [show ((2 : Nat) : Int) = 2 from rfl] at hp
      have hB := PL_bytes t ns (us.drop (i + 1)) ts
      rw [if_neg e6, if_pos (by omega), rd_nat hi, wu64_id (by omega) (by omega), hp, Option.bind_some, w64 (x := (i : Int) + 1) (by omega) (by omega)]
      rw [show ((i : Int) + 1) = ((i + 1 : Nat) : Int) by omega, ih, if_neg e6, if_neg e6, ByteArray.append_assoc, ← str_append (be_bytes _ _) hB]
      congr 2
      rw [List.drop_eq_getElem_cons hi]
      unfold PL
      simp only [e6, if_false, List.flatMap_cons, List.append_assoc]
theorem rplain_l0 (a : ByteArray) (t c e : Int) (ns : List ByteArray) (us : List Int) (ts : List ByteArray) (hz0 : ns.length ≤ 1000000) (hz1 : us.length ≤ 1000000) (hz : ts.length ≤ 1000000) (hus : ∀ u ∈ us, 0 ≤ u ∧ u < 4294967296) (hh : tot ns + 4 * us.length + tot ts + 2 * us.length ≤ 100000000) : ∀ (d k i : Nat) (n : Int), i + d = ts.length → d + ns.length + 2 * us.length + ts.length + 30 < k → 0 ≤ n → n + (tot (ts.drop i) : Int) ≤ 65535 →
    nuncioref05_plain.l0 k n (i : Int) a t c e ns us ts = some (strOfNums (PL t ns us ts), true)
  | 0, k, i, n, hd, hk, h0, hn => by
    obtain ⟨k, rfl⟩ : ∃ m, k = m + 1 := ⟨k - 1, by omega⟩
    have := rplain_l1 a t c e ns us ts hz0 hz1 hz hus us.length k 0 (⟨#[]⟩ : ByteArray) (by omega) (by omega) (by rw [show (⟨#[]⟩ : ByteArray).size = 0 from rfl]; omega) (fun _ => rfl)
    rw [List.drop_zero, show ((0 : Nat) : Int) = 0 from rfl, ite_self, show ((⟨#[]⟩ : ByteArray)) = ByteArray.empty from rfl, ByteArray.empty_append] at this
    simp only [nuncioref05_plain.l0]
    rw [if_neg (by omega)]
    exact this
  | d + 1, k, i, n, hd, hk, h0, hn => by
    obtain ⟨k, rfl⟩ : ∃ m, k = m + 1 := ⟨k - 1, by omega⟩
    have hi : i < ts.length := by omega
    have ht := tot_drop hi
    simp only [nuncioref05_plain.l0]
    rw [if_pos (by omega), if_pos (by omega), rdo hi, w64 (x := n + _) (by omega) (by omega), w64 (x := n + _ + 1) (by omega) (by omega), w64 (x := (i : Int) + 1) (by omega) (by omega)]
    by_cases e3 : t = 16
    · rw [if_pos e3, if_neg (by omega)]
      exact rplain_l0 a t c e ns us ts hz0 hz1 hz hus hh d k (i + 1) _ (by omega) (by omega) (by omega) (by omega)
    · rw [if_neg e3, if_neg (by omega)]
      exact rplain_l0 a t c e ns us ts hz0 hz1 hz hus hh d k (i + 1) _ (by omega) (by omega) (by omega) (by omega)
theorem rplain_f {k : Nat} (a : ByteArray) (t c e : Int) {ns : List ByteArray} {us : List Int} {ts : List ByteArray} (hus : ∀ u ∈ us, 0 ≤ u ∧ u < 4294967296) (hn : tot ns ≤ 6000) (hu : us.length ≤ 6000) (ht : tot ts ≤ 6000) (hk : 40000 < k) :
    nuncioref05_plain.f k a t c e ns us ts = some (strOfNums (PL t ns us ts), true) := by
  have := tot_len ns
  have := tot_len ts
  unfold nuncioref05_plain.f
  exact rplain_l0 a t c e ns us ts (by omega) (by omega) (by omega) hus (by omega) ts.length k 0 0 (by omega) (by omega) (by omega) (by rw [List.drop_zero]; omega)
theorem rcheck_l0 {a : ByteArray} (t c e : Int) {ns : List ByteArray} {us : List Int} {ts : List ByteArray} (h : Rec a ns us ts) : ∀ (d k i : Nat), i + d = ns.length → d + 50000 < k →
    nuncioref05_Check.l0 k (i : Int) a t c e ns us ts = some (if ((ns.drop i).all fun s => (LB s).isSome) = true then (if SH t ns us ts = true then (if e > 2147483647 then (if t = 41 then 0 else 1) else 0) else 50) else 40)
  | 0, k, i, hd, hk => by
    obtain ⟨k, rfl⟩ : ∃ m, k = m + 1 := ⟨k - 1, by omega⟩
    have h1 := h.ha
    have h2 := h.hn
    have h3 := h.hu
    have h4 := h.ht
    have h5 := tot_len ns
    have h6 := tot_len ts
    simp only [nuncioref05_Check.l0]
    rw [if_neg (by omega), List.drop_eq_nil_of_le (by omega), rshaped_f _ _ _ _ (by omega) (by omega) (by omega), Option.bind_some, rplain_f _ _ _ _ h.num h2 h3 h4 (by omega), Option.bind_some]
    cases SH t ns us ts with
    | false => simp
    | true =>
      simp only [List.all_nil, if_true]
      split
      · split <;> rfl
      · rfl
  | d + 1, k, i, hd, hk => by
    obtain ⟨k, rfl⟩ : ∃ m, k = m + 1 := ⟨k - 1, by omega⟩
    have hi : i < ns.length := by omega
    have hs := tot_mem (List.getElem_mem hi)
    have h2 := h.hn
    have h5 := tot_len ns
    simp only [nuncioref05_Check.l0]
    rw [if_pos (by omega), if_pos (by omega), rdo hi, ris_f (by omega) (by omega), Option.bind_some, List.drop_eq_getElem_cons hi, List.all_cons, w64 (by omega) (by omega)]
    cases hL : (LB ns[i]).isSome with
    | false => simp
    | true =>
      rw [if_pos rfl, Bool.true_and]
      exact rcheck_l0 t c e h d k (i + 1) (by omega) (by omega)
theorem rcheck_f {k : Nat} {a : ByteArray} (t c e : Int) {ns : List ByteArray} {us : List Int} {ts : List ByteArray} (h : Rec a ns us ts) (hk : 60000 < k) : nuncioref05_Check.f k a t c e ns us ts = some (CK a t e ns us ts) := by
  have h1 := h.ha
  have h2 := h.hn
  have h5 := tot_len ns
  have := rcheck_l0 t c e h ns.length k 0 (by omega) (by omega)
  rw [List.drop_zero, show ((0 : Nat) : Int) = 0 from rfl] at this
  unfold nuncioref05_Check.f CK
  rw [ris_f (by omega) (by omega), Option.bind_some]
  cases (LB a).isSome with
  | false => rfl
  | true => rw [if_pos rfl, this, Bool.true_and]
theorem rcplain_f {k : Nat} {a : ByteArray} (t c e : Int) {ns : List ByteArray} {us : List Int} {ts : List ByteArray} (h : Rec a ns us ts) (hk : 60000 < k) : nuncioref05_Plain.f k a t c e ns us ts = some (if CK a t e ns us ts = 0 then strOfNums (PL t ns us ts) else (⟨#[]⟩ : ByteArray)) := by
  unfold nuncioref05_Plain.f
  rw [rcheck_f t c e h hk, Option.bind_some, rplain_f a t c e h.num h.hn h.hu h.ht (by omega), Option.bind_some]
  split <;> rfl
end Go.Proofs.Ytebnbjnkameicaa.Pure
