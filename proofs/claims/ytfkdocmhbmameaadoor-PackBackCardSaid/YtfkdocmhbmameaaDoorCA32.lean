/- The walks and the plain laws that the rows come to: merged out of this repo's texts. -/
import Derived.Test.YtfkdocmhbmameaaDoorProg
import Derived.Below
import Derived.Deep.Draws
import Derived.Deep.AppendLies
import Derived.Maps.AppendAt
import Derived.OwnWalk
import Derived.Laws.BytesArg
import Derived.Laws.MakeOwn
import Derived.Laws.OwnMore
import Derived.Deep.OwnRows
import Derived.Tactics
import Derived.Lib.ConvBytes
import Derived.Laws.Slices
import Derived.WalkKit
import Derived.KernelRfl
import Derived.RowKit3
import Derived.Deep.LoopGhost
import Derived.Deep.QuietTactic
import Derived.BigQuiet
import Derived.WideLaws
import Derived.Deep.DeepCutAuto
import Derived.Deep.CutBlock
import Derived.Deep.RegionHeld3
import Derived.Laws.Rows
import Derived.Lib.AppendStr
import Derived.ArgAppend
import Derived.Laws.IdiomCopy
import Derived.RowKit
import Derived.OrdersHeld
import Derived.Laws.BitsLemmas
import Derived.Laws.StructEq
import Derived.Laws.CopyOwn
import Derived.SizedLaws
import Derived.ChangeSlices
import Derived.Deep.Slices
import Derived.Lib.SmallJoins
import Derived.Lib.OthersKept
import Derived.Lib.AppendZerosOnto
import Derived.WalkSpells
import Derived.Shelf.Utf8.RuneCount
import Derived.Shelf.Strings.Search1
import Derived.Shelf.Strings.Search2
import Derived.Shelf.Strings.Search3
import Derived.Shelf.Strings.Cut
import Derived.Shelf.Strings.Count
import Derived.Shelf.LaysM
import Derived.Shelf.Strings.Shaped
import Derived.Shelf.Strings.Split
import Derived.Shelf.Strings.SplitShaped
import Derived.Shelf.Unicode.Decode
import Derived.Shelf.Strings.RuneCount
import Derived.Shelf.Strings.Explode
import Derived.Shelf.Unicode.DecodeSlow
import Derived.Shelf.Unicode.DecodeAny
import Derived.Recover
import Derived.WalkLawsBesides
import Derived.Laws.BitsAllLaws
import Derived.Test.YtfkdocmhbmameaaDoorCA1
import Derived.Test.YtfkdocmhbmameaaDoorCA2
import Derived.Test.YtfkdocmhbmameaaDoorCA3
import Derived.Test.YtfkdocmhbmameaaDoorCA4
import Derived.Test.YtfkdocmhbmameaaDoorCA5
import Derived.Test.YtfkdocmhbmameaaDoorCA6
import Derived.Test.YtfkdocmhbmameaaDoorCA7
import Derived.Test.YtfkdocmhbmameaaDoorCA8
import Derived.Test.YtfkdocmhbmameaaDoorCA9
import Derived.Test.YtfkdocmhbmameaaDoorCA10
import Derived.Test.YtfkdocmhbmameaaDoorCA11
import Derived.Test.YtfkdocmhbmameaaDoorCA12
import Derived.Test.YtfkdocmhbmameaaDoorCA13
import Derived.Test.YtfkdocmhbmameaaDoorCA14
import Derived.Test.YtfkdocmhbmameaaDoorCA15
import Derived.Test.YtfkdocmhbmameaaDoorCA16
import Derived.Test.YtfkdocmhbmameaaDoorCA17
import Derived.Test.YtfkdocmhbmameaaDoorCA18
import Derived.Test.YtfkdocmhbmameaaDoorCA20
import Derived.Test.YtfkdocmhbmameaaDoorCA23
import Derived.Test.YtfkdocmhbmameaaDoorCA24
import Derived.Test.YtfkdocmhbmameaaDoorCA25
import Derived.Test.YtfkdocmhbmameaaDoorCA26
import Derived.Test.YtfkdocmhbmameaaDoorCA27
import Derived.Test.YtfkdocmhbmameaaDoorCA28
namespace Go.Proofs.YtfkdocmhbmameaaDoor.Pure
open Go.RowKit Go.Proofs.YtfkdocmhbmameaaDoor.Mine Go.Proofs.YtfkdocmhbmameaaDoorW.PrintWords Go.Proofs.YtfkdocmhbmameaaDoorW.PrintLast Go.Proofs.YtfkdocmhbmameaaDoorW.PrintMore
set_option linter.unusedVariables false
theorem getT_app (q : List Int) (d : Int) : ∀ (rem i : Nat) (n : Int) (l : List Int) (a r nx : Int), getT rem i n l a = (r, nx, 0) → getT rem i n (l ++ q) (a + d) = (r, nx + d, 0)
  | 0, i, n, l, a, r, nx, h => by simp [getT] at h
  | rem + 1, i, n, [], a, r, nx, h => by simp [getT] at h
  | rem + 1, i, n, c :: l, a, r, nx, h => by
    rw [getT] at h
    rw [List.cons_append, getT]
    split at h
    · simp at h
    · rename_i h1
      rw [if_neg h1]
      split at h
      · rename_i h2
        rw [if_pos h2]
        simp only [Prod.mk.injEq] at h ⊢
        exact ⟨h.1, by omega, trivial⟩
      · rename_i h2
        rw [if_neg h2]
        exact getT_app q d rem (i + 1) _ l a r nx h
theorem rd_win {p l q : List Int} {a : Int} (h0 : 0 ≤ a) (h1 : a < l.length) : rd (p ++ l ++ q) (a + (p.length : Int)) = rd l a := by
  obtain ⟨i, rfl⟩ := Int.eq_ofNat_of_zero_le h0
  have hi : i < l.length := by omega
  have hj : p.length + i < (p ++ l ++ q).length := by simp only [List.length_append]; omega
  rw [show ((i : Nat) : Int) + (p.length : Int) = ((p.length + i : Nat) : Int) by omega, rd_nat hj, rd_nat hi]
  apply Option.some.inj
  rw [← List.getElem?_eq_getElem, ← List.getElem?_eq_getElem, List.getElem?_append_left (by simp only [List.length_append]; omega), List.getElem?_append_right (by omega), Nat.add_sub_cancel_left]
theorem drop_win {p l q : List Int} {n : Nat} (h : n ≤ l.length) : (p ++ l ++ q).drop (p.length + n) = l.drop n ++ q := by
  rw [← List.drop_drop, List.append_assoc, List.drop_left, List.drop_append_of_le_length h]
theorem getI_win {F : Int} {p l q : List Int} {a n nx : Int} (h : getI F l a = (n, nx, 0)) : getI F (p ++ l ++ q) (a + (p.length : Int)) = (n, nx + (p.length : Int), 0) := by
  unfold getI at h ⊢
  split at h
  · simp at h
  · rename_i h1
    have h2 : 0 ≤ a ∧ a < l.length := by omega
    rw [if_neg (by simp only [List.length_append]; omega), rd_win h2.1 h2.2]
    split at h
    · rename_i h3
      rw [if_pos h3]
      simp only [Prod.mk.injEq] at h ⊢
      exact ⟨h.1, by omega, trivial⟩
    · rename_i h3
      rw [if_neg h3, show (a + (p.length : Int)).toNat + 1 = p.length + (a.toNat + 1) by omega, drop_win (by omega)]
      exact getT_app q _ _ _ _ _ _ _ _ h
structure Win (p q : List Int) (s s' : ByteArray) : Prop where
  eq : bytesOf s' = p ++ bytesOf s ++ q
  small : s'.size ≤ 3000
section
variable {p q : List Int} {s s' : ByteArray} {k : Nat}
theorem Win.size (hw : Win p q s s') : (s'.size : Int) = (p.length : Int) + (s.size : Int) + (q.length : Int) := by
  have h := congrArg List.length hw.eq
  rw [bytesOf_length, List.length_append, List.length_append, bytesOf_length] at h
  omega
theorem Win.bt (hw : Win p q s s') {a : Int} (h0 : 0 ≤ a) (h1 : a < (s.size : Int)) : bt s' (a + (p.length : Int)) = bt s a := by
  rw [bt_eq, bt_eq, hw.eq, rd_win h0 (by rw [bytesOf_length]; exact h1)]
theorem Win.shr (hw : Win p q s s') {a : Int} (h0 : 0 ≤ a) (h1 : a < (s.size : Int)) : upShr s' (a + (p.length : Int)) = upShr s a := by
  unfold upShr
  rw [hw.bt h0 h1]
theorem getI_at {F : Int} {l : List Int} {a n nx : Int} (h : getI F l a = (n, nx, 0)) : 0 ≤ a ∧ a < l.length := by
  unfold getI at h
  split at h
  · simp at h
  · omega
theorem pget_win (hk : 8 ≤ k) (hw : Win p q s s') {a n nx : Int} {bits : Int} (h : prefix_Get.f k s a bits = some (n, nx, 0)) :
    prefix_Get.f k s' (a + (p.length : Int)) bits = some (n, nx + (p.length : Int), 0) ∧ 0 ≤ n ∧ n ≤ 4294967295 ∧ 0 ≤ a ∧ a < (s.size : Int) ∧ a < nx ∧ nx ≤ (s.size : Int) := by
  have hz := hw.size
  have hs := hw.small
  rw [pget_f bits (by omega) hk] at h
  have h := Option.some.inj h
  have h1 := getI_at h
  obtain ⟨h2, h3, h4, h5⟩ := getI_ok (ful_range bits) (bytesOf_bytes s) h
  rw [bytesOf_length] at h1 h5
  refine ⟨?_, h2, h3, h1.1, h1.2, h4, h5⟩
  rw [pget_f bits (by omega) hk, hw.eq, getI_win h]
theorem part_win (hw : Win p q s s') {nx n : Int} {x : ByteArray} (h0 : 0 ≤ nx) (h1 : 0 ≤ n) (hn : n ≤ 4294967295) (h : num_Part.f s nx n = some (x, true)) :
    num_Part.f s' (nx + (p.length : Int)) n = some (x, true) ∧ nx + n ≤ (s.size : Int) := by
  have hz := hw.size
  have hs := hw.small
  by_cases hp : nx + n ≤ (s.size : Int)
  · rw [part_yes (by omega) h0 h1 hp] at h
    have h := (Prod.mk.inj (Option.some.inj h)).1
    refine ⟨?_, hp⟩
    rw [part_yes (by omega) (by omega) h1 (by omega)]
    have e : s'.extract (nx + (p.length : Int)).toNat (nx + (p.length : Int) + n).toNat = x := by
      rw [← h]
      apply bytesOf_inj
      rw [bytesOf_extract, bytesOf_extract, hw.eq, show (nx + (p.length : Int)).toNat = p.length + nx.toNat by omega, drop_win (by rw [bytesOf_length]; omega), show (nx + (p.length : Int) + n).toNat - (p.length + nx.toNat) = n.toNat by omega, show (nx + n).toNat - nx.toNat = n.toNat by omega, List.take_append_of_le_length (by rw [List.length_drop, bytesOf_length]; omega)]
    rw [e]
  · rw [part_no (by omega) (.inr (.inr (by omega)))] at h
    simp at h
theorem text_win (hk : 8 ≤ k) (hw : Win p q s s') {a a' : Int} {t : ByteArray} (h : upText k s a = some (.ok (t, a'))) :
    upText k s' (a + (p.length : Int)) = some (.ok (t, a' + (p.length : Int))) ∧ a < a' ∧ a' ≤ (s.size : Int) := by
  have hz := hw.size
  have hs := hw.small
  unfold upText at h ⊢
  split at h
  · rename_i h0
    rw [if_pos (by omega)]
    unfold upText0 at h ⊢
    obtain ⟨⟨n, nx, e⟩, h1, h2⟩ := Option.bind_eq_some_iff.mp h
    simp only at h2
    split at h2
    · rename_i he
      subst he
      obtain ⟨g1, hn0, hn1, ha0, ha1, ha2, ha3⟩ := pget_win hk hw h1
      rw [w64 (x := n) (by omega) (by omega)] at h2
      obtain ⟨⟨x, b⟩, h3, h4⟩ := Option.bind_eq_some_iff.mp h2
      simp only at h4
      split at h4
      · rename_i hb
        subst hb
        obtain ⟨g3, hb⟩ := part_win hw (by omega) hn0 hn1 h3
        have hc : (decide (a + (p.length : Int) < (s'.size : Int)) && decide (bt s' (a + (p.length : Int)) ≥ 128)) = (decide (a < (s.size : Int)) && decide (bt s a ≥ 128)) := by
          rw [hw.bt ha0 ha1, decide_eq_true ha1, decide_eq_true (show a + (p.length : Int) < (s'.size : Int) by omega)]
        rw [w64 (x := nx + n) (by omega) (by omega)] at h4
        rw [g1, Option.bind_some]
        simp only []
        rw [if_pos trivial, w64 (x := n) (by omega) (by omega), g3, Option.bind_some]
        simp only []
        rw [if_pos trivial, hc, w64 (x := nx + (p.length : Int) + n) (by omega) (by omega)]
        split at h4
        · rename_i hh
          rw [if_pos hh]
          obtain ⟨⟨y, e2⟩, h5, h6⟩ := Option.bind_eq_some_iff.mp h4
          simp only at h6
          split at h6
          · rename_i he2
            have h6 := Prod.mk.inj (Except.ok.inj (Option.some.inj h6))
            rw [h5, Option.bind_some]
            simp only []
            rw [if_pos he2, h6.1, ← h6.2]
            exact ⟨by rw [show nx + (p.length : Int) + n = nx + n + (p.length : Int) by omega], by omega, by omega⟩
          · simp at h6
        · rename_i hh
          have h6 := Prod.mk.inj (Except.ok.inj (Option.some.inj h4))
          rw [if_neg hh, h6.1, ← h6.2]
          exact ⟨by rw [show nx + (p.length : Int) + n = nx + n + (p.length : Int) by omega], by omega, by omega⟩
      · simp at h4
    · simp at h2
  · simp at h
theorem lit_win (hk : 8 ≤ k) (hw : Win p q s s') {T : TB} {a a' bits : Int} {n v : ByteArray} (h : upLit k T s a bits = some (.ok (n, v, a'))) :
    upLit k T s' (a + (p.length : Int)) bits = some (.ok (n, v, a' + (p.length : Int))) ∧ a < a' ∧ a' ≤ (s.size : Int) := by
  unfold upLit at h ⊢
  obtain ⟨⟨i, nx, e⟩, h1, h2⟩ := Option.bind_eq_some_iff.mp h
  simp only at h2
  split at h2
  · rename_i he
    subst he
    obtain ⟨g1, hn0, hn1, ha0, ha1, ha2, ha3⟩ := pget_win hk hw h1
    rw [g1, Option.bind_some]
    simp only []
    rw [if_pos trivial]
    split at h2
    · rename_i hp
      rw [if_pos hp]
      split at h2
      · rename_i hq
        rw [if_pos hq]
        split at h2
        · rename_i hr
          rw [if_pos hr]
          obtain ⟨R, h3, h4⟩ := Option.bind_eq_some_iff.mp h2
          cases R with
          | error e => simp at h4
          | ok R =>
            obtain ⟨x, y⟩ := R
            obtain ⟨g3, b1, b2⟩ := text_win hk hw h3
            have h5 := Prod.mk.inj (Except.ok.inj (Option.some.inj h4))
            have h6 := Prod.mk.inj h5.2
            simp only at h5 h6
            rw [g3, Option.bind_some]
            simp only []
            rw [h5.1, h6.1, ← h6.2]
            exact ⟨rfl, by omega, b2⟩
        · simp at h2
      · simp at h2
    · rename_i hp
      rw [if_neg hp]
      obtain ⟨R, h3, h4⟩ := Option.bind_eq_some_iff.mp h2
      cases R with
      | error e => simp at h4
      | ok R =>
        obtain ⟨x, y⟩ := R
        obtain ⟨g3, b1, b2⟩ := text_win hk hw h3
        rw [g3, Option.bind_some]
        simp only at h4 ⊢
        obtain ⟨R2, h5, h6⟩ := Option.bind_eq_some_iff.mp h4
        cases R2 with
        | error e => simp at h6
        | ok R2 =>
          obtain ⟨x2, y2⟩ := R2
          obtain ⟨g4, b3, b4⟩ := text_win hk hw h5
          have h7 := Prod.mk.inj (Except.ok.inj (Option.some.inj h6))
          have h8 := Prod.mk.inj h7.2
          simp only at h7 h8
          rw [g4, Option.bind_some]
          simp only []
          rw [h7.1, h8.1, ← h8.2]
          exact ⟨rfl, by omega, b4⟩
  · simp at h2
theorem res_win (hk : 8 ≤ k) (hw : Win p q s s') {T T2 : TB} {a a' : Int} {any : Bool} (h : upRes k T s a any = some (.ok (T2, a'))) :
    any = false ∧ upRes k T s' (a + (p.length : Int)) any = some (.ok (T2, a' + (p.length : Int))) ∧ a < a' ∧ a' ≤ (s.size : Int) := by
  unfold upRes at h ⊢
  obtain ⟨⟨i, nx, e⟩, h1, h2⟩ := Option.bind_eq_some_iff.mp h
  simp only at h2
  split at h2
  · rename_i he
    subst he
    obtain ⟨g1, hn0, hn1, ha0, ha1, ha2, ha3⟩ := pget_win hk hw h1
    rw [g1, Option.bind_some]
    simp only []
    rw [if_pos trivial]
    split at h2
    · simp at h2
    · rename_i hp
      rw [if_neg hp]
      split at h2
      · simp at h2
      · rename_i hq
        rw [if_neg hq]
        obtain ⟨R, h3, h4⟩ := Option.map_eq_some_iff.mp h2
        have h5 := Prod.mk.inj (Except.ok.inj h4)
        refine ⟨Bool.eq_false_iff.mpr hp, ?_, by omega, by omega⟩
        rw [h3, Option.map_some, h5.1, ← h5.2]
  · simp at h2
theorem step_win (hk : 8 ≤ k) (hw : Win p q s s') {T T1 : TB} {a a1 : Int} {n : Nat} {f : Option FD} (ha : a < (s.size : Int)) (h : upStep k T s a n = some (T1, .ok (a1, f))) :
    0 ≤ a ∧ a < a1 ∧ a1 ≤ (s.size : Int) ∧ (upShr s a = true → n = 0 ∧ f = none) ∧ (upShr s a = false → ∃ x, f = some x) ∧
      ∀ z : Nat, (z = 0 ∨ upShr s a = false) → (upShr s a = true ∨ n + z ≠ 64) → upStep k T s' (a + (p.length : Int)) (n + z) = some (T1, .ok (a1 + (p.length : Int), f)) := by
  unfold upStep at h
  split at h
  · rename_i h0
    have hsr := hw.shr h0 ha
    have hbt := hw.bt h0 ha
    refine ⟨h0, ?_⟩
    split at h
    · rename_i hsh
      obtain ⟨R, h1, h2⟩ := Option.bind_eq_some_iff.mp h
      cases R with
      | error e => simp at h2
      | ok R =>
        obtain ⟨T2, a2⟩ := R
        obtain ⟨g1, g2, b1, b2⟩ := res_win hk hw h1
        have h3 := Prod.mk.inj (Option.some.inj h2)
        have h4 := Prod.mk.inj (Except.ok.inj h3.2)
        simp only at h3 h4
        have hn : n = 0 := by
          have := of_decide_eq_false g1
          omega
        subst hn
        rw [← h3.1, ← h4.1, ← h4.2]
        refine ⟨b1, b2, fun _ => ⟨rfl, rfl⟩, fun e => (by rw [hsh] at e; cases e), fun z hz _ => ?_⟩
        have hz : z = 0 := hz.resolve_right (fun e => (by rw [hsh] at e; cases e))
        subst hz
        unfold upStep
        rw [if_pos (by omega), if_pos (hsr.trans hsh), g2, Option.bind_some]
    · rename_i hsh
      have hsf : upShr s a = false := Bool.eq_false_iff.mpr hsh
      have go : ∀ z : Nat, n + z ≠ 64 → upStep k T s' (a + (p.length : Int)) (n + z) = (if bt s a ≥ 128 then ((prefix_Get.f k s' (a + (p.length : Int)) 7).bind fun p => if p.2.2 = 0 then (if 0 ≤ p.1 ∧ p.1 ≤ 9223372036854775807 ∧ T.l.length < 4398046511104 ∧ T.fx.length < 4398046511104 then (if (tbAt T.fx T.l p.1).2.2 = true then some (T, .ok (p.2.1, some ⟨(tbAt T.fx T.l p.1).1, (tbAt T.fx T.l p.1).2.1, false⟩)) else some (T, .error 92)) else none) else some (T, .error p.2.2))
          else if bt s a ≥ 64 then ((upLit k T s' (a + (p.length : Int)) 6).bind fun q => match q with | .error e => some (T, .error e) | .ok p => ((table_Table_Add.f T p.1 p.2.1).bind fun t2 => some (t2, .ok (p.2.2, some ⟨p.1, p.2.1, false⟩))))
          else ((upLit k T s' (a + (p.length : Int)) 4).bind fun q => match q with | .error e => some (T, .error e) | .ok p => some (T, .ok (p.2.2, some ⟨p.1, p.2.1, decide (bt s a ≥ 16)⟩)))) := by
        intro z hz
        rw [upStep, if_pos (by omega), if_neg (by rw [hsr]; exact hsh), if_neg hz, hbt]
        rfl
      have nz : ∀ z : Nat, (upShr s a = true ∨ n + z ≠ 64) → n + z ≠ 64 := fun z h => h.resolve_left hsh
      split at h
      · simp at h
      · split at h
        · rename_i h128
          obtain ⟨⟨i, nx, e⟩, h1, h2⟩ := Option.bind_eq_some_iff.mp h
          simp only at h2
          split at h2
          · rename_i he
            subst he
            obtain ⟨g1, hn0, hn1, ha0, ha1, ha2, ha3⟩ := pget_win hk hw h1
            split at h2
            · rename_i hc
              split at h2
              · rename_i hd
                have h3 := Prod.mk.inj (Option.some.inj h2)
                have h4 := Prod.mk.inj (Except.ok.inj h3.2)
                rw [← h3.1, ← h4.1, ← h4.2]
                refine ⟨ha2, ha3, fun e => absurd e hsh, fun _ => ⟨_, rfl⟩, fun z _ hz => ?_⟩
                rw [go z (nz z hz), if_pos h128, g1, Option.bind_some]
                simp only []
                rw [if_pos trivial, if_pos hc, if_pos hd]
              · simp at h2
            · simp at h2
          · simp at h2
        · rename_i h128
          split at h
          · rename_i h64
            obtain ⟨R, h1, h2⟩ := Option.bind_eq_some_iff.mp h
            cases R with
            | error e => simp at h2
            | ok R =>
              obtain ⟨x, y, a2⟩ := R
              obtain ⟨g1, b1, b2⟩ := lit_win hk hw h1
              simp only at h2
              obtain ⟨T2, h5, h6⟩ := Option.bind_eq_some_iff.mp h2
              have h3 := Prod.mk.inj (Option.some.inj h6)
              have h4 := Prod.mk.inj (Except.ok.inj h3.2)
              rw [← h3.1, ← h4.1, ← h4.2]
              refine ⟨b1, b2, fun e => absurd e hsh, fun _ => ⟨_, rfl⟩, fun z _ hz => ?_⟩
              rw [go z (nz z hz), if_neg h128, if_pos h64, g1, Option.bind_some]
              simp only []
              rw [h5, Option.bind_some]
          · rename_i h64
            obtain ⟨R, h1, h2⟩ := Option.bind_eq_some_iff.mp h
            cases R with
            | error e => simp at h2
            | ok R =>
              obtain ⟨x, y, a2⟩ := R
              obtain ⟨g1, b1, b2⟩ := lit_win hk hw h1
              simp only at h2
              have h3 := Prod.mk.inj (Option.some.inj h2)
              have h4 := Prod.mk.inj (Except.ok.inj h3.2)
              rw [← h3.1, ← h4.1, ← h4.2]
              refine ⟨b1, b2, fun e => absurd e hsh, fun _ => ⟨_, rfl⟩, fun z _ hz => ?_⟩
              rw [go z (nz z hz), if_neg h128, if_neg h64, g1, Option.bind_some]
  · simp at h
theorem fld_win (hk : 8 ≤ k) (hw : Win p q s s') (pre : List FD) : ∀ (r : Nat) (T : TB) (a : Int) (out : List FD) (T2 : TB) (l : List FD), upFld k r T s a out = some (T2, .ok l) → 0 ≤ a → a ≤ (s.size : Int) → (pre = [] ∨ out ≠ [] ∨ a = (s.size : Int) ∨ upShr s a = false) →
    ∃ x, l = out ++ x ∧ (pre.length + l.length ≤ 64 → ∃ r0, r0 ≤ ((s.size : Int) - a).toNat ∧ ∀ r2, upFld k (r0 + r2) T s' (a + (p.length : Int)) (pre ++ out) = upFld k r2 T2 s' ((s.size : Int) + (p.length : Int)) (pre ++ l))
  | 0, T, a, out, T2, l, h, h0, ha, hc => by simp [upFld] at h
  | r + 1, T, a, out, T2, l, h, h0, ha, hc => by
    have hz := hw.size
    rw [upFld] at h
    split at h
    · rename_i hlt
      obtain ⟨⟨T1, E⟩, h1, h2⟩ := Option.bind_eq_some_iff.mp h
      cases E with
      | error e => simp at h2
      | ok E =>
        obtain ⟨a1, f⟩ := E
        simp only at h2
        obtain ⟨_, b1, b2, b3, b4, b5⟩ := step_win hk hw hlt h1
        have hc1 : pre = [] ∨ upShr s a = false := by
          rcases hc with e | e | e | e
          · exact .inl e
          · cases hs : upShr s a with
            | false => exact .inr rfl
            | true => exact absurd (List.length_eq_zero_iff.mp (b3 hs).1) e
          · omega
          · exact .inr e
        obtain ⟨x, hx, ih⟩ := fld_win hk hw pre r T1 a1 (out ++ f.toList) T2 l h2 (by omega) b2 (by
          rcases hc1 with e | e
          · exact .inl e
          · obtain ⟨x, rfl⟩ := b4 e
            exact .inr (.inl (by simp)))
        refine ⟨f.toList ++ x, by rw [hx, List.append_assoc], fun hl => ?_⟩
        obtain ⟨r0, hr, he⟩ := ih hl
        refine ⟨r0 + 1, by omega, fun r2 => ?_⟩
        have h5 := b5 pre.length (hc1.imp (fun e => by rw [e]; rfl) id) (by
          cases hs : upShr s a with
          | true => exact .inl rfl
          | false =>
            obtain ⟨y, rfl⟩ := b4 hs
            refine .inr ?_
            rw [hx] at hl
            simp only [List.length_append, Option.toList, List.length_singleton] at hl
            omega)
        rw [show r0 + 1 + r2 = (r0 + r2) + 1 by omega, upFld, if_pos (by omega), List.length_append, Nat.add_comm pre.length, h5, Option.bind_some]
        simp only []
        rw [List.append_assoc]
        exact he r2
    · rename_i hlt
      have ha2 : a = (s.size : Int) := by omega
      have h3 := Prod.mk.inj (Option.some.inj h)
      have h4 := Except.ok.inj h3.2
      refine ⟨[], by rw [List.append_nil, h4], fun _ => ⟨0, Nat.zero_le _, fun r2 => ?_⟩⟩
      rw [Nat.zero_add, ha2, h3.1, h4]
end
theorem parts {a b : ByteArray} (ha : a.size ≤ 1000) (hb : b.size ≤ 1000) {T T1 T2 : TB} {l m : List FD} (h1 : Ev (fun k => upFld k k T a 0 []) (T1, .ok l)) (h2 : Ev (fun k => upFld k k T1 b 0 []) (T2, .ok m)) (hl : l.length + m.length ≤ 64) (hc : l = [] ∨ 0 = (b.size : Int) ∨ upShr b 0 = false) :
    Ev (fun k => upFld k k T (a ++ b) 0 []) (T2, .ok (l ++ m)) := by
  obtain ⟨K1, h1⟩ := h1
  obtain ⟨K2, h2⟩ := h2
  have hsz : (a ++ b).size = a.size + b.size := ByteArray.size_append
  refine ⟨K1 + K2 + 3000, fun k hk => ?_⟩
  have e1 := h1 k (by omega)
  have e2 := h2 k (by omega)
  simp only at e1 e2 ⊢
  have w1 : Win [] (bytesOf b) a (a ++ b) := ⟨by rw [bytesOf_append]; rfl, by omega⟩
  have w2 : Win (bytesOf a) [] b (a ++ b) := ⟨by rw [bytesOf_append, List.append_nil], by omega⟩
  obtain ⟨x, hx, f1⟩ := fld_win (k := k) (by omega) w1 [] k T 0 [] T1 l e1 (by omega) (by omega) (.inl rfl)
  obtain ⟨y, hy, f2⟩ := fld_win (k := k) (by omega) w2 l k T1 0 [] T2 m e2 (by omega) (by omega) (hc.imp id (fun h => .inr h))
  obtain ⟨r1, q1, g1⟩ := f1 (by simp only [List.length_nil]; omega)
  obtain ⟨r2, q2, g2⟩ := f2 (by omega)
  have v1 := g1 (k - r1)
  have v2 := g2 (k - r1 - r2)
  rw [show r1 + (k - r1) = k by omega] at v1
  rw [show r2 + (k - r1 - r2) = k - r1 by omega] at v2
  rw [List.append_nil, bytesOf_length, Int.zero_add] at v2
  simp only [List.length_nil, List.nil_append, Int.zero_add] at v1
  rw [show ((0 : Nat) : Int) = 0 from rfl] at v1
  simp only [Int.add_zero] at v1
  rw [v1, v2]
  obtain ⟨j, hj⟩ : ∃ j, k - r1 - r2 = j + 1 := ⟨k - r1 - r2 - 1, by omega⟩
  rw [hj, upFld, if_neg (by omega)]
end Go.Proofs.YtfkdocmhbmameaaDoor.Pure
