/- The walks and the plain laws that the rows come to: merged out of this repo's texts. -/
import Derived.Test.YtfkdocmhbmameaaDoorProg
import Derived.Below
import Derived.Deep.Draws
import Derived.Deep.AppendLies
import Derived.Maps.AppendAt
import Derived.OwnWalk
import Derived.Laws.BytesArg
import Derived.Laws.MakeOwn
import Derived.Laws.OwnMore
import Derived.Deep.OwnRows
import Derived.Tactics
import Derived.Lib.ConvBytes
import Derived.Laws.Slices
import Derived.WalkKit
import Derived.KernelRfl
import Derived.RowKit3
import Derived.Deep.LoopGhost
import Derived.Deep.QuietTactic
import Derived.BigQuiet
import Derived.WideLaws
import Derived.Deep.DeepCutAuto
import Derived.Deep.CutBlock
import Derived.Deep.RegionHeld3
import Derived.Laws.Rows
import Derived.Lib.AppendStr
import Derived.ArgAppend
import Derived.Laws.IdiomCopy
import Derived.RowKit
import Derived.OrdersHeld
import Derived.Laws.BitsLemmas
import Derived.Laws.StructEq
import Derived.Laws.CopyOwn
import Derived.SizedLaws
import Derived.ChangeSlices
import Derived.Deep.Slices
import Derived.Lib.SmallJoins
import Derived.Lib.OthersKept
import Derived.Lib.AppendZerosOnto
import Derived.WalkSpells
import Derived.Shelf.Utf8.RuneCount
import Derived.Shelf.Strings.Search1
import Derived.Shelf.Strings.Search2
import Derived.Shelf.Strings.Search3
import Derived.Shelf.Strings.Cut
import Derived.Shelf.Strings.Count
import Derived.Shelf.LaysM
import Derived.Shelf.Strings.Shaped
import Derived.Shelf.Strings.Split
import Derived.Shelf.Strings.SplitShaped
import Derived.Shelf.Unicode.Decode
import Derived.Shelf.Strings.RuneCount
import Derived.Shelf.Strings.Explode
import Derived.Shelf.Unicode.DecodeSlow
import Derived.Shelf.Unicode.DecodeAny
import Derived.Recover
import Derived.WalkLawsBesides
import Derived.Laws.BitsAllLaws
import Derived.Test.YtfkdocmhbmameaaDoorCA1
import Derived.Test.YtfkdocmhbmameaaDoorCA2
import Derived.Test.YtfkdocmhbmameaaDoorCA3
import Derived.Test.YtfkdocmhbmameaaDoorCA4
import Derived.Test.YtfkdocmhbmameaaDoorCA5
import Derived.Test.YtfkdocmhbmameaaDoorCA6
import Derived.Test.YtfkdocmhbmameaaDoorCA7
import Derived.Test.YtfkdocmhbmameaaDoorCA8
import Derived.Test.YtfkdocmhbmameaaDoorCA9
import Derived.Test.YtfkdocmhbmameaaDoorCA10
import Derived.Test.YtfkdocmhbmameaaDoorCA11
import Derived.Test.YtfkdocmhbmameaaDoorCA12
import Derived.Test.YtfkdocmhbmameaaDoorCA13
import Derived.Test.YtfkdocmhbmameaaDoorCA14
import Derived.Test.YtfkdocmhbmameaaDoorCA15
import Derived.Test.YtfkdocmhbmameaaDoorCA16
import Derived.Test.YtfkdocmhbmameaaDoorCA17
import Derived.Test.YtfkdocmhbmameaaDoorCA18
import Derived.Test.YtfkdocmhbmameaaDoorCA19
import Derived.Test.YtfkdocmhbmameaaDoorCA20
import Derived.Test.YtfkdocmhbmameaaDoorCA21
import Derived.Test.YtfkdocmhbmameaaDoorCA23
import Derived.Test.YtfkdocmhbmameaaDoorCA24
import Derived.Test.YtfkdocmhbmameaaDoorCA25
import Derived.Test.YtfkdocmhbmameaaDoorCA26
import Derived.Test.YtfkdocmhbmameaaDoorCA27
namespace Go.Proofs.YtfkdocmhbmameaaDoor.Pure
open Go.RowKit Go.Proofs.YtfkdocmhbmameaaDoor.Mine Go.Proofs.YtfkdocmhbmameaaDoorW.PrintWords Go.Proofs.YtfkdocmhbmameaaDoorW.PrintLast Go.Proofs.YtfkdocmhbmameaaDoorW.PrintMore
set_option linter.unusedVariables false
theorem sm_ge : ∀ (l : List S88), 32 * (l.length : Int) ≤ sm l
  | [] => by simp [sm]
  | x :: r => by
    have := sm_ge r
    have := es_ge x
    simp only [sm, List.length_cons]
    omega
theorem sm_mem : ∀ (l : List S88), ∀ x ∈ l, es x ≤ sm l
  | [], x, h => by simp at h
  | y :: r, x, h => by
    have h1 := sm_nonneg r
    have h2 := es_ge y
    simp only [sm]
    rcases List.mem_cons.mp h with rfl | h
    · omega
    · have := sm_mem r x h
      omega
def Wt (m : M) : Prop := Ok 128 m ∧ m.1 ≤ 4096
theorem Wt.of {n : Nat} {m : M} (h : Ok n m) (h1 : m.1 ≤ 4096) : Wt m := ⟨⟨h.1, by have := sm_ge m.2; have := h.2.2.2; omega, h.2.2⟩, h1⟩
theorem Wt.add {m : M} (h : Wt m) {a b : ByteArray} (he : es ⟨a, b⟩ ≤ 10000) : Wt (Pure.add m a b) := Wt.of (ok_add h.1 he) h.2
theorem Wt.rsz {m : M} (h : Wt m) {x : Int} (hx : x ≤ 4096) : Wt (Pure.rsz m x) := Wt.of (ok_rsz h.1 (by omega)) (by show mx x 0 ≤ 4096; unfold mx; split <;> omega)
theorem F38_small : ∀ x ∈ F38, es x ≤ 100 := by
  have h : (fxs.all fun p => decide (p.1.length + p.2.length ≤ 68)) = true := by decide +kernel
  intro x hx
  unfold F38 at hx
  obtain ⟨p, hp, rfl⟩ := List.mem_map.mp hx
  have := of_decide_eq_true (List.all_eq_true.mp h p hp)
  unfold es en
  simp only [bs_size]
  omega
theorem at_small {m : M} (h : Wt m) (n : Int) : ((atM m n).1.size : Int) + ((atM m n).2.1.size : Int) ≤ 4096 := by
  unfold atM atF
  split
  · have h2 : ∀ x ∈ F38 ++ m.2, es x ≤ 4096 := fun x hx => by
      rcases List.mem_append.mp hx with hx | hx
      · have := F38_small x hx; omega
      · have := sm_mem m.2 x hx; have := h.1.2.2.2; have := h.2; omega
    simp only
    generalize F38 ++ m.2 = l at h2
    rcases Nat.lt_or_ge (n - 1).toNat l.length with hi | hi
    · rw [List.getD_eq_getElem?_getD, List.getElem?_eq_getElem hi, Option.getD_some]
      have := h2 _ (List.getElem_mem hi)
      unfold es at this
      omega
    · rw [List.getD_eq_getElem?_getD, List.getElem?_eq_none hi, Option.getD_none]
      have e : (z88.f0.size : Int) + (z88.f1.size : Int) = 0 := rfl
      simp only [e]
      omega
  · have e : ((⟨#[]⟩ : ByteArray).size : Int) = 0 := rfl
    simp only [e]
    omega
theorem tbAt_M (m : M) (n : Int) : tbAt (mkT m).fx (mkT m).l n = atM m n := by
  have h := tbAt_F tbFixed_len m n
  rw [fixed_cv] at h
  dsimp only [mkT]
  exact h
theorem mkT_len (m : M) : (mkT m).l.length = m.2.length := by unfold mkT; simp
theorem mkT_fx (m : M) : (mkT m).fx.length = 61 := by dsimp only [mkT]; exact tbFixed_len
theorem getT_ok (a : Int) : ∀ (rem i : Nat) (acc : Int) (l : List Int) (r nx : Int), Bytes l → 0 ≤ acc → acc ≤ 4294967295 → getT rem i acc l a = (r, nx, 0) → 0 ≤ r ∧ r ≤ 4294967295 ∧ a + 2 + i ≤ nx ∧ nx + 1 ≤ a + 2 + i + l.length
  | 0, i, acc, l, r, nx, hb, h0, h1, h => by simp [getT] at h
  | rem + 1, i, acc, [], r, nx, hb, h0, h1, h => by simp [getT] at h
  | rem + 1, i, acc, c :: l, r, nx, hb, h0, h1, h => by
    have hc := hb.head
    have hp := p128_pos i
    have hq : 0 ≤ c % 128 * 128 ^ i := Int.mul_nonneg (by omega) (by omega)
    rw [getT] at h
    simp only [List.length_cons]
    by_cases ho : acc + c % 128 * 128 ^ i > 4294967295
    · rw [if_pos ho] at h; simp at h
    · rw [if_neg ho] at h
      by_cases hl : c < 128
      · rw [if_pos hl] at h
        simp only [Prod.mk.injEq, and_true] at h
        obtain ⟨rfl, rfl⟩ := h
        generalize c % 128 * 128 ^ i = q at *
        omega
      · rw [if_neg hl] at h
        have := getT_ok a rem (i + 1) _ l r nx hb.tail (by omega) (by omega) h
        omega
theorem getI_ok {F : Int} (hF : 1 ≤ F ∧ F ≤ 255) {l : List Int} (hb : Bytes l) {a n nx : Int} (h : getI F l a = (n, nx, 0)) : 0 ≤ n ∧ n ≤ 4294967295 ∧ a < nx ∧ nx ≤ l.length := by
  unfold getI at h
  by_cases h1 : a < 0 ∨ a ≥ l.length
  · rw [if_pos h1] at h; simp at h
  · rw [if_neg h1] at h
    have hm1 := Int.emod_nonneg (rd l a) (show F + 1 ≠ 0 by omega)
    have hm2 := Int.emod_lt_of_pos (rd l a) (show 0 < F + 1 by omega)
    by_cases h2 : rd l a % (F + 1) < F
    · rw [if_pos h2] at h
      simp only [Prod.mk.injEq, and_true] at h
      obtain ⟨rfl, rfl⟩ := h
      omega
    · rw [if_neg h2] at h
      have := getT_ok a 5 0 _ _ n nx (hb.drop _) (by omega) (by omega) h
      rw [List.length_drop] at this
      omega
theorem getT_err (a : Int) : ∀ (rem i : Nat) (acc : Int) (l : List Int) (r nx e : Int), getT rem i acc l a = (r, nx, e) → e ≠ 0 → r = 0 ∧ nx = 0
  | 0, i, acc, l, r, nx, e, h, he => by rw [getT] at h; simp only [Prod.mk.injEq] at h; exact ⟨h.1.symm, h.2.1.symm⟩
  | rem + 1, i, acc, [], r, nx, e, h, he => by rw [getT] at h; simp only [Prod.mk.injEq] at h; exact ⟨h.1.symm, h.2.1.symm⟩
  | rem + 1, i, acc, c :: l, r, nx, e, h, he => by
    rw [getT] at h
    split at h
    · simp only [Prod.mk.injEq] at h; exact ⟨h.1.symm, h.2.1.symm⟩
    · split at h
      · simp only [Prod.mk.injEq] at h; exact absurd h.2.2.symm he
      · exact getT_err a rem (i + 1) _ l r nx e h he
theorem getI_err {F : Int} (hF : 1 ≤ F ∧ F ≤ 255) {l : List Int} {a n nx e : Int} (h : getI F l a = (n, nx, e)) (he : e ≠ 0) : n = 0 ∧ nx = 0 := by
  unfold getI at h
  split at h
  · simp only [Prod.mk.injEq] at h; exact ⟨h.1.symm, h.2.1.symm⟩
  · split at h
    · simp only [Prod.mk.injEq] at h; exact absurd h.2.2.symm he
    · exact getT_err a _ _ _ _ _ _ _ h he
theorem pget_ev (s : ByteArray) (hs : s.size ≤ 1000000) (a bits : Int) : Ev (fun k => prefix_Get.f k s a bits) (getI (ful bits) (bytesOf s) a) := ⟨8, fun k hk => pget_f bits (by omega) hk⟩
theorem rnum_ev (s : ByteArray) (hs : s.size ≤ 1000000) (a bits : Int) {n nx e : Int} (h : getI (ful bits) (bytesOf s) a = (n, nx, e)) : Ev (fun k => rfNum k s a 0 bits) (wrap64 n, nx, e) := ⟨9, fun k hk => by show rfNum k s a 0 bits = _; unfold rfNum; rw [if_pos rfl, rget9_f bits (by omega) hk, h]; rfl⟩
theorem dec_size {t : ByteArray} {y : List Int} (h : dec (ub (bytesOf t)) 0 0 true [] = some y) : 5 * y.length ≤ 8 * t.size := by
  obtain ⟨hy, ho, p, hp, hub⟩ := enc_of_dec (bytesOf_bytes t) h
  have h1 := congrArg List.length hub
  rw [ub_length, List.length_append, List.length_replicate, bytesOf_length] at h1
  have := (eb_length_bounds hy).1
  omega
theorem text_ev {s : ByteArray} (hs : s.size ≤ 3000) {a : Int} (h0 : 0 ≤ a) :
    (∃ t a', Ev (fun k => upText k s a) (.ok (t, a')) ∧ Ev (fun k => rfText k s a 0) (t, a', 0) ∧ a < a' ∧ a' ≤ (s.size : Int) ∧ 5 * (t.size : Int) ≤ 8 * (a' - a)) ∨
    (∃ e t a', e ≠ 0 ∧ Ev (fun k => upText k s a) (.error e) ∧ Ev (fun k => rfText k s a 0) (t, a', e)) := by
  obtain ⟨⟨n, nx, e⟩, hg⟩ : ∃ R, getI (ful 7) (bytesOf s) a = R := ⟨_, rfl⟩
  have e1 := pget_ev s (by omega) a 7
  have e2 := rnum_ev s (by omega) a 7 hg
  rw [hg] at e1
  have u1 : ∀ k, upText k s a = upText0 k s a := fun k => by unfold upText; rw [if_pos h0]
  have u2 : ∀ k, rfText k s a 0 = rfText0 k s a (decide (a < (s.size : Int)) && decide (bt s a ≥ 128)) := fun k => by unfold rfText; rw [if_pos rfl, if_pos h0]
  by_cases he : e = 0
  · subst he
    obtain ⟨hn0, hn1, ha1, ha2⟩ := getI_ok (ful_range 7) (bytesOf_bytes s) hg
    rw [bytesOf_length] at ha2
    have hw : wrap64 n = n := w64 (by omega) (by omega)
    rw [hw] at e2
    obtain ⟨pk, hpk⟩ : ∃ b : Bool, (decide (a < (s.size : Int)) && decide (bt s a ≥ 128)) = b := ⟨_, rfl⟩
    by_cases hp : nx + n ≤ s.size
    · have p1 := part_yes (s := s) (at_ := nx) (n := n) (by omega) (by omega) hn0 hp
      have hx : (s.extract nx.toNat (nx + n).toNat).size = n.toNat := by rw [ByteArray.size_extract]; omega
      have hw2 : wrap64 (nx + n) = nx + n := w64 (by omega) (by omega)
      generalize s.extract nx.toNat (nx + n).toNat = t at p1 hx
      cases pk with
      | false =>
        refine .inl ⟨t, nx + n, ?_, ?_, by omega, hp, by omega⟩
        · refine Ev.congr (fun k => by rw [u1, upText0, hpk]) (Ev.bind e1 (ev_pos rfl ?_))
          exact ev_bind0 (show num_Part.f s nx (wrap64 n) = some (t, true) by rw [hw]; exact p1) (ev_pos rfl (ev_neg (by decide) (ev_val (by simp only [hw, hw2]))))
        · refine Ev.congr (fun k => by rw [u2, rfText0, hpk]) (Ev.bind e2 (ev_pos rfl ?_))
          refine ev_bind0 ((rpart_eq _ _ _).trans p1) (ev_pos rfl (ev_neg (by decide) (ev_val ?_)))
          simp only [hw2]
      | true =>
        have d1 := decode_f t (by omega)
        have d2 := ref_decode_f t (by omega)
        cases hd : dec (ub (bytesOf t)) 0 0 true [] with
        | some y =>
          rw [hd] at d1 d2
          have hy := dec_size hd
          refine .inl ⟨strOfNums y, nx + n, ?_, ?_, by omega, hp, by rw [strOfNums_size]; omega⟩
          · refine Ev.congr (fun k => by rw [u1, upText0, hpk]) (Ev.bind e1 (ev_pos rfl ?_))
            exact ev_bind0 (show num_Part.f s nx (wrap64 n) = some (t, true) by rw [hw]; exact p1) (ev_pos rfl (ev_pos rfl (Ev.bind d1 (ev_pos rfl (ev_val (by simp only [hw, hw2]; rfl))))))
          · refine Ev.congr (fun k => by rw [u2, rfText0, hpk]) (Ev.bind e2 (ev_pos rfl ?_))
            refine ev_bind0 ((rpart_eq _ _ _).trans p1) (ev_pos rfl (ev_pos rfl (Ev.bind d2 (ev_val ?_))))
            simp only [hw2]
            rfl
        | none =>
          rw [hd] at d1 d2
          refine .inr ⟨91, ⟨#[]⟩, nx + n, by decide, ?_, ?_⟩
          · refine Ev.congr (fun k => by rw [u1, upText0, hpk]) (Ev.bind e1 (ev_pos rfl ?_))
            exact ev_bind0 (show num_Part.f s nx (wrap64 n) = some (t, true) by rw [hw]; exact p1) (ev_pos rfl (ev_pos rfl (Ev.bind d1 (ev_neg (by decide) (ev_val rfl)))))
          · refine Ev.congr (fun k => by rw [u2, rfText0, hpk]) (Ev.bind e2 (ev_pos rfl ?_))
            refine ev_bind0 ((rpart_eq _ _ _).trans p1) (ev_pos rfl (ev_pos rfl (Ev.bind d2 (ev_val ?_))))
            simp only [hw2]
            rfl
    · have p1 := part_no (s := s) (at_ := nx) (n := n) (by omega) (.inr (.inr (by omega)))
      refine .inr ⟨2, ⟨#[]⟩, nx, by decide, ?_, ?_⟩
      · refine Ev.congr (fun k => by rw [u1, upText0]) (Ev.bind e1 (ev_pos rfl ?_))
        exact ev_bind0 (show num_Part.f s nx (wrap64 n) = some ((⟨#[]⟩ : ByteArray), false) by rw [hw]; exact p1) (ev_neg (by decide) (Ev.now _))
      · refine Ev.congr (fun k => by rw [u2, rfText0]) (Ev.bind e2 (ev_pos rfl ?_))
        exact ev_bind0 ((rpart_eq _ _ _).trans p1) (ev_neg (by decide) (Ev.now _))
  · refine .inr ⟨e, ⟨#[]⟩, nx, he, ?_, ?_⟩
    · exact Ev.congr (fun k => by rw [u1, upText0]) (Ev.bind e1 (ev_neg he (Ev.now _)))
    · exact Ev.congr (fun k => by rw [u2, rfText0]) (Ev.bind e2 (ev_neg he (Ev.now _)))
theorem rtext_err (k : Nat) (s : ByteArray) (a : Int) {e : Int} (he : e ≠ 0) : rfText k s a e = some (⟨#[]⟩, a, e) := by unfold rfText; rw [if_neg he]
end Go.Proofs.YtfkdocmhbmameaaDoor.Pure
namespace Go.Proofs.YtfkdocmhbmameaaDoor.Pure
open Go.RowKit Go.Proofs.YtfkdocmhbmameaaDoor.Mine Go.Proofs.YtfkdocmhbmameaaDoorW.PrintWords Go.Proofs.YtfkdocmhbmameaaDoorW.PrintLast Go.Proofs.YtfkdocmhbmameaaDoorW.PrintMore
set_option linter.unusedVariables false
abbrev FD := S26
theorem rent_ev {m : M} (h : Wt m) {n : Int} (hn : n ≤ 9223372036854775807) : Ev (fun k => rfEnt k m.1 m.2 0 n) ((atM m n).1, (atM m n).2.1, if (atM m n).2.2 = true then 0 else 92) := by
  obtain ⟨K, hK⟩ := rat_ev h.1 (by omega) hn
  exact ⟨K, fun k hk => by show rfEnt k m.1 m.2 0 n = _; unfold rfEnt; rw [if_pos rfl]; have h_ := hK k hk; simp only at h_; rw [h_]; rfl⟩
theorem rent_err (k : Nat) (m : M) (n : Int) {e : Int} (he : e ≠ 0) : rfEnt k m.1 m.2 e n = some (⟨#[]⟩, ⟨#[]⟩, e) := by unfold rfEnt; rw [if_neg he]
theorem lit_ev {s : ByteArray} (hs : s.size ≤ 3000) {a : Int} (h0 : 0 ≤ a) {m : M} (hm : Wt m) (bits : Int) :
    (∃ nm vl a', Ev (fun k => upLit k (mkT m) s a bits) (.ok (nm, vl, a')) ∧ Ev (fun k => rfLit k m.1 m.2 s a 0 bits) (nm, vl, a', 0) ∧ a < a' ∧ a' ≤ (s.size : Int) ∧ es ⟨nm, vl⟩ ≤ 10000) ∨
    (∃ e nm vl a', e ≠ 0 ∧ Ev (fun k => upLit k (mkT m) s a bits) (.error e) ∧ Ev (fun k => rfLit k m.1 m.2 s a 0 bits) (nm, vl, a', e)) := by
  obtain ⟨⟨n, nx, e⟩, hg⟩ : ∃ R, getI (ful bits) (bytesOf s) a = R := ⟨_, rfl⟩
  have e1 := pget_ev s (by omega) a bits
  have e2 := rnum_ev s (by omega) a bits hg
  rw [hg] at e1
  by_cases he : e = 0
  · subst he
    obtain ⟨hn0, hn1, ha1, ha2⟩ := getI_ok (ful_range bits) (bytesOf_bytes s) hg
    rw [bytesOf_length] at ha2
    rw [w64 (x := n) (by omega) (by omega)] at e2
    by_cases hp : n > 0
    · have hc : n ≤ 9223372036854775807 ∧ (mkT m).l.length < 4398046511104 ∧ (mkT m).fx.length < 4398046511104 := ⟨by omega, by rw [mkT_len]; have := hm.1.2.1; omega, by rw [mkT_fx]; omega⟩
      have r1 := rent_ev hm (n := n) (by omega)
      obtain ⟨⟨nm, vl0, ok⟩, hR⟩ : ∃ R, atM m n = R := ⟨_, rfl⟩
      have hsm := at_small hm n
      rw [hR] at r1 hsm
      have p1 : tbAt (mkT m).fx (mkT m).l n = (nm, vl0, ok) := by rw [tbAt_M, hR]
      cases ok with
      | true =>
        rcases text_ev hs (a := nx) (by omega) with ⟨t, a', u1, u2, b1, b2, b3⟩ | ⟨e, t, a', he, u1, u2⟩
        · refine .inl ⟨nm, t, a', ?_, ?_, by omega, b2, ?_⟩
          · refine Ev.congr (fun k => by rw [upLit]) ?_
            refine Ev.bind e1 ?_
            refine ev_pos rfl ?_
            refine ev_pos hp ?_
            refine ev_pos hc ?_
            simp only [p1, if_true]
            exact Ev.bind u1 (Ev.now _)
          · refine Ev.congr (fun k => by rw [rfLit]) ?_
            refine Ev.bind e2 ?_
            refine ev_pos hp ?_
            refine Ev.bind r1 ?_
            exact Ev.bind u2 (Ev.now _)
          · unfold es
            simp only at hsm ⊢
            omega
        · refine .inr ⟨e, nm, t, a', he, ?_, ?_⟩
          · refine Ev.congr (fun k => by rw [upLit]) ?_
            refine Ev.bind e1 ?_
            refine ev_pos rfl ?_
            refine ev_pos hp ?_
            refine ev_pos hc ?_
            simp only [p1, if_true]
            exact Ev.bind u1 (Ev.now _)
          · refine Ev.congr (fun k => by rw [rfLit]) ?_
            refine Ev.bind e2 ?_
            refine ev_pos hp ?_
            refine Ev.bind r1 ?_
            exact Ev.bind u2 (Ev.now _)
      | false =>
        refine .inr ⟨92, nm, ⟨#[]⟩, nx, by decide, ?_, ?_⟩
        · refine Ev.congr (fun k => by rw [upLit]) ?_
          refine Ev.bind e1 ?_
          refine ev_pos rfl ?_
          refine ev_pos hp ?_
          refine ev_pos hc ?_
          simp only [p1, Bool.false_eq_true, if_false]
          exact Ev.now _
        · refine Ev.congr (fun k => by rw [rfLit]) ?_
          refine Ev.bind e2 ?_
          refine ev_pos hp ?_
          refine Ev.bind r1 ?_
          exact Ev.congr (fun k => by simp only [Bool.false_eq_true, if_false]; rw [rtext_err k s nx (by decide)]; rfl) (Ev.now _)
    · rcases text_ev hs (a := nx) (by omega) with ⟨t, a1, u1, u2, b1, b2, b3⟩ | ⟨e, t, a', he, u1, u2⟩
      · rcases text_ev hs (a := a1) (by omega) with ⟨v, a', v1, v2, d1, d2, d3⟩ | ⟨e, v, a', he, v1, v2⟩
        · refine .inl ⟨t, v, a', ?_, ?_, by omega, d2, ?_⟩
          · refine Ev.congr (fun k => by rw [upLit]) ?_
            refine Ev.bind e1 ?_
            refine ev_pos rfl ?_
            refine ev_neg hp ?_
            refine Ev.bind u1 ?_
            try dsimp only
            refine Ev.bind v1 ?_
            exact Ev.now _
          · refine Ev.congr (fun k => by rw [rfLit]) ?_
            refine Ev.bind e2 ?_
            refine ev_neg hp ?_
            refine Ev.bind u2 ?_
            try dsimp only
            refine Ev.bind v2 ?_
            exact Ev.now _
          · unfold es
            simp only
            omega
        · refine .inr ⟨e, t, v, a', he, ?_, ?_⟩
          · refine Ev.congr (fun k => by rw [upLit]) ?_
            refine Ev.bind e1 ?_
            refine ev_pos rfl ?_
            refine ev_neg hp ?_
            refine Ev.bind u1 ?_
            try dsimp only
            refine Ev.bind v1 ?_
            exact Ev.now _
          · refine Ev.congr (fun k => by rw [rfLit]) ?_
            refine Ev.bind e2 ?_
            refine ev_neg hp ?_
            refine Ev.bind u2 ?_
            try dsimp only
            refine Ev.bind v2 ?_
            exact Ev.now _
      · refine .inr ⟨e, t, ⟨#[]⟩, a', he, ?_, ?_⟩
        · refine Ev.congr (fun k => by rw [upLit]) ?_
          refine Ev.bind e1 ?_
          refine ev_pos rfl ?_
          refine ev_neg hp ?_
          refine Ev.bind u1 ?_
          exact Ev.now _
        · refine Ev.congr (fun k => by rw [rfLit]) ?_
          refine Ev.bind e2 ?_
          refine ev_neg hp ?_
          refine Ev.bind u2 ?_
          exact Ev.congr (fun k => by rw [rtext_err k s a' he]; rfl) (Ev.now _)
  · have hn : n = 0 ∧ nx = 0 := getI_err (ful_range bits) hg he
    obtain ⟨rfl, rfl⟩ := hn
    refine .inr ⟨e, ⟨#[]⟩, ⟨#[]⟩, 0, he, ?_, ?_⟩
    · refine Ev.congr (fun k => by rw [upLit]) ?_
      refine Ev.bind e1 ?_
      refine ev_neg he ?_
      exact Ev.now _
    · refine Ev.congr (fun k => by rw [rfLit]) ?_
      refine Ev.bind e2 ?_
      refine ev_neg (show ¬ (wrap64 0 > 0) by rw [w64 (by omega) (by omega)]; decide) ?_
      exact Ev.congr (fun k => by simp only []; rw [rtext_err k s 0 he, Option.bind_some, rtext_err k s 0 he]; rfl) (Ev.now _)
theorem btRng {s : ByteArray} {a : Int} (h0 : 0 ≤ a) (ha : a < (s.size : Int)) : 0 ≤ bt s a ∧ bt s a < 256 := by
  obtain ⟨i, rfl⟩ := Int.eq_ofNat_of_zero_le h0
  have hi : i < (bytesOf s).length := by rw [bytesOf_length]; omega
  rw [bt_eq, rd_nat hi]
  exact bytesOf_bytes s _ (List.getElem_mem hi)
theorem shr_iff {s : ByteArray} {a : Int} (h0 : 0 ≤ a) (ha : a < (s.size : Int)) : upShr s a = true ↔ 32 ≤ bt s a ∧ bt s a ≤ 63 := by
  have := btRng h0 ha
  unfold upShr
  rw [beq_iff_eq]
  omega
theorem step_ev {s : ByteArray} (hs : s.size ≤ 3000) {a : Int} (h0 : 0 ≤ a) (ha : a < (s.size : Int)) {m : M} (hm : Wt m) (out : List FD) (ho : out.length ≤ 64) :
    (∃ m' a' f, Ev (fun k => upStep k (mkT m) s a out.length) (mkT m', .ok (a', f)) ∧ Ev (fun k => rfRound k m.1 m.2 s a out) (m'.1, m'.2, a', 0, out ++ f.toList) ∧ Wt m' ∧ a < a' ∧ a' ≤ (s.size : Int) ∧ (out ++ f.toList).length ≤ 64) ∨
    (∃ m' e a' out', e ≠ 0 ∧ Ev (fun k => upStep k (mkT m) s a out.length) (mkT m', .error e) ∧ Ev (fun k => rfRound k m.1 m.2 s a out) (m'.1, m'.2, a', e, out') ∧ Wt m') := by
  by_cases hsh : upShr s a = true
  · have hz := (shr_iff h0 ha).mp hsh
    obtain ⟨⟨n, nx, e⟩, hg⟩ : ∃ R, getI (ful 5) (bytesOf s) a = R := ⟨_, rfl⟩
    have e1 := pget_ev s (by omega) a 5
    have e2 := rnum_ev s (by omega) a 5 hg
    rw [hg] at e1
    by_cases he : e = 0
    · subst he
      obtain ⟨hn0, hn1, ha1, ha2⟩ := getI_ok (ful_range 5) (bytesOf_bytes s) hg
      rw [bytesOf_length] at ha2
      have hw : wrap64 n = n := w64 (by omega) (by omega)
      rw [hw] at e2
      by_cases hv : 0 < out.length ∨ n > 4096
      · refine .inr ⟨m, 93, nx, out, by decide, ?_, ?_, hm⟩
        · have r : Ev (fun k => upRes k (mkT m) s a (decide (0 < out.length))) (.error 93) := by
            refine Ev.congr (fun k => by rw [upRes]) ?_
            refine Ev.bind e1 ?_
            refine ev_pos rfl ?_
            by_cases h1 : 0 < out.length
            · exact ev_pos (decide_eq_true h1) (Ev.now _)
            · refine ev_neg (by rw [decide_eq_false h1]; decide) ?_
              exact ev_pos (show n > 4096 by omega) (Ev.now _)
          refine Ev.congr (fun k => by rw [upStep]) ?_
          refine ev_pos h0 ?_
          refine ev_pos hsh ?_
          exact Ev.bind r (Ev.now _)
        · refine Ev.congr (fun k => by rw [rfRound]) ?_
          refine ev_pos h0 ?_
          refine ev_pos hz ?_
          refine Ev.bind e2 ?_
          refine ev_pos rfl ?_
          exact ev_pos hv (Ev.now _)
      · have hr := resize_f hm.1 (by omega) (x := n) (by omega)
        refine .inl ⟨rsz m n, nx, none, ?_, ?_, hm.rsz (by omega), ha1, ha2, by simpa using ho⟩
        · have r : Ev (fun k => upRes k (mkT m) s a (decide (0 < out.length))) (.ok (mkT (rsz m n), nx)) := by
            refine Ev.congr (fun k => by rw [upRes]) ?_
            refine Ev.bind e1 ?_
            refine ev_pos rfl ?_
            refine ev_neg (by rw [decide_eq_false (by omega)]; decide) ?_
            refine ev_neg (show ¬ n > 4096 by omega) ?_
            exact ⟨0, fun k _ => by simp only [hw, hr, Option.map_some]⟩
          refine Ev.congr (fun k => by rw [upStep]) ?_
          refine ev_pos h0 ?_
          refine ev_pos hsh ?_
          exact Ev.bind r (Ev.now _)
        · refine Ev.congr (fun k => by rw [rfRound]) ?_
          refine ev_pos h0 ?_
          refine ev_pos hz ?_
          refine Ev.bind e2 ?_
          refine ev_pos rfl ?_
          refine ev_neg hv ?_
          refine Ev.bind (rresize_ev hm.1 (by omega) n) ?_
          exact ev_val (by simp)
    · refine .inr ⟨m, e, nx, out, he, ?_, ?_, hm⟩
      · have r : Ev (fun k => upRes k (mkT m) s a (decide (0 < out.length))) (.error e) := by
          refine Ev.congr (fun k => by rw [upRes]) ?_
          refine Ev.bind e1 ?_
          exact ev_neg he (Ev.now _)
        refine Ev.congr (fun k => by rw [upStep]) ?_
        refine ev_pos h0 ?_
        refine ev_pos hsh ?_
        exact Ev.bind r (Ev.now _)
      · refine Ev.congr (fun k => by rw [rfRound]) ?_
        refine ev_pos h0 ?_
        refine ev_pos hz ?_
        refine Ev.bind e2 ?_
        exact ev_neg he (Ev.now _)
  · have hz : ¬ (32 ≤ bt s a ∧ bt s a ≤ 63) := fun h => hsh ((shr_iff h0 ha).mpr h)
    by_cases hl : out.length = 64
    · refine .inr ⟨m, 94, a, out, by decide, ?_, ?_, hm⟩
      · refine Ev.congr (fun k => by rw [upStep]) ?_
        refine ev_pos h0 ?_
        refine ev_neg hsh ?_
        exact ev_pos hl (Ev.now _)
      · refine Ev.congr (fun k => by rw [rfRound]) ?_
        refine ev_pos h0 ?_
        refine ev_neg hz ?_
        exact ev_pos hl (Ev.now _)
    · by_cases h128 : bt s a ≥ 128
      · obtain ⟨⟨n, nx, e⟩, hg⟩ : ∃ R, getI (ful 7) (bytesOf s) a = R := ⟨_, rfl⟩
        have e1 := pget_ev s (by omega) a 7
        have e2 := rnum_ev s (by omega) a 7 hg
        rw [hg] at e1
        by_cases he : e = 0
        · subst he
          obtain ⟨hn0, hn1, ha1, ha2⟩ := getI_ok (ful_range 7) (bytesOf_bytes s) hg
          rw [bytesOf_length] at ha2
          rw [w64 (x := n) (by omega) (by omega)] at e2
          have hc : 0 ≤ n ∧ n ≤ 9223372036854775807 ∧ (mkT m).l.length < 4398046511104 ∧ (mkT m).fx.length < 4398046511104 := ⟨hn0, by omega, by rw [mkT_len]; have := hm.1.2.1; omega, by rw [mkT_fx]; omega⟩
          have r1 := rent_ev hm (n := n) (by omega)
          obtain ⟨⟨nm, vl, ok⟩, hR⟩ : ∃ R, atM m n = R := ⟨_, rfl⟩
          rw [hR] at r1
          have p1 : tbAt (mkT m).fx (mkT m).l n = (nm, vl, ok) := by rw [tbAt_M, hR]
          cases ok with
          | true =>
            refine .inl ⟨m, nx, some ⟨nm, vl, false⟩, ?_, ?_, hm, ha1, ha2, by simp only [Option.toList, List.length_append, List.length_singleton]; omega⟩
            · refine Ev.congr (fun k => by rw [upStep]) ?_
              refine ev_pos h0 ?_
              refine ev_neg hsh ?_
              refine ev_neg hl ?_
              refine ev_pos h128 ?_
              refine Ev.bind e1 ?_
              refine ev_pos rfl ?_
              refine ev_pos hc ?_
              simp only [p1, if_true]
              exact Ev.now _
            · refine Ev.congr (fun k => by rw [rfRound]) ?_
              refine ev_pos h0 ?_
              refine ev_neg hz ?_
              refine ev_neg hl ?_
              refine ev_pos h128 ?_
              refine Ev.bind e2 ?_
              refine Ev.bind r1 ?_
              exact ev_val rfl
          | false =>
            refine .inr ⟨m, 92, nx, out ++ [⟨nm, vl, false⟩], by decide, ?_, ?_, hm⟩
            · refine Ev.congr (fun k => by rw [upStep]) ?_
              refine ev_pos h0 ?_
              refine ev_neg hsh ?_
              refine ev_neg hl ?_
              refine ev_pos h128 ?_
              refine Ev.bind e1 ?_
              refine ev_pos rfl ?_
              refine ev_pos hc ?_
              simp only [p1, Bool.false_eq_true, if_false]
              exact Ev.now _
            · refine Ev.congr (fun k => by rw [rfRound]) ?_
              refine ev_pos h0 ?_
              refine ev_neg hz ?_
              refine ev_neg hl ?_
              refine ev_pos h128 ?_
              refine Ev.bind e2 ?_
              refine Ev.bind r1 ?_
              exact ev_val (by simp)
        · obtain ⟨rfl, rfl⟩ := getI_err (ful_range 7) hg he
          refine .inr ⟨m, e, 0, out ++ [⟨⟨#[]⟩, ⟨#[]⟩, false⟩], he, ?_, ?_, hm⟩
          · refine Ev.congr (fun k => by rw [upStep]) ?_
            refine ev_pos h0 ?_
            refine ev_neg hsh ?_
            refine ev_neg hl ?_
            refine ev_pos h128 ?_
            refine Ev.bind e1 ?_
            exact ev_neg he (Ev.now _)
          · refine Ev.congr (fun k => by rw [rfRound]) ?_
            refine ev_pos h0 ?_
            refine ev_neg hz ?_
            refine ev_neg hl ?_
            refine ev_pos h128 ?_
            refine Ev.bind e2 ?_
            exact ⟨0, fun k _ => by
              show (rfEnt k m.1 m.2 e (wrap64 0)).bind _ = _
              rw [rent_err k m _ he]
              rfl⟩
      · by_cases h64 : bt s a ≥ 64
        · rcases lit_ev hs h0 hm 6 with ⟨nm, vl, a', l1, l2, b1, b2, b3⟩ | ⟨e, nm, vl, a', he, l1, l2⟩
          · have hf := add_f hm.1 (by omega) b3
            refine .inl ⟨add m nm vl, a', some ⟨nm, vl, false⟩, ?_, ?_, hm.add b3, b1, b2, by simp only [Option.toList, List.length_append, List.length_singleton]; omega⟩
            · refine Ev.congr (fun k => by rw [upStep]) ?_
              refine ev_pos h0 ?_
              refine ev_neg hsh ?_
              refine ev_neg hl ?_
              refine ev_neg h128 ?_
              refine ev_pos h64 ?_
              refine Ev.bind l1 ?_
              exact ev_bind0 hf (Ev.now _)
            · refine Ev.congr (fun k => by rw [rfRound]) ?_
              refine ev_pos h0 ?_
              refine ev_neg hz ?_
              refine ev_neg hl ?_
              refine ev_neg h128 ?_
              refine ev_pos h64 ?_
              refine Ev.bind l2 ?_
              refine ev_pos rfl ?_
              refine Ev.bind (radd_ev hm.1 (by omega) b3) ?_
              exact ev_val rfl
          · refine .inr ⟨m, e, a', out ++ [⟨nm, vl, false⟩], he, ?_, ?_, hm⟩
            · refine Ev.congr (fun k => by rw [upStep]) ?_
              refine ev_pos h0 ?_
              refine ev_neg hsh ?_
              refine ev_neg hl ?_
              refine ev_neg h128 ?_
              refine ev_pos h64 ?_
              exact Ev.bind l1 (Ev.now _)
            · refine Ev.congr (fun k => by rw [rfRound]) ?_
              refine ev_pos h0 ?_
              refine ev_neg hz ?_
              refine ev_neg hl ?_
              refine ev_neg h128 ?_
              refine ev_pos h64 ?_
              refine Ev.bind l2 ?_
              exact ev_neg he (Ev.now _)
        · rcases lit_ev hs h0 hm 4 with ⟨nm, vl, a', l1, l2, b1, b2, b3⟩ | ⟨e, nm, vl, a', he, l1, l2⟩
          · refine .inl ⟨m, a', some ⟨nm, vl, decide (bt s a ≥ 16)⟩, ?_, ?_, hm, b1, b2, by simp only [Option.toList, List.length_append, List.length_singleton]; omega⟩
            · refine Ev.congr (fun k => by rw [upStep]) ?_
              refine ev_pos h0 ?_
              refine ev_neg hsh ?_
              refine ev_neg hl ?_
              refine ev_neg h128 ?_
              refine ev_neg h64 ?_
              exact Ev.bind l1 (Ev.now _)
            · refine Ev.congr (fun k => by rw [rfRound]) ?_
              refine ev_pos h0 ?_
              refine ev_neg hz ?_
              refine ev_neg hl ?_
              refine ev_neg h128 ?_
              refine ev_neg h64 ?_
              exact Ev.bind l2 (Ev.now _)
          · refine .inr ⟨m, e, a', out ++ [⟨nm, vl, decide (bt s a ≥ 16)⟩], he, ?_, ?_, hm⟩
            · refine Ev.congr (fun k => by rw [upStep]) ?_
              refine ev_pos h0 ?_
              refine ev_neg hsh ?_
              refine ev_neg hl ?_
              refine ev_neg h128 ?_
              refine ev_neg h64 ?_
              exact Ev.bind l1 (Ev.now _)
            · refine Ev.congr (fun k => by rw [rfRound]) ?_
              refine ev_pos h0 ?_
              refine ev_neg hz ?_
              refine ev_neg hl ?_
              refine ev_neg h128 ?_
              refine ev_neg h64 ?_
              exact Ev.bind l2 (Ev.now _)
def Ev2 {α : Type} (g : Nat → Nat → Option α) (r : α) : Prop := ∃ K, ∀ k q, K ≤ k → K ≤ q → g k q = some r
theorem Ev2.ev {α : Type} {g : Nat → Nat → Option α} {r : α} (h : Ev2 g r) : Ev (fun k => g k k) r := by
  obtain ⟨K, hK⟩ := h
  exact ⟨K, fun k hk => hK k k hk hk⟩
theorem fld_ev {s : ByteArray} (hs : s.size ≤ 3000) : ∀ (d : Nat) {a : Int} {m : M} {out : List FD}, 0 ≤ a → a ≤ (s.size : Int) → ((s.size : Int) - a).toNat ≤ d → Wt m → out.length ≤ 64 →
    ∃ m', Wt m' ∧ ((∃ l, Ev2 (fun k q => upFld k q (mkT m) s a out) (mkT m', .ok l) ∧ Ev2 (fun k q => rfLoop k q m.1 m.2 s a 0 out) (m'.1, m'.2, 0, l) ∧ l.length ≤ 64) ∨
      (∃ e l, e ≠ 0 ∧ Ev2 (fun k q => upFld k q (mkT m) s a out) (mkT m', .error e) ∧ Ev2 (fun k q => rfLoop k q m.1 m.2 s a 0 out) (m'.1, m'.2, e, l)))
  | d, a, m, out, h0, ha, hd, hm, ho => by
    by_cases hlt : a < (s.size : Int)
    · rcases step_ev hs h0 hlt hm out ho with ⟨m1, a1, f, ⟨K1, u1⟩, ⟨K2, u2⟩, hm1, b1, b2, b3⟩ | ⟨m1, e, a1, out1, he, ⟨K1, u1⟩, ⟨K2, u2⟩, hm1⟩
      · cases d with
        | zero => omega
        | succ d =>
          obtain ⟨m2, hm2, h⟩ := fld_ev hs d (a := a1) (m := m1) (out := out ++ f.toList) (by omega) b2 (by omega) hm1 b3
          refine ⟨m2, hm2, ?_⟩
          rcases h with ⟨l, ⟨K3, v1⟩, ⟨K4, v2⟩, hl⟩ | ⟨e, l, he, ⟨K3, v1⟩, ⟨K4, v2⟩⟩
          · refine .inl ⟨l, ⟨K1 + K3 + 1, fun k q hk hq => ?_⟩, ⟨K2 + K4 + 1, fun k q hk hq => ?_⟩, hl⟩
            · obtain ⟨q, rfl⟩ : ∃ p, q = p + 1 := ⟨q - 1, by omega⟩
              have := u1 k (by omega)
              have w := v1 k q (by omega) (by omega)
              simp only at this w
              simp only [upFld]
              rw [if_pos hlt, this, Option.bind_some]
              exact w
            · obtain ⟨q, rfl⟩ : ∃ p, q = p + 1 := ⟨q - 1, by omega⟩
              have := u2 k (by omega)
              have w := v2 k q (by omega) (by omega)
              simp only at this w
              simp only [rfLoop]
              rw [if_pos ⟨trivial, hlt⟩, this, Option.bind_some]
              exact w
          · refine .inr ⟨e, l, he, ⟨K1 + K3 + 1, fun k q hk hq => ?_⟩, ⟨K2 + K4 + 1, fun k q hk hq => ?_⟩⟩
            · obtain ⟨q, rfl⟩ : ∃ p, q = p + 1 := ⟨q - 1, by omega⟩
              have := u1 k (by omega)
              have w := v1 k q (by omega) (by omega)
              simp only at this w
              simp only [upFld]
              rw [if_pos hlt, this, Option.bind_some]
              exact w
            · obtain ⟨q, rfl⟩ : ∃ p, q = p + 1 := ⟨q - 1, by omega⟩
              have := u2 k (by omega)
              have w := v2 k q (by omega) (by omega)
              simp only at this w
              simp only [rfLoop]
              rw [if_pos ⟨trivial, hlt⟩, this, Option.bind_some]
              exact w
      · refine ⟨m1, hm1, .inr ⟨e, out1, he, ⟨K1 + 1, fun k q hk hq => ?_⟩, ⟨K2 + 2, fun k q hk hq => ?_⟩⟩⟩
        · obtain ⟨q, rfl⟩ : ∃ p, q = p + 1 := ⟨q - 1, by omega⟩
          have := u1 k (by omega)
          simp only at this
          simp only [upFld]
          rw [if_pos hlt, this, Option.bind_some]
        · obtain ⟨q, rfl⟩ : ∃ p, q = p + 2 := ⟨q - 2, by omega⟩
          have := u2 k (by omega)
          simp only at this
          simp only [rfLoop]
          rw [if_pos ⟨trivial, hlt⟩, this, Option.bind_some]
          rw [if_neg (fun h => he h.1)]
    · refine ⟨m, hm, .inl ⟨out, ⟨1, fun k q hk hq => ?_⟩, ⟨1, fun k q hk hq => ?_⟩, ho⟩⟩
      · obtain ⟨q, rfl⟩ : ∃ p, q = p + 1 := ⟨q - 1, by omega⟩
        simp only [upFld]
        rw [if_neg hlt]
      · obtain ⟨q, rfl⟩ : ∃ p, q = p + 1 := ⟨q - 1, by omega⟩
        simp only [rfLoop]
        rw [if_neg (fun h => hlt h.2)]
theorem read_ev {s : ByteArray} (hs : s.size ≤ 3000) {m : M} (hm : Wt m) (down : Bool) :
    ∃ l e m' down', Ev (fun k => unpack_Decoder_Read.f k ⟨mkT m, down⟩ s) (l, e, ⟨mkT m', down'⟩) ∧ Ev (fun k => nuncioref12_Read.f k m.1 m.2 down s) (m'.1, m'.2, down', l, e) ∧ Wt m' ∧ l.length ≤ 64 ∧ (e ≠ 0 → l = []) ∧ (down' = true ↔ (down = true ∨ e ≠ 0)) ∧ (down = true → e = 8 ∧ l = [] ∧ m' = m) := by
  cases down with
  | true =>
    refine ⟨[], 8, m, true, ?_, ?_, hm, by simp, fun _ => rfl, by simp, fun _ => ⟨rfl, rfl, rfl⟩⟩
    · refine Ev.congr (fun k => by rw [unpack_Decoder_Read.f]) ?_
      exact ev_pos rfl (Ev.now _)
    · refine Ev.congr (fun k => by rw [nuncioref12_Read.f]) ?_
      exact ev_pos rfl (Ev.now _)
  | false =>
    obtain ⟨m', hm', h⟩ := fld_ev hs s.size (a := 0) (m := m) (out := []) (by omega) (by omega) (by omega) hm (by simp)
    rcases h with ⟨l, v1, v2, hl⟩ | ⟨e, l, he, v1, v2⟩
    · refine ⟨l, 0, m', false, ?_, ?_, hm', hl, fun h => absurd rfl h, by simp, fun h => by cases h⟩
      · refine Ev.congr (fun k => by rw [unpack_Decoder_Read.f]) ?_
        refine ev_neg (show ¬ (false = true) by decide) ?_
        exact Ev.bind v1.ev (Ev.now _)
      · refine Ev.congr (fun k => by rw [nuncioref12_Read.f]) ?_
        refine ev_neg (show ¬ (false = true) by decide) ?_
        refine Ev.bind v2.ev ?_
        exact ev_pos rfl (Ev.now _)
    · refine ⟨[], e, m', true, ?_, ?_, hm', by simp, fun _ => rfl, by simp [he], fun h => by cases h⟩
      · refine Ev.congr (fun k => by rw [unpack_Decoder_Read.f]) ?_
        refine ev_neg (show ¬ (false = true) by decide) ?_
        exact Ev.bind v1.ev (Ev.now _)
      · refine Ev.congr (fun k => by rw [nuncioref12_Read.f]) ?_
        refine ev_neg (show ¬ (false = true) by decide) ?_
        refine Ev.bind v2.ev ?_
        exact ev_neg he (Ev.now _)
end Go.Proofs.YtfkdocmhbmameaaDoor.Pure
namespace Go.Proofs.YtfkdocmhbmameaaDoor.Pure
open Go.RowKit Go.Proofs.YtfkdocmhbmameaaDoor.Mine Go.Proofs.YtfkdocmhbmameaaDoorW.PrintWords Go.Proofs.YtfkdocmhbmameaaDoorW.PrintLast Go.Proofs.YtfkdocmhbmameaaDoorW.PrintMore
set_option linter.unusedVariables false
theorem lenA_at {α : Type} {l : List α} {i : Nat} {x : α} {r : List α} (h : l.drop i = x :: r) : i < l.length := by
  rcases Nat.lt_or_ge i l.length with h1 | h1
  · exact h1
  · rw [List.drop_eq_nil_of_le h1] at h
    cases h
theorem lenA_end {α : Type} {l : List α} {i : Nat} (h : l.drop i = []) : l.length ≤ i := by
  rcases Nat.lt_or_ge i l.length with h1 | h1
  · rw [List.drop_eq_getElem_cons h1] at h
    cases h
  · exact h1
theorem dropA {α : Type} {l : List α} {i : Nat} {x : α} {r : List α} (h : l.drop i = x :: r) : l[i]? = some x ∧ l.drop (i + 1) = r := by
  have h1 := lenA_at h
  rw [List.drop_eq_getElem_cons h1] at h
  obtain ⟨h2, h3⟩ := List.cons.inj h
  exact ⟨by rw [List.getElem?_eq_getElem h1, h2], h3⟩
theorem rdS_at {l : List ByteArray} {i : Nat} {x : ByteArray} {r : List ByteArray} (h : l.drop i = x :: r) : rdOf ByteArray.empty l (i : Int) = x := by
  have h1 := (dropA h).1
  unfold rdOf
  rw [Int.toNat_natCast, List.getD_eq_getElem?_getD, h1, Option.getD_some]
theorem rdF_at {l : List FD} {i : Nat} {x : FD} {r : List FD} (h : l.drop i = x :: r) : rd_T26 l (i : Int) = x := by
  have h1 := (dropA h).1
  unfold rd_T26
  rw [Int.toNat_natCast, List.getD_eq_getElem?_getD, h1, Option.getD_some]
theorem mn_le (a b : Int) : mn a b ≤ a ∧ mn a b ≤ b ∧ (mn a b = a ∨ mn a b = b) := by unfold mn; split <;> omega
theorem few12_loop (l : List ByteArray) (hl : (l.length : Int) < 4000000000) : ∀ (r : List ByteArray) (i : Nat) (n : Int), l.drop i = r → 0 ≤ n → n ≤ 20000 → ∃ b, Ev (fun k => nunciolaw12_Few.l0 k l n (i : Int)) b ∧ (b = true → n < 3000 ∧ ∀ x ∈ r, x.size < 3000)
  | [], i, n, h, h0, h1 => by
    have := lenA_end h
    refine ⟨decide (n < 3000), ?_, fun h => ⟨of_decide_eq_true h, fun x hx => by cases hx⟩⟩
    refine Ev.step (fun k => by rw [nunciolaw12_Few.l0]) ?_
    exact ev_neg (by omega) (Ev.now _)
  | x :: r, i, n, h, h0, h1 => by
    have h2 := lenA_at h
    by_cases hn : n < 3000
    · have e1 := mn_le (x.size : Int) 3000
      obtain ⟨p, hp⟩ : ∃ p, mn (x.size : Int) 3000 = p := ⟨_, rfl⟩
      rw [hp] at e1
      obtain ⟨b, hb, hb2⟩ := few12_loop l hl r (i + 1) (n + p) (dropA h).2 (by omega) (by omega)
      refine ⟨b, ?_, fun e => ?_⟩
      · refine Ev.step (fun k => by rw [nunciolaw12_Few.l0]) ?_
        refine ev_pos (by omega) ?_
        refine ev_pos hn ?_
        refine ev_pos (by omega) ?_
        rw [rdS_at h, hp, w64 (x := n + p) (by omega) (by omega), w64 (x := (i : Int) + 1) (by omega) (by omega)]
        exact hb
      · obtain ⟨h3, h4⟩ := hb2 e
        refine ⟨hn, fun y hy => ?_⟩
        rcases List.mem_cons.1 hy with rfl | hy
        · omega
        · exact h4 y hy
    · refine ⟨false, ?_, fun h => by cases h⟩
      refine Ev.step (fun k => by rw [nunciolaw12_Few.l0]) ?_
      refine ev_pos (by omega) ?_
      exact ev_neg hn (ev_val (by simp [hn]))
theorem few12_ev (l : List ByteArray) (hl : (l.length : Int) < 9000000000000) : ∃ b, Ev (fun k => nunciolaw12_Few.f k l) b ∧ (b = true → ∀ x ∈ l, x.size < 3000) := by
  have e := mn_le (l.length : Int) 3000
  by_cases h : (l.length : Int) < 4000000000
  · obtain ⟨b, hb, h2⟩ := few12_loop l h l 0 (mn (l.length : Int) 3000) rfl (by omega) (by omega)
    exact ⟨b, hb, fun e => (h2 e).2⟩
  · have e2 : mn (l.length : Int) 3000 = 3000 := by omega
    refine ⟨false, ?_, fun h => by cases h⟩
    unfold nunciolaw12_Few.f
    rw [e2]
    refine Ev.step (fun k => by rw [nunciolaw12_Few.l0]) ?_
    refine ev_pos (by omega) ?_
    exact ev_neg (by omega) (ev_val (by simp))
theorem same12_loop (l : List FD) (hl : l.length ≤ 1000) : ∀ (r : List FD) (i : Nat), l.drop i = r → Ev (fun k => nuncioref12_Same.l0 k l l (i : Int)) true
  | [], i, h => by
    have := lenA_end h
    refine Ev.step (fun k => by rw [nuncioref12_Same.l0]) ?_
    exact ev_neg (by omega) (Ev.now _)
  | x :: r, i, h => by
    have h2 := lenA_at h
    refine Ev.step (fun k => by rw [nuncioref12_Same.l0]) ?_
    refine ev_pos (by omega) ?_
    refine ev_pos (by omega) ?_
    refine ev_pos (by omega) ?_
    refine ev_neg (by simp) ?_
    rw [w64 (x := (i : Int) + 1) (by omega) (by omega)]
    exact same12_loop l hl r (i + 1) (dropA h).2
theorem same12_ev (l : List FD) (hl : l.length ≤ 1000) : Ev (fun k => nuncioref12_Same.f k l l) true := by
  refine Ev.congr (fun k => by rw [nuncioref12_Same.f]) ?_
  refine ev_pos rfl ?_
  exact same12_loop l hl l 0 rfl
theorem atM_list {m : M} (h : Wt m) {i : Nat} {x : S88} {r : List S88} (hd : m.2.drop i = x :: r) : atM m (62 + (i : Int)) = (x.f0, x.f1, true) := by
  have h1 := lenA_at hd
  unfold atM atF
  rw [if_pos (by omega), show (62 + (i : Int) - 1).toNat = F38.length + i by rw [F38_len]; omega]
  simp only [List.getD_eq_getElem?_getD, List.getElem?_append_right (Nat.le_add_right _ _), Nat.add_sub_cancel_left, (dropA hd).1, Option.getD_some]
theorem tells_loop {m : M} (h : Wt m) : ∀ (r : List S88) (i : Nat), m.2.drop i = r → Ev (fun k => nunciolaw12_Tells.l0 k (i : Int) (mkT m) m.1 m.2) (true, mkT m)
  | [], i, hd => by
    have := lenA_end hd
    refine Ev.step (fun k => by rw [nunciolaw12_Tells.l0]) ?_
    exact ev_neg (by omega) (Ev.now _)
  | x :: r, i, hd => by
    have h2 := lenA_at hd
    have h3 := h.1.2.1
    refine Ev.step (fun k => by rw [nunciolaw12_Tells.l0]) ?_
    refine ev_pos (by omega) ?_
    refine ev_bind0 (show table_Table_At.f (mkT m) (wrap64 (62 + (i : Int))) = some (x.f0, x.f1, true) by rw [w64 (by omega) (by omega), at_f h.1 (by omega) (by omega), atM_list h hd]) ?_
    refine ev_pos rfl ?_
    refine ev_pos (by omega) ?_
    rw [rd_at hd]
    refine ev_pos rfl ?_
    refine ev_pos rfl ?_
    rw [w64 (x := (i : Int) + 1) (by omega) (by omega)]
    exact tells_loop h r (i + 1) (dropA hd).2
theorem tells_ev {m : M} (h : Wt m) : Ev (fun k => nunciolaw12_Tells.f k (mkT m) m.1 m.2) (true, mkT m) := by
  refine Ev.congr (fun k => by rw [nunciolaw12_Tells.f]) ?_
  refine ev_bind0 (most_f m) ?_
  refine ev_pos rfl ?_
  refine ev_bind0 (len_f m) ?_
  refine ev_pos rfl ?_
  refine ev_bind0 (size_f m) ?_
  refine Ev.bind (rsize_ev h.1 (by omega)) ?_
  refine Ev.step (fun k => by rw [nunciolaw12_Tells.j0]) ?_
  refine ev_neg (by simp) ?_
  exact tells_loop h m.2 0 rfl
theorem awake12_ev : Ev (fun k => nunciolaw12_awake.f k) true := Ev.of nunciolaw12_awake.mono (k := 400) nunciolaw12_awake_t
theorem wt_new : Wt (mx 4096 0, []) := ⟨ok_new 4096 (by omega) 128, by show mx 4096 0 ≤ 4096; unfold mx; split <;> omega⟩
theorem unew_f : unpack_New.f = some ⟨mkT (mx 4096 0, []), false⟩ := rfl
theorem table_f {m : M} (h : Wt m) (d : Bool) : unpack_Decoder_Table.f ⟨mkT m, d⟩ = some (mkT m) := copy_f h.1 (by omega)
end Go.Proofs.YtfkdocmhbmameaaDoor.Pure
