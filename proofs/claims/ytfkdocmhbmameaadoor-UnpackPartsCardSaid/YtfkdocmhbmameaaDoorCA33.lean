/- The walks and the plain laws that the rows come to: merged out of this repo's texts. -/
import Derived.Test.YtfkdocmhbmameaaDoorProg
import Derived.Below
import Derived.Deep.Draws
import Derived.Deep.AppendLies
import Derived.Maps.AppendAt
import Derived.OwnWalk
import Derived.Laws.BytesArg
import Derived.Laws.MakeOwn
import Derived.Laws.OwnMore
import Derived.Deep.OwnRows
import Derived.Tactics
import Derived.Lib.ConvBytes
import Derived.Laws.Slices
import Derived.WalkKit
import Derived.KernelRfl
import Derived.RowKit3
import Derived.Deep.LoopGhost
import Derived.Deep.QuietTactic
import Derived.BigQuiet
import Derived.WideLaws
import Derived.Deep.DeepCutAuto
import Derived.Deep.CutBlock
import Derived.Deep.RegionHeld3
import Derived.Laws.Rows
import Derived.Lib.AppendStr
import Derived.ArgAppend
import Derived.Laws.IdiomCopy
import Derived.RowKit
import Derived.OrdersHeld
import Derived.Laws.BitsLemmas
import Derived.Laws.StructEq
import Derived.Laws.CopyOwn
import Derived.SizedLaws
import Derived.ChangeSlices
import Derived.Deep.Slices
import Derived.Lib.SmallJoins
import Derived.Lib.OthersKept
import Derived.Lib.AppendZerosOnto
import Derived.WalkSpells
import Derived.Shelf.Utf8.RuneCount
import Derived.Shelf.Strings.Search1
import Derived.Shelf.Strings.Search2
import Derived.Shelf.Strings.Search3
import Derived.Shelf.Strings.Cut
import Derived.Shelf.Strings.Count
import Derived.Shelf.LaysM
import Derived.Shelf.Strings.Shaped
import Derived.Shelf.Strings.Split
import Derived.Shelf.Strings.SplitShaped
import Derived.Shelf.Unicode.Decode
import Derived.Shelf.Strings.RuneCount
import Derived.Shelf.Strings.Explode
import Derived.Shelf.Unicode.DecodeSlow
import Derived.Shelf.Unicode.DecodeAny
import Derived.Recover
import Derived.WalkLawsBesides
import Derived.Laws.BitsAllLaws
import Derived.Test.YtfkdocmhbmameaaDoorCA1
import Derived.Test.YtfkdocmhbmameaaDoorCA2
import Derived.Test.YtfkdocmhbmameaaDoorCA3
import Derived.Test.YtfkdocmhbmameaaDoorCA4
import Derived.Test.YtfkdocmhbmameaaDoorCA5
import Derived.Test.YtfkdocmhbmameaaDoorCA6
import Derived.Test.YtfkdocmhbmameaaDoorCA7
import Derived.Test.YtfkdocmhbmameaaDoorCA8
import Derived.Test.YtfkdocmhbmameaaDoorCA9
import Derived.Test.YtfkdocmhbmameaaDoorCA11
import Derived.Test.YtfkdocmhbmameaaDoorCA12
import Derived.Test.YtfkdocmhbmameaaDoorCA13
import Derived.Test.YtfkdocmhbmameaaDoorCA14
import Derived.Test.YtfkdocmhbmameaaDoorCA15
import Derived.Test.YtfkdocmhbmameaaDoorCA16
import Derived.Test.YtfkdocmhbmameaaDoorCA17
import Derived.Test.YtfkdocmhbmameaaDoorCA18
import Derived.Test.YtfkdocmhbmameaaDoorCA19
import Derived.Test.YtfkdocmhbmameaaDoorCA21
import Derived.Test.YtfkdocmhbmameaaDoorCA23
import Derived.Test.YtfkdocmhbmameaaDoorCA24
import Derived.Test.YtfkdocmhbmameaaDoorCA26
import Derived.Test.YtfkdocmhbmameaaDoorCA27
import Derived.Test.YtfkdocmhbmameaaDoorCA28
import Derived.Test.YtfkdocmhbmameaaDoorCA30
import Derived.Test.YtfkdocmhbmameaaDoorCA31
import Derived.Test.YtfkdocmhbmameaaDoorCA32
namespace Go.Proofs.YtfkdocmhbmameaaDoor.Pure
open Go.RowKit Go.Proofs.YtfkdocmhbmameaaDoor.Mine Go.Proofs.YtfkdocmhbmameaaDoorW.PrintWords Go.Proofs.YtfkdocmhbmameaaDoorW.PrintLast Go.Proofs.YtfkdocmhbmameaaDoorW.PrintMore
set_option linter.unusedVariables false
theorem tbSameL_refl (t : TB) : ∀ (n : Nat) (i : Int), tbSameL t t n i = true
  | 0, _ => rfl
  | n + 1, i => by
    rw [tbSameL, tbSameL_refl t n (i + 1), decide_eq_true rfl, decide_eq_true rfl]
    rfl
theorem same_f {m : M} (h : Wt m) : nunciolaw12_same.f (mkT m) (mkT m) = some true := by
  unfold nunciolaw12_same.f
  have h1 := mkT_len m
  have h2 := mkT_fx m
  have h3 := h.1.2.1
  exact if_pos ⟨rfl, rfl, rfl, by omega, by omega, by omega, tbSameL_refl _ _ _⟩
theorem read2 {s : ByteArray} (hs : s.size ≤ 3000) {m : M} (hm : Wt m) :
    (∃ l m', Wt m' ∧ l.length ≤ 64 ∧ Ev (fun k => upFld k k (mkT m) s 0 []) (mkT m', .ok l)) ∨ (∃ e m', e ≠ 0 ∧ Wt m' ∧ Ev (fun k => upFld k k (mkT m) s 0 []) (mkT m', .error e)) := by
  obtain ⟨m', hm', h⟩ := fld_ev hs s.size (a := 0) (m := m) (out := []) (by omega) (by omega) (by omega) hm (by simp)
  rcases h with ⟨l, v1, _, hl⟩ | ⟨e, l, he, v1, _⟩
  · exact .inl ⟨l, m', hm', hl, v1.ev⟩
  · exact .inr ⟨e, m', he, hm', v1.ev⟩
theorem read_ok {s : ByteArray} {t t' : TB} {l : List FD} (h : Ev (fun k => upFld k k t s 0 []) (t', .ok l)) : Ev (fun k => unpack_Decoder_Read.f k ⟨t, false⟩ s) (l, 0, ⟨t', false⟩) := by
  refine Ev.congr (fun k => by rw [unpack_Decoder_Read.f]) ?_
  refine ev_neg (show ¬ (false = true) by decide) ?_
  exact Ev.bind h (Ev.now _)
theorem read_no {s : ByteArray} {t t' : TB} {e : Int} (h : Ev (fun k => upFld k k t s 0 []) (t', .error e)) : Ev (fun k => unpack_Decoder_Read.f k ⟨t, false⟩ s) ([], e, ⟨t', true⟩) := by
  refine Ev.congr (fun k => by rw [unpack_Decoder_Read.f]) ?_
  refine ev_neg (show ¬ (false = true) by decide) ?_
  exact Ev.bind h (Ev.now _)
theorem read_down (s : ByteArray) (t : TB) : Ev (fun k => unpack_Decoder_Read.f k ⟨t, true⟩ s) ([], 8, ⟨t, true⟩) := by
  refine Ev.congr (fun k => by rw [unpack_Decoder_Read.f]) ?_
  exact ev_pos rfl (Ev.now _)
theorem j3_yes (a b : ByteArray) (l m : List FD) (c d : TD) : Ev (fun k => nunciolaw12_UnpackParts.j3 k a b l m true c d) true := by
  refine Ev.step (fun k => by rw [nunciolaw12_UnpackParts.j3]) ?_
  exact ev_pos rfl (Ev.now _)
theorem j2_yes (a b : ByteArray) (l m : List FD) (c d : TD) : Ev (fun k => nunciolaw12_UnpackParts.j2 k a b l m true c d) true := by
  refine Ev.step (fun k => by rw [nunciolaw12_UnpackParts.j2]) ?_
  exact ev_pos rfl (Ev.now _)
theorem j3_no {a b : ByteArray} (ha : a.size ≤ 1000) (hb : b.size ≤ 1000) {m m1 m2 : M} {l1 l2 : List FD} (hm2 : Wt m2) (h1 : Ev (fun k => upFld k k (mkT m) a 0 []) (mkT m1, .ok l1)) (h2 : Ev (fun k => upFld k k (mkT m1) b 0 []) (mkT m2, .ok l2)) (hl : l1.length + l2.length ≤ 64) (hc : l1 = [] ∨ 0 = (b.size : Int) ∨ upShr b 0 = false) :
    Ev (fun k => nunciolaw12_UnpackParts.j3 k a b l1 l2 false ⟨mkT m2, false⟩ ⟨mkT m, false⟩) true := by
  have h := read_ok (parts ha hb h1 h2 hl hc)
  refine Ev.step (fun k => by rw [nunciolaw12_UnpackParts.j3]) ?_
  refine ev_neg (show ¬ (false = true) by decide) ?_
  refine ev_pos (by omega) ?_
  refine Ev.bind h ?_
  refine ev_pos rfl ?_
  refine ev_bind0 rfl ?_
  refine ev_pos (by simp only [List.length_nil]; omega) ?_
  refine ev_bind0 rfl ?_
  refine ev_pos (by simp only [List.nil_append]; omega) ?_
  refine Ev.bind (show Ev (fun k => nuncioref12_Same.f k (l1 ++ l2) (([] ++ l1) ++ l2)) true by rw [List.nil_append]; exact same12_ev _ (by rw [List.length_append]; omega)) ?_
  refine ev_pos rfl ?_
  refine ev_bind0 (table_f hm2 false) ?_
  refine ev_bind0 (table_f hm2 false) ?_
  exact ev_bind0 (same_f hm2) (Ev.now _)
theorem j2_no {a b : ByteArray} (ha : a.size ≤ 1000) (hb : b.size ≤ 1000) {m m1 m2 : M} {l1 l2 : List FD} (hm2 : Wt m2) (h1 : Ev (fun k => upFld k k (mkT m) a 0 []) (mkT m1, .ok l1)) (h2 : Ev (fun k => upFld k k (mkT m1) b 0 []) (mkT m2, .ok l2)) (k1 : l1.length ≤ 64) (k2 : l2.length ≤ 64) :
    Ev (fun k => nunciolaw12_UnpackParts.j2 k a b l1 l2 false ⟨mkT m2, false⟩ ⟨mkT m, false⟩) true := by
  have hw : wrap64 ((l1.length : Int) + (l2.length : Int)) = (l1.length : Int) + (l2.length : Int) := w64 (by omega) (by omega)
  refine Ev.step (fun k => by rw [nunciolaw12_UnpackParts.j2]) ?_
  refine ev_neg (show ¬ (false = true) by decide) ?_
  rw [hw]
  by_cases hl : (l1.length : Int) + (l2.length : Int) > 64
  · exact ev_pos hl (j3_yes _ _ _ _ _ _)
  · refine ev_neg hl ?_
    have hl : l1.length + l2.length ≤ 64 := by omega
    by_cases hb0 : (b.size : Int) > 0
    · refine ev_pos hb0 ?_
      refine ev_pos (show 0 < (b.size : Int) from hb0) ?_
      by_cases h32 : bt b 0 ≥ 32
      · refine ev_pos h32 ?_
        by_cases h63 : bt b 0 ≤ 63
        · refine ev_pos h63 ?_
          by_cases h0 : (l1.length : Int) > 0
          · rw [decide_eq_true h0]
            exact j3_yes _ _ _ _ _ _
          · rw [decide_eq_false h0]
            exact j3_no ha hb hm2 h1 h2 hl (.inl (List.length_eq_zero_iff.mp (by omega)))
        · refine ev_neg h63 ?_
          exact j3_no ha hb hm2 h1 h2 hl (.inr (.inr (Bool.eq_false_iff.mpr (fun h => h63 ((shr_iff (by omega) hb0).mp h).2))))
      · refine ev_neg h32 ?_
        exact j3_no ha hb hm2 h1 h2 hl (.inr (.inr (Bool.eq_false_iff.mpr (fun h => h32 ((shr_iff (by omega) hb0).mp h).1))))
    · refine ev_neg hb0 ?_
      exact j3_no ha hb hm2 h1 h2 hl (.inr (.inl (by omega)))
theorem parts_loop (a b : ByteArray) (ha : a.size ≤ 1000) (hb : b.size ≤ 1000) (l : List ByteArray) (hl : l.length ≤ 20) (hs : ∀ x ∈ l, x.size < 3000) : ∀ (r : List ByteArray) (i : Nat) (m : M) (d : Bool), l.drop i = r → Wt m → Ev (fun k => nunciolaw12_UnpackParts.l0 k l a b (i : Int) ⟨mkT m, d⟩ ⟨mkT m, d⟩) true
  | [], i, m, d, h, hm => by
    have := lenA_end h
    refine Ev.step (fun k => by rw [nunciolaw12_UnpackParts.l0]) ?_
    refine ev_neg (by omega) ?_
    cases d with
    | true =>
      refine Ev.bind (read_down a (mkT m)) ?_
      refine Ev.bind (read_down b (mkT m)) ?_
      refine ev_neg (show ¬ ((8 : Int) = 0) by decide) ?_
      exact j2_yes _ _ _ _ _ _
    | false =>
      rcases read2 (s := a) (by omega) hm with ⟨l1, m1, hm1, k1, h1⟩ | ⟨e, m1, he, hm1, h1⟩
      · refine Ev.bind (read_ok h1) ?_
        rcases read2 (s := b) (by omega) hm1 with ⟨l2, m2, hm2, k2, h2⟩ | ⟨e, m2, he, hm2, h2⟩
        · refine Ev.bind (read_ok h2) ?_
          refine ev_pos rfl ?_
          exact j2_no ha hb hm2 h1 h2 k1 k2
        · refine Ev.bind (read_no h2) ?_
          refine ev_pos rfl ?_
          simp only [bne_iff_ne.mpr he]
          exact j2_yes _ _ _ _ _ _
      · refine Ev.bind (read_no h1) ?_
        refine Ev.bind (read_down b (mkT m1)) ?_
        refine ev_neg he ?_
        exact j2_yes _ _ _ _ _ _
  | x :: r, i, m, d, h, hm => by
    have h2 := lenA_at h
    have hx := hs x (List.mem_of_mem_drop (h ▸ List.mem_cons_self))
    obtain ⟨f, e, m', d', u1, _, hm', _⟩ := read_ev (s := x) (by omega) hm d
    refine Ev.step (fun k => by rw [nunciolaw12_UnpackParts.l0]) ?_
    refine ev_pos (by omega) ?_
    refine ev_pos (by omega) ?_
    rw [rdS_at h]
    refine Ev.bind u1 ?_
    refine Ev.bind u1 ?_
    rw [w64 (x := (i : Int) + 1) (by omega) (by omega)]
    exact parts_loop a b ha hb l hl hs r (i + 1) m' d' (dropA h).2 hm'
theorem j0_yes (l : List ByteArray) (a b : ByteArray) : Ev (fun k => nunciolaw12_UnpackParts.j0 k l a b true) true := by
  refine Ev.step (fun k => by rw [nunciolaw12_UnpackParts.j0]) ?_
  exact ev_pos rfl (Ev.now _)
theorem UnpackParts : nunciolaw12_UnpackParts.Pure := by
  intro l a b h0 h0a h0b
  apply Ev.rounds
  obtain ⟨c, hb, hf⟩ := few12_ev l (by omega)
  refine Ev.congr (fun k => by rw [nunciolaw12_UnpackParts.f]) ?_
  refine Ev.bind awake12_ev ?_
  refine ev_pos rfl ?_
  refine Ev.bind hb ?_
  by_cases hbt : c = true
  · refine ev_pos hbt ?_
    by_cases h20 : (l.length : Int) > 20
    · exact ev_pos h20 (j0_yes _ _ _)
    · refine ev_neg h20 ?_
      by_cases h1 : (a.size : Int) > 1000
      · exact ev_pos h1 (j0_yes _ _ _)
      · refine ev_neg h1 ?_
        by_cases h2 : (b.size : Int) > 1000
        · rw [decide_eq_true h2]
          exact j0_yes _ _ _
        · rw [decide_eq_false h2]
          refine Ev.step (fun k => by rw [nunciolaw12_UnpackParts.j0]) ?_
          refine ev_neg (show ¬ (false = true) by decide) ?_
          refine ev_bind0 unew_f ?_
          refine ev_bind0 unew_f ?_
          exact parts_loop a b (by omega) (by omega) l (by omega) (hf hbt) l 0 (mx 4096 0, []) false rfl wt_new
  · refine ev_neg hbt ?_
    exact j0_yes _ _ _
end Go.Proofs.YtfkdocmhbmameaaDoor.Pure
