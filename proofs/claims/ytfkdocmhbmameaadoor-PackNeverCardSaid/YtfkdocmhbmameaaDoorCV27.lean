/- The walks and the plain laws that the rows come to: merged out of this repo's texts. -/
import Derived.Test.YtfkdocmhbmameaaDoorProg
import Derived.Below
import Derived.Deep.Draws
import Derived.Deep.AppendLies
import Derived.Maps.AppendAt
import Derived.OwnWalk
import Derived.Laws.BytesArg
import Derived.Laws.MakeOwn
import Derived.Laws.OwnMore
import Derived.Deep.OwnRows
import Derived.Tactics
import Derived.Lib.ConvBytes
import Derived.Laws.Slices
import Derived.WalkKit
import Derived.KernelRfl
import Derived.RowKit3
import Derived.Deep.LoopGhost
import Derived.Deep.QuietTactic
import Derived.BigQuiet
import Derived.WideLaws
import Derived.Deep.DeepCutAuto
import Derived.Deep.CutBlock
import Derived.Deep.RegionHeld3
import Derived.Laws.Rows
import Derived.Lib.AppendStr
import Derived.ArgAppend
import Derived.Laws.IdiomCopy
import Derived.RowKit
import Derived.OrdersHeld
import Derived.Laws.BitsLemmas
import Derived.Laws.StructEq
import Derived.Laws.CopyOwn
import Derived.SizedLaws
import Derived.ChangeSlices
import Derived.Deep.Slices
import Derived.Lib.SmallJoins
import Derived.Lib.OthersKept
import Derived.Lib.AppendZerosOnto
import Derived.WalkSpells
import Derived.Shelf.Utf8.RuneCount
import Derived.Shelf.Strings.Search1
import Derived.Shelf.Strings.Search2
import Derived.Shelf.Strings.Search3
import Derived.Shelf.Strings.Cut
import Derived.Shelf.Strings.Count
import Derived.Shelf.LaysM
import Derived.Shelf.Strings.Shaped
import Derived.Shelf.Strings.Split
import Derived.Shelf.Strings.SplitShaped
import Derived.Shelf.Unicode.Decode
import Derived.Shelf.Strings.RuneCount
import Derived.Shelf.Strings.Explode
import Derived.Shelf.Unicode.DecodeSlow
import Derived.Shelf.Unicode.DecodeAny
import Derived.Recover
import Derived.WalkLawsBesides
import Derived.Laws.BitsAllLaws
import Derived.Test.YtfkdocmhbmameaaDoorCV1
import Derived.Test.YtfkdocmhbmameaaDoorCV2
import Derived.Test.YtfkdocmhbmameaaDoorCV3
import Derived.Test.YtfkdocmhbmameaaDoorCV4
import Derived.Test.YtfkdocmhbmameaaDoorCV5
import Derived.Test.YtfkdocmhbmameaaDoorCV6
import Derived.Test.YtfkdocmhbmameaaDoorCV7
import Derived.Test.YtfkdocmhbmameaaDoorCV8
import Derived.Test.YtfkdocmhbmameaaDoorCV9
import Derived.Test.YtfkdocmhbmameaaDoorCV10
import Derived.Test.YtfkdocmhbmameaaDoorCV11
import Derived.Test.YtfkdocmhbmameaaDoorCV12
import Derived.Test.YtfkdocmhbmameaaDoorCV13
import Derived.Test.YtfkdocmhbmameaaDoorCV14
import Derived.Test.YtfkdocmhbmameaaDoorCV15
import Derived.Test.YtfkdocmhbmameaaDoorCV16
import Derived.Test.YtfkdocmhbmameaaDoorCV17
import Derived.Test.YtfkdocmhbmameaaDoorCV18
import Derived.Test.YtfkdocmhbmameaaDoorCV19
import Derived.Test.YtfkdocmhbmameaaDoorCV20
import Derived.Test.YtfkdocmhbmameaaDoorCV21
import Derived.Test.YtfkdocmhbmameaaDoorCV22
import Derived.Test.YtfkdocmhbmameaaDoorCV23
import Derived.Test.YtfkdocmhbmameaaDoorCV24
import Derived.Test.YtfkdocmhbmameaaDoorCV25
import Derived.Test.YtfkdocmhbmameaaDoorCV26
namespace Go.Proofs.YtfkdocmhbmameaaDoor.Pure
open Go.RowKit Go.Proofs.YtfkdocmhbmameaaDoor.Mine Go.Proofs.YtfkdocmhbmameaaDoorW.PrintWords Go.Proofs.YtfkdocmhbmameaaDoorW.PrintLast Go.Proofs.YtfkdocmhbmameaaDoorW.PrintMore
set_option linter.unusedVariables false
theorem rputE_ev (s : ByteArray) (hs : s.size ≤ 100000000) {first : Int} (hf0 : 0 ≤ first) (hf1 : first < 256) (bits : Int) {n : Int} (h0 : 0 ≤ n) (h1 : n ≤ 4294967295) : ∃ t, t.size ≤ s.size + 11 ∧ Ev (fun k => nuncioref09_Put.f k s first bits (IntKind.u64.wrap n)) t := by
  have hl := encI_len first (ful bits) n
  refine ⟨strOfNums (bytesOf s ++ encI first (ful bits) n), by rw [strOfNums_size, List.length_append, bytesOf_length]; omega, 10, fun k hk => ?_⟩
  have e := rputN_f (k := k) (l := bytesOf s) (first := first) (n := n) bits (by rw [bytesOf_length]; exact hs) hf0 hf1 h0 (by omega) hk
  rw [str_bytesOf] at e
  simp only
  rw [u64_id h0 h1]
  exact e
theorem rtextE_ev (s t : ByteArray) (hs : s.size ≤ 90000000) (ht : t.size ≤ 3000) : ∃ u, u.size ≤ s.size + 3011 ∧ Ev (fun k => nuncioref13_text.f k s t) u := by
  obtain ⟨o, ho, _⟩ := encode_f t (by omega)
  have e := ref_encode_f t (by omega) ho
  by_cases hc : ((strOfNums o).size : Int) < (t.size : Int)
  · obtain ⟨u, h1, h2⟩ := rputE_ev s (by omega) (first := 128) (by omega) (by omega) 7 (n := ((strOfNums o).size : Int)) (by omega) (by omega)
    refine ⟨u ++ strOfNums o, by rw [ByteArray.size_append]; omega, ?_⟩
    refine Ev.congr (fun k => by rw [nuncioref13_text.f]) ?_
    refine Ev.bind e ?_
    refine ev_pos hc ?_
    refine Ev.bind h2 ?_
    exact ev_pos (by omega) (Ev.now _)
  · obtain ⟨u, h1, h2⟩ := rputE_ev s (by omega) (first := 0) (by omega) (by omega) 7 (n := (t.size : Int)) (by omega) (by omega)
    refine ⟨u ++ t, by rw [ByteArray.size_append]; omega, ?_⟩
    refine Ev.congr (fun k => by rw [nuncioref13_text.f]) ?_
    refine Ev.bind e ?_
    refine ev_neg hc ?_
    refine Ev.bind h2 ?_
    exact ev_pos (by omega) (Ev.now _)
theorem rlitE_ev (s : ByteArray) (hs : s.size ≤ 80000000) {first : Int} (hf0 : 0 ≤ first) (hf1 : first < 256) (bits : Int) {n : Int} (h0 : 0 ≤ n) (h1 : n ≤ 4294967295) {nm vl : ByteArray} (hn : nm.size ≤ 3000) (hv : vl.size ≤ 3000) (nv : Bool) : ∃ u, u.size ≤ s.size + 6100 ∧ Ev (fun k => nuncioref13_literal.f k s first bits n nm vl nv) u := by
  obtain ⟨a, a1, a2⟩ := rputE_ev s (by omega) hf0 hf1 bits h0 h1
  by_cases hz : n = 0
  · obtain ⟨b, b1, b2⟩ := rtextE_ev a nm (by omega) hn
    obtain ⟨c, c1, c2⟩ := rtextE_ev b vl (by omega) hv
    refine ⟨c, by omega, ?_⟩
    refine Ev.congr (fun k => by rw [nuncioref13_literal.f]) ?_
    refine Ev.bind a2 ?_
    refine ev_pos hz ?_
    refine Ev.bind b2 ?_
    exact Ev.bind c2 (Ev.now _)
  · obtain ⟨c, c1, c2⟩ := rtextE_ev a vl (by omega) hv
    refine ⟨c, by omega, ?_⟩
    refine Ev.congr (fun k => by rw [nuncioref13_literal.f]) ?_
    refine Ev.bind a2 ?_
    refine ev_neg hz ?_
    exact Ev.bind c2 (Ev.now _)
theorem rwriteE_l1 (l : List FP) (hl : l.length ≤ 3000) : ∀ (r : List FP) (i : Nat) (m : M) (s : ByteArray), l.drop i = r → Wt m → (∀ f ∈ r, Sml f) → s.size + 6100 * r.length ≤ 30000000 →
    ∃ t, Ev (fun k => nuncioref13_Write.l1 k l s (i : Int) m.1 m.2) ((afts m r).1, (afts m r).2, [], t)
  | [], i, m, s, h, hm, hf, hs => by
    have h1 := lenA_end h
    refine ⟨s, ?_⟩
    refine Ev.step (fun k => by rw [nuncioref13_Write.l1]) ?_
    exact ev_neg (by omega) (Ev.now _)
  | f :: r, i, m, s, h, hm, hf, hs => by
    have h1 := lenA_at h
    have hf1 := hf f List.mem_cons_self
    have hr := fdM_range hm f.f0 f.f1
    have hfd := rfind_ev hm.1 (by omega) f.f0 f.f1
    have hw : wrap64 ((i : Int) + 1) = ((i + 1 : Nat) : Int) := by rw [w64 (by omega) (by omega)]; rfl
    have hm0 := hm.1.1.1
    have hm1 := hm.2
    have s0 := hf1.1
    have s1 := hf1.2
    rw [List.length_cons] at hs
    have ih := fun (m2 : M) (s2 : ByteArray) (h2 : Wt m2) (h3 : s2.size ≤ s.size + 6100) => rwriteE_l1 l hl r (i + 1) m2 s2 (dropA h).2 h2 (fun g hg => hf g (List.mem_cons_of_mem _ hg)) (by omega)
    rw [afts]
    have w1 : wrap64 (wrap64 ((f.f0.size : Int) + (f.f1.size : Int)) + 32) = (f.f0.size : Int) + (f.f1.size : Int) + 32 := by
      rw [w64 (x := (f.f0.size : Int) + (f.f1.size : Int)) (by omega) (by omega), w64 (by omega) (by omega)]
    have tail : ∀ R, Ev (fun k => if f.f2 = true then ((nuncioref13_literal.f k s 16 4 (fdM m f.f0 f.f1).1 f.f0 f.f1 f.f2).bind fun t307 => nuncioref13_Write.l1 k l t307 (wrap64 ((i : Int) + 1)) m.1 m.2) else (if (fdM m f.f0 f.f1).2 = true then ((nuncioref09_Put.f k s 128 7 (IntKind.u64.wrap (fdM m f.f0 f.f1).1)).bind fun t308 => nuncioref13_Write.l1 k l t308 (wrap64 ((i : Int) + 1)) m.1 m.2) else (if (f.f0.size : Int) ≤ m.1 then (if (f.f1.size : Int) ≤ m.1 then nuncioref13_Write.j4 k l s (i : Int) (fdM m f.f0 f.f1).1 (decide (wrap64 (wrap64 ((f.f0.size : Int) + (f.f1.size : Int)) + 32) ≤ m.1)) m.1 m.2 f.f0 f.f1 f.f2 else nuncioref13_Write.j4 k l s (i : Int) (fdM m f.f0 f.f1).1 false m.1 m.2 f.f0 f.f1 f.f2) else nuncioref13_Write.j4 k l s (i : Int) (fdM m f.f0 f.f1).1 false m.1 m.2 f.f0 f.f1 f.f2))) R → Ev (fun k => nuncioref13_Write.l1 k l s (i : Int) m.1 m.2) R := fun R hR => by
      refine Ev.step (fun k => by rw [nuncioref13_Write.l1]) ?_
      refine ev_pos (by omega) ?_
      refine ev_pos (by omega) ?_
      rw [rdF_at h]
      exact Ev.bind hfd hR
    unfold aft
    by_cases hv : f.f2 = true
    · rw [if_pos hv]
      obtain ⟨u, u1, u2⟩ := rlitE_ev s (by omega) (first := 16) (by omega) (by omega) 4 hr.1 (by omega) s0 s1 f.f2
      obtain ⟨t, ht⟩ := ih m u hm u1
      refine ⟨t, tail _ ?_⟩
      refine ev_pos hv ?_
      refine Ev.bind u2 ?_
      rw [hw]
      exact ht
    · rw [if_neg hv]
      by_cases hq : (fdM m f.f0 f.f1).2 = true
      · rw [if_pos hq]
        obtain ⟨u, u1, u2⟩ := rputE_ev s (by omega) (first := 128) (by omega) (by omega) 7 hr.1 (by omega)
        obtain ⟨t, ht⟩ := ih m u hm (by omega)
        refine ⟨t, tail _ ?_⟩
        refine ev_neg hv ?_
        refine ev_pos hq ?_
        refine Ev.bind u2 ?_
        rw [hw]
        exact ht
      · rw [if_neg hq]
        by_cases hc : (f.f0.size : Int) + (f.f1.size : Int) ≤ m.1 - 32
        · rw [if_pos hc]
          obtain ⟨u, u1, u2⟩ := rlitE_ev s (by omega) (first := 64) (by omega) (by omega) 6 hr.1 (by omega) s0 s1 f.f2
          have he : es ⟨f.f0, f.f1⟩ ≤ 10000 := by unfold es; simp only; omega
          obtain ⟨t, ht⟩ := ih (add m f.f0 f.f1) u (hm.add he) u1
          refine ⟨t, tail _ ?_⟩
          refine ev_neg hv ?_
          refine ev_neg hq ?_
          refine ev_pos (by omega) ?_
          refine ev_pos (by omega) ?_
          rw [decide_eq_true (show wrap64 (wrap64 ((f.f0.size : Int) + (f.f1.size : Int)) + 32) ≤ m.1 by rw [w1]; omega)]
          refine Ev.step (fun k => by rw [nuncioref13_Write.j4]) ?_
          refine ev_pos rfl ?_
          refine Ev.bind u2 ?_
          refine Ev.bind (radd_ev hm.1 (by omega) he) ?_
          rw [hw]
          exact ht
        · rw [if_neg hc]
          obtain ⟨u, u1, u2⟩ := rlitE_ev s (by omega) (first := 0) (by omega) (by omega) 4 hr.1 (by omega) s0 s1 f.f2
          obtain ⟨t, ht⟩ := ih m u hm u1
          have j : Ev (fun k => nuncioref13_Write.j4 k l s (i : Int) (fdM m f.f0 f.f1).1 false m.1 m.2 f.f0 f.f1 f.f2) ((afts m r).1, (afts m r).2, [], t) := by
            refine Ev.step (fun k => by rw [nuncioref13_Write.j4]) ?_
            refine ev_neg (by decide) ?_
            refine Ev.bind u2 ?_
            rw [hw]
            exact ht
          refine ⟨t, tail _ ?_⟩
          refine ev_neg hv ?_
          refine ev_neg hq ?_
          rw [decide_eq_false (show ¬ wrap64 (wrap64 ((f.f0.size : Int) + (f.f1.size : Int)) + 32) ≤ m.1 by rw [w1]; omega)]
          by_cases d0 : (f.f0.size : Int) ≤ m.1
          · refine ev_pos d0 ?_
            by_cases d1 : (f.f1.size : Int) ≤ m.1
            · exact ev_pos d1 j
            · exact ev_neg d1 j
          · exact ev_neg d0 j
theorem rdI_at {l : List Int} {i : Nat} {x : Int} {r : List Int} (h : l.drop i = x :: r) : rd l (i : Int) = x := by
  have h1 := (dropA h).1
  have h2 := lenA_at h
  rw [rd_nat h2]
  rw [List.getElem?_eq_getElem h2] at h1
  exact Option.some.inj h1
theorem rwriteE_ev (l : List FP) (hl : l.length ≤ 3000) {m : M} (hm : Wt m) (hf : ∀ f ∈ l, Sml f) (z : List Int) (hz : z.length ≤ 1000) (hz2 : ∀ x ∈ z, 0 ≤ x ∧ x ≤ 4096) :
    ∃ t, Ev (fun k => nuncioref13_Write.f k m.1 m.2 z l) ((afts m l).1, (afts m l).2, [], t) := by
  have hm0 := hm.1.1.1
  have hm1 := hm.2
  have e0 : ((⟨#[]⟩ : ByteArray).size) = 0 := rfl
  have J1 : ∀ s : ByteArray, s.size ≤ 1000 → ∃ t, Ev (fun k => nuncioref13_Write.j1 k l s m.1 m.2 z) ((afts m l).1, (afts m l).2, [], t) := fun s hs => by
    by_cases hc : (z.length : Int) > 0
    · obtain ⟨u, u1, u2⟩ := rputE_ev s (by omega) (first := 32) (by omega) (by omega) 5 hm0 (by omega)
      obtain ⟨t, ht⟩ := rwriteE_l1 l hl l 0 m u rfl hm hf (by omega)
      refine ⟨t, ?_⟩
      refine Ev.step (fun k => by rw [nuncioref13_Write.j1]) ?_
      refine ev_pos hc ?_
      refine Ev.bind u2 ?_
      exact Ev.step (fun k => by rw [nuncioref13_Write.j2]; rfl) ht
    · obtain ⟨t, ht⟩ := rwriteE_l1 l hl l 0 m s rfl hm hf (by omega)
      refine ⟨t, ?_⟩
      refine Ev.step (fun k => by rw [nuncioref13_Write.j1]) ?_
      refine ev_neg hc ?_
      exact Ev.step (fun k => by rw [nuncioref13_Write.j2]; rfl) ht
  have L0 : ∀ (r : List Int) (j : Nat) (x : Int), z.drop j = r → 0 ≤ x → x ≤ 4096 → ∃ t, Ev (fun k => nuncioref13_Write.l0 k l (⟨#[]⟩ : ByteArray) x (j : Int) m.1 m.2 z) ((afts m l).1, (afts m l).2, [], t) := by
    intro r
    induction r with
    | nil =>
      intro j x h h0 h1
      have h2 := lenA_end h
      by_cases hc : x < m.1
      · obtain ⟨u, u1, u2⟩ := rputE_ev (⟨#[]⟩ : ByteArray) (by omega) (first := 32) (by omega) (by omega) 5 h0 (by omega)
        obtain ⟨t, ht⟩ := J1 u (by omega)
        refine ⟨t, ?_⟩
        refine Ev.step (fun k => by rw [nuncioref13_Write.l0]) ?_
        refine ev_neg (by omega) ?_
        refine ev_pos hc ?_
        exact Ev.bind u2 ht
      · obtain ⟨t, ht⟩ := J1 (⟨#[]⟩ : ByteArray) (by omega)
        refine ⟨t, ?_⟩
        refine Ev.step (fun k => by rw [nuncioref13_Write.l0]) ?_
        refine ev_neg (by omega) ?_
        exact ev_neg hc ht
    | cons y r ih =>
      intro j x h h0 h1
      have h2 := lenA_at h
      have hy := hz2 y (List.mem_of_mem_drop (h ▸ List.mem_cons_self))
      have hw : wrap64 ((j : Int) + 1) = ((j + 1 : Nat) : Int) := by rw [w64 (by omega) (by omega)]; rfl
      by_cases hc : y < x
      · obtain ⟨t, ht⟩ := ih (j + 1) y (dropA h).2 hy.1 hy.2
        refine ⟨t, ?_⟩
        refine Ev.step (fun k => by rw [nuncioref13_Write.l0]) ?_
        refine ev_pos (by omega) ?_
        refine ev_pos (by omega) ?_
        rw [rdI_at h, hw]
        exact ev_pos hc ht
      · obtain ⟨t, ht⟩ := ih (j + 1) x (dropA h).2 h0 h1
        refine ⟨t, ?_⟩
        refine Ev.step (fun k => by rw [nuncioref13_Write.l0]) ?_
        refine ev_pos (by omega) ?_
        refine ev_pos (by omega) ?_
        rw [rdI_at h, hw]
        exact ev_neg hc ht
  obtain ⟨t, ht⟩ := L0 z 0 m.1 rfl hm0 hm1
  exact ⟨t, Ev.congr (fun k => by rw [nuncioref13_Write.f]; rfl) ht⟩
theorem limitE_ev {m : M} (hm : Wt m) {le : Int} (h0 : 0 ≤ le) (h1 : le ≤ 4096) (ch : Bool) (z : List Int) (hz : z.length ≤ 1000) (hz2 : ∀ x ∈ z, 0 ≤ x ∧ x ≤ 4096) {n : Int} (hn : 0 ≤ n) (hn2 : n ≤ 4294967295) :
    ∃ m' le' ch' z', pack_Encoder_Limit.f ⟨mkT m, le, ch⟩ n = some ⟨mkT m', le', ch'⟩ ∧ Ev (fun k => nuncioref13_Limit.f k m.1 m.2 z n) (m'.1, m'.2, z') ∧ Wt m' ∧ 0 ≤ le' ∧ le' ≤ 4096 ∧ z'.length ≤ z.length + 1 ∧ ∀ x ∈ z', 0 ≤ x ∧ x ≤ 4096 := by
  have e1 := mn_le n 4096
  obtain ⟨y, hy⟩ : ∃ y, mn n 4096 = y := ⟨_, rfl⟩
  rw [hy] at e1
  have hr := resize_f hm.1 (by omega) (x := y) (by omega)
  have hr2 := rresize_ev hm.1 (by omega) y
  unfold pack_Encoder_Limit.f
  rw [hy, w64 (x := y) (by omega) (by omega)]
  by_cases he : y = m.1
  · refine ⟨m, le, ch, z, if_pos he, ?_, hm, h0, h1, by omega, hz2⟩
    refine Ev.congr (fun k => by rw [nuncioref13_Limit.f]) ?_
    by_cases hc : n < 4096
    · refine ev_pos hc ?_
      refine ev_pos (by rw [w64 (by omega) (by omega)]; omega) ?_
      exact Ev.now _
    · refine ev_neg hc ?_
      refine ev_pos (by omega) ?_
      exact Ev.now _
  · have e2 := mn_le le y
    refine ⟨rsz m y, mn le y, true, z ++ [y], ?_, ?_, hm.rsz (by omega), by omega, by omega, by rw [List.length_append, List.length_singleton]; omega, fun x hx => ?_⟩
    · have hne : ¬ y = (mkT m).most := he
      show (if y = (mkT m).most then _ else _) = _
      rw [if_neg hne]
      show (table_Table_Resize.f (mkT m) y).map _ = _
      rw [hr]
      rfl
    · refine Ev.congr (fun k => by rw [nuncioref13_Limit.f]) ?_
      by_cases hc : n < 4096
      · have hyn : y = n := by omega
        refine ev_pos hc ?_
        rw [w64 (x := n) (by omega) (by omega), ← hyn]
        refine ev_neg he ?_
        refine Ev.bind hr2 ?_
        refine ev_bind0 rfl ?_
        refine ev_pos (by simp only [List.length_nil]; omega) ?_
        refine ev_bind0 rfl ?_
        refine ev_pos (by simp only [List.nil_append]; omega) ?_
        exact Ev.now _
      · have hyn : y = 4096 := by omega
        refine ev_neg hc ?_
        rw [hyn] at he hr2 ⊢
        refine ev_neg he ?_
        refine Ev.bind hr2 ?_
        refine ev_bind0 rfl ?_
        refine ev_pos (by simp only [List.length_nil]; omega) ?_
        refine ev_bind0 rfl ?_
        refine ev_pos (by simp only [List.nil_append]; omega) ?_
        exact Ev.now _
    · rcases List.mem_append.mp hx with q | q
      · exact hz2 x q
      · rw [List.mem_singleton.mp q]
        omega
end Go.Proofs.YtfkdocmhbmameaaDoor.Pure
namespace Go.Proofs.YtfkdocmhbmameaaDoor.Pure
open Go.RowKit Go.Proofs.YtfkdocmhbmameaaDoor.Mine Go.Proofs.YtfkdocmhbmameaaDoorW.PrintWords Go.Proofs.YtfkdocmhbmameaaDoorW.PrintLast Go.Proofs.YtfkdocmhbmameaaDoorW.PrintMore
set_option linter.unusedVariables false
abbrev AN := S44
theorem pfieldsN_ev : ∀ (l : List FP) {m : M} (b : List Int) (le : Int) (ch : Bool), Wt m → (∀ f ∈ l, Sml f) → b.length + 6033 * l.length ≤ 30000000 →
    ∃ x, Ev (fun k => pkFields k ⟨mkT m, le, ch⟩ b l) (x, ⟨mkT (afts m l), le, ch⟩)
  | [], m, b, le, ch, h, _, _ => ⟨b, Ev.congr (fun k => by rw [pkFields]; rfl) (ev_val rfl)⟩
  | f :: r, m, b, le, ch, h, hs, hb => by
    rw [List.length_cons] at hb
    have hf := hs f List.mem_cons_self
    obtain ⟨x, _, hp, u⟩ := pfield_ev h hf b (by omega) le ch
    have hl := PF_len hf hp
    obtain ⟨y, v⟩ := pfieldsN_ev r (b ++ x) le ch (h.aft hf) (fun x hx => hs x (List.mem_cons_of_mem _ hx)) (by rw [List.length_append]; omega)
    refine ⟨y, ?_⟩
    refine Ev.congr (fun k => by rw [pkFields]) ?_
    exact Ev.bind u v
theorem pwriteN_ev {m : M} (hm : Wt m) {le : Int} (h0 : 0 ≤ le) (h1 : le ≤ 4096) (ch : Bool) {l : List FP} (hl : l.length ≤ 3000) (hs : ∀ f ∈ l, Sml f) :
    ∃ s, Ev (fun k => pack_Encoder_Write.f k ⟨mkT m, le, ch⟩ l) (s, ⟨mkT (afts m l), 4096, false⟩) := by
  have hm0 := hm.1.1.1
  have hm1 := hm.2
  have l1 := encI_len 32 (ful 5) le
  have l2 := encI_len 32 (ful 5) m.1
  have hd : ∃ hd : List Int, hd.length ≤ 22 ∧ Ev (fun k => pkHead k ⟨mkT m, le, ch⟩) hd := by
    cases ch with
    | false => exact ⟨[], by simp, 0, fun k _ => rfl⟩
    | true =>
      by_cases hlt : le < m.1
      · refine ⟨encI 32 (ful 5) le ++ encI 32 (ful 5) m.1, by rw [List.length_append]; omega, ?_⟩
        refine Ev.congr (fun k => by rw [pkHead]) ?_
        refine ev_pos rfl ?_
        refine ev_pos (show le < (mkT m).most from hlt) ?_
        refine Ev.bind (put_ev [] (by simp) (first := 32) (by omega) (by omega) 5 (n := le) (by omega) (by omega)) ?_
        rw [List.nil_append]
        exact put_ev (encI 32 (ful 5) le) (by omega) (first := 32) (by omega) (by omega) 5 (n := m.1) (by omega) (by omega)
      · refine ⟨encI 32 (ful 5) m.1, by omega, ?_⟩
        refine Ev.congr (fun k => by rw [pkHead]) ?_
        refine ev_pos rfl ?_
        refine ev_neg (show ¬ le < (mkT m).most from hlt) ?_
        exact put_ev [] (by simp) (first := 32) (by omega) (by omega) 5 (n := m.1) (by omega) (by omega)
  obtain ⟨hd, h2, h3⟩ := hd
  obtain ⟨x, v⟩ := pfieldsN_ev l hd 4096 false hm hs (by omega)
  refine ⟨strOfNums x, ?_⟩
  refine Ev.congr (fun k => by rw [pack_Encoder_Write.f]) ?_
  refine ev_pos (by omega) ?_
  refine Ev.bind h3 ?_
  exact Ev.bind v (Ev.now _)
theorem fewN_loop (l : List FP) (hl : (l.length : Int) < 4000000000) : ∀ (r : List FP) (i : Nat) (n : Int), l.drop i = r → 0 ≤ n → n ≤ 20000 → ∃ b, Ev (fun k => nunciolaw13_FewFields.l0 k l n (i : Int)) b ∧ (b = true → n < 3000 ∧ ∀ f ∈ r, Sml f)
  | [], i, n, h, h0, h1 => by
    have := lenA_end h
    refine ⟨decide (n < 3000), ?_, fun h => ⟨of_decide_eq_true h, fun x hx => by cases hx⟩⟩
    refine Ev.step (fun k => by rw [nunciolaw13_FewFields.l0]) ?_
    exact ev_neg (by omega) (Ev.now _)
  | x :: r, i, n, h, h0, h1 => by
    have h2 := lenA_at h
    by_cases hn : n < 3000
    · have e1 := mn_le (x.f0.size : Int) 3000
      have e2 := mn_le (x.f1.size : Int) 3000
      obtain ⟨p, hp⟩ : ∃ p, mn (x.f0.size : Int) 3000 = p := ⟨_, rfl⟩
      obtain ⟨q, hq⟩ : ∃ q, mn (x.f1.size : Int) 3000 = q := ⟨_, rfl⟩
      rw [hp] at e1
      rw [hq] at e2
      obtain ⟨b, hb, hb2⟩ := fewN_loop l hl r (i + 1) (n + p + q) (dropA h).2 (by omega) (by omega)
      refine ⟨b, ?_, fun e => ?_⟩
      · refine Ev.step (fun k => by rw [nunciolaw13_FewFields.l0]) ?_
        refine ev_pos (by omega) ?_
        refine ev_pos hn ?_
        refine ev_pos (by omega) ?_
        rw [rdF_at h, hp, hq, w64 (x := n + p) (by omega) (by omega), w64 (x := n + p + q) (by omega) (by omega), w64 (x := (i : Int) + 1) (by omega) (by omega)]
        exact hb
      · obtain ⟨h3, h4⟩ := hb2 e
        refine ⟨hn, fun y hy => ?_⟩
        rcases List.mem_cons.1 hy with rfl | hy
        · exact ⟨by omega, by omega⟩
        · exact h4 y hy
    · refine ⟨false, ?_, fun h => by cases h⟩
      refine Ev.step (fun k => by rw [nunciolaw13_FewFields.l0]) ?_
      refine ev_pos (by omega) ?_
      exact ev_neg hn (ev_val (by simp [hn]))
theorem fewN_ev (l : List FP) (hl : (l.length : Int) < 9000000000000) : ∃ b, Ev (fun k => nunciolaw13_FewFields.f k l) b ∧ (b = true → l.length ≤ 3000 ∧ ∀ f ∈ l, Sml f) := by
  have e := mn_le (l.length : Int) 3000
  by_cases h : (l.length : Int) < 4000000000
  · obtain ⟨b, hb, h2⟩ := fewN_loop l h l 0 (mn (l.length : Int) 3000) rfl (by omega) (by omega)
    exact ⟨b, hb, fun e => ⟨by have := (h2 e).1; omega, (h2 e).2⟩⟩
  · have e2 : mn (l.length : Int) 3000 = 3000 := by omega
    refine ⟨false, ?_, fun h => by cases h⟩
    unfold nunciolaw13_FewFields.f
    rw [e2]
    refine Ev.step (fun k => by rw [nunciolaw13_FewFields.l0]) ?_
    refine ev_pos (by omega) ?_
    exact ev_neg (by omega) (ev_val (by simp))
theorem awakeN_ev : Ev (fun k => nunciolaw13_awake.f k) true := Ev.of nunciolaw13_awake.mono (k := 400) nunciolaw13_awake_t
theorem pnewN_f : pack_New.f = some ⟨mkT (mx 4096 0, []), 4096, false⟩ := rfl
theorem ptableN_f {m : M} (h : Wt m) (le : Int) (c : Bool) : pack_Encoder_Table.f ⟨mkT m, le, c⟩ = some (mkT m) := copy_f h.1 (by omega)
theorem rdAN_at {l : List AN} {i : Nat} {x : AN} {r : List AN} (h : l.drop i = x :: r) : rd_T44 l (i : Int) = x := by
  have h1 := (dropA h).1
  unfold rd_T44
  rw [Int.toNat_natCast, List.getD_eq_getElem?_getD, h1, Option.getD_some]
theorem few13N_loop (l : List AN) (hw : ∀ a ∈ l, (a.f2.length : Int) < 9000000000000) : ∀ (r : List AN) (i : Nat), l.drop i = r → i ≤ 31 → ∃ b, Ev (fun k => nunciolaw13_few.l0 k l (i : Int)) b ∧ (b = true → l.length ≤ 30 ∧ ∀ a ∈ r, a.f2.length ≤ 3000 ∧ ∀ f ∈ a.f2, Sml f)
  | [], i, h, h0 => by
    have h1 := lenA_end h
    refine ⟨decide ((l.length : Int) ≤ 30), ?_, fun e => ⟨by have := of_decide_eq_true e; omega, fun a ha => by cases ha⟩⟩
    refine Ev.step (fun k => by rw [nunciolaw13_few.l0]) ?_
    refine ev_neg (by omega) ?_
    refine Ev.step (fun k => by rw [nunciolaw13_few.j1]) ?_
    exact ev_neg (by decide) (Ev.now _)
  | x :: r, i, h, h0 => by
    have h1 := lenA_at h
    by_cases hi : (i : Int) ≤ 30
    · obtain ⟨b1, u1, v1⟩ := fewN_ev x.f2 (hw x (List.mem_of_mem_drop (h ▸ List.mem_cons_self)))
      have go : ∀ b, Ev (fun k => if b1 = true then nunciolaw13_few.l0 k l (wrap64 ((i : Int) + 1)) else some false) b → Ev (fun k => nunciolaw13_few.l0 k l (i : Int)) b := fun b hb => by
        refine Ev.step (fun k => by rw [nunciolaw13_few.l0]) ?_
        refine ev_pos (by omega) ?_
        refine Ev.step (fun k => by rw [nunciolaw13_few.j1]) ?_
        refine ev_pos (by rw [decide_eq_true hi]) ?_
        refine ev_pos (by omega) ?_
        refine ev_pos (by omega) ?_
        rw [rdAN_at h]
        exact Ev.bind u1 hb
      by_cases hb : b1 = true
      · obtain ⟨b, u, v⟩ := few13N_loop l hw r (i + 1) (dropA h).2 (by omega)
        refine ⟨b, go b ?_, fun e => ?_⟩
        · refine ev_pos hb ?_
          rw [w64 (x := (i : Int) + 1) (by omega) (by omega)]
          exact u
        · obtain ⟨v2, v3⟩ := v e
          refine ⟨v2, fun a ha => ?_⟩
          rcases List.mem_cons.1 ha with rfl | ha
          · exact v1 hb
          · exact v3 a ha
      · exact ⟨false, go false (ev_neg hb (Ev.now _)), fun e => by cases e⟩
    · refine ⟨false, ?_, fun e => by cases e⟩
      refine Ev.step (fun k => by rw [nunciolaw13_few.l0]) ?_
      refine ev_pos (by omega) ?_
      refine Ev.step (fun k => by rw [nunciolaw13_few.j1]) ?_
      refine ev_neg (by rw [decide_eq_false hi]; decide) ?_
      exact ev_val (decide_eq_false (by omega))
theorem rnewN_f : nuncioref13_New.f = some (mx 4096 0, [], []) := by
  unfold nuncioref13_New.f
  rw [rnew_f]
  rfl
theorem never_loop (l : List AN) (hl : l.length ≤ 30) (hn : ∀ a ∈ l, 0 ≤ a.f1 ∧ a.f1 ≤ 4294967295) (nm vl : ByteArray) (nv : Bool) (hf : nm.size ≤ 3000 ∧ vl.size ≤ 3000) : ∀ (r : List AN) (i : Nat) (m : M) (le : Int) (ch : Bool) (z : List Int), l.drop i = r → Wt m → 0 ≤ le → le ≤ 4096 → z.length ≤ i → (∀ x ∈ z, 0 ≤ x ∧ x ≤ 4096) → (∀ a ∈ r, a.f2.length ≤ 3000 ∧ ∀ f ∈ a.f2, Sml f) →
    Ev (fun k => nunciolaw13_PackNever.l0 k l (i : Int) nm vl nv ⟨mkT m, le, ch⟩ m.1 m.2 z) true
  | [], i, m, le, ch, z, h, hm, h0, h1, hz, hz2, hs => by
    have h2 := lenA_end h
    obtain ⟨s, hw⟩ := pwriteN_ev hm h0 h1 ch (l := [⟨nm, vl, true⟩]) (by simp) (fun f hf2 => by rw [List.mem_singleton.mp hf2]; exact hf)
    have e : afts m [⟨nm, vl, true⟩] = m := by rw [afts, afts]; unfold aft; rw [if_pos rfl]
    rw [e] at hw
    refine Ev.step (fun k => by rw [nunciolaw13_PackNever.l0]) ?_
    refine ev_neg (by omega) ?_
    refine Ev.bind hw ?_
    refine ev_bind0 (ptableN_f hm _ _) ?_
    exact Ev.bind (tells_ev hm) (Ev.now _)
  | x :: r, i, m, le, ch, z, h, hm, h0, h1, hz, hz2, hs => by
    have h2 := lenA_at h
    have hs2 : ∀ a ∈ r, a.f2.length ≤ 3000 ∧ ∀ f ∈ a.f2, Sml f := fun a ha => hs a (List.mem_cons_of_mem _ ha)
    have hx := hs x List.mem_cons_self
    have hw : wrap64 ((i : Int) + 1) = ((i + 1 : Nat) : Int) := by rw [w64 (by omega) (by omega)]; rfl
    refine Ev.step (fun k => by rw [nunciolaw13_PackNever.l0]) ?_
    refine ev_pos (by omega) ?_
    refine ev_pos (by omega) ?_
    rw [rdAN_at h]
    by_cases hL : x.f0 = true
    · have hxn := hn x (List.mem_of_mem_drop (h ▸ List.mem_cons_self))
      obtain ⟨m', le', ch', z', e1, e2, e3, e4, e5, e6, e7⟩ := limitE_ev hm h0 h1 ch z (by omega) hz2 hxn.1 hxn.2
      refine ev_pos hL ?_
      refine ev_bind0 e1 ?_
      refine Ev.bind e2 ?_
      rw [hw]
      exact never_loop l hl hn nm vl nv hf r (i + 1) m' le' ch' z' (dropA h).2 e3 e4 e5 (by omega) e7 hs2
    · obtain ⟨s, hw1⟩ := pwriteN_ev hm h0 h1 ch hx.1 hx.2
      obtain ⟨t, hw2⟩ := rwriteE_ev x.f2 hx.1 hm hx.2 z (by omega) hz2
      refine ev_neg hL ?_
      refine Ev.bind hw1 ?_
      refine Ev.bind hw2 ?_
      rw [hw]
      exact never_loop l hl hn nm vl nv hf r (i + 1) (afts m x.f2) 4096 false [] (dropA h).2 (Wt.afts x.f2 hm hx.2) (by omega) (by omega) (by simp) (fun y hy => by cases hy) hs2
theorem PackNever : nunciolaw13_PackNever.Pure := by
  intro l a b c h0 ha hb
  apply Ev.rounds
  have hw : ∀ a ∈ l, (a.f2.length : Int) < 9000000000000 := fun a ha => by
    have := (h0.2.2 a ha).2.2.2.1
    omega
  have hn : ∀ a ∈ l, 0 ≤ a.f1 ∧ a.f1 ≤ 4294967295 := fun a ha => b_u32 (h0.2.2 a ha).2.1
  obtain ⟨q, hq, hf⟩ := few13N_loop l hw l 0 rfl (by omega)
  refine Ev.congr (fun k => by rw [nunciolaw13_PackNever.f]) ?_
  refine Ev.bind awakeN_ev ?_
  refine ev_pos rfl ?_
  refine Ev.bind (show Ev (fun k => nunciolaw13_few.f k l) q from hq) ?_
  have j : Ev (fun k => nunciolaw13_PackNever.j0 k l true a b c) true := by
    refine Ev.step (fun k => by rw [nunciolaw13_PackNever.j0]) ?_
    exact ev_pos rfl (Ev.now _)
  by_cases hbt : q = true
  · refine ev_pos hbt ?_
    obtain ⟨h1, h2⟩ := hf hbt
    obtain ⟨p, hp, hp2⟩ := fewN_ev [⟨a, b, c⟩] (by simp)
    refine Ev.bind hp ?_
    by_cases hpt : p = true
    · have hsm := (hp2 hpt).2 ⟨a, b, c⟩ (List.mem_singleton.mpr rfl)
      rw [hpt]
      refine Ev.step (fun k => by rw [nunciolaw13_PackNever.j0]) ?_
      refine ev_neg (by decide) ?_
      refine ev_bind0 pnewN_f ?_
      refine ev_bind0 rnewN_f ?_
      exact never_loop l h1 hn a b c hsm l 0 (mx 4096 0, []) 4096 false [] rfl wt_new (by omega) (by omega) (by simp) (fun y hy => by cases hy) h2
    · rw [Bool.eq_false_iff.mpr hpt]
      exact j
  · exact ev_neg hbt j
end Go.Proofs.YtfkdocmhbmameaaDoor.Pure
