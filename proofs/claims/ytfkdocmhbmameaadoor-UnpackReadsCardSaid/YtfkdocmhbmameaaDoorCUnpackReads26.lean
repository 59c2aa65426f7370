/- The walks and the plain laws that the row comes to: merged out of this repo's texts. -/
import Derived.Test.YtfkdocmhbmameaaDoorProg
import Derived.Below
import Derived.Deep.Draws
import Derived.Deep.AppendLies
import Derived.Maps.AppendAt
import Derived.OwnWalk
import Derived.Laws.BytesArg
import Derived.Laws.MakeOwn
import Derived.Laws.OwnMore
import Derived.Deep.OwnRows
import Derived.Tactics
import Derived.Lib.ConvBytes
import Derived.Laws.Slices
import Derived.WalkKit
import Derived.KernelRfl
import Derived.RowKit3
import Derived.Deep.LoopGhost
import Derived.Deep.QuietTactic
import Derived.BigQuiet
import Derived.WideLaws
import Derived.Deep.DeepCutAuto
import Derived.Deep.CutBlock
import Derived.Deep.RegionHeld3
import Derived.Laws.Rows
import Derived.Lib.AppendStr
import Derived.ArgAppend
import Derived.Laws.IdiomCopy
import Derived.RowKit
import Derived.OrdersHeld
import Derived.Laws.BitsLemmas
import Derived.Laws.StructEq
import Derived.Laws.CopyOwn
import Derived.SizedLaws
import Derived.ChangeSlices
import Derived.Deep.Slices
import Derived.Lib.SmallJoins
import Derived.Lib.OthersKept
import Derived.Lib.AppendZerosOnto
import Derived.WalkSpells
import Derived.Shelf.Utf8.RuneCount
import Derived.Shelf.Strings.Search1
import Derived.Shelf.Strings.Search2
import Derived.Shelf.Strings.Search3
import Derived.Shelf.Strings.Cut
import Derived.Shelf.Strings.Count
import Derived.Shelf.LaysM
import Derived.Shelf.Strings.Shaped
import Derived.Shelf.Strings.Split
import Derived.Shelf.Strings.SplitShaped
import Derived.Shelf.Unicode.Decode
import Derived.Shelf.Strings.RuneCount
import Derived.Shelf.Strings.Explode
import Derived.Shelf.Unicode.DecodeSlow
import Derived.Shelf.Unicode.DecodeAny
import Derived.Recover
import Derived.WalkLawsBesides
import Derived.Laws.BitsAllLaws
import Derived.Test.YtfkdocmhbmameaaDoorCUnpackReads1
import Derived.Test.YtfkdocmhbmameaaDoorCUnpackReads2
import Derived.Test.YtfkdocmhbmameaaDoorCUnpackReads3
import Derived.Test.YtfkdocmhbmameaaDoorCUnpackReads4
import Derived.Test.YtfkdocmhbmameaaDoorCUnpackReads5
import Derived.Test.YtfkdocmhbmameaaDoorCUnpackReads6
import Derived.Test.YtfkdocmhbmameaaDoorCUnpackReads7
import Derived.Test.YtfkdocmhbmameaaDoorCUnpackReads8
import Derived.Test.YtfkdocmhbmameaaDoorCUnpackReads9
import Derived.Test.YtfkdocmhbmameaaDoorCUnpackReads10
import Derived.Test.YtfkdocmhbmameaaDoorCUnpackReads11
import Derived.Test.YtfkdocmhbmameaaDoorCUnpackReads12
import Derived.Test.YtfkdocmhbmameaaDoorCUnpackReads13
import Derived.Test.YtfkdocmhbmameaaDoorCUnpackReads14
import Derived.Test.YtfkdocmhbmameaaDoorCUnpackReads15
import Derived.Test.YtfkdocmhbmameaaDoorCUnpackReads16
import Derived.Test.YtfkdocmhbmameaaDoorCUnpackReads17
import Derived.Test.YtfkdocmhbmameaaDoorCUnpackReads18
import Derived.Test.YtfkdocmhbmameaaDoorCUnpackReads19
import Derived.Test.YtfkdocmhbmameaaDoorCUnpackReads20
import Derived.Test.YtfkdocmhbmameaaDoorCUnpackReads21
import Derived.Test.YtfkdocmhbmameaaDoorCUnpackReads22
import Derived.Test.YtfkdocmhbmameaaDoorCUnpackReads23
import Derived.Test.YtfkdocmhbmameaaDoorCUnpackReads24
import Derived.Test.YtfkdocmhbmameaaDoorCUnpackReads25
namespace Go.Proofs.YtfkdocmhbmameaaDoor.Pure
open Go.RowKit Go.Proofs.YtfkdocmhbmameaaDoor.Mine Go.Proofs.YtfkdocmhbmameaaDoorW.PrintWords Go.Proofs.YtfkdocmhbmameaaDoorW.PrintLast Go.Proofs.YtfkdocmhbmameaaDoorW.PrintMore
set_option linter.unusedVariables false
theorem lenA_at {α : Type} {l : List α} {i : Nat} {x : α} {r : List α} (h : l.drop i = x :: r) : i < l.length := by
  rcases Nat.lt_or_ge i l.length with h1 | h1
  · exact h1
  · rw [List.drop_eq_nil_of_le h1] at h
    cases h
theorem lenA_end {α : Type} {l : List α} {i : Nat} (h : l.drop i = []) : l.length ≤ i := by
  rcases Nat.lt_or_ge i l.length with h1 | h1
  · rw [List.drop_eq_getElem_cons h1] at h
    cases h
  · exact h1
theorem dropA {α : Type} {l : List α} {i : Nat} {x : α} {r : List α} (h : l.drop i = x :: r) : l[i]? = some x ∧ l.drop (i + 1) = r := by
  have h1 := lenA_at h
  rw [List.drop_eq_getElem_cons h1] at h
  obtain ⟨h2, h3⟩ := List.cons.inj h
  exact ⟨by rw [List.getElem?_eq_getElem h1, h2], h3⟩
theorem rdS_at {l : List ByteArray} {i : Nat} {x : ByteArray} {r : List ByteArray} (h : l.drop i = x :: r) : rdOf ByteArray.empty l (i : Int) = x := by
  have h1 := (dropA h).1
  unfold rdOf
  rw [Int.toNat_natCast, List.getD_eq_getElem?_getD, h1, Option.getD_some]
theorem mn_le (a b : Int) : mn a b ≤ a ∧ mn a b ≤ b ∧ (mn a b = a ∨ mn a b = b) := by unfold mn; split <;> omega
theorem few12_loop (l : List ByteArray) (hl : (l.length : Int) < 4000000000) : ∀ (r : List ByteArray) (i : Nat) (n : Int), l.drop i = r → 0 ≤ n → n ≤ 20000 → ∃ b, Ev (fun k => nunciolaw12_Few.l0 k l n (i : Int)) b ∧ (b = true → n < 3000 ∧ ∀ x ∈ r, x.size < 3000)
  | [], i, n, h, h0, h1 => by
    have := lenA_end h
    refine ⟨decide (n < 3000), ?_, fun h => ⟨of_decide_eq_true h, fun x hx => by cases hx⟩⟩
    refine Ev.step (fun k => by rw [nunciolaw12_Few.l0]) ?_
    exact ev_neg (by omega) (Ev.now _)
  | x :: r, i, n, h, h0, h1 => by
    have h2 := lenA_at h
    by_cases hn : n < 3000
    · have e1 := mn_le (x.size : Int) 3000
      obtain ⟨p, hp⟩ : ∃ p, mn (x.size : Int) 3000 = p := ⟨_, rfl⟩
      rw [hp] at e1
      obtain ⟨b, hb, hb2⟩ := few12_loop l hl r (i + 1) (n + p) (dropA h).2 (by omega) (by omega)
      refine ⟨b, ?_, fun e => ?_⟩
      · refine Ev.step (fun k => by rw [nunciolaw12_Few.l0]) ?_
        refine ev_pos (by omega) ?_
        refine ev_pos hn ?_
        refine ev_pos (by omega) ?_
        rw [rdS_at h, hp, w64 (x := n + p) (by omega) (by omega), w64 (x := (i : Int) + 1) (by omega) (by omega)]
        exact hb
      · obtain ⟨h3, h4⟩ := hb2 e
        refine ⟨hn, fun y hy => ?_⟩
        rcases List.mem_cons.1 hy with rfl | hy
        · omega
        · exact h4 y hy
    · refine ⟨false, ?_, fun h => by cases h⟩
      refine Ev.step (fun k => by rw [nunciolaw12_Few.l0]) ?_
      refine ev_pos (by omega) ?_
      exact ev_neg hn (ev_val (by simp [hn]))
theorem few12_ev (l : List ByteArray) (hl : (l.length : Int) < 9000000000000) : ∃ b, Ev (fun k => nunciolaw12_Few.f k l) b ∧ (b = true → ∀ x ∈ l, x.size < 3000) := by
  have e := mn_le (l.length : Int) 3000
  by_cases h : (l.length : Int) < 4000000000
  · obtain ⟨b, hb, h2⟩ := few12_loop l h l 0 (mn (l.length : Int) 3000) rfl (by omega) (by omega)
    exact ⟨b, hb, fun e => (h2 e).2⟩
  · have e2 : mn (l.length : Int) 3000 = 3000 := by omega
    refine ⟨false, ?_, fun h => by cases h⟩
    unfold nunciolaw12_Few.f
    rw [e2]
    refine Ev.step (fun k => by rw [nunciolaw12_Few.l0]) ?_
    refine ev_pos (by omega) ?_
    exact ev_neg (by omega) (ev_val (by simp))
theorem same12_loop (l : List FD) (hl : l.length ≤ 1000) : ∀ (r : List FD) (i : Nat), l.drop i = r → Ev (fun k => nuncioref12_Same.l0 k l l (i : Int)) true
  | [], i, h => by
    have := lenA_end h
    refine Ev.step (fun k => by rw [nuncioref12_Same.l0]) ?_
    exact ev_neg (by omega) (Ev.now _)
  | x :: r, i, h => by
    have h2 := lenA_at h
    refine Ev.step (fun k => by rw [nuncioref12_Same.l0]) ?_
    refine ev_pos (by omega) ?_
    refine ev_pos (by omega) ?_
    refine ev_pos (by omega) ?_
    refine ev_neg (by simp) ?_
    rw [w64 (x := (i : Int) + 1) (by omega) (by omega)]
    exact same12_loop l hl r (i + 1) (dropA h).2
theorem same12_ev (l : List FD) (hl : l.length ≤ 1000) : Ev (fun k => nuncioref12_Same.f k l l) true := by
  refine Ev.congr (fun k => by rw [nuncioref12_Same.f]) ?_
  refine ev_pos rfl ?_
  exact same12_loop l hl l 0 rfl
theorem atM_list {m : M} (h : Wt m) {i : Nat} {x : S88} {r : List S88} (hd : m.2.drop i = x :: r) : atM m (62 + (i : Int)) = (x.f0, x.f1, true) := by
  have h1 := lenA_at hd
  unfold atM atF
  rw [if_pos (by omega), show (62 + (i : Int) - 1).toNat = F38.length + i by rw [F38_len]; omega]
  simp only [List.getD_eq_getElem?_getD, List.getElem?_append_right (Nat.le_add_right _ _), Nat.add_sub_cancel_left, (dropA hd).1, Option.getD_some]
theorem tells_loop {m : M} (h : Wt m) : ∀ (r : List S88) (i : Nat), m.2.drop i = r → Ev (fun k => nunciolaw12_Tells.l0 k (i : Int) (mkT m) m.1 m.2) (true, mkT m)
  | [], i, hd => by
    have := lenA_end hd
    refine Ev.step (fun k => by rw [nunciolaw12_Tells.l0]) ?_
    exact ev_neg (by omega) (Ev.now _)
  | x :: r, i, hd => by
    have h2 := lenA_at hd
    have h3 := h.1.2.1
    refine Ev.step (fun k => by rw [nunciolaw12_Tells.l0]) ?_
    refine ev_pos (by omega) ?_
    refine ev_bind0 (show table_Table_At.f (mkT m) (wrap64 (62 + (i : Int))) = some (x.f0, x.f1, true) by rw [w64 (by omega) (by omega), at_f h.1 (by omega) (by omega), atM_list h hd]) ?_
    refine ev_pos rfl ?_
    refine ev_pos (by omega) ?_
    rw [rd_at hd]
    refine ev_pos rfl ?_
    refine ev_pos rfl ?_
    rw [w64 (x := (i : Int) + 1) (by omega) (by omega)]
    exact tells_loop h r (i + 1) (dropA hd).2
theorem tells_ev {m : M} (h : Wt m) : Ev (fun k => nunciolaw12_Tells.f k (mkT m) m.1 m.2) (true, mkT m) := by
  refine Ev.congr (fun k => by rw [nunciolaw12_Tells.f]) ?_
  refine ev_bind0 (most_f m) ?_
  refine ev_pos rfl ?_
  refine ev_bind0 (len_f m) ?_
  refine ev_pos rfl ?_
  refine ev_bind0 (size_f m) ?_
  refine Ev.bind (rsize_ev h.1 (by omega)) ?_
  refine Ev.step (fun k => by rw [nunciolaw12_Tells.j0]) ?_
  refine ev_neg (by simp) ?_
  exact tells_loop h m.2 0 rfl
theorem awake12_ev : Ev (fun k => nunciolaw12_awake.f k) true := Ev.of nunciolaw12_awake.mono (k := 400) nunciolaw12_awake_t
theorem wt_new : Wt (mx 4096 0, []) := ⟨ok_new 4096 (by omega) 128, by show mx 4096 0 ≤ 4096; unfold mx; split <;> omega⟩
theorem unew_f : unpack_New.f = some ⟨mkT (mx 4096 0, []), false⟩ := rfl
theorem table_f {m : M} (h : Wt m) (d : Bool) : unpack_Decoder_Table.f ⟨mkT m, d⟩ = some (mkT m) := copy_f h.1 (by omega)
end Go.Proofs.YtfkdocmhbmameaaDoor.Pure
namespace Go.Proofs.YtfkdocmhbmameaaDoor.Pure
open Go.RowKit Go.Proofs.YtfkdocmhbmameaaDoor.Mine Go.Proofs.YtfkdocmhbmameaaDoorW.PrintWords Go.Proofs.YtfkdocmhbmameaaDoorW.PrintLast Go.Proofs.YtfkdocmhbmameaaDoorW.PrintMore
set_option linter.unusedVariables false
theorem reads_loop (l : List ByteArray) (hl : l.length ≤ 40) (hs : ∀ x ∈ l, x.size < 3000) : ∀ (r : List ByteArray) (i : Nat) (m : M) (d : Bool), l.drop i = r → Wt m → Ev (fun k => nunciolaw12_UnpackReads.l0 k l (i : Int) ⟨mkT m, d⟩ m.1 m.2 d) true
  | [], i, m, d, h, hm => by
    have := lenA_end h
    refine Ev.step (fun k => by rw [nunciolaw12_UnpackReads.l0]) ?_
    exact ev_neg (by omega) (Ev.now _)
  | x :: r, i, m, d, h, hm => by
    have h2 := lenA_at h
    have hx := hs x (List.mem_of_mem_drop (h ▸ List.mem_cons_self))
    obtain ⟨f, e, m', d', u1, u2, hm', hf, _⟩ := read_ev (s := x) (by omega) hm d
    refine Ev.step (fun k => by rw [nunciolaw12_UnpackReads.l0]) ?_
    refine ev_pos (by omega) ?_
    refine ev_pos (by omega) ?_
    rw [rdS_at h]
    refine Ev.bind u1 ?_
    refine Ev.bind u2 ?_
    refine Ev.bind (same12_ev f (by omega)) ?_
    refine ev_pos rfl ?_
    refine ev_pos rfl ?_
    refine ev_bind0 (rfl : unpack_Decoder_Down.f ⟨mkT m', d'⟩ = some (d', ⟨mkT m', d'⟩)) ?_
    refine ev_neg (by simp) ?_
    refine ev_bind0 (table_f hm' d') ?_
    refine Ev.bind (tells_ev hm') ?_
    refine ev_pos rfl ?_
    rw [w64 (x := (i : Int) + 1) (by omega) (by omega)]
    exact reads_loop l hl hs r (i + 1) m' d' (dropA h).2 hm'
theorem UnpackReads : nunciolaw12_UnpackReads.Pure := by
  intro l h0
  apply Ev.rounds
  obtain ⟨b, hb, hf⟩ := few12_ev l (by omega)
  refine Ev.congr (fun k => by rw [nunciolaw12_UnpackReads.f]) ?_
  refine Ev.bind awake12_ev ?_
  refine ev_pos rfl ?_
  refine Ev.bind hb ?_
  by_cases hbt : b = true
  · refine ev_pos hbt ?_
    refine Ev.step (fun k => by rw [nunciolaw12_UnpackReads.j0]) ?_
    by_cases hl : (l.length : Int) > 40
    · exact ev_pos (decide_eq_true hl) (Ev.now _)
    · refine ev_neg (by simp [hl]) ?_
      refine ev_bind0 unew_f ?_
      refine ev_bind0 (rfl : nuncioref12_New.f = some (mx 4096 0, [], false)) ?_
      exact reads_loop l (by omega) (hf hbt) l 0 (mx 4096 0, []) false rfl wt_new
  · refine ev_neg hbt ?_
    refine Ev.step (fun k => by rw [nunciolaw12_UnpackReads.j0]) ?_
    exact ev_pos rfl (Ev.now _)
end Go.Proofs.YtfkdocmhbmameaaDoor.Pure
