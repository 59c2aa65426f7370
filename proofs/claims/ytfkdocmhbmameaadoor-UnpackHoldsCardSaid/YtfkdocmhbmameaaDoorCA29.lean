/- The walks and the plain laws that the rows come to: merged out of this repo's texts. -/
import Derived.Test.YtfkdocmhbmameaaDoorProg
import Derived.Below
import Derived.Deep.Draws
import Derived.Deep.AppendLies
import Derived.Maps.AppendAt
import Derived.OwnWalk
import Derived.Laws.BytesArg
import Derived.Laws.MakeOwn
import Derived.Laws.OwnMore
import Derived.Deep.OwnRows
import Derived.Tactics
import Derived.Lib.ConvBytes
import Derived.Laws.Slices
import Derived.WalkKit
import Derived.KernelRfl
import Derived.RowKit3
import Derived.Deep.LoopGhost
import Derived.Deep.QuietTactic
import Derived.BigQuiet
import Derived.WideLaws
import Derived.Deep.DeepCutAuto
import Derived.Deep.CutBlock
import Derived.Deep.RegionHeld3
import Derived.Laws.Rows
import Derived.Lib.AppendStr
import Derived.ArgAppend
import Derived.Laws.IdiomCopy
import Derived.RowKit
import Derived.OrdersHeld
import Derived.Laws.BitsLemmas
import Derived.Laws.StructEq
import Derived.Laws.CopyOwn
import Derived.SizedLaws
import Derived.ChangeSlices
import Derived.Deep.Slices
import Derived.Lib.SmallJoins
import Derived.Lib.OthersKept
import Derived.Lib.AppendZerosOnto
import Derived.WalkSpells
import Derived.Shelf.Utf8.RuneCount
import Derived.Shelf.Strings.Search1
import Derived.Shelf.Strings.Search2
import Derived.Shelf.Strings.Search3
import Derived.Shelf.Strings.Cut
import Derived.Shelf.Strings.Count
import Derived.Shelf.LaysM
import Derived.Shelf.Strings.Shaped
import Derived.Shelf.Strings.Split
import Derived.Shelf.Strings.SplitShaped
import Derived.Shelf.Unicode.Decode
import Derived.Shelf.Strings.RuneCount
import Derived.Shelf.Strings.Explode
import Derived.Shelf.Unicode.DecodeSlow
import Derived.Shelf.Unicode.DecodeAny
import Derived.Recover
import Derived.WalkLawsBesides
import Derived.Laws.BitsAllLaws
import Derived.Test.YtfkdocmhbmameaaDoorCA1
import Derived.Test.YtfkdocmhbmameaaDoorCA2
import Derived.Test.YtfkdocmhbmameaaDoorCA3
import Derived.Test.YtfkdocmhbmameaaDoorCA4
import Derived.Test.YtfkdocmhbmameaaDoorCA5
import Derived.Test.YtfkdocmhbmameaaDoorCA6
import Derived.Test.YtfkdocmhbmameaaDoorCA7
import Derived.Test.YtfkdocmhbmameaaDoorCA8
import Derived.Test.YtfkdocmhbmameaaDoorCA9
import Derived.Test.YtfkdocmhbmameaaDoorCA11
import Derived.Test.YtfkdocmhbmameaaDoorCA12
import Derived.Test.YtfkdocmhbmameaaDoorCA14
import Derived.Test.YtfkdocmhbmameaaDoorCA15
import Derived.Test.YtfkdocmhbmameaaDoorCA16
import Derived.Test.YtfkdocmhbmameaaDoorCA17
import Derived.Test.YtfkdocmhbmameaaDoorCA18
import Derived.Test.YtfkdocmhbmameaaDoorCA19
import Derived.Test.YtfkdocmhbmameaaDoorCA21
import Derived.Test.YtfkdocmhbmameaaDoorCA22
import Derived.Test.YtfkdocmhbmameaaDoorCA23
import Derived.Test.YtfkdocmhbmameaaDoorCA24
import Derived.Test.YtfkdocmhbmameaaDoorCA26
import Derived.Test.YtfkdocmhbmameaaDoorCA27
import Derived.Test.YtfkdocmhbmameaaDoorCA28
namespace Go.Proofs.YtfkdocmhbmameaaDoor.Pure
open Go.RowKit Go.Proofs.YtfkdocmhbmameaaDoor.Mine Go.Proofs.YtfkdocmhbmameaaDoorW.PrintWords Go.Proofs.YtfkdocmhbmameaaDoorW.PrintLast Go.Proofs.YtfkdocmhbmameaaDoorW.PrintMore
set_option linter.unusedVariables false
theorem holds_loop (l : List ByteArray) (hl : l.length ≤ 40) (hs : ∀ x ∈ l, x.size < 3000) : ∀ (r : List ByteArray) (i : Nat) (m : M) (d : Bool), l.drop i = r → Wt m → Ev (fun k => nunciolaw12_UnpackHolds.l0 k l (i : Int) ⟨mkT m, d⟩) true
  | [], i, m, d, h, hm => by
    have := lenA_end h
    refine Ev.step (fun k => by rw [nunciolaw12_UnpackHolds.l0]) ?_
    exact ev_neg (by omega) (Ev.now _)
  | x :: r, i, m, d, h, hm => by
    have h2 := lenA_at h
    have hx := hs x (List.mem_of_mem_drop (h ▸ List.mem_cons_self))
    obtain ⟨f, e, m', d', u1, u2, hm', hf, h0, hd, hdn⟩ := read_ev (s := x) (by omega) hm d
    have ih := holds_loop l hl hs r (i + 1) m' d' (dropA h).2 hm'
    rw [show ((i + 1 : Nat) : Int) = (i : Int) + 1 by omega] at ih
    have hw : Unit → wrap64 ((i : Int) + 1) = (i : Int) + 1 := fun _ => w64 (by omega) (by omega)
    have hsz := hm'.1.2.2.2
    have hm4 := hm'.2
    have last : Ev (fun k => nunciolaw12_UnpackHolds.j3 k l (i : Int) d f e false ⟨mkT m', d'⟩) true := by
      refine Ev.step (fun k => by rw [nunciolaw12_UnpackHolds.j3]) ?_
      refine ev_neg (by decide) ?_
      refine ev_bind0 (rfl : unpack_Decoder_Down.f ⟨mkT m', d'⟩ = some (d', ⟨mkT m', d'⟩)) ?_
      have tl : Ev (fun k => if e = 0 then nunciolaw12_UnpackHolds.l0 k l (wrap64 ((i : Int) + 1)) ⟨mkT m', d'⟩ else if (f.length : Int) = 0 then nunciolaw12_UnpackHolds.l0 k l (wrap64 ((i : Int) + 1)) ⟨mkT m', d'⟩ else some false) true := by
        rw [hw ()]
        by_cases he : e = 0
        · exact ev_pos he ih
        · refine ev_neg he ?_
          exact ev_pos (by rw [h0 he]; rfl) ih
      by_cases hdt : d = true
      · refine ev_pos hdt ?_
        have : d' = true := hd.mpr (.inl hdt)
        refine ev_neg (by rw [this]; simp) ?_
        exact tl
      · refine ev_neg hdt ?_
        have : d' = (e != 0) := by
          by_cases he : e = 0
          · have : ¬ d' = true := fun h => (hd.mp h).elim hdt (fun h => h he)
            rw [Bool.eq_false_iff.mpr this, he]
            rfl
          · rw [hd.mpr (.inr he), bne_iff_ne.mpr he]
        refine ev_neg (by rw [this]; simp) ?_
        exact tl
    refine Ev.step (fun k => by rw [nunciolaw12_UnpackHolds.l0]) ?_
    refine ev_pos (by omega) ?_
    refine ev_bind0 (rfl : unpack_Decoder_Down.f ⟨mkT m, d⟩ = some (d, ⟨mkT m, d⟩)) ?_
    refine ev_bind0 (table_f hm d) ?_
    refine ev_pos (by omega) ?_
    rw [rdS_at h]
    refine Ev.bind u1 ?_
    refine ev_bind0 (table_f hm' d') ?_
    refine ev_bind0 (size_f m') ?_
    refine ev_bind0 (most_f m') ?_
    refine ev_neg (show ¬ (sm m'.2 > m'.1) by omega) ?_
    refine ev_bind0 (most_f m') ?_
    refine ev_neg (show ¬ (m'.1 > 4096) by omega) ?_
    refine Ev.step (fun k => by rw [nunciolaw12_UnpackHolds.j2]) ?_
    refine ev_neg (by simp; omega) ?_
    by_cases hdt : d = true
    · obtain ⟨he8, hf0, hmm⟩ := hdn hdt
      refine ev_pos hdt ?_
      refine ev_pos he8 ?_
      refine ev_pos (by rw [hf0]; rfl) ?_
      refine ev_bind0 (size_f m') ?_
      refine ev_bind0 (size_f m) ?_
      refine ev_pos (by rw [hmm]) ?_
      refine ev_bind0 (len_f m') ?_
      refine ev_bind0 (len_f m) ?_
      have e1 : (((m'.2.length : Int)) != (m.2.length : Int)) = false := by rw [hmm]; simp
      simp only [e1]
      exact last
    · refine ev_neg hdt ?_
      exact last
theorem UnpackHolds : nunciolaw12_UnpackHolds.Pure := by
  intro l h0
  apply Ev.rounds
  obtain ⟨b, hb, hf⟩ := few12_ev l (by omega)
  refine Ev.congr (fun k => by rw [nunciolaw12_UnpackHolds.f]) ?_
  refine Ev.bind awake12_ev ?_
  refine ev_pos rfl ?_
  refine Ev.bind hb ?_
  by_cases hbt : b = true
  · refine ev_pos hbt ?_
    refine Ev.step (fun k => by rw [nunciolaw12_UnpackHolds.j0]) ?_
    by_cases hl : (l.length : Int) > 40
    · exact ev_pos (decide_eq_true hl) (Ev.now _)
    · refine ev_neg (by simp [hl]) ?_
      refine ev_bind0 unew_f ?_
      exact holds_loop l (by omega) (hf hbt) l 0 (mx 4096 0, []) false rfl wt_new
  · refine ev_neg hbt ?_
    refine Ev.step (fun k => by rw [nunciolaw12_UnpackHolds.j0]) ?_
    exact ev_pos rfl (Ev.now _)
end Go.Proofs.YtfkdocmhbmameaaDoor.Pure
