/- The walks and the plain laws that the rows come to: merged out of this repo's texts. -/
import Derived.Test.YtfkdocmhbmameaaDoorProg
import Derived.Below
import Derived.Deep.Draws
import Derived.Deep.AppendLies
import Derived.Maps.AppendAt
import Derived.OwnWalk
import Derived.Laws.BytesArg
import Derived.Laws.MakeOwn
import Derived.Laws.OwnMore
import Derived.Deep.OwnRows
import Derived.Tactics
import Derived.Lib.ConvBytes
import Derived.Laws.Slices
import Derived.WalkKit
import Derived.KernelRfl
import Derived.RowKit3
import Derived.Deep.LoopGhost
import Derived.Deep.QuietTactic
import Derived.BigQuiet
import Derived.WideLaws
import Derived.Deep.DeepCutAuto
import Derived.Deep.CutBlock
import Derived.Deep.RegionHeld3
import Derived.Laws.Rows
import Derived.Lib.AppendStr
import Derived.ArgAppend
import Derived.Laws.IdiomCopy
import Derived.RowKit
import Derived.OrdersHeld
import Derived.Laws.BitsLemmas
import Derived.Laws.StructEq
import Derived.Laws.CopyOwn
import Derived.SizedLaws
import Derived.ChangeSlices
import Derived.Deep.Slices
import Derived.Lib.SmallJoins
import Derived.Lib.OthersKept
import Derived.Lib.AppendZerosOnto
import Derived.WalkSpells
import Derived.Shelf.Utf8.RuneCount
import Derived.Shelf.Strings.Search1
import Derived.Shelf.Strings.Search2
import Derived.Shelf.Strings.Search3
import Derived.Shelf.Strings.Cut
import Derived.Shelf.Strings.Count
import Derived.Shelf.LaysM
import Derived.Shelf.Strings.Shaped
import Derived.Shelf.Strings.Split
import Derived.Shelf.Strings.SplitShaped
import Derived.Shelf.Unicode.Decode
import Derived.Shelf.Strings.RuneCount
import Derived.Shelf.Strings.Explode
import Derived.Shelf.Unicode.DecodeSlow
import Derived.Shelf.Unicode.DecodeAny
import Derived.Test.YtfkdocmhbmameaaDoorCA1
import Derived.Test.YtfkdocmhbmameaaDoorCA2
import Derived.Test.YtfkdocmhbmameaaDoorCA3
import Derived.Test.YtfkdocmhbmameaaDoorCA4
import Derived.Test.YtfkdocmhbmameaaDoorCA5
import Derived.Test.YtfkdocmhbmameaaDoorCA6
import Derived.Test.YtfkdocmhbmameaaDoorCA7
import Derived.Test.YtfkdocmhbmameaaDoorCA8
import Derived.Test.YtfkdocmhbmameaaDoorCA9
import Derived.Test.YtfkdocmhbmameaaDoorCA10
import Derived.Test.YtfkdocmhbmameaaDoorCA11
namespace Go.Proofs.YtfkdocmhbmameaaDoor.Mine
open Go.RowKit Go.Proofs Go.Proofs.YtfkdocmhbmameaaDoorW.PrintWords Go.Proofs.YtfkdocmhbmameaaDoorW.PrintLast Go.Proofs.YtfkdocmhbmameaaDoorW.PrintMore
attribute [local go_sem] max2_int min2_int max_two min_two max_three min_three max_four min_four
set_option linter.unusedVariables false
set_option linter.unusedSimpArgs false
def upLit (k : Nat) (t : TB) (s : ByteArray) (a bits : Int) : Option (Except Int (ByteArray × ByteArray × Int)) :=
  (prefix_Get.f k s a bits).bind fun p => if p.2.2 = 0 then (if p.1 > 0 then (if p.1 ≤ 9223372036854775807 ∧ t.l.length < 4398046511104 ∧ t.fx.length < 4398046511104 then (if (tbAt t.fx t.l p.1).2.2 = true then ((upText k s p.2.1).bind fun v => match v with | .error e => some (.error e) | .ok q => some (.ok ((tbAt t.fx t.l p.1).1, q.1, q.2))) else some (.error 92)) else none) else ((upText k s p.2.1).bind fun u => match u with | .error e => some (.error e) | .ok q => ((upText k s q.2).bind fun v => match v with | .error e => some (.error e) | .ok q2 => some (.ok (q.1, q2.1, q2.2))))) else some (.error p.2.2)
def litZ : Obj := .cells #[.string ⟨#[]⟩, .string ⟨#[]⟩, .bool false] 26
def PostL (g gt : Nat) (s : ByteArray) (r : Except Int (ByteArray × ByteArray × Int)) (en : Ending) (w' : World) : Prop := match r with
  | .error e => en = UP e
  | .ok p => en = .returned (.agg #[.string p.1, .string p.2.1, .bool false]) ∧ IsB w' g gt s p.2.2
set_option maxHeartbeats 4000000 in
set_option maxRecDepth 100000 in
theorem up_literal (k g gt : Nat) (t : TB) (s : ByteArray) (a bits : Int) (r : Except Int (ByteArray × ByteArray × Int)) (w0 w : World) (hI : IsB w g gt s a) (hT : IsS77 w0 w gt t) (hne : g ≠ gt) (hg : w0.heap.size ≤ g) (hB : Below w0.heap.size w0 w) (h : upLit k t s a bits = some r) :
    Calls Tryd.prog 65 #[.pointer (some ⟨g, 0, none⟩), .int .i64 bits] w fun en w' => Below w0.heap.size w0 w' ∧ KeepBut w w' g none ∧ PostL g gt s r en w' := by
  unfold upLit at h
  obtain ⟨⟨n, next, e⟩, h1, h2⟩ := Option.bind_eq_some_iff.mp h
  simp only at h2
  have A1 := Aside0.mk h1
  have A2 := Aside0.mk h2
  have HI := Aside0.mk hI
  have HT := Aside0.mk hT
  have HB := Aside0.mk hB
  have HG : g < w.heap.size := blk_lt hI
  clear h h1 h2 hI hT hB
  go_enter Tryd.func65, Tryd.ntmps65
  go_upto_region 2 with fail
  have BA := below_alloc (Below.refl w.heap.size w) litZ
  have BB := below_step BA (below_alloc (Below.refl (w.alloc litZ).heap.size (w.alloc litZ)) litZ)
  have B5 := Aside0.mk (show ((w.alloc litZ).alloc litZ).heap[w.heap.size + 1]? = some litZ by have := blk_new (w.alloc litZ) litZ; rwa [show (w.alloc litZ).heap.size = w.heap.size + 1 from Array.size_push _] at this)
  have B4 := Aside0.mk (show ((w.alloc litZ).alloc litZ).heap[w.heap.size]? = some litZ from blk_alloc (blk_new w litZ) litZ)
  have HI2 := Aside0.mk (HI.out.below BB)
  have HT2 := Aside0.mk (HT.out.below BB)
  have HB2 := Aside0.mk (below_then HB.out HB.out.size BB)
  have HK2 := Aside0.mk (KeepBut.of_below BB g none)
  have HS := Aside0.mk HB.out.size
  unfold litZ at BA BB B5 B4 HI2 HT2 HB2 HK2
  generalize ((w.alloc (.cells #[.string ⟨#[]⟩, .string ⟨#[]⟩, .bool false] 26)).alloc (.cells #[.string ⟨#[]⟩, .string ⟨#[]⟩, .bool false] 26)) = w2 at BB B5 B4 HI2 HT2 HB2 HK2 ⊢
  clear BA BB HI HT HB
  obtain ⟨g4, hg4⟩ : ∃ x, w.heap.size = x := ⟨_, rfl⟩
  obtain ⟨g5, hg5⟩ : ∃ x, w.heap.size + 1 = x := ⟨_, rfl⟩
  rw [hg5] at B5 ⊢
  rw [hg4] at B4 ⊢
  have n4 : g4 ≠ g := by omega
  have n5 : g5 ≠ g := by omega
  have l4 : w0.heap.size ≤ g4 := by have := HS.out; omega
  have l5 : w0.heap.size ≤ g5 := by omega
  have h2 := A2.out
  by_cases he : e = 0
  · subst he
    rw [if_pos rfl] at h2
    have A2 := Aside0.mk h2
    clear h2
    by_cases hn : n > 0
    · have q0 : decide (0 < n) = true := decide_eq_true hn
      have h2 := A2.out
      rw [if_pos hn] at h2
      by_cases hc : n ≤ 9223372036854775807 ∧ t.l.length < 4398046511104 ∧ t.fx.length < 4398046511104
      · rw [if_pos hc] at h2
        have HC := Aside0.mk hc
        have n0 : Aside0 (0 ≤ n) := ⟨by omega⟩
        obtain ⟨⟨nm, vl, ok⟩, hR⟩ : ∃ R, tbAt t.fx t.l n = R := ⟨_, rfl⟩
        rw [hR] at h2
        simp only at h2
        have HR := Aside0.mk hR
        clear A2 hc hR hn
        cases ok with
        | false =>
          simp only [Bool.false_eq_true, if_false] at h2
          obtain rfl := Option.some.inj h2
          clear h2
          go_wp2_with (first | (go_at_call 64; (with_reducible refine (up_number_ok k g gt s a bits n next w0 _ HI2.out hg HB2.out A1.out).mono ?_); rintro en w3 ⟨rfl, hi, hb, hk⟩; have HI3 := Aside0.mk hi; have HB3 := Aside0.mk hb; have HK3 := Aside0.mk (tb_keep2 HK2.out hk); have C4 := Aside0.mk ((hk.2 g4 (blk_lt B4.out) n4 (by simp)).trans B4.out); have C5 := Aside0.mk ((hk.2 g5 (blk_lt B5.out) n5 (by simp)).trans B5.out); have HT3 := Aside0.mk (HT2.out.otherT (TyOf.mk HI2.out) hk (Ne.symm hne) (by decide)); clear hi hb hk) | (go_at_call 63; (with_reducible refine (up_entry_no g gt s nm vl next n t w0 _ HI3.out HT3.out HC.out.2.1 HC.out.2.2 n0.out HC.out.1 HR.out).mono ?_); rintro en w4 ⟨rfl, hb⟩; have HB4 := Aside0.mk (below_then HB3.out HB3.out.size hb); have HK4 := Aside0.mk (tb_keep HK3.out hb); clear hb))
          exact ⟨rfl, HB4.out, HK4.out, rfl⟩
        | true =>
          simp only [if_true] at h2
          obtain ⟨v, h5, h6⟩ := Option.bind_eq_some_iff.mp h2
          have A5 := Aside0.mk h5
          have A6 := Aside0.mk h6
          clear h2 h5 h6
          go_upto_region 6 with (first | (go_at_call 64; (with_reducible refine (up_number_ok k g gt s a bits n next w0 _ HI2.out hg HB2.out A1.out).mono ?_); rintro en w3 ⟨rfl, hi, hb, hk⟩; have HI3 := Aside0.mk hi; have HB3 := Aside0.mk hb; have HK3 := Aside0.mk (tb_keep2 HK2.out hk); have C4 := Aside0.mk ((hk.2 g4 (blk_lt B4.out) n4 (by simp)).trans B4.out); have C5 := Aside0.mk ((hk.2 g5 (blk_lt B5.out) n5 (by simp)).trans B5.out); have HT3 := Aside0.mk (HT2.out.otherT (TyOf.mk HI2.out) hk (Ne.symm hne) (by decide)); clear hi hb hk) | (go_at_call 63; (with_reducible refine (up_entry_ok g gt s nm vl next n t w0 _ HI3.out HT3.out HC.out.2.1 HC.out.2.2 n0.out HC.out.1 HR.out).mono ?_); rintro en w4 ⟨rfl, hb⟩; have HI4 := Aside0.mk (HI3.out.below hb); have HB4 := Aside0.mk (below_then HB3.out HB3.out.size hb); have HK4 := Aside0.mk (tb_keep HK3.out hb); have D4 := Aside0.mk (blk_below C4.out hb); have D5 := Aside0.mk (blk_below C5.out hb); clear hb; have y0 := (blk_cell D5.out 0).trans (rfl : _ = some (Value.string ⟨#[]⟩)); have f0 := blk_frozen D5.out 0))
          have HI5 := Aside0.mk (show IsB (w4.setCell ⟨g5, 0, none⟩ (.string nm)) g gt s next from blk_far HI4.out (by show g ≠ g5; omega) _)
          have HB5 := Aside0.mk (below_set (g := g5) (j := 0) (v := .string nm) HB4.out l5)
          have HK5 := Aside0.mk (keep_far (p := ⟨g5, 0, none⟩) HK4.out (by show w.heap.size ≤ g5; omega) (.string nm))
          have E5 := Aside0.mk (blk_put D5.out 0 (.string nm) rfl)
          have E4 := Aside0.mk (blk_far (p := ⟨g5, 0, none⟩) D4.out (by show g4 ≠ g5; omega) (.string nm))
          clear HI4 HB4 HK4 D4 D5 y0 f0
          generalize w4.setCell ⟨g5, 0, none⟩ (.string nm) = w5 at HI5 HB5 HK5 E4 E5 ⊢
          cases v with
          | error e3 =>
            have h6 := A6.out
            simp only at h6
            obtain rfl := Option.some.inj h6
            clear A6 h6
            go_wp2_with (first | (go_at_call 76; (with_reducible refine (up_text k g gt s next (.error e3) w0 _ HI5.out hg HB5.out A5.out).mono ?_); rintro en w6 ⟨hb, hk, rfl⟩; have HB6 := Aside0.mk hb; have HK6 := Aside0.mk (tb_keep2 HK5.out hk); clear hb hk))
            exact ⟨rfl, HB6.out, HK6.out, rfl⟩
          | ok q =>
            have h6 := A6.out
            simp only at h6
            obtain rfl := Option.some.inj h6
            clear A6 h6
            go_upto_region 7 with (first | (go_at_call 76; (with_reducible refine (up_text k g gt s next (.ok q) w0 _ HI5.out hg HB5.out A5.out).mono ?_); rintro en w6 ⟨hb, hk, rfl, hi⟩; have HI6 := Aside0.mk hi; have HB6 := Aside0.mk hb; have HK6 := Aside0.mk (tb_keep2 HK5.out hk); have F4 := Aside0.mk ((hk.2 g4 (blk_lt E4.out) n4 (by simp)).trans E4.out); have F5 := Aside0.mk ((hk.2 g5 (blk_lt E5.out) n5 (by simp)).trans E5.out); clear hb hk hi; have y1 := (blk_cell F5.out 1).trans (rfl : _ = some (Value.string ⟨#[]⟩)); have f1 := blk_frozen F5.out 1))
            have HI7 := Aside0.mk (show IsB (w6.setCell ⟨g5, 1, none⟩ (.string q.1)) g gt s q.2 from blk_far HI6.out (by show g ≠ g5; omega) _)
            have HB7 := Aside0.mk (below_set (g := g5) (j := 1) (v := .string q.1) HB6.out l5)
            have HK7 := Aside0.mk (keep_far (p := ⟨g5, 1, none⟩) HK6.out (by show w.heap.size ≤ g5; omega) (.string q.1))
            have G5 := Aside0.mk (blk_put F5.out 1 (.string q.1) rfl)
            have G4 := Aside0.mk (blk_far (p := ⟨g5, 1, none⟩) F4.out (by show g4 ≠ g5; omega) (.string q.1))
            clear HI6 HB6 HK6 F4 F5 y1 f1
            generalize w6.setCell ⟨g5, 1, none⟩ (.string q.1) = w7 at HI7 HB7 HK7 G4 G5 ⊢
            have x0 := (blk_cell G5.out 0).trans (rfl : _ = some (Value.string nm))
            have x1 := (blk_cell G5.out 1).trans (rfl : _ = some (Value.string q.1))
            have x2 := (blk_cell G5.out 2).trans (rfl : _ = some (Value.bool false))
            have z0 := (blk_cell G4.out 0).trans (rfl : _ = some (Value.string ⟨#[]⟩))
            have z1 := (blk_cell G4.out 1).trans (rfl : _ = some (Value.string ⟨#[]⟩))
            have z2 := (blk_cell G4.out 2).trans (rfl : _ = some (Value.bool false))
            have f0 := blk_frozen G4.out 0
            have f1 := blk_frozen G4.out 1
            have f2 := blk_frozen G4.out 2
            have Z := Aside0.mk (show (((w7.setCell ⟨g4, 0, none⟩ (.string nm)).setCell ⟨g4, 1, none⟩ (.string q.1)).setCell ⟨g4, 2, none⟩ (.bool false)).heap[g4]? = some (.cells #[.string nm, .string q.1, .bool false] 26 (0, 0)) from blk_put (blk_put (blk_put G4.out 0 (.string nm) rfl) 1 (.string q.1) rfl) 2 (.bool false) rfl)
            go_wp2
            refine bodyPost_ret (results_cell_row rfl _ _ g4 26 #[.string nm, .string q.1, .bool false] (0, 0) _ rfl Z.out Tryd.underlying26 rfl (by kernel_rfl)) rfl ?_
            exact ⟨below_set (below_set (below_set HB7.out l4) l4) l4, keep_far (keep_far (keep_far HK7.out (by show w.heap.size ≤ g4; omega) _) (by show w.heap.size ≤ g4; omega) _) (by show w.heap.size ≤ g4; omega) _, rfl, blk_far (p := ⟨g4, 2, none⟩) (blk_far (p := ⟨g4, 1, none⟩) (blk_far (p := ⟨g4, 0, none⟩) HI7.out (by show g ≠ g4; omega) _) (by show g ≠ g4; omega) _) (by show g ≠ g4; omega) _⟩
      · rw [if_neg hc] at h2
        exact absurd h2 (by simp)
    · have q0 : decide (0 < n) = false := decide_eq_false hn
      have h2 := A2.out
      rw [if_neg hn] at h2
      obtain ⟨u, h5, h6⟩ := Option.bind_eq_some_iff.mp h2
      have A5 := Aside0.mk h5
      clear A2 h2 h5 hn
      cases u with
      | error e3 =>
        simp only at h6
        obtain rfl := Option.some.inj h6
        clear h6
        go_wp2_with (first | (go_at_call 64; (with_reducible refine (up_number_ok k g gt s a bits n next w0 _ HI2.out hg HB2.out A1.out).mono ?_); rintro en w3 ⟨rfl, hi, hb, hk⟩; have HI3 := Aside0.mk hi; have HB3 := Aside0.mk hb; have HK3 := Aside0.mk (tb_keep2 HK2.out hk); have C4 := Aside0.mk ((hk.2 g4 (blk_lt B4.out) n4 (by simp)).trans B4.out); have C5 := Aside0.mk ((hk.2 g5 (blk_lt B5.out) n5 (by simp)).trans B5.out); have HT3 := Aside0.mk (HT2.out.otherT (TyOf.mk HI2.out) hk (Ne.symm hne) (by decide)); clear hi hb hk) | (go_at_call 76; (with_reducible refine (up_text k g gt s next (.error e3) w0 _ HI3.out hg HB3.out A5.out).mono ?_); rintro en w4 ⟨hb, hk, rfl⟩; have HB4 := Aside0.mk hb; have HK4 := Aside0.mk (tb_keep2 HK3.out hk); clear hb hk))
        exact ⟨rfl, HB4.out, HK4.out, rfl⟩
      | ok p =>
          simp only at h6
          obtain ⟨v, h7, h8⟩ := Option.bind_eq_some_iff.mp h6
          have A5b := Aside0.mk h7
          have A6 := Aside0.mk h8
          clear h6 h7 h8
          go_upto_region 6 with (first | (go_at_call 64; (with_reducible refine (up_number_ok k g gt s a bits n next w0 _ HI2.out hg HB2.out A1.out).mono ?_); rintro en w3 ⟨rfl, hi, hb, hk⟩; have HI3 := Aside0.mk hi; have HB3 := Aside0.mk hb; have HK3 := Aside0.mk (tb_keep2 HK2.out hk); have C4 := Aside0.mk ((hk.2 g4 (blk_lt B4.out) n4 (by simp)).trans B4.out); have C5 := Aside0.mk ((hk.2 g5 (blk_lt B5.out) n5 (by simp)).trans B5.out); have HT3 := Aside0.mk (HT2.out.otherT (TyOf.mk HI2.out) hk (Ne.symm hne) (by decide)); clear hi hb hk) | (go_at_call 76; (with_reducible refine (up_text k g gt s next (.ok p) w0 _ HI3.out hg HB3.out A5.out).mono ?_); rintro en w4 ⟨hb, hk, rfl, hi⟩; have HI4 := Aside0.mk hi; have HB4 := Aside0.mk hb; have HK4 := Aside0.mk (tb_keep2 HK3.out hk); have D4 := Aside0.mk ((hk.2 g4 (blk_lt C4.out) n4 (by simp)).trans C4.out); have D5 := Aside0.mk ((hk.2 g5 (blk_lt C5.out) n5 (by simp)).trans C5.out); clear hb hk hi; have y0 := (blk_cell D5.out 0).trans (rfl : _ = some (Value.string ⟨#[]⟩)); have f0 := blk_frozen D5.out 0))
          clear A5
          have A5 := A5b
          clear A5b
          have HI5 := Aside0.mk (show IsB (w4.setCell ⟨g5, 0, none⟩ (.string p.1)) g gt s p.2 from blk_far HI4.out (by show g ≠ g5; omega) _)
          have HB5 := Aside0.mk (below_set (g := g5) (j := 0) (v := .string p.1) HB4.out l5)
          have HK5 := Aside0.mk (keep_far (p := ⟨g5, 0, none⟩) HK4.out (by show w.heap.size ≤ g5; omega) (.string p.1))
          have E5 := Aside0.mk (blk_put D5.out 0 (.string p.1) rfl)
          have E4 := Aside0.mk (blk_far (p := ⟨g5, 0, none⟩) D4.out (by show g4 ≠ g5; omega) (.string p.1))
          clear HI4 HB4 HK4 D4 D5 y0 f0
          generalize w4.setCell ⟨g5, 0, none⟩ (.string p.1) = w5 at HI5 HB5 HK5 E4 E5 ⊢
          cases v with
          | error e3 =>
            have h6 := A6.out
            simp only at h6
            obtain rfl := Option.some.inj h6
            clear A6 h6
            go_wp2_with (first | (go_at_call 76; (with_reducible refine (up_text k g gt s p.2 (.error e3) w0 _ HI5.out hg HB5.out A5.out).mono ?_); rintro en w6 ⟨hb, hk, rfl⟩; have HB6 := Aside0.mk hb; have HK6 := Aside0.mk (tb_keep2 HK5.out hk); clear hb hk))
            exact ⟨rfl, HB6.out, HK6.out, rfl⟩
          | ok q =>
            have h6 := A6.out
            simp only at h6
            obtain rfl := Option.some.inj h6
            clear A6 h6
            go_upto_region 7 with (first | (go_at_call 76; (with_reducible refine (up_text k g gt s p.2 (.ok q) w0 _ HI5.out hg HB5.out A5.out).mono ?_); rintro en w6 ⟨hb, hk, rfl, hi⟩; have HI6 := Aside0.mk hi; have HB6 := Aside0.mk hb; have HK6 := Aside0.mk (tb_keep2 HK5.out hk); have F4 := Aside0.mk ((hk.2 g4 (blk_lt E4.out) n4 (by simp)).trans E4.out); have F5 := Aside0.mk ((hk.2 g5 (blk_lt E5.out) n5 (by simp)).trans E5.out); clear hb hk hi; have y1 := (blk_cell F5.out 1).trans (rfl : _ = some (Value.string ⟨#[]⟩)); have f1 := blk_frozen F5.out 1))
            have HI7 := Aside0.mk (show IsB (w6.setCell ⟨g5, 1, none⟩ (.string q.1)) g gt s q.2 from blk_far HI6.out (by show g ≠ g5; omega) _)
            have HB7 := Aside0.mk (below_set (g := g5) (j := 1) (v := .string q.1) HB6.out l5)
            have HK7 := Aside0.mk (keep_far (p := ⟨g5, 1, none⟩) HK6.out (by show w.heap.size ≤ g5; omega) (.string q.1))
            have G5 := Aside0.mk (blk_put F5.out 1 (.string q.1) rfl)
            have G4 := Aside0.mk (blk_far (p := ⟨g5, 1, none⟩) F4.out (by show g4 ≠ g5; omega) (.string q.1))
            clear HI6 HB6 HK6 F4 F5 y1 f1
            generalize w6.setCell ⟨g5, 1, none⟩ (.string q.1) = w7 at HI7 HB7 HK7 G4 G5 ⊢
            have x0 := (blk_cell G5.out 0).trans (rfl : _ = some (Value.string p.1))
            have x1 := (blk_cell G5.out 1).trans (rfl : _ = some (Value.string q.1))
            have x2 := (blk_cell G5.out 2).trans (rfl : _ = some (Value.bool false))
            have z0 := (blk_cell G4.out 0).trans (rfl : _ = some (Value.string ⟨#[]⟩))
            have z1 := (blk_cell G4.out 1).trans (rfl : _ = some (Value.string ⟨#[]⟩))
            have z2 := (blk_cell G4.out 2).trans (rfl : _ = some (Value.bool false))
            have f0 := blk_frozen G4.out 0
            have f1 := blk_frozen G4.out 1
            have f2 := blk_frozen G4.out 2
            have Z := Aside0.mk (show (((w7.setCell ⟨g4, 0, none⟩ (.string p.1)).setCell ⟨g4, 1, none⟩ (.string q.1)).setCell ⟨g4, 2, none⟩ (.bool false)).heap[g4]? = some (.cells #[.string p.1, .string q.1, .bool false] 26 (0, 0)) from blk_put (blk_put (blk_put G4.out 0 (.string p.1) rfl) 1 (.string q.1) rfl) 2 (.bool false) rfl)
            go_wp2
            refine bodyPost_ret (results_cell_row rfl _ _ g4 26 #[.string p.1, .string q.1, .bool false] (0, 0) _ rfl Z.out Tryd.underlying26 rfl (by kernel_rfl)) rfl ?_
            exact ⟨below_set (below_set (below_set HB7.out l4) l4) l4, keep_far (keep_far (keep_far HK7.out (by show w.heap.size ≤ g4; omega) _) (by show w.heap.size ≤ g4; omega) _) (by show w.heap.size ≤ g4; omega) _, rfl, blk_far (p := ⟨g4, 2, none⟩) (blk_far (p := ⟨g4, 1, none⟩) (blk_far (p := ⟨g4, 0, none⟩) HI7.out (by show g ≠ g4; omega) _) (by show g ≠ g4; omega) _) (by show g ≠ g4; omega) _⟩
  · rw [if_neg he] at h2
    obtain rfl := Option.some.inj h2
    clear h2 A2
    go_wp2_with (first | (go_at_call 64; (with_reducible refine (up_number_no k g gt s a bits n next e w0 _ HI2.out hg HB2.out A1.out he).mono ?_); rintro en w3 ⟨rfl, hi, hb, hk⟩; have HB3 := Aside0.mk hb; have HK3 := Aside0.mk (tb_keep2 HK2.out hk); clear hi hb hk))
    exact ⟨rfl, HB3.out, HK3.out, rfl⟩
end Go.Proofs.YtfkdocmhbmameaaDoor.Mine
namespace Go.Proofs.YtfkdocmhbmameaaDoor.Mine
open Go.RowKit Go.Proofs Go.Proofs.YtfkdocmhbmameaaDoorW.PrintWords Go.Proofs.YtfkdocmhbmameaaDoorW.PrintLast Go.Proofs.YtfkdocmhbmameaaDoorW.PrintMore
attribute [local go_sem] max2_int min2_int max_two min_two max_three min_three max_four min_four
set_option linter.unusedVariables false
set_option linter.unusedSimpArgs false
def upRes (k : Nat) (t : TB) (s : ByteArray) (a : Int) (any : Bool) : Option (Except Int (TB × Int)) :=
  (prefix_Get.f k s a 5).bind fun p => if p.2.2 = 0 then (if any = true then some (.error 93) else if p.1 > 4096 then some (.error 93) else ((table_Table_Resize.f t (wrap64 p.1)).map fun r => .ok (r, p.2.1))) else some (.error p.2.2)
def PostR (w0 : World) (g gt : Nat) (t : TB) (s : ByteArray) (r : Except Int (TB × Int)) (en : Ending) (w' : World) : Prop := match r with
  | .error e => en = UP e ∧ IsS77 w0 w' gt t
  | .ok p => en = .returned (.tuple #[]) ∧ IsB w' g gt s p.2 ∧ IsS77 w0 w' gt p.1
theorem keep_two {w w1 w2 : World} {g gt : Nat} (h : KeepBut w w1 g none) (k : KeepBut w1 w2 gt none) : KeepBut w w2 g (some gt) :=
  ⟨Nat.le_trans h.1 k.1, fun i hi hg hr => (k.2 i (Nat.lt_of_lt_of_le hi h.1) (fun q => hr (congrArg some q)) (by simp)).trans (h.2 i hi hg (by simp))⟩
theorem keep_one {w w1 : World} {g : Nat} {r : Option Nat} (h : KeepBut w w1 g none) : KeepBut w w1 g r := ⟨h.1, fun i hi hg _ => h.2 i hi hg (by simp)⟩
set_option maxHeartbeats 4000000 in
set_option maxRecDepth 100000 in
theorem up_resize (k g gt : Nat) (t : TB) (s : ByteArray) (a : Int) (any : Bool) (r : Except Int (TB × Int)) (w0 w : World) (hI : IsB w g gt s a) (hT : IsS77 w0 w gt t) (hne : g ≠ gt) (hg : w0.heap.size ≤ g) (hB : Below w0.heap.size w0 w) (h : upRes k t s a any = some r) :
    Calls Tryd.prog 62 #[.pointer (some ⟨g, 0, none⟩), .bool any] w fun en w' => Below w0.heap.size w0 w' ∧ KeepBut w w' g (some gt) ∧ PostR w0 g gt t s r en w' := by
  unfold upRes at h
  obtain ⟨⟨n, next, e⟩, h1, h2⟩ := Option.bind_eq_some_iff.mp h
  simp only at h2
  have A1 := Aside0.mk h1
  have HI := Aside0.mk hI
  have HT := Aside0.mk hT
  have HB := Aside0.mk hB
  clear h h1 hI hT hB
  by_cases he : e = 0
  · subst he
    rw [if_pos rfl] at h2
    cases any with
    | true =>
      rw [if_pos rfl] at h2
      obtain rfl := Option.some.inj h2
      clear h2
      go_enter Tryd.func62, Tryd.ntmps62
      go_wp2_with (first | (go_at_call 64; (with_reducible refine (up_number_ok k g gt s a 5 n next w0 _ HI.out hg HB.out A1.out).mono ?_); rintro en w3 ⟨rfl, hi, hb, hk⟩; have HB3 := Aside0.mk hb; have HK3 := Aside0.mk hk; clear hi hb hk))
      exact ⟨rfl, HB3.out, keep_one HK3.out, rfl, HT.out.otherT (TyOf.mk HI.out) HK3.out (Ne.symm hne) (by decide)⟩
    | false =>
      rw [if_neg (by simp)] at h2
      by_cases hn : n > 4096
      · rw [if_pos hn] at h2
        obtain rfl := Option.some.inj h2
        clear h2
        go_enter Tryd.func62, Tryd.ntmps62
        go_wp2_with (first | (go_at_call 64; (with_reducible refine (up_number_ok k g gt s a 5 n next w0 _ HI.out hg HB.out A1.out).mono ?_); rintro en w3 ⟨rfl, hi, hb, hk⟩; have HB3 := Aside0.mk hb; have HK3 := Aside0.mk hk; clear hi hb hk))
        all_goals first | omega | skip
        exact ⟨rfl, HB3.out, keep_one HK3.out, rfl, HT.out.otherT (TyOf.mk HI.out) HK3.out (Ne.symm hne) (by decide)⟩
      · rw [if_neg hn] at h2
        obtain ⟨t2, h3, rfl⟩ := Option.map_eq_some_iff.mp h2
        have A2 := Aside0.mk h3
        clear h2 h3
        go_enter Tryd.func62, Tryd.ntmps62
        go_wp2_with (first | (go_at_call 64; (with_reducible refine (up_number_ok k g gt s a 5 n next w0 _ HI.out hg HB.out A1.out).mono ?_); rintro en w3 ⟨rfl, hi, hb, hk⟩; have HI3 := Aside0.mk hi; have HB3 := Aside0.mk hb; have HK3 := Aside0.mk hk; have HT3 := Aside0.mk (HT.out.otherT (TyOf.mk HI.out) hk (Ne.symm hne) (by decide)); clear hi hb hk; have c0 := HI3.out.c0) | (go_at_call 39; (with_reducible refine (table_Table_Resize.calls gt t (wrap64 n) t2 w0 _ HT3.out HB3.out A2.out).mono ?_); rintro en w4 ⟨rfl, hi, hb, hk⟩; have HT4 := Aside0.mk hi; have HB4 := Aside0.mk hb; have HK4 := Aside0.mk (keep_two HK3.out hk); have HI4 := Aside0.mk (HI3.out.keep hk hne); clear hi hb hk))
        all_goals first | omega | skip
        go_end0
        exact ⟨HB4.out, HK4.out, rfl, HI4.out, HT4.out⟩
  · rw [if_neg he] at h2
    obtain rfl := Option.some.inj h2
    clear h2
    go_enter Tryd.func62, Tryd.ntmps62
    go_wp2_with (first | (go_at_call 64; (with_reducible refine (up_number_no k g gt s a 5 n next e w0 _ HI.out hg HB.out A1.out he).mono ?_); rintro en w3 ⟨rfl, hi, hb, hk⟩; have HB3 := Aside0.mk hb; have HK3 := Aside0.mk hk; clear hi hb hk))
    exact ⟨rfl, HB3.out, keep_one HK3.out, rfl, HT.out.otherT (TyOf.mk HI.out) HK3.out (Ne.symm hne) (by decide)⟩
end Go.Proofs.YtfkdocmhbmameaaDoor.Mine
namespace Go.Proofs.YtfkdocmhbmameaaDoor.Mine
open Go.RowKit Go.Proofs.YtfkdocmhbmameaaDoorW.PrintWords Go.Proofs.YtfkdocmhbmameaaDoorW.PrintLast Go.Proofs.YtfkdocmhbmameaaDoorW.PrintMore
attribute [local go_sem] max2_int min2_int max_two min_two max_three min_three max_four min_four
set_option linter.unusedVariables false
set_option linter.unusedSimpArgs false
theorem eqA26 (d : Nat) (w : World) (x0 y0 : ByteArray) (x1 y1 : ByteArray) (x2 y2 : Bool) :
  (Op.equalIn (d + 2) 26 (.agg #[.string x0, .string x1, .bool x2]) (.agg #[.string y0, .string y1, .bool y2])).run Tryd.prog w = .ok (x0.toList == y0.toList && (x1.toList == y1.toList && (x2 == y2))) w := by
 refine eqA_of Tryd.underlying26 (by kernel_rfl) ?_
 refine eqf_cons (by rfl) (by go_simp; rfl) (by go_simp; rfl) (by go_simp) ?_
 refine eqf_cons (by rfl) (by go_simp; rfl) (by go_simp; rfl) (by go_simp) ?_
 exact eqf_last (by rfl) (by go_simp; rfl) (by go_simp; rfl) (by go_simp)
end Go.Proofs.YtfkdocmhbmameaaDoor.Mine
