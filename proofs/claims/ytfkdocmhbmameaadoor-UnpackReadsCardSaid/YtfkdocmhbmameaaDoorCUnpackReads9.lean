/- The walks and the plain laws that the row comes to: merged out of this repo's texts. -/
import Derived.Test.YtfkdocmhbmameaaDoorProg
import Derived.Below
import Derived.Deep.Draws
import Derived.Deep.AppendLies
import Derived.Maps.AppendAt
import Derived.OwnWalk
import Derived.Laws.BytesArg
import Derived.Laws.MakeOwn
import Derived.Laws.OwnMore
import Derived.Deep.OwnRows
import Derived.Tactics
import Derived.Lib.ConvBytes
import Derived.Laws.Slices
import Derived.WalkKit
import Derived.KernelRfl
import Derived.RowKit3
import Derived.Deep.LoopGhost
import Derived.Deep.QuietTactic
import Derived.BigQuiet
import Derived.WideLaws
import Derived.Deep.DeepCutAuto
import Derived.Deep.CutBlock
import Derived.Deep.RegionHeld3
import Derived.Laws.Rows
import Derived.Lib.AppendStr
import Derived.ArgAppend
import Derived.Laws.IdiomCopy
import Derived.RowKit
import Derived.OrdersHeld
import Derived.Laws.BitsLemmas
import Derived.Laws.StructEq
import Derived.Laws.CopyOwn
import Derived.SizedLaws
import Derived.ChangeSlices
import Derived.Deep.Slices
import Derived.Lib.SmallJoins
import Derived.Lib.OthersKept
import Derived.Lib.AppendZerosOnto
import Derived.WalkSpells
import Derived.Shelf.Utf8.RuneCount
import Derived.Shelf.Strings.Search1
import Derived.Shelf.Strings.Search2
import Derived.Shelf.Strings.Search3
import Derived.Shelf.Strings.Cut
import Derived.Shelf.Strings.Count
import Derived.Shelf.LaysM
import Derived.Shelf.Strings.Shaped
import Derived.Shelf.Strings.Split
import Derived.Shelf.Strings.SplitShaped
import Derived.Shelf.Unicode.Decode
import Derived.Shelf.Strings.RuneCount
import Derived.Shelf.Strings.Explode
import Derived.Shelf.Unicode.DecodeSlow
import Derived.Shelf.Unicode.DecodeAny
import Derived.Test.YtfkdocmhbmameaaDoorCUnpackReads1
import Derived.Test.YtfkdocmhbmameaaDoorCUnpackReads2
import Derived.Test.YtfkdocmhbmameaaDoorCUnpackReads3
import Derived.Test.YtfkdocmhbmameaaDoorCUnpackReads4
import Derived.Test.YtfkdocmhbmameaaDoorCUnpackReads5
import Derived.Test.YtfkdocmhbmameaaDoorCUnpackReads6
import Derived.Test.YtfkdocmhbmameaaDoorCUnpackReads7
import Derived.Test.YtfkdocmhbmameaaDoorCUnpackReads8
namespace Go.Proofs.YtfkdocmhbmameaaDoor.Mine
open Go.RowKit Go.Proofs Go.Proofs.YtfkdocmhbmameaaDoorW.PrintWords Go.Proofs.YtfkdocmhbmameaaDoorW.PrintLast Go.Proofs.YtfkdocmhbmameaaDoorW.PrintMore
attribute [local go_sem] max2_int min2_int max_two min_two max_three min_three max_four min_four
set_option linter.unusedVariables false
set_option linter.unusedSimpArgs false
theorem IsS77.mk_ {w0 w w' : World} {g : Nat} {t : TB} {most size : Int} {l : List S103} (h : IsS77 w0 w g t) (hI : IsT w0 w' g most size l t.fx) (hk : KeepBut w w' g none) (h3 : w'.cell? ⟨g, 3, none⟩ = w.cell? ⟨g, 3, none⟩) {v : Value} (hv : w'.cell? ⟨g, 2, none⟩ = some v) (ht : TyV w' v) : IsS77 w0 w' g ⟨most, size, l, t.fx⟩ := by
  refine ⟨hI, fun u hu => ?_, fun u hu => ?_⟩
  · obtain rfl := Option.some.inj (hv.symm.trans hu)
    exact ht
  · have h4 := h.2.2 u (h3.symm.trans hu)
    intro ad n c e hn
    have h5 := h4 ad n c e hn
    exact h5.keep hk (fun he => (h5.ne h.ty (by decide)) he)
theorem IsS77.of {w0 w : World} {g : Nat} {most size : Int} {l fx : List S103} (h : IsT w0 w g most size l fx) (h2 : ∀ v, w.cell? ⟨g, 2, none⟩ = some v → TyV w v) (h3 : ∀ v, w.cell? ⟨g, 3, none⟩ = some v → TyV w v) : IsS77 w0 w g ⟨most, size, l, fx⟩ := ⟨h, h2, h3⟩
def table_Table_Most.f (s : TB) : Option Int := some s.most
theorem table_Table_Most.calls {w1 : World} (g : Nat) (s0_0 : TB) (r : Int) (w : World) (hI : IsS77 w1 w g s0_0) (h : table_Table_Most.f s0_0 = some r) :
    Calls Tryd.prog 30 #[.pointer (some ⟨g, 0, none⟩)] w fun e w' => e = .returned (.int .i64 r) ∧ Below w.heap.size w w' := by
  obtain rfl := Option.some.inj h
  refine (tb_most g _ _ _ _ w1 w hI.1).mono ?_
  rintro e w' ⟨rfl, hb⟩
  exact ⟨rfl, hb⟩
def table_Table_Size.f (s : TB) : Option Int := some s.size
theorem table_Table_Size.calls {w1 : World} (g : Nat) (s0_0 : TB) (r : Int) (w : World) (hI : IsS77 w1 w g s0_0) (h : table_Table_Size.f s0_0 = some r) :
    Calls Tryd.prog 14 #[.pointer (some ⟨g, 0, none⟩)] w fun e w' => e = .returned (.int .i64 r) ∧ Below w.heap.size w w' := by
  obtain rfl := Option.some.inj h
  refine (tb_getsize g _ _ _ _ w1 w hI.1).mono ?_
  rintro e w' ⟨rfl, hb⟩
  exact ⟨rfl, hb⟩
def table_Table_Len.f (s : TB) : Option Int := some (s.l.length : Int)
theorem table_Table_Len.calls {w1 : World} (g : Nat) (s0_0 : TB) (r : Int) (w : World) (hI : IsS77 w1 w g s0_0) (h : table_Table_Len.f s0_0 = some r) :
    Calls Tryd.prog 31 #[.pointer (some ⟨g, 0, none⟩)] w fun e w' => e = .returned (.int .i64 r) ∧ Below w.heap.size w w' := by
  obtain rfl := Option.some.inj h
  refine (tb_getlen g _ _ _ _ w1 w hI.1).mono ?_
  rintro e w' ⟨rfl, hb⟩
  exact ⟨rfl, hb⟩
def table_Table_At.f (s : TB) (n : Int) : Option (ByteArray × ByteArray × Bool) :=
  if n ≤ 9223372036854775807 ∧ s.l.length < 4398046511104 ∧ s.fx.length < 4398046511104 then some ((tbAt s.fx s.l n).1, (tbAt s.fx s.l n).2.1, (tbAt s.fx s.l n).2.2) else none
theorem table_Table_At.calls {w1 : World} (g : Nat) (s0_0 : TB) (a1 : Int) (r1 : ByteArray) (r2 : ByteArray) (r3 : Bool) (w : World) (hI : IsS77 w1 w g s0_0) (h : table_Table_At.f s0_0 a1 = some (r1, r2, r3)) :
    Calls Tryd.prog 33 #[.pointer (some ⟨g, 0, none⟩), .int .i64 a1] w fun e w' => e = .returned (.tuple #[.string r1, .string r2, .bool r3]) ∧ Below w.heap.size w w' := by
  unfold table_Table_At.f at h
  split at h
  · rename_i hc
    simp only [Option.some.injEq, Prod.mk.injEq] at h
    obtain ⟨rfl, rfl, rfl⟩ := h
    refine (tb_at14 g _ _ a1 _ _ w1 w hI.1 hc.2.1 hc.2.2 hc.1).mono ?_
    rintro e w' ⟨rfl, hb⟩
    exact ⟨rfl, hb⟩
  · exact absurd h (by simp)
def table_Table_Add.f (s : TB) (nm vl : ByteArray) : Option TB :=
  if s.l.length < 4398046511103 then some ⟨s.most, (tbAdd s.most s.size s.l ⟨nm, vl⟩).1, (tbAdd s.most s.size s.l ⟨nm, vl⟩).2, s.fx⟩ else none
theorem table_Table_Add.calls (g : Nat) (s0_0 : TB) (a1 : ByteArray) (a2 : ByteArray) (r : TB) (w0 w : World) (hI : IsS77 w0 w g s0_0) (hB : Below w0.heap.size w0 w) (h : table_Table_Add.f s0_0 a1 a2 = some r) :
    Calls Tryd.prog 55 #[.pointer (some ⟨g, 0, none⟩), .string a1, .string a2] w fun e w' => e = .returned (.tuple #[]) ∧ IsS77 w0 w' g r ∧ Below w0.heap.size w0 w' ∧ KeepBut w w' g none := by
  unfold table_Table_Add.f at h
  split at h
  · rename_i hc
    obtain rfl := Option.some.inj h
    refine (tb_add g _ _ _ _ ⟨a1, a2⟩ w0 w hI.1 hB hc).mono ?_
    rintro e w' ⟨rfl, h1, h2, h3, h4, v, h5, h6⟩
    exact ⟨rfl, hI.mk_ h1 h3 h4 h5 h6, h2, h3⟩
  · exact absurd h (by simp)
def table_Table_Resize.f (s : TB) (n : Int) : Option TB :=
  if s.l.length < 4398046511104 then some ⟨mx n 0, (tbFit (wrap64 (mx n 0 - 0)) s.size s.l).1, (tbFit (wrap64 (mx n 0 - 0)) s.size s.l).2, s.fx⟩ else none
theorem table_Table_Resize.calls (g : Nat) (s0_0 : TB) (a1 : Int) (r : TB) (w0 w : World) (hI : IsS77 w0 w g s0_0) (hB : Below w0.heap.size w0 w) (h : table_Table_Resize.f s0_0 a1 = some r) :
    Calls Tryd.prog 39 #[.pointer (some ⟨g, 0, none⟩), .int .i64 a1] w fun e w' => e = .returned (.tuple #[]) ∧ IsS77 w0 w' g r ∧ Below w0.heap.size w0 w' ∧ KeepBut w w' g none := by
  unfold table_Table_Resize.f at h
  split at h
  · rename_i hc
    obtain rfl := Option.some.inj h
    refine (tb_resize g _ _ a1 _ _ w0 w hI.1 hB hc).mono ?_
    rintro e w' ⟨rfl, h1, h2, h3, h4, v, h5, h6⟩
    exact ⟨rfl, hI.mk_ h1 h3 h4 h5 h6, h2, h3⟩
  · exact absurd h (by simp)
def table_Table_Copy.f (s : TB) : Option TB := if s.l.length < 4398046511104 then some s else none
theorem table_Table_Copy.calls {w1 : World} (g : Nat) (s0_0 : TB) (r : TB) (w0 w : World) (hI : IsS77 w1 w g s0_0) (hB : Below w0.heap.size w0 w) (h : table_Table_Copy.f s0_0 = some r) :
    Calls Tryd.prog 37 #[.pointer (some ⟨g, 0, none⟩)] w fun e w' => ∃ g_ : Nat, e = .returned (.pointer (some ⟨g_, 0, none⟩)) ∧ IsS77 w0 w' g_ r ∧ Below w0.heap.size w0 w' ∧ Below w.heap.size w w' := by
  unfold table_Table_Copy.f at h
  split at h
  · rename_i hc
    obtain rfl := Option.some.inj h
    refine (tb_copy g _ _ _ _ w1 w hI.1 hc).mono ?_
    rintro e w' ⟨g2, rfl, hg, h1, h2, h3, v, h4, h5⟩
    refine ⟨g2, rfl, ⟨?_, fun u hu => ?_, fun u hu => ?_⟩, below_then hB hB.size h2, h2⟩
    · obtain ⟨A, c, B, d, k1, k2, k3⟩ := h1
      exact ⟨A, c, B, d, k1, Nat.le_trans hB.size hg, k3⟩
    · obtain rfl := Option.some.inj (h4.symm.trans hu)
      exact h5
    · have h6 := hI.2.2 u (h3.symm.trans hu)
      exact fun ad n c e hn => (h6 ad n c e hn).below h2
  · exact absurd h (by simp)
end Go.Proofs.YtfkdocmhbmameaaDoor.Mine
namespace Go.Proofs.YtfkdocmhbmameaaDoor.Mine
open Go.RowKit Go.Proofs Go.Proofs.YtfkdocmhbmameaaDoorW.PrintWords Go.Proofs.YtfkdocmhbmameaaDoorW.PrintLast Go.Proofs.YtfkdocmhbmameaaDoorW.PrintMore
attribute [local go_sem] max2_int min2_int max_two min_two max_three min_three max_four min_four
set_option linter.unusedVariables false
set_option linter.unusedSimpArgs false
def upLit (k : Nat) (t : TB) (s : ByteArray) (a bits : Int) : Option (Except Int (ByteArray × ByteArray × Int)) :=
  (prefix_Get.f k s a bits).bind fun p => if p.2.2 = 0 then (if p.1 > 0 then (if p.1 ≤ 9223372036854775807 ∧ t.l.length < 4398046511104 ∧ t.fx.length < 4398046511104 then (if (tbAt t.fx t.l p.1).2.2 = true then ((upText k s p.2.1).bind fun v => match v with | .error e => some (.error e) | .ok q => some (.ok ((tbAt t.fx t.l p.1).1, q.1, q.2))) else some (.error 92)) else none) else ((upText k s p.2.1).bind fun u => match u with | .error e => some (.error e) | .ok q => ((upText k s q.2).bind fun v => match v with | .error e => some (.error e) | .ok q2 => some (.ok (q.1, q2.1, q2.2))))) else some (.error p.2.2)
def litZ : Obj := .cells #[.string ⟨#[]⟩, .string ⟨#[]⟩, .bool false] 26
def PostL (g gt : Nat) (s : ByteArray) (r : Except Int (ByteArray × ByteArray × Int)) (en : Ending) (w' : World) : Prop := match r with
  | .error e => en = UP e
  | .ok p => en = .returned (.agg #[.string p.1, .string p.2.1, .bool false]) ∧ IsB w' g gt s p.2.2
set_option maxHeartbeats 4000000 in
set_option maxRecDepth 100000 in
theorem up_literal (k g gt : Nat) (t : TB) (s : ByteArray) (a bits : Int) (r : Except Int (ByteArray × ByteArray × Int)) (w0 w : World) (hI : IsB w g gt s a) (hT : IsS77 w0 w gt t) (hne : g ≠ gt) (hg : w0.heap.size ≤ g) (hB : Below w0.heap.size w0 w) (h : upLit k t s a bits = some r) :
    Calls Tryd.prog 65 #[.pointer (some ⟨g, 0, none⟩), .int .i64 bits] w fun en w' => Below w0.heap.size w0 w' ∧ KeepBut w w' g none ∧ PostL g gt s r en w' := by
  unfold upLit at h
  obtain ⟨⟨n, next, e⟩, h1, h2⟩ := Option.bind_eq_some_iff.mp h
  simp only at h2
  have A1 := Aside0.mk h1
  have A2 := Aside0.mk h2
  have HI := Aside0.mk hI
  have HT := Aside0.mk hT
  have HB := Aside0.mk hB
  have HG : g < w.heap.size := blk_lt hI
  clear h h1 h2 hI hT hB
  go_enter Tryd.func65, Tryd.ntmps65
  go_upto_region 2 with fail
  have BA := below_alloc (Below.refl w.heap.size w) litZ
  have BB := below_step BA (below_alloc (Below.refl (w.alloc litZ).heap.size (w.alloc litZ)) litZ)
  have B5 := Aside0.mk (show ((w.alloc litZ).alloc litZ).heap[w.heap.size + 1]? = some litZ by have := blk_new (w.alloc litZ) litZ; rwa [show (w.alloc litZ).heap.size = w.heap.size + 1 from Array.size_push _] at this)
  have B4 := Aside0.mk (show ((w.alloc litZ).alloc litZ).heap[w.heap.size]? = some litZ from blk_alloc (blk_new w litZ) litZ)
  have HI2 := Aside0.mk (HI.out.below BB)
  have HT2 := Aside0.mk (HT.out.below BB)
  have HB2 := Aside0.mk (below_then HB.out HB.out.size BB)
  have HK2 := Aside0.mk (KeepBut.of_below BB g none)
  have HS := Aside0.mk HB.out.size
  unfold litZ at BA BB B5 B4 HI2 HT2 HB2 HK2
  generalize ((w.alloc (.cells #[.string ⟨#[]⟩, .string ⟨#[]⟩, .bool false] 26)).alloc (.cells #[.string ⟨#[]⟩, .string ⟨#[]⟩, .bool false] 26)) = w2 at BB B5 B4 HI2 HT2 HB2 HK2 ⊢
  clear BA BB HI HT HB
  obtain ⟨g4, hg4⟩ : ∃ x, w.heap.size = x := ⟨_, rfl⟩
  obtain ⟨g5, hg5⟩ : ∃ x, w.heap.size + 1 = x := ⟨_, rfl⟩
  rw [hg5] at B5 ⊢
  rw [hg4] at B4 ⊢
  have n4 : g4 ≠ g := by omega
  have n5 : g5 ≠ g := by omega
  have l4 : w0.heap.size ≤ g4 := by have := HS.out; omega
  have l5 : w0.heap.size ≤ g5 := by omega
  have h2 := A2.out
  by_cases he : e = 0
  · subst he
    rw [if_pos rfl] at h2
    have A2 := Aside0.mk h2
    clear h2
    by_cases hn : n > 0
    · have q0 : decide (0 < n) = true := decide_eq_true hn
      have h2 := A2.out
      rw [if_pos hn] at h2
      by_cases hc : n ≤ 9223372036854775807 ∧ t.l.length < 4398046511104 ∧ t.fx.length < 4398046511104
      · rw [if_pos hc] at h2
        have HC := Aside0.mk hc
        have n0 : Aside0 (0 ≤ n) := ⟨by omega⟩
        obtain ⟨⟨nm, vl, ok⟩, hR⟩ : ∃ R, tbAt t.fx t.l n = R := ⟨_, rfl⟩
        rw [hR] at h2
        simp only at h2
        have HR := Aside0.mk hR
        clear A2 hc hR hn
        cases ok with
        | false =>
          simp only [Bool.false_eq_true, if_false] at h2
          obtain rfl := Option.some.inj h2
          clear h2
          go_wp2_with (first | (go_at_call 64; (with_reducible refine (up_number_ok k g gt s a bits n next w0 _ HI2.out hg HB2.out A1.out).mono ?_); rintro en w3 ⟨rfl, hi, hb, hk⟩; have HI3 := Aside0.mk hi; have HB3 := Aside0.mk hb; have HK3 := Aside0.mk (tb_keep2 HK2.out hk); have C4 := Aside0.mk ((hk.2 g4 (blk_lt B4.out) n4 (by simp)).trans B4.out); have C5 := Aside0.mk ((hk.2 g5 (blk_lt B5.out) n5 (by simp)).trans B5.out); have HT3 := Aside0.mk (HT2.out.otherT (TyOf.mk HI2.out) hk (Ne.symm hne) (by decide)); clear hi hb hk) | (go_at_call 63; (with_reducible refine (up_entry_no g gt s nm vl next n t w0 _ HI3.out HT3.out HC.out.2.1 HC.out.2.2 n0.out HC.out.1 HR.out).mono ?_); rintro en w4 ⟨rfl, hb⟩; have HB4 := Aside0.mk (below_then HB3.out HB3.out.size hb); have HK4 := Aside0.mk (tb_keep HK3.out hb); clear hb))
          exact ⟨rfl, HB4.out, HK4.out, rfl⟩
        | true =>
          simp only [if_true] at h2
          obtain ⟨v, h5, h6⟩ := Option.bind_eq_some_iff.mp h2
          have A5 := Aside0.mk h5
          have A6 := Aside0.mk h6
          clear h2 h5 h6
          go_upto_region 6 with (first | (go_at_call 64; (with_reducible refine (up_number_ok k g gt s a bits n next w0 _ HI2.out hg HB2.out A1.out).mono ?_); rintro en w3 ⟨rfl, hi, hb, hk⟩; have HI3 := Aside0.mk hi; have HB3 := Aside0.mk hb; have HK3 := Aside0.mk (tb_keep2 HK2.out hk); have C4 := Aside0.mk ((hk.2 g4 (blk_lt B4.out) n4 (by simp)).trans B4.out); have C5 := Aside0.mk ((hk.2 g5 (blk_lt B5.out) n5 (by simp)).trans B5.out); have HT3 := Aside0.mk (HT2.out.otherT (TyOf.mk HI2.out) hk (Ne.symm hne) (by decide)); clear hi hb hk) | (go_at_call 63; (with_reducible refine (up_entry_ok g gt s nm vl next n t w0 _ HI3.out HT3.out HC.out.2.1 HC.out.2.2 n0.out HC.out.1 HR.out).mono ?_); rintro en w4 ⟨rfl, hb⟩; have HI4 := Aside0.mk (HI3.out.below hb); have HB4 := Aside0.mk (below_then HB3.out HB3.out.size hb); have HK4 := Aside0.mk (tb_keep HK3.out hb); have D4 := Aside0.mk (blk_below C4.out hb); have D5 := Aside0.mk (blk_below C5.out hb); clear hb; have y0 := (blk_cell D5.out 0).trans (rfl : _ = some (Value.string ⟨#[]⟩)); have f0 := blk_frozen D5.out 0))
          have HI5 := Aside0.mk (show IsB (w4.setCell ⟨g5, 0, none⟩ (.string nm)) g gt s next from blk_far HI4.out (by show g ≠ g5; omega) _)
          have HB5 := Aside0.mk (below_set (g := g5) (j := 0) (v := .string nm) HB4.out l5)
          have HK5 := Aside0.mk (keep_far (p := ⟨g5, 0, none⟩) HK4.out (by show w.heap.size ≤ g5; omega) (.string nm))
          have E5 := Aside0.mk (blk_put D5.out 0 (.string nm) rfl)
          have E4 := Aside0.mk (blk_far (p := ⟨g5, 0, none⟩) D4.out (by show g4 ≠ g5; omega) (.string nm))
          clear HI4 HB4 HK4 D4 D5 y0 f0
          generalize w4.setCell ⟨g5, 0, none⟩ (.string nm) = w5 at HI5 HB5 HK5 E4 E5 ⊢
          cases v with
          | error e3 =>
            have h6 := A6.out
            simp only at h6
            obtain rfl := Option.some.inj h6
            clear A6 h6
            go_wp2_with (first | (go_at_call 76; (with_reducible refine (up_text k g gt s next (.error e3) w0 _ HI5.out hg HB5.out A5.out).mono ?_); rintro en w6 ⟨hb, hk, rfl⟩; have HB6 := Aside0.mk hb; have HK6 := Aside0.mk (tb_keep2 HK5.out hk); clear hb hk))
            exact ⟨rfl, HB6.out, HK6.out, rfl⟩
          | ok q =>
            have h6 := A6.out
            simp only at h6
            obtain rfl := Option.some.inj h6
            clear A6 h6
            go_upto_region 7 with (first | (go_at_call 76; (with_reducible refine (up_text k g gt s next (.ok q) w0 _ HI5.out hg HB5.out A5.out).mono ?_); rintro en w6 ⟨hb, hk, rfl, hi⟩; have HI6 := Aside0.mk hi; have HB6 := Aside0.mk hb; have HK6 := Aside0.mk (tb_keep2 HK5.out hk); have F4 := Aside0.mk ((hk.2 g4 (blk_lt E4.out) n4 (by simp)).trans E4.out); have F5 := Aside0.mk ((hk.2 g5 (blk_lt E5.out) n5 (by simp)).trans E5.out); clear hb hk hi; have y1 := (blk_cell F5.out 1).trans (rfl : _ = some (Value.string ⟨#[]⟩)); have f1 := blk_frozen F5.out 1))
            have HI7 := Aside0.mk (show IsB (w6.setCell ⟨g5, 1, none⟩ (.string q.1)) g gt s q.2 from blk_far HI6.out (by show g ≠ g5; omega) _)
            have HB7 := Aside0.mk (below_set (g := g5) (j := 1) (v := .string q.1) HB6.out l5)
            have HK7 := Aside0.mk (keep_far (p := ⟨g5, 1, none⟩) HK6.out (by show w.heap.size ≤ g5; omega) (.string q.1))
            have G5 := Aside0.mk (blk_put F5.out 1 (.string q.1) rfl)
            have G4 := Aside0.mk (blk_far (p := ⟨g5, 1, none⟩) F4.out (by show g4 ≠ g5; omega) (.string q.1))
            clear HI6 HB6 HK6 F4 F5 y1 f1
            generalize w6.setCell ⟨g5, 1, none⟩ (.string q.1) = w7 at HI7 HB7 HK7 G4 G5 ⊢
            have x0 := (blk_cell G5.out 0).trans (rfl : _ = some (Value.string nm))
            have x1 := (blk_cell G5.out 1).trans (rfl : _ = some (Value.string q.1))
            have x2 := (blk_cell G5.out 2).trans (rfl : _ = some (Value.bool false))
            have z0 := (blk_cell G4.out 0).trans (rfl : _ = some (Value.string ⟨#[]⟩))
            have z1 := (blk_cell G4.out 1).trans (rfl : _ = some (Value.string ⟨#[]⟩))
            have z2 := (blk_cell G4.out 2).trans (rfl : _ = some (Value.bool false))
            have f0 := blk_frozen G4.out 0
            have f1 := blk_frozen G4.out 1
            have f2 := blk_frozen G4.out 2
            have Z := Aside0.mk (show (((w7.setCell ⟨g4, 0, none⟩ (.string nm)).setCell ⟨g4, 1, none⟩ (.string q.1)).setCell ⟨g4, 2, none⟩ (.bool false)).heap[g4]? = some (.cells #[.string nm, .string q.1, .bool false] 26 (0, 0)) from blk_put (blk_put (blk_put G4.out 0 (.string nm) rfl) 1 (.string q.1) rfl) 2 (.bool false) rfl)
            go_wp2
            refine bodyPost_ret (results_cell_row rfl _ _ g4 26 #[.string nm, .string q.1, .bool false] (0, 0) _ rfl Z.out Tryd.underlying26 rfl (by kernel_rfl)) rfl ?_
            exact ⟨below_set (below_set (below_set HB7.out l4) l4) l4, keep_far (keep_far (keep_far HK7.out (by show w.heap.size ≤ g4; omega) _) (by show w.heap.size ≤ g4; omega) _) (by show w.heap.size ≤ g4; omega) _, rfl, blk_far (p := ⟨g4, 2, none⟩) (blk_far (p := ⟨g4, 1, none⟩) (blk_far (p := ⟨g4, 0, none⟩) HI7.out (by show g ≠ g4; omega) _) (by show g ≠ g4; omega) _) (by show g ≠ g4; omega) _⟩
      · rw [if_neg hc] at h2
        exact absurd h2 (by simp)
    · have q0 : decide (0 < n) = false := decide_eq_false hn
      have h2 := A2.out
      rw [if_neg hn] at h2
      obtain ⟨u, h5, h6⟩ := Option.bind_eq_some_iff.mp h2
      have A5 := Aside0.mk h5
      clear A2 h2 h5 hn
      cases u with
      | error e3 =>
        simp only at h6
        obtain rfl := Option.some.inj h6
        clear h6
        go_wp2_with (first | (go_at_call 64; (with_reducible refine (up_number_ok k g gt s a bits n next w0 _ HI2.out hg HB2.out A1.out).mono ?_); rintro en w3 ⟨rfl, hi, hb, hk⟩; have HI3 := Aside0.mk hi; have HB3 := Aside0.mk hb; have HK3 := Aside0.mk (tb_keep2 HK2.out hk); have C4 := Aside0.mk ((hk.2 g4 (blk_lt B4.out) n4 (by simp)).trans B4.out); have C5 := Aside0.mk ((hk.2 g5 (blk_lt B5.out) n5 (by simp)).trans B5.out); have HT3 := Aside0.mk (HT2.out.otherT (TyOf.mk HI2.out) hk (Ne.symm hne) (by decide)); clear hi hb hk) | (go_at_call 76; (with_reducible refine (up_text k g gt s next (.error e3) w0 _ HI3.out hg HB3.out A5.out).mono ?_); rintro en w4 ⟨hb, hk, rfl⟩; have HB4 := Aside0.mk hb; have HK4 := Aside0.mk (tb_keep2 HK3.out hk); clear hb hk))
        exact ⟨rfl, HB4.out, HK4.out, rfl⟩
      | ok p =>
          simp only at h6
          obtain ⟨v, h7, h8⟩ := Option.bind_eq_some_iff.mp h6
          have A5b := Aside0.mk h7
          have A6 := Aside0.mk h8
          clear h6 h7 h8
          go_upto_region 6 with (first | (go_at_call 64; (with_reducible refine (up_number_ok k g gt s a bits n next w0 _ HI2.out hg HB2.out A1.out).mono ?_); rintro en w3 ⟨rfl, hi, hb, hk⟩; have HI3 := Aside0.mk hi; have HB3 := Aside0.mk hb; have HK3 := Aside0.mk (tb_keep2 HK2.out hk); have C4 := Aside0.mk ((hk.2 g4 (blk_lt B4.out) n4 (by simp)).trans B4.out); have C5 := Aside0.mk ((hk.2 g5 (blk_lt B5.out) n5 (by simp)).trans B5.out); have HT3 := Aside0.mk (HT2.out.otherT (TyOf.mk HI2.out) hk (Ne.symm hne) (by decide)); clear hi hb hk) | (go_at_call 76; (with_reducible refine (up_text k g gt s next (.ok p) w0 _ HI3.out hg HB3.out A5.out).mono ?_); rintro en w4 ⟨hb, hk, rfl, hi⟩; have HI4 := Aside0.mk hi; have HB4 := Aside0.mk hb; have HK4 := Aside0.mk (tb_keep2 HK3.out hk); have D4 := Aside0.mk ((hk.2 g4 (blk_lt C4.out) n4 (by simp)).trans C4.out); have D5 := Aside0.mk ((hk.2 g5 (blk_lt C5.out) n5 (by simp)).trans C5.out); clear hb hk hi; have y0 := (blk_cell D5.out 0).trans (rfl : _ = some (Value.string ⟨#[]⟩)); have f0 := blk_frozen D5.out 0))
          clear A5
          have A5 := A5b
          clear A5b
          have HI5 := Aside0.mk (show IsB (w4.setCell ⟨g5, 0, none⟩ (.string p.1)) g gt s p.2 from blk_far HI4.out (by show g ≠ g5; omega) _)
          have HB5 := Aside0.mk (below_set (g := g5) (j := 0) (v := .string p.1) HB4.out l5)
          have HK5 := Aside0.mk (keep_far (p := ⟨g5, 0, none⟩) HK4.out (by show w.heap.size ≤ g5; omega) (.string p.1))
          have E5 := Aside0.mk (blk_put D5.out 0 (.string p.1) rfl)
          have E4 := Aside0.mk (blk_far (p := ⟨g5, 0, none⟩) D4.out (by show g4 ≠ g5; omega) (.string p.1))
          clear HI4 HB4 HK4 D4 D5 y0 f0
          generalize w4.setCell ⟨g5, 0, none⟩ (.string p.1) = w5 at HI5 HB5 HK5 E4 E5 ⊢
          cases v with
          | error e3 =>
            have h6 := A6.out
            simp only at h6
            obtain rfl := Option.some.inj h6
            clear A6 h6
            go_wp2_with (first | (go_at_call 76; (with_reducible refine (up_text k g gt s p.2 (.error e3) w0 _ HI5.out hg HB5.out A5.out).mono ?_); rintro en w6 ⟨hb, hk, rfl⟩; have HB6 := Aside0.mk hb; have HK6 := Aside0.mk (tb_keep2 HK5.out hk); clear hb hk))
            exact ⟨rfl, HB6.out, HK6.out, rfl⟩
          | ok q =>
            have h6 := A6.out
            simp only at h6
            obtain rfl := Option.some.inj h6
            clear A6 h6
            go_upto_region 7 with (first | (go_at_call 76; (with_reducible refine (up_text k g gt s p.2 (.ok q) w0 _ HI5.out hg HB5.out A5.out).mono ?_); rintro en w6 ⟨hb, hk, rfl, hi⟩; have HI6 := Aside0.mk hi; have HB6 := Aside0.mk hb; have HK6 := Aside0.mk (tb_keep2 HK5.out hk); have F4 := Aside0.mk ((hk.2 g4 (blk_lt E4.out) n4 (by simp)).trans E4.out); have F5 := Aside0.mk ((hk.2 g5 (blk_lt E5.out) n5 (by simp)).trans E5.out); clear hb hk hi; have y1 := (blk_cell F5.out 1).trans (rfl : _ = some (Value.string ⟨#[]⟩)); have f1 := blk_frozen F5.out 1))
            have HI7 := Aside0.mk (show IsB (w6.setCell ⟨g5, 1, none⟩ (.string q.1)) g gt s q.2 from blk_far HI6.out (by show g ≠ g5; omega) _)
            have HB7 := Aside0.mk (below_set (g := g5) (j := 1) (v := .string q.1) HB6.out l5)
            have HK7 := Aside0.mk (keep_far (p := ⟨g5, 1, none⟩) HK6.out (by show w.heap.size ≤ g5; omega) (.string q.1))
            have G5 := Aside0.mk (blk_put F5.out 1 (.string q.1) rfl)
            have G4 := Aside0.mk (blk_far (p := ⟨g5, 1, none⟩) F4.out (by show g4 ≠ g5; omega) (.string q.1))
            clear HI6 HB6 HK6 F4 F5 y1 f1
            generalize w6.setCell ⟨g5, 1, none⟩ (.string q.1) = w7 at HI7 HB7 HK7 G4 G5 ⊢
            have x0 := (blk_cell G5.out 0).trans (rfl : _ = some (Value.string p.1))
            have x1 := (blk_cell G5.out 1).trans (rfl : _ = some (Value.string q.1))
            have x2 := (blk_cell G5.out 2).trans (rfl : _ = some (Value.bool false))
            have z0 := (blk_cell G4.out 0).trans (rfl : _ = some (Value.string ⟨#[]⟩))
            have z1 := (blk_cell G4.out 1).trans (rfl : _ = some (Value.string ⟨#[]⟩))
            have z2 := (blk_cell G4.out 2).trans (rfl : _ = some (Value.bool false))
            have f0 := blk_frozen G4.out 0
            have f1 := blk_frozen G4.out 1
            have f2 := blk_frozen G4.out 2
            have Z := Aside0.mk (show (((w7.setCell ⟨g4, 0, none⟩ (.string p.1)).setCell ⟨g4, 1, none⟩ (.string q.1)).setCell ⟨g4, 2, none⟩ (.bool false)).heap[g4]? = some (.cells #[.string p.1, .string q.1, .bool false] 26 (0, 0)) from blk_put (blk_put (blk_put G4.out 0 (.string p.1) rfl) 1 (.string q.1) rfl) 2 (.bool false) rfl)
            go_wp2
            refine bodyPost_ret (results_cell_row rfl _ _ g4 26 #[.string p.1, .string q.1, .bool false] (0, 0) _ rfl Z.out Tryd.underlying26 rfl (by kernel_rfl)) rfl ?_
            exact ⟨below_set (below_set (below_set HB7.out l4) l4) l4, keep_far (keep_far (keep_far HK7.out (by show w.heap.size ≤ g4; omega) _) (by show w.heap.size ≤ g4; omega) _) (by show w.heap.size ≤ g4; omega) _, rfl, blk_far (p := ⟨g4, 2, none⟩) (blk_far (p := ⟨g4, 1, none⟩) (blk_far (p := ⟨g4, 0, none⟩) HI7.out (by show g ≠ g4; omega) _) (by show g ≠ g4; omega) _) (by show g ≠ g4; omega) _⟩
  · rw [if_neg he] at h2
    obtain rfl := Option.some.inj h2
    clear h2 A2
    go_wp2_with (first | (go_at_call 64; (with_reducible refine (up_number_no k g gt s a bits n next e w0 _ HI2.out hg HB2.out A1.out he).mono ?_); rintro en w3 ⟨rfl, hi, hb, hk⟩; have HB3 := Aside0.mk hb; have HK3 := Aside0.mk (tb_keep2 HK2.out hk); clear hi hb hk))
    exact ⟨rfl, HB3.out, HK3.out, rfl⟩
end Go.Proofs.YtfkdocmhbmameaaDoor.Mine
namespace Go.Proofs.YtfkdocmhbmameaaDoor.Mine
open Go.RowKit Go.Proofs Go.Proofs.YtfkdocmhbmameaaDoorW.PrintWords Go.Proofs.YtfkdocmhbmameaaDoorW.PrintLast Go.Proofs.YtfkdocmhbmameaaDoorW.PrintMore
attribute [local go_sem] max2_int min2_int max_two min_two max_three min_three max_four min_four
set_option linter.unusedVariables false
set_option linter.unusedSimpArgs false
def upRes (k : Nat) (t : TB) (s : ByteArray) (a : Int) (any : Bool) : Option (Except Int (TB × Int)) :=
  (prefix_Get.f k s a 5).bind fun p => if p.2.2 = 0 then (if any = true then some (.error 93) else if p.1 > 4096 then some (.error 93) else ((table_Table_Resize.f t (wrap64 p.1)).map fun r => .ok (r, p.2.1))) else some (.error p.2.2)
def PostR (w0 : World) (g gt : Nat) (t : TB) (s : ByteArray) (r : Except Int (TB × Int)) (en : Ending) (w' : World) : Prop := match r with
  | .error e => en = UP e ∧ IsS77 w0 w' gt t
  | .ok p => en = .returned (.tuple #[]) ∧ IsB w' g gt s p.2 ∧ IsS77 w0 w' gt p.1
theorem keep_two {w w1 w2 : World} {g gt : Nat} (h : KeepBut w w1 g none) (k : KeepBut w1 w2 gt none) : KeepBut w w2 g (some gt) :=
  ⟨Nat.le_trans h.1 k.1, fun i hi hg hr => (k.2 i (Nat.lt_of_lt_of_le hi h.1) (fun q => hr (congrArg some q)) (by simp)).trans (h.2 i hi hg (by simp))⟩
theorem keep_one {w w1 : World} {g : Nat} {r : Option Nat} (h : KeepBut w w1 g none) : KeepBut w w1 g r := ⟨h.1, fun i hi hg _ => h.2 i hi hg (by simp)⟩
set_option maxHeartbeats 4000000 in
set_option maxRecDepth 100000 in
theorem up_resize (k g gt : Nat) (t : TB) (s : ByteArray) (a : Int) (any : Bool) (r : Except Int (TB × Int)) (w0 w : World) (hI : IsB w g gt s a) (hT : IsS77 w0 w gt t) (hne : g ≠ gt) (hg : w0.heap.size ≤ g) (hB : Below w0.heap.size w0 w) (h : upRes k t s a any = some r) :
    Calls Tryd.prog 62 #[.pointer (some ⟨g, 0, none⟩), .bool any] w fun en w' => Below w0.heap.size w0 w' ∧ KeepBut w w' g (some gt) ∧ PostR w0 g gt t s r en w' := by
  unfold upRes at h
  obtain ⟨⟨n, next, e⟩, h1, h2⟩ := Option.bind_eq_some_iff.mp h
  simp only at h2
  have A1 := Aside0.mk h1
  have HI := Aside0.mk hI
  have HT := Aside0.mk hT
  have HB := Aside0.mk hB
  clear h h1 hI hT hB
  by_cases he : e = 0
  · subst he
    rw [if_pos rfl] at h2
    cases any with
    | true =>
      rw [if_pos rfl] at h2
      obtain rfl := Option.some.inj h2
      clear h2
      go_enter Tryd.func62, Tryd.ntmps62
      go_wp2_with (first | (go_at_call 64; (with_reducible refine (up_number_ok k g gt s a 5 n next w0 _ HI.out hg HB.out A1.out).mono ?_); rintro en w3 ⟨rfl, hi, hb, hk⟩; have HB3 := Aside0.mk hb; have HK3 := Aside0.mk hk; clear hi hb hk))
      exact ⟨rfl, HB3.out, keep_one HK3.out, rfl, HT.out.otherT (TyOf.mk HI.out) HK3.out (Ne.symm hne) (by decide)⟩
    | false =>
      rw [if_neg (by simp)] at h2
      by_cases hn : n > 4096
      · rw [if_pos hn] at h2
        obtain rfl := Option.some.inj h2
        clear h2
        go_enter Tryd.func62, Tryd.ntmps62
        go_wp2_with (first | (go_at_call 64; (with_reducible refine (up_number_ok k g gt s a 5 n next w0 _ HI.out hg HB.out A1.out).mono ?_); rintro en w3 ⟨rfl, hi, hb, hk⟩; have HB3 := Aside0.mk hb; have HK3 := Aside0.mk hk; clear hi hb hk))
        all_goals first | omega | skip
        exact ⟨rfl, HB3.out, keep_one HK3.out, rfl, HT.out.otherT (TyOf.mk HI.out) HK3.out (Ne.symm hne) (by decide)⟩
      · rw [if_neg hn] at h2
        obtain ⟨t2, h3, rfl⟩ := Option.map_eq_some_iff.mp h2
        have A2 := Aside0.mk h3
        clear h2 h3
        go_enter Tryd.func62, Tryd.ntmps62
        go_wp2_with (first | (go_at_call 64; (with_reducible refine (up_number_ok k g gt s a 5 n next w0 _ HI.out hg HB.out A1.out).mono ?_); rintro en w3 ⟨rfl, hi, hb, hk⟩; have HI3 := Aside0.mk hi; have HB3 := Aside0.mk hb; have HK3 := Aside0.mk hk; have HT3 := Aside0.mk (HT.out.otherT (TyOf.mk HI.out) hk (Ne.symm hne) (by decide)); clear hi hb hk; have c0 := HI3.out.c0) | (go_at_call 39; (with_reducible refine (table_Table_Resize.calls gt t (wrap64 n) t2 w0 _ HT3.out HB3.out A2.out).mono ?_); rintro en w4 ⟨rfl, hi, hb, hk⟩; have HT4 := Aside0.mk hi; have HB4 := Aside0.mk hb; have HK4 := Aside0.mk (keep_two HK3.out hk); have HI4 := Aside0.mk (HI3.out.keep hk hne); clear hi hb hk))
        all_goals first | omega | skip
        go_end0
        exact ⟨HB4.out, HK4.out, rfl, HI4.out, HT4.out⟩
  · rw [if_neg he] at h2
    obtain rfl := Option.some.inj h2
    clear h2
    go_enter Tryd.func62, Tryd.ntmps62
    go_wp2_with (first | (go_at_call 64; (with_reducible refine (up_number_no k g gt s a 5 n next e w0 _ HI.out hg HB.out A1.out he).mono ?_); rintro en w3 ⟨rfl, hi, hb, hk⟩; have HB3 := Aside0.mk hb; have HK3 := Aside0.mk hk; clear hi hb hk))
    exact ⟨rfl, HB3.out, keep_one HK3.out, rfl, HT.out.otherT (TyOf.mk HI.out) HK3.out (Ne.symm hne) (by decide)⟩
end Go.Proofs.YtfkdocmhbmameaaDoor.Mine
namespace Go.Proofs.YtfkdocmhbmameaaDoor.Mine
open Go.RowKit Go.Proofs Go.Proofs.YtfkdocmhbmameaaDoorW.PrintWords Go.Proofs.YtfkdocmhbmameaaDoorW.PrintLast Go.Proofs.YtfkdocmhbmameaaDoorW.PrintMore
attribute [local go_sem] max2_int min2_int max_two min_two max_three min_three max_four min_four
set_option linter.unusedVariables false
set_option linter.unusedSimpArgs false
structure TD where
  t : TB
  down : Bool
def IsS90 (w0 W : World) (g : Nat) (d : TD) : Prop := ∃ gt, gt + 1 = g ∧ W.heap[g]? = some (.cells #[.pointer (some ⟨gt, 0, none⟩), .bool d.down] 90 (0, 0)) ∧ IsS77 w0 W gt d.t
theorem Kd.R_keep2 {α : Type} {d : Kd α} {e : Nat} {w w1 : World} {base : Nat} {ok : Nat → Prop} {v : Value} {xs : List α} (h : d.R e w base ok v xs) {g g2 : Nat} (hk : KeepBut w w1 g (some g2)) (hok : ∀ k, ok k → k ≠ g ∧ k ≠ g2) : d.R e w1 base ok v xs := Kd.R_step h (fun k ho hlt => hk.2 k hlt (hok k ho).1 (fun e_ => (hok k ho).2 (Option.some.inj e_)))
theorem Kd.R_oldK2 {α : Type} {d : Kd α} {e : Nat} {W w1 : World} {base : Nat} {ok : Nat → Prop} {u : Value} {xs : List α} {g g2 : Nat} (hu : d.R e W base (fun k => ok k ∧ (k ≠ g ∧ k ≠ g2)) u xs) (hk : KeepBut W w1 g (some g2)) : d.R e w1 base (fun k => ok k ∧ k < W.heap.size) u xs :=
  Kd.R_mono (Kd.R_keep2 (Kd.R_bound hu) hk (fun _ h => h.1.2)) (fun _ h => ⟨h.1.1, h.2.2.1⟩)
section
variable {w0 W W1 : World} {g : Nat} {d : TD}
theorem IsS90.lt (h : IsS90 w0 W g d) : g < W.heap.size := by
  obtain ⟨gt, h1, h2, h3⟩ := h
  exact blk_lt h2
theorem IsS90.ge1 (h : IsS90 w0 W g d) : w0.heap.size ≤ g - 1 := by
  obtain ⟨gt, h1, h2, h3⟩ := h
  have := h3.ge
  omega
theorem IsS90.ge (h : IsS90 w0 W g d) : w0.heap.size ≤ g := by
  have := h.ge1
  omega
theorem IsS90.ty (h : IsS90 w0 W g d) : TyOf W g 90 := by
  obtain ⟨gt, h1, h2, h3⟩ := h
  exact ⟨_, h2⟩
theorem IsS90.tab (h : IsS90 w0 W g d) : IsS77 w0 W (g - 1) d.t := by
  obtain ⟨gt, h1, h2, h3⟩ := h
  obtain rfl : gt = g - 1 := by omega
  exact h3
theorem IsS90.pos (h : IsS90 w0 W g d) : 0 < g := by
  obtain ⟨gt, h1, h2, h3⟩ := h
  omega
theorem IsS90.blk (h : IsS90 w0 W g d) : ∃ cs, W.heap[g]? = some (.cells cs 90 (0, 0)) := h.ty
theorem IsS90.step (h : IsS90 w0 W g d) (hk : ∀ i, i < W.heap.size → i = g ∨ i = g - 1 ∨ TyOf W i 103 → W1.heap[i]? = W.heap[i]?) : IsS90 w0 W1 g d := by
  have ht := h.tab
  obtain ⟨gt, h1, h2, h3⟩ := h
  refine ⟨gt, h1, (hk g (blk_lt h2) (.inl rfl)).trans h2, h3.step (fun i hi hx => hk i hi ?_)⟩
  rcases hx with rfl | hx
  · exact .inr (.inl (by omega))
  · exact .inr (.inr hx)
theorem IsS90.below (h : IsS90 w0 W g d) (hw : Below W.heap.size W W1) : IsS90 w0 W1 g d := h.step (fun i hi _ => hw.block i hi)
theorem IsS90.alloc (h : IsS90 w0 W g d) (o : Obj) : IsS90 w0 (W.alloc o) g d := h.below (below_alloc (Below.refl _ _) o)
theorem IsS90.drewN (h : IsS90 w0 W g d) (m : Nat) : IsS90 w0 (W.drewN m) g d := h
theorem IsS90.drew (h : IsS90 w0 W g d) : IsS90 w0 W.drew g d := h
theorem IsS90.at_ {w' : World} {m : Nat} (hq : W.drewN m = w') (h : IsS90 w0 W g d) : IsS90 w0 w' g d := by subst hq; exact h
theorem IsS90.rebase {w1 : World} (h : IsS90 w1 W g d) (hs : w0.heap.size ≤ w1.heap.size) : IsS90 w0 W g d := by
  obtain ⟨gt, h1, h2, h3⟩ := h
  exact ⟨gt, h1, h2, h3.rebase hs⟩
theorem IsS90.ne_blk {a : Nat} {cs : Array Value} {u : TypeId} {fr : Nat × Nat} (h : IsS90 w0 W g d) (hb2 : W.heap[a]? = some (.cells cs u fr)) (ht : u ≠ 90 ∧ u ≠ 77) : g ≠ a := by
  obtain ⟨cs1, hb⟩ := h.blk
  rintro rfl
  rw [hb] at hb2
  injection hb2 with hb2
  injection hb2 with _ ht2
  exact ht.1 ht2.symm
theorem IsS90.ne_tab {a : Nat} {cs : Array Value} {u : TypeId} {fr : Nat × Nat} (h : IsS90 w0 W g d) (hb2 : W.heap[a]? = some (.cells cs u fr)) (ht : u ≠ 77) : some a ≠ some (g - 1) := by
  intro e
  exact h.tab.ne_blk hb2 ht (Option.some.inj e).symm
theorem IsS90.grownT {W2 : World} {α : Type} {k : Kd α} {e : Nat} {base : Nat} {ok : Nat → Prop} {v : Value} {xs : List α} (h : IsS90 w0 W1 g d) (hb : Below W.heap.size W W1) (hw : W1.grownBy W2 v.ownBlock) (ho : k.R e W base ok v xs) (ht : e ≠ 90 ∧ e ≠ 77 ∧ e ≠ 103) : IsS90 w0 W2 g d := by
  refine h.step (fun i hi hx => hw.block i hi (fun he => ?_))
  obtain ⟨cs, hc⟩ := Kd.R_typed ho i he.symm
  have hty : TyOf W1 i e := TyOf.below ⟨cs, hc⟩ hb
  rcases hx with rfl | rfl | hx
  · exact hty.ne h.ty ht.1 rfl
  · exact hty.ne h.tab.ty ht.2.1 rfl
  · exact hty.ne hx ht.2.2 rfl
theorem IsS90.farT {p : Addr} {e : TypeId} (h : IsS90 w0 W g d) (hty : TyOf W p.block e) (ht : e ≠ 90 ∧ e ≠ 77 ∧ e ≠ 103) (u : Value) : IsS90 w0 (W.setCell p u) g d := by
  refine h.step (fun i hi hx => Below.heap_setCell W p u i (fun he => ?_))
  subst he
  rcases hx with hx | hx | hx
  · exact hty.ne (hx ▸ h.ty) ht.1 rfl
  · exact hty.ne (hx ▸ h.tab.ty) ht.2.1 rfl
  · exact hty.ne hx ht.2.2 rfl
theorem IsS90.blkK {g' : Nat} {o : Obj} {cs : Array Value} {u : TypeId} {fr : Nat × Nat} (hk : KeepBut W W1 g (some (g - 1))) (h : IsS90 w0 W g d) (hb : W.heap[g']? = some o) (hne : g' ≠ g) (ho : o = .cells cs u fr) (ht : u ≠ 77) : W1.heap[g']? = some o := by
  subst ho
  exact KeepBut.blk hk hb hne (h.ne_tab hb ht)
theorem IsS90.keptT {S : Nat → Prop} (h : IsS90 w0 W g d) (hk : Kept W W1 S) (hS : ∀ k, S k → ∃ e, TyOf W k e ∧ e ≠ 90 ∧ e ≠ 77 ∧ e ≠ 103) : IsS90 w0 W1 g d := by
  refine h.step (fun i hi hx => hk.2 i hi (fun hs => ?_))
  obtain ⟨e, he, h1, h2, h3⟩ := hS i hs
  rcases hx with hx | hx | hx
  · exact he.ne (hx ▸ h.ty) h1 rfl
  · exact he.ne (hx ▸ h.tab.ty) h2 rfl
  · exact he.ne hx h3 rfl
theorem IsS90.otherT {w1 : World} {g2 : Nat} {t2 : TB} (h : IsS90 w0 W g d) (h2 : IsS77 w1 W g2 t2) (hk : KeepBut W W1 g2 none) (hne : g2 ≠ g - 1) : IsS90 w0 W1 g d := by
  refine h.step (fun i hi hx => hk.2 i hi (fun he => ?_) (by simp))
  subst he
  rcases hx with hx | hx | hx
  · exact h2.ty.ne (hx ▸ h.ty) (by decide) rfl
  · exact hne hx
  · exact h2.ty.ne hx (by decide) rfl
section
variable {α : Type} {k : Kd α} {e : Nat} {base : Nat} {ok : Nat → Prop} {v : Value} {xs : List α}
theorem IsS90.apart (h : IsS90 w0 W g d) (ho : k.R e W base ok v xs) (ht : ∀ q, q ∈ e :: k.E → q ≠ 90 ∧ q ≠ 77) : k.R e W base (fun a => ok a ∧ (a ≠ g ∧ a ≠ g - 1)) v xs := by
  obtain ⟨cs, hb⟩ := h.blk
  obtain ⟨cs2, hb2⟩ := h.tab.blk
  exact Kd.R_mono (Kd.R_types (Kd.R_types ho hb (fun q hq => (ht q hq).1)) hb2 (fun q hq => (ht q hq).2)) (fun _ hk => ⟨hk.1.1, hk.1.2, hk.2⟩)
theorem IsS90.own_ne (h : IsS90 w0 W g d) (ho : k.R e W base ok v xs) (ht : e ≠ 90) : some g ≠ v.ownBlock := by
  obtain ⟨cs, hb⟩ := h.blk
  exact Kd.R_ne ho hb ht
end
end
def unpack_New.f : Option TD := some ⟨⟨mx 4096 0, 0, [], tbFixed⟩, false⟩
set_option maxHeartbeats 2000000 in
set_option maxRecDepth 100000 in
theorem unpack_New.calls (r : TD) (w0 w : World) (hB : Below w0.heap.size w0 w) (hE : EnvW w) (h : unpack_New.f = some r) :
    Calls Tryd.prog 23 #[] w fun e w' => ∃ g_ : Nat, e = .returned (.pointer (some ⟨g_, 0, none⟩)) ∧ IsS90 w0 w' g_ r ∧ Below w0.heap.size w0 w' ∧ Below w.heap.size w w' := by
  obtain ⟨m, hm⟩ := hE
  obtain rfl := Option.some.inj h
  have HM := Aside0.mk hm
  have HB := Aside0.mk hB
  clear h hm hB
  go_enter Tryd.func23, Tryd.ntmps23
  go_wp2_with (first | (go_at_call 34; (with_reducible refine (tb_new 4096 m w0 w HM.out HB.out).mono ?_); rintro e w1 ⟨gt, rfl, h1, h2, h3, h4, h5, h6⟩; have HT := Aside0.mk (IsS77.of h1 h4 h5); have HB1 := Aside0.mk h2; have HC1 := Aside0.mk h3; have HZ := Aside0.mk h6; clear h1 h2 h3 h4 h5 h6) | ((with_reducible refine gate_dst (N := 3) rfl ?_); refine box_event ?hg (N := 3) ?hd (cs := #[.pointer (some ⟨gt, 0, none⟩), .bool false]) (t := 90) ?hr ?_; (case hd => rfl); (case hg => rfl); (case hr => first | (go_simp; done) | (go_simp; rfl)); intro g hg w2 hbox hb; have BG := Aside0.mk hbox; have HG := Aside0.mk (show gt + 1 = g by rw [hg]; exact HZ.out.symm); have HT2 := Aside0.mk (HT.out.below hb); have HB2 := Aside0.mk (below_then HB1.out HB1.out.size hb); have HC2 := Aside0.mk (below_step HC1.out hb); clear hb hbox hg))
  go_ret
  exact ⟨_, rfl, ⟨gt, HG.out, BG.out, HT2.out⟩, HB2.out, HC2.out⟩
def unpack_Decoder_Down.f (s : TD) : Option (Bool × TD) := some (s.down, s)
set_option maxHeartbeats 2000000 in
set_option maxRecDepth 100000 in
theorem unpack_Decoder_Down.calls (g : Nat) (s0_0 : TD) (r1 : Bool) (r2 : TD) (w0 w : World) (hI : IsS90 w0 w g s0_0) (hB : Below w0.heap.size w0 w) (h : unpack_Decoder_Down.f s0_0 = some (r1, r2)) :
    Calls Tryd.prog 28 #[.pointer (some ⟨g, 0, none⟩)] w fun e w' => e = .returned (.bool r1) ∧ IsS90 w0 w' g r2 ∧ Below w0.heap.size w0 w' ∧ KeepBut w w' g (some (g - 1)) := by
  obtain ⟨rfl, rfl⟩ := Prod.mk.inj (Option.some.inj h)
  clear h
  obtain ⟨gt, h1, h2, h3⟩ := hI
  have z1 : w.cell? ⟨g, 1, none⟩ = some (.bool s0_0.down) := (blk_cell h2 1).trans rfl
  have HI := Aside0.mk (show IsS90 w0 w g s0_0 from ⟨gt, h1, h2, h3⟩)
  have HB := Aside0.mk hB
  clear h1 h2 h3 hB
  go_enter Tryd.func28, Tryd.ntmps28
  go_wp2
  go_ret
  exact ⟨rfl, HI.out, HB.out, KeepBut.refl w g _⟩
def unpack_Decoder_Table.f (s : TD) : Option TB := table_Table_Copy.f s.t
set_option maxHeartbeats 2000000 in
set_option maxRecDepth 100000 in
theorem unpack_Decoder_Table.calls {w1 : World} (g : Nat) (s0_0 : TD) (r : TB) (w0 w : World) (hI : IsS90 w1 w g s0_0) (hB : Below w0.heap.size w0 w) (h : unpack_Decoder_Table.f s0_0 = some r) :
    Calls Tryd.prog 29 #[.pointer (some ⟨g, 0, none⟩)] w fun e w' => ∃ g_ : Nat, e = .returned (.pointer (some ⟨g_, 0, none⟩)) ∧ IsS77 w0 w' g_ r ∧ Below w0.heap.size w0 w' ∧ Below w.heap.size w w' := by
  obtain ⟨gt, h1, h2, h3⟩ := hI
  have z0 : w.cell? ⟨g, 0, none⟩ = some (.pointer (some ⟨gt, 0, none⟩)) := (blk_cell h2 0).trans rfl
  have HT := Aside0.mk h3
  have HB := Aside0.mk hB
  have HA := Aside0.mk (show table_Table_Copy.f s0_0.t = some r from h)
  clear h1 h2 h3 hB h
  go_enter Tryd.func29, Tryd.ntmps29
  go_wp2_with (first | (go_at_call 37; (with_reducible refine (table_Table_Copy.calls gt s0_0.t r w0 w HT.out HB.out HA.out).mono ?_); rintro e w2 ⟨g2, rfl, h1, h2, h3⟩; have R1 := Aside0.mk h1; have R2 := Aside0.mk h2; have R3 := Aside0.mk h3; clear h1 h2 h3))
  go_ret
  exact ⟨_, rfl, R1.out, R2.out, R3.out⟩
end Go.Proofs.YtfkdocmhbmameaaDoor.Mine
namespace Go.Proofs.YtfkdocmhbmameaaDoor.Mine
open Go.RowKit Go.Proofs.YtfkdocmhbmameaaDoorW.PrintWords Go.Proofs.YtfkdocmhbmameaaDoorW.PrintLast Go.Proofs.YtfkdocmhbmameaaDoorW.PrintMore
attribute [local go_sem] max2_int min2_int max_two min_two max_three min_three max_four min_four
set_option linter.unusedVariables false
set_option linter.unusedSimpArgs false
theorem eqA26 (d : Nat) (w : World) (x0 y0 : ByteArray) (x1 y1 : ByteArray) (x2 y2 : Bool) :
  (Op.equalIn (d + 2) 26 (.agg #[.string x0, .string x1, .bool x2]) (.agg #[.string y0, .string y1, .bool y2])).run Tryd.prog w = .ok (x0.toList == y0.toList && (x1.toList == y1.toList && (x2 == y2))) w := by
 refine eqA_of Tryd.underlying26 (by kernel_rfl) ?_
 refine eqf_cons (by rfl) (by go_simp; rfl) (by go_simp; rfl) (by go_simp) ?_
 refine eqf_cons (by rfl) (by go_simp; rfl) (by go_simp; rfl) (by go_simp) ?_
 exact eqf_last (by rfl) (by go_simp; rfl) (by go_simp; rfl) (by go_simp)
end Go.Proofs.YtfkdocmhbmameaaDoor.Mine
namespace Go.Proofs.YtfkdocmhbmameaaDoor.Mine
open Go.RowKit Go.Proofs.YtfkdocmhbmameaaDoorW.PrintWords Go.Proofs.YtfkdocmhbmameaaDoorW.PrintLast Go.Proofs.YtfkdocmhbmameaaDoorW.PrintMore
attribute [local go_sem] max2_int min2_int max_two min_two max_three min_three max_four min_four
set_option linter.unusedVariables false
set_option linter.unusedSimpArgs false
attribute [local go_sem high] eqA26
def nuncioref12_Same.l0 : Nat → List (S26) → List (S26) → Int → Option (Bool)
 | 0, _, _, _ => none
 | k + 1, x0, x1, x5 => if x5 < (x0.length : Int) then (if 0 ≤ x5 then (if x5 < (x1.length : Int) then (if (!((((rd_T26 x0 x5).f0).toList) == (((rd_T26 x1 x5).f0).toList)) || (!((((rd_T26 x0 x5).f1).toList) == (((rd_T26 x1 x5).f1).toList)) || (!(((rd_T26 x0 x5).f2) == ((rd_T26 x1 x5).f2))))) = true then (some false) else (nuncioref12_Same.l0 k x0 x1 (wrap64 (x5 + 1)))) else (none)) else (none)) else (some true)
def nuncioref12_Same.f (k : Nat) (l0 : List (S26)) (l1 : List (S26)) : Option (Bool) := if (l0.length : Int) = (l1.length : Int) then (nuncioref12_Same.l0 k l0 l1 0) else (some false)
set_option maxHeartbeats 8000000 in
set_option maxRecDepth 100000 in
theorem nuncioref12_Same.calls (k : Nat) (A0 : Option Addr) (c0 : Nat) (l0 : List (S26)) (A1 : Option Addr) (c1 : Nat) (l1 : List (S26)) (r : Bool) (w : World) (hr0 : Kd.C k26 w A0 l0.length l0) (hc0 : l0.length ≤ c0) (hr1 : Kd.C k26 w A1 l1.length l1) (hc1 : l1.length ≤ c1) (h : nuncioref12_Same.f k l0 l1 = some r) :
  Calls Tryd.prog 27 #[.slice A0 l0.length c0, .slice A1 l1.length c1] w fun e w' => e = .returned (.bool r) ∧ Drawn0 w w' := by
 have hu26 := Tryd.underlying26
 have HR0 := Aside0.mk hr0
 have HC0 := Aside0.mk hc0
 clear hr0 hc0
 have HR1 := Aside0.mk hr1
 have HC1 := Aside0.mk hc1
 clear hr1 hc1
 have H : (if (l0.length : Int) = (l1.length : Int) then (nuncioref12_Same.l0 k l0 l1 0) else (some false)) = some r := h
 clear h
 by_cases c3 : (l0.length : Int) = (l1.length : Int)
 ·
  rw [if_pos c3] at H
  have c3b0 : ((l0.length : Int) == (l1.length : Int)) = true := beq_iff_eq.mpr c3
  have c3b1 : ((l0.length : Int) != (l1.length : Int)) = false := bne_eq_false_iff_eq.mpr c3
  have c3b2 : (l0.length == l1.length) = true := by first | simpa using c3 | (simp at c3 ⊢; omega)
  clear c3
  have H' := Aside0.mk H
  clear H
  go_enter Tryd.func27, Tryd.ntmps27
  go_wp2
  repeat (go_quiet (fail); try go_wp2)
  go_loopg [5] k (fun kq v5 w' => ∃ (x5_1 : Int), v5 = .int .i64 x5_1 ∧ Aside0 (nuncioref12_Same.l0 kq l0 l1 x5_1 = some r) ∧ Aside0 (kq ≤ k) ∧ Drawn0 w w')
  case atStart => exact ⟨(0), (by first | rfl | (simp; done) | (simp [*]; done)), H', ⟨Nat.le_refl _⟩, by repeat (first | exact Drawn0.refl _ | apply Drawn0.step)⟩
  case round =>
   clear H'
   try clear c1
   try clear c2
   try clear p2
   try clear c3
   try clear c3b0
   try clear c3b1
   try clear c3b2
   obtain ⟨x5_1, rfl, HA, HK1, ⟨m1, rfl⟩⟩ := hrel
   cases gk with
   | zero => exact absurd HA.out (by simp [nuncioref12_Same.l0])
   | succ k1 =>
    have H := HA.out
    clear HA
    simp only [nuncioref12_Same.l0] at H
    by_cases c4 : x5_1 < (l0.length : Int)
    ·
     rw [if_pos c4] at H
     have c4b0 : decide (x5_1 < (l0.length : Int)) = true := decide_eq_true c4
     clear c4
     by_cases c5 : 0 ≤ x5_1
     ·
      rw [if_pos c5] at H
      have c5b0 : decide (0 ≤ x5_1) = true := decide_eq_true c5
      clear c5
      by_cases c6 : x5_1 < (l1.length : Int)
      ·
       rw [if_pos c6] at H
       have c6b0 : decide (x5_1 < (l1.length : Int)) = true := decide_eq_true c6
       clear c6
       by_cases c7 : (!((((rd_T26 l0 x5_1).f0).toList) == (((rd_T26 l1 x5_1).f0).toList)) || (!((((rd_T26 l0 x5_1).f1).toList) == (((rd_T26 l1 x5_1).f1).toList)) || (!(((rd_T26 l0 x5_1).f2) == ((rd_T26 l1 x5_1).f2))))) = true
       ·
        rw [if_pos c7] at H
        have c7b0 : (!((((rd_T26 l0 x5_1).f0).toList) == (((rd_T26 l1 x5_1).f0).toList)) || (!((((rd_T26 l0 x5_1).f1).toList) == (((rd_T26 l1 x5_1).f1).toList)) || (!(((rd_T26 l0 x5_1).f2) == ((rd_T26 l1 x5_1).f2))))) = true := c7
        clear c7
        (try (have c7b9 := c7b0; simp only [beq_true, beq_false] at c7b9))
        obtain rfl := Option.some.inj H
        have p448 : 0 ≤ (x5_1 : Int) := of_decide_eq_true (by first | (with_reducible assumption) | assumption)
        have q448 : x5_1 < (l0.length : Int) := of_decide_eq_true (by first | (with_reducible assumption) | assumption)
        obtain ⟨ad448, e448, hx448_0, hx448_1, hx448_2⟩ := at_T26 HR0.out x5_1 p448 q448
        cases e448
        replace p448 := eq_true p448
        replace q448 := eq_true q448
        have p449 : 0 ≤ (x5_1 : Int) := of_decide_eq_true (by first | (with_reducible assumption) | assumption)
        have q449 : x5_1 < (l1.length : Int) := of_decide_eq_true (by first | (with_reducible assumption) | assumption)
        obtain ⟨ad449, e449, hx449_0, hx449_1, hx449_2⟩ := at_T26 HR1.out x5_1 p449 q449
        cases e449
        replace p449 := eq_true p449
        replace q449 := eq_true q449
        go_wp2
        repeat (go_quiet (fail); try go_wp2)
        go_ret
        exact ⟨by first | rfl | (simp; done) | (simp [*]; done), by repeat (first | exact Drawn0.refl _ | apply Drawn0.step)⟩
       ·
        rw [if_neg c7] at H
        have c7b0 : (!((((rd_T26 l0 x5_1).f0).toList) == (((rd_T26 l1 x5_1).f0).toList)) || (!((((rd_T26 l0 x5_1).f1).toList) == (((rd_T26 l1 x5_1).f1).toList)) || (!(((rd_T26 l0 x5_1).f2) == ((rd_T26 l1 x5_1).f2))))) = false := by simpa using c7
        clear c7
        (try (have c7b9 := c7b0; simp only [beq_true, beq_false] at c7b9))
        have H' := Aside0.mk H
        clear H
        have p448 : 0 ≤ (x5_1 : Int) := of_decide_eq_true (by first | (with_reducible assumption) | assumption)
        have q448 : x5_1 < (l0.length : Int) := of_decide_eq_true (by first | (with_reducible assumption) | assumption)
        obtain ⟨ad448, e448, hx448_0, hx448_1, hx448_2⟩ := at_T26 HR0.out x5_1 p448 q448
        cases e448
        replace p448 := eq_true p448
        replace q448 := eq_true q448
        have p449 : 0 ≤ (x5_1 : Int) := of_decide_eq_true (by first | (with_reducible assumption) | assumption)
        have q449 : x5_1 < (l1.length : Int) := of_decide_eq_true (by first | (with_reducible assumption) | assumption)
        obtain ⟨ad449, e449, hx449_0, hx449_1, hx449_2⟩ := at_T26 HR1.out x5_1 p449 q449
        cases e449
        replace p449 := eq_true p449
        replace q449 := eq_true q449
        go_wp2
        repeat (go_quiet (fail); try go_wp2)
        go_roundg k1
        case measure => have := HK1.out; omega
        case rel => exact ⟨(wrap64 (x5_1 + 1)), (by first | rfl | (simp; done) | (simp [*]; done)), H', ⟨by have := HK1.out; omega⟩, by repeat (first | exact Drawn0.refl _ | apply Drawn0.step)⟩
      ·
       rw [if_neg c6] at H
       exact absurd H (by simp)
     ·
      rw [if_neg c5] at H
      exact absurd H (by simp)
    ·
     rw [if_neg c4] at H
     have c4b0 : decide (x5_1 < (l0.length : Int)) = false := decide_eq_false c4
     clear c4
     obtain rfl := Option.some.inj H
     go_wp2
     repeat (go_quiet (fail); try go_wp2)
     go_ret
     exact ⟨by first | rfl | (simp; done) | (simp [*]; done), by repeat (first | exact Drawn0.refl _ | apply Drawn0.step)⟩
 ·
  rw [if_neg c3] at H
  have c3b0 : ((l0.length : Int) == (l1.length : Int)) = false := beq_eq_false_iff_ne.mpr c3
  have c3b1 : ((l0.length : Int) != (l1.length : Int)) = true := bne_iff_ne.mpr c3
  have c3b2 : (l0.length == l1.length) = false := by first | simpa using c3 | (simp at c3 ⊢; omega)
  obtain rfl := Option.some.inj H
  go_enter Tryd.func27, Tryd.ntmps27
  go_wp2
  repeat (go_quiet (fail); try go_wp2)
  go_ret
  exact ⟨by first | rfl | (simp; done) | (simp [*]; done), by repeat (first | exact Drawn0.refl _ | apply Drawn0.step)⟩
end Go.Proofs.YtfkdocmhbmameaaDoor.Mine
