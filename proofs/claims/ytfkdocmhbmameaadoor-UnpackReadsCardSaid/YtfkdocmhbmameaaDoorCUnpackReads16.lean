/- The walks and the plain laws that the row comes to: merged out of this repo's texts. -/
import Derived.Test.YtfkdocmhbmameaaDoorProg
import Derived.Below
import Derived.Deep.Draws
import Derived.Deep.AppendLies
import Derived.Maps.AppendAt
import Derived.OwnWalk
import Derived.Laws.BytesArg
import Derived.Laws.MakeOwn
import Derived.Laws.OwnMore
import Derived.Deep.OwnRows
import Derived.Tactics
import Derived.Lib.ConvBytes
import Derived.Laws.Slices
import Derived.WalkKit
import Derived.KernelRfl
import Derived.RowKit3
import Derived.Deep.LoopGhost
import Derived.Deep.QuietTactic
import Derived.BigQuiet
import Derived.WideLaws
import Derived.Deep.DeepCutAuto
import Derived.Deep.CutBlock
import Derived.Deep.RegionHeld3
import Derived.Laws.Rows
import Derived.Lib.AppendStr
import Derived.ArgAppend
import Derived.Laws.IdiomCopy
import Derived.RowKit
import Derived.OrdersHeld
import Derived.Laws.BitsLemmas
import Derived.Laws.StructEq
import Derived.Laws.CopyOwn
import Derived.SizedLaws
import Derived.ChangeSlices
import Derived.Deep.Slices
import Derived.Lib.SmallJoins
import Derived.Lib.OthersKept
import Derived.Lib.AppendZerosOnto
import Derived.WalkSpells
import Derived.Shelf.Utf8.RuneCount
import Derived.Shelf.Strings.Search1
import Derived.Shelf.Strings.Search2
import Derived.Shelf.Strings.Search3
import Derived.Shelf.Strings.Cut
import Derived.Shelf.Strings.Count
import Derived.Shelf.LaysM
import Derived.Shelf.Strings.Shaped
import Derived.Shelf.Strings.Split
import Derived.Shelf.Strings.SplitShaped
import Derived.Shelf.Unicode.Decode
import Derived.Shelf.Strings.RuneCount
import Derived.Shelf.Strings.Explode
import Derived.Shelf.Unicode.DecodeSlow
import Derived.Shelf.Unicode.DecodeAny
import Derived.Test.YtfkdocmhbmameaaDoorCUnpackReads1
import Derived.Test.YtfkdocmhbmameaaDoorCUnpackReads2
import Derived.Test.YtfkdocmhbmameaaDoorCUnpackReads3
import Derived.Test.YtfkdocmhbmameaaDoorCUnpackReads9
import Derived.Test.YtfkdocmhbmameaaDoorCUnpackReads11
import Derived.Test.YtfkdocmhbmameaaDoorCUnpackReads12
import Derived.Test.YtfkdocmhbmameaaDoorCUnpackReads13
import Derived.Test.YtfkdocmhbmameaaDoorCUnpackReads14
import Derived.Test.YtfkdocmhbmameaaDoorCUnpackReads15
namespace Go.Proofs.YtfkdocmhbmameaaDoor.Mine
open Go.RowKit Go.Proofs Go.Proofs.YtfkdocmhbmameaaDoorW.PrintWords Go.Proofs.YtfkdocmhbmameaaDoorW.PrintLast Go.Proofs.YtfkdocmhbmameaaDoorW.PrintMore
attribute [local go_sem] max2_int min2_int max_two min_two max_three min_three max_four min_four
set_option linter.unusedVariables false
set_option linter.unusedSimpArgs false
def IsX (W : World) (g : Nat) (m : Int) (A : Option Addr) (n c : Nat) (s : ByteArray) (a e : Int) : Prop := W.heap[g]? = some (.cells #[.int .i64 m, .slice A n c, .string s, .int .i64 a, .int .i64 e] 98 (0, 0))
section
variable {W W1 : World} {g n c : Nat} {m a e : Int} {A : Option Addr} {s : ByteArray}
theorem IsX.below (h : IsX W g m A n c s a e) (hb : Below W.heap.size W W1) : IsX W1 g m A n c s a e := blk_below h hb
theorem IsX.keep {g2 : Nat} (h : IsX W g m A n c s a e) (hk : KeepBut W W1 g2 none) (hne : g ≠ g2) : IsX W1 g m A n c s a e := (hk.2 g (blk_lt h) hne (by simp)).trans h
theorem IsX.c0 (h : IsX W g m A n c s a e) : W.cell? ⟨g, 0, none⟩ = some (.int .i64 m) := (blk_cell h 0).trans rfl
theorem IsX.c1 (h : IsX W g m A n c s a e) : W.cell? ⟨g, 1, none⟩ = some (.slice A n c) := (blk_cell h 1).trans rfl
theorem IsX.c2 (h : IsX W g m A n c s a e) : W.cell? ⟨g, 2, none⟩ = some (.string s) := (blk_cell h 2).trans rfl
theorem IsX.c3 (h : IsX W g m A n c s a e) : W.cell? ⟨g, 3, none⟩ = some (.int .i64 a) := (blk_cell h 3).trans rfl
theorem IsX.c4 (h : IsX W g m A n c s a e) : W.cell? ⟨g, 4, none⟩ = some (.int .i64 e) := (blk_cell h 4).trans rfl
theorem IsX.set0 (h : IsX W g m A n c s a e) (z : Int) : IsX (W.setCell ⟨g, 0, none⟩ (.int .i64 z)) g z A n c s a e := blk_put h 0 _ rfl
theorem IsX.set1 (h : IsX W g m A n c s a e) (A' : Option Addr) (n' c' : Nat) : IsX (W.setCell ⟨g, 1, none⟩ (.slice A' n' c')) g m A' n' c' s a e := blk_put h 1 _ rfl
theorem IsX.set3 (h : IsX W g m A n c s a e) (z : Int) : IsX (W.setCell ⟨g, 3, none⟩ (.int .i64 z)) g m A n c s z e := blk_put h 3 _ rfl
theorem IsX.set4 (h : IsX W g m A n c s a e) (z : Int) : IsX (W.setCell ⟨g, 4, none⟩ (.int .i64 z)) g m A n c s a z := blk_put h 4 _ rfl
end
def rfNum (k : Nat) (s : ByteArray) (a e bits : Int) : Option (Int × Int × Int) :=
  if e = 0 then (nuncioref09_Get.f k s a bits).map fun p => (wrap64 p.1, p.2.1, p.2.2) else some (0, a, e)
set_option maxHeartbeats 4000000 in
set_option maxRecDepth 100000 in
theorem rf_number (k g : Nat) (m : Int) (A : Option Addr) (n c : Nat) (s : ByteArray) (a e bits : Int) (r : Int × Int × Int) (w0 w : World) (hI : IsX w g m A n c s a e) (hg : w0.heap.size ≤ g) (hB : Below w0.heap.size w0 w) (h : rfNum k s a e bits = some r) :
    Calls Tryd.prog 48 #[.pointer (some ⟨g, 0, none⟩), .int .i64 bits] w fun en w' => en = .returned (.int .i64 r.1) ∧ IsX w' g m A n c s r.2.1 r.2.2 ∧ Below w0.heap.size w0 w' ∧ KeepBut w w' g none := by
  unfold rfNum at h
  have HI := Aside0.mk hI
  have HB := Aside0.mk hB
  have c4 := hI.c4
  by_cases he : e = 0
  · subst he
    rw [if_pos rfl] at h
    obtain ⟨⟨x, y, z⟩, h1, h2⟩ := Option.map_eq_some_iff.mp h
    subst h2
    have A1 := Aside0.mk h1
    have c2 := hI.c2
    have c3 := hI.c3
    have f3 := blk_frozen hI 3
    have f4 := blk_frozen hI 4
    clear h h1 hI hB
    go_enter Tryd.func48, Tryd.ntmps48
    go_wp2
    go_quiet (first | (go_at_call 66; (with_reducible refine (nuncioref09_Get.calls k s a bits x y z _ A1.out).mono ?_); rintro en w' ⟨rfl, ⟨nd, rfl⟩⟩; (try first | exact ⟨rfl, _, World.drewN_drewN _ _ _⟩ | exact ⟨rfl, _, Eq.trans (World.drewN_drewN _ _ _) (congrArg (World.drewN _) (Nat.add_assoc _ _ _))⟩)))
    go_upto_region 5 with fail
    have HI2 := Aside0.mk (IsX.set4 (show IsX (w.drewN nq) g m A n c s a 0 from HI.out) z)
    have HB2 := Aside0.mk (below_set (g := g) (j := 4) (v := .int .i64 z) (pw_below_drewN HB.out nq) hg)
    have HK2 := Aside0.mk (tb_keeps (j := 4) (v := .int .i64 z) (keep_drewN (KeepBut.refl w g none) nq))
    clear c2 c3 c4 f3 f4
    generalize (w.drewN nq).setCell ⟨g, 4, none⟩ (.int .i64 z) = w2 at HI2 HB2 HK2 ⊢
    have c3 := HI2.out.c3
    have f3 := blk_frozen HI2.out 3
    go_wp2
    go_ret
    exact ⟨rfl, HI2.out.set3 y, below_set HB2.out hg, tb_keeps HK2.out⟩
  · rw [if_neg he] at h
    obtain rfl := Option.some.inj h
    have q1 : (e != 0) = true := bne_iff_ne.mpr he
    have q2 : (e == 0) = false := beq_eq_false_iff_ne.mpr he
    clear h hI hB he
    go_enter Tryd.func48, Tryd.ntmps48
    go_wp2
    go_ret
    exact ⟨rfl, HI.out, HB.out, KeepBut.refl w g none⟩
def rfText0 (k : Nat) (s : ByteArray) (a : Int) (pk : Bool) : Option (ByteArray × Int × Int) :=
  (rfNum k s a 0 7).bind fun p => if p.2.2 = 0 then ((nuncioref01_Part.f s p.2.1 p.1).bind fun q => if q.2 = true then (if pk = true then ((nuncioref10_Decode.f k q.1).bind fun d => some (d.1, wrap64 (p.2.1 + p.1), d.2)) else some (q.1, wrap64 (p.2.1 + p.1), 0)) else some (⟨#[]⟩, p.2.1, 2)) else some (⟨#[]⟩, p.2.1, p.2.2)
def rfText (k : Nat) (s : ByteArray) (a e : Int) : Option (ByteArray × Int × Int) :=
  if e = 0 then (if 0 ≤ a then rfText0 k s a (decide (a < (s.size : Int)) && decide (bt s a ≥ 128)) else none) else some (⟨#[]⟩, a, e)
set_option maxHeartbeats 4000000 in
set_option maxRecDepth 100000 in
theorem rf_text (k g : Nat) (m : Int) (A : Option Addr) (n c : Nat) (s : ByteArray) (a e : Int) (r : ByteArray × Int × Int) (w0 w : World) (hI : IsX w g m A n c s a e) (hg : w0.heap.size ≤ g) (hB : Below w0.heap.size w0 w) (h : rfText k s a e = some r) :
    Calls Tryd.prog 68 #[.pointer (some ⟨g, 0, none⟩)] w fun en w' => en = .returned (.string r.1) ∧ IsX w' g m A n c s r.2.1 r.2.2 ∧ Below w0.heap.size w0 w' ∧ KeepBut w w' g none := by
  unfold rfText at h
  have HI := Aside0.mk hI
  have HB := Aside0.mk hB
  have HK := Aside0.mk (KeepBut.refl w g none)
  have c4 := hI.c4
  by_cases he : e = 0
  · subst he
    rw [if_pos rfl] at h
    by_cases ha : 0 ≤ a
    · rw [if_pos ha] at h
      obtain ⟨pk, hpk⟩ : ∃ b : Bool, (decide (a < (s.size : Int)) && decide (bt s a ≥ 128)) = b := ⟨_, rfl⟩
      rw [hpk] at h
      unfold rfText0 at h
      obtain ⟨⟨x, y, z⟩, h1, h2⟩ := Option.bind_eq_some_iff.mp h
      simp only at h2
      have A1 := Aside0.mk h1
      have A2 := Aside0.mk h2
      have HP := Aside0.mk hpk
      have c2 := hI.c2
      have c3 := hI.c3
      clear h h1 h2 hI hB hpk
      go_enter Tryd.func68, Tryd.ntmps68
      go_upto_region 3 with (fail)
      go_cut [3] (fun v3 wc => v3 = .bool pk ∧ Aside0 (IsX wc g m A n c s a 0) ∧ Aside0 (Below w0.heap.size w0 wc) ∧ Aside0 (KeepBut w wc g none))
      case first =>
        have hpk := HP.out
        by_cases c5 : a < (s.size : Int)
        · have c5b0 : decide (a < (s.size : Int)) = true := decide_eq_true c5
          rw [c5b0, Bool.true_and] at hpk
          have p7 := eq_true ha
          have q7 := eq_true c5
          have hx7 := bt_at s a
          clear HP c5
          go_wp2
          repeat (go_quiet (fail); try go_wp2)
          go_meet
          case rel => exact ⟨by first | (rw [← hpk]; done) | (simp [← hpk]; done) | (rw [← hpk]; simp), ⟨HI.out⟩, ⟨pw_below_drewN HB.out _⟩, ⟨keep_drewN HK.out _⟩⟩
        · have c5b0 : decide (a < (s.size : Int)) = false := decide_eq_false c5
          rw [c5b0, Bool.false_and] at hpk
          subst hpk
          clear c5
          go_wp2
          repeat (go_quiet (fail); try go_wp2)
          go_meet
          case rel => exact ⟨rfl, ⟨HI.out⟩, ⟨pw_below_drewN HB.out _⟩, ⟨keep_drewN HK.out _⟩⟩
      case rest =>
        obtain ⟨rfl, HI, HB, HK⟩ := hcut
        have h2 := A2.out
        by_cases hz : z = 0
        · subst hz
          rw [if_pos rfl] at h2
          obtain ⟨⟨t, ok⟩, h3, h4⟩ := Option.bind_eq_some_iff.mp h2
          simp only at h4
          have A3 := Aside0.mk h3
          have A4 := Aside0.mk h4
          clear A2 h2 h3 h4
          go_upto_region 7 with (first | (go_at_call 48; (with_reducible refine (rf_number k g m A n c s a 0 7 (x, y, 0) w0 _ HI.out hg HB.out A1.out).mono ?_); rintro en w1 ⟨rfl, hi, hb, hk⟩; have HI2 := Aside0.mk hi; have HB2 := Aside0.mk hb; have HK2 := Aside0.mk (tb_keep2 HK.out hk); clear hi hb hk; have d4 := HI2.out.c4))
          have d2 := HI2.out.c2
          have d3 := HI2.out.c3
          have f3 := blk_frozen HI2.out 3
          have f4 := blk_frozen HI2.out 4
          cases ok with
          | false =>
            have h4 := A4.out
            rw [if_neg (by decide)] at h4
            obtain rfl := Option.some.inj h4
            clear A4 h4
            go_quiet (first | (go_at_call 77; (with_reducible refine (nuncioref01_Part.calls s y x t false _ A3.out).mono ?_); rintro en w' ⟨rfl, ⟨nd, rfl⟩⟩; (try first | exact ⟨rfl, _, World.drewN_drewN _ _ _⟩ | exact ⟨rfl, _, Eq.trans (World.drewN_drewN _ _ _) (congrArg (World.drewN _) (Nat.add_assoc _ _ _))⟩)))
            go_wp2
            go_ret
            exact ⟨rfl, IsX.set4 (show IsX (w1.drewN _) g m A n c s y 0 from HI2.out) _, below_set (pw_below_drewN HB2.out _) hg, tb_keeps (keep_drewN HK2.out _)⟩
          | true =>
            have h4 := A4.out
            simp only [if_true] at h4
            have A4 := Aside0.mk h4
            clear h4
            go_quiet (first | (go_at_call 77; (with_reducible refine (nuncioref01_Part.calls s y x t true _ A3.out).mono ?_); rintro en w' ⟨rfl, ⟨nd, rfl⟩⟩; (try first | exact ⟨rfl, _, World.drewN_drewN _ _ _⟩ | exact ⟨rfl, _, Eq.trans (World.drewN_drewN _ _ _) (congrArg (World.drewN _) (Nat.add_assoc _ _ _))⟩)))
            cases pk with
            | false =>
              have h4 := A4.out
              simp only [Bool.false_eq_true, if_false] at h4
              obtain rfl := Option.some.inj h4
              clear A4 h4
              go_wp2
              go_ret
              exact ⟨rfl, IsX.set3 (show IsX (w1.drewN _) g m A n c s y 0 from HI2.out) _, below_set (pw_below_drewN HB2.out _) hg, tb_keeps (keep_drewN HK2.out _)⟩
            | true =>
              have h4 := A4.out
              simp only [if_true] at h4
              obtain ⟨⟨d, e2⟩, h5, h6⟩ := Option.bind_eq_some_iff.mp h4
              simp only at h6
              obtain rfl := Option.some.inj h6
              have A5 := Aside0.mk h5
              clear A4 h4 h5
              go_upto_region 12 with fail
              have HI3 := Aside0.mk (IsX.set3 (show IsX (w1.drewN nq) g m A n c s y 0 from HI2.out) (wrap64 (y + x)))
              have HB3 := Aside0.mk (below_set (g := g) (j := 3) (v := .int .i64 (wrap64 (y + x))) (pw_below_drewN HB2.out nq) hg)
              have HK3 := Aside0.mk (tb_keeps (j := 3) (v := .int .i64 (wrap64 (y + x))) (keep_drewN HK2.out nq))
              generalize (w1.drewN nq).setCell ⟨g, 3, none⟩ (.int .i64 (wrap64 (y + x))) = w3 at HI3 HB3 HK3 ⊢
              clear d2 d3 d4 f3 f4
              go_wp2_with (first | (go_at_call 78; (with_reducible refine (nuncioref10_Decode.calls k t d e2 _ A5.out).mono ?_); rintro en w4 ⟨rfl, hb⟩; have HI4 := Aside0.mk (HI3.out.below hb); have HB4 := Aside0.mk (below_then HB3.out HB3.out.size hb); have HK4 := Aside0.mk (tb_keep HK3.out hb); clear hb; have d4 := HI4.out.c4; have f4 := blk_frozen HI4.out 4))
              go_ret
              exact ⟨rfl, HI4.out.set4 e2, below_set HB4.out hg, tb_keeps HK4.out⟩
        · rw [if_neg hz] at h2
          obtain rfl := Option.some.inj h2
          have q1 : (z != 0) = true := bne_iff_ne.mpr hz
          have q2 : (z == 0) = false := beq_eq_false_iff_ne.mpr hz
          clear h2 A2 hz
          go_wp2_with (first | (go_at_call 48; (with_reducible refine (rf_number k g m A n c s a 0 7 (x, y, z) w0 _ HI.out hg HB.out A1.out).mono ?_); rintro en w1 ⟨rfl, hi, hb, hk⟩; have HI2 := Aside0.mk hi; have HB2 := Aside0.mk hb; have HK2 := Aside0.mk (tb_keep2 HK.out hk); clear hi hb hk; have d4 := HI2.out.c4))
          go_ret
          exact ⟨rfl, HI2.out, HB2.out, HK2.out⟩
    · rw [if_neg ha] at h
      exact absurd h (by simp)
  · rw [if_neg he] at h
    obtain rfl := Option.some.inj h
    have q1 : (e != 0) = true := bne_iff_ne.mpr he
    have q2 : (e == 0) = false := beq_eq_false_iff_ne.mpr he
    clear h hI hB he
    go_enter Tryd.func68, Tryd.ntmps68
    go_wp2
    go_ret
    exact ⟨rfl, HI.out, HB.out, HK.out⟩
def rfEnt (k : Nat) (m : Int) (l : List S88) (e i : Int) : Option (ByteArray × ByteArray × Int) :=
  if e = 0 then (nuncioref11_At.f k m l i).map fun p => (p.1, p.2.1, if p.2.2 = true then 0 else 92) else some (⟨#[]⟩, ⟨#[]⟩, e)
set_option maxHeartbeats 4000000 in
set_option maxRecDepth 100000 in
theorem rf_entry (k g : Nat) (m : Int) (A : Option Addr) (c : Nat) (l : List S88) (s : ByteArray) (a e i : Int) (r : ByteArray × ByteArray × Int) (w0 w : World) (hI : IsX w g m A l.length c s a e) (hg : w0.heap.size ≤ g) (hB : Below w0.heap.size w0 w) (hl : Kd.C k88 w A l.length l) (hc : l.length ≤ c) (h : rfEnt k m l e i = some r) :
    Calls Tryd.prog 49 #[.pointer (some ⟨g, 0, none⟩), .int .i64 i] w fun en w' => en = .returned (.agg #[.string r.1, .string r.2.1]) ∧ IsX w' g m A l.length c s a r.2.2 ∧ Below w0.heap.size w0 w' ∧ KeepBut w w' g none := by
  unfold rfEnt at h
  have HI := Aside0.mk hI
  have HB := Aside0.mk hB
  have HL := Aside0.mk hl
  have HC := Aside0.mk hc
  have HG := Aside0.mk (blk_lt hI)
  have hu88_ := Tryd.underlying88
  have hu37_ := Tryd.underlying37
  by_cases he : e = 0
  · subst he
    rw [if_pos rfl] at h
    obtain ⟨⟨nm, vl, ok⟩, h1, h2⟩ := Option.map_eq_some_iff.mp h
    subst h2
    have A1 := Aside0.mk h1
    clear h h1 hI hB hl hc
    go_enter Tryd.func49, Tryd.ntmps49
    go_upto_region 4 with (first | ((with_reducible refine gate_dst (N := 4) rfl ?_); refine box_event ?hg (N := 4) ?hd (cs := #[.string ⟨#[]⟩, .string ⟨#[]⟩]) (t := 88) ?hr ?_; (case hd => rfl); (case hg => rfl); (case hr => first | (go_simp; done) | (go_simp; rfl)); intro g4 hg4 w1 hbox hb; have G4 := Aside0.mk (show g4 ≠ g by have := HG.out; omega); have W4 := Aside0.mk (show w.heap.size ≤ g4 by omega); have B4 := Aside0.mk hbox; have HI1 := Aside0.mk (HI.out.below hb); have HL1 := Aside0.mk (Kd.C_below HL.out hb); have HB1 := Aside0.mk hb; clear hg4 hbox hb; have c0 := HI1.out.c0; have c1 := HI1.out.c1; have c4 := HI1.out.c4) | (go_at_call 67; (with_reducible refine (nuncioref11_At.calls k m A c l i nm vl ok _ HL1.out HC.out A1.out).mono ?_); rintro en w2 ⟨rfl, hb⟩; have HB2 := Aside0.mk (below_step HB1.out hb); have HI2 := Aside0.mk (HI1.out.below hb); have B42 := Aside0.mk (blk_below B4.out hb); clear hb c0 c1 c4) | ((with_reducible refine gate_dst (N := 5) rfl ?_); refine box_event ?hg (N := 5) ?hd (cs := #[.string ⟨#[]⟩, .string ⟨#[]⟩]) (t := 88) ?hr ?_; (case hd => rfl); (case hg => rfl); (case hr => first | (go_simp; done) | (go_simp; rfl)); intro g5 hg5 w3 hbox hb; have W5 := Aside0.mk (show w.heap.size ≤ g5 by have := HB2.out.size; omega); have G54 := Aside0.mk (show g5 ≠ g4 by have := blk_lt B42.out; omega); have B5 := Aside0.mk hbox; have HB3 := Aside0.mk (below_step HB2.out hb); have HI3 := Aside0.mk (HI2.out.below hb); have B43 := Aside0.mk (blk_below B42.out hb); clear hg5 hbox hb; have y0 : w3.cell? ⟨g5, 0, none⟩ = some (.string ⟨#[]⟩) := (blk_cell B5.out 0).trans rfl; have y1 : w3.cell? ⟨g5, 1, none⟩ = some (.string ⟨#[]⟩) := (blk_cell B5.out 1).trans rfl; have f0 := blk_frozen B5.out 0; have f1 := blk_frozen B5.out 1))
    have N5 := Aside0.mk (show g ≠ g5 by have := HG.out; have := W5.out; omega)
    have HI4 := Aside0.mk (show IsX ((w3.setCell ⟨g5, 0, none⟩ (.string nm)).setCell ⟨g5, 1, none⟩ (.string vl)) g m A l.length c s a 0 from blk_far (p := ⟨g5, 1, none⟩) (blk_far (p := ⟨g5, 0, none⟩) HI3.out N5.out _) N5.out _)
    have B54 := Aside0.mk (blk_put (blk_put B5.out 0 (.string nm) rfl) 1 (.string vl) rfl)
    have B44 := Aside0.mk (blk_far (p := ⟨g5, 1, none⟩) (blk_far (p := ⟨g5, 0, none⟩) B43.out (Ne.symm G54.out) (.string nm)) (Ne.symm G54.out) (.string vl))
    have HB4 := Aside0.mk (below_set (g := g5) (j := 1) (v := .string vl) (below_set (g := g5) (j := 0) (v := .string nm) HB3.out W5.out) W5.out)
    clear y0 y1 f0 f1
    generalize (w3.setCell ⟨g5, 0, none⟩ (.string nm)).setCell ⟨g5, 1, none⟩ (.string vl) = w4 at HI4 B54 B44 HB4 ⊢
    cases ok with
    | true =>
      have y0 : w4.cell? ⟨g5, 0, none⟩ = some (.string nm) := (blk_cell B54.out 0).trans rfl
      have y1 : w4.cell? ⟨g5, 1, none⟩ = some (.string vl) := (blk_cell B54.out 1).trans rfl
      have z0 : w4.cell? ⟨g4, 0, none⟩ = some (.string ⟨#[]⟩) := (blk_cell B44.out 0).trans rfl
      have z1 : w4.cell? ⟨g4, 1, none⟩ = some (.string ⟨#[]⟩) := (blk_cell B44.out 1).trans rfl
      have f0 := blk_frozen B44.out 0
      have f1 := blk_frozen B44.out 1
      have Z := Aside0.mk (show ((w4.setCell ⟨g4, 0, none⟩ (.string nm)).setCell ⟨g4, 1, none⟩ (.string vl)).heap[g4]? = some (.cells #[.string nm, .string vl] 88 (0, 0)) from blk_put (blk_put B44.out 0 (.string nm) rfl) 1 (.string vl) rfl)
      go_wp2
      refine bodyPost_ret (results_cell_row rfl _ _ g4 88 #[.string nm, .string vl] (0, 0) _ rfl Z.out Tryd.underlying88 rfl (by kernel_rfl)) rfl ?_
      have X1 := below_set (g := g4) (j := 1) (v := .string vl) (below_set (g := g4) (j := 0) (v := .string nm) HB4.out W4.out) W4.out
      exact ⟨rfl, blk_far (p := ⟨g4, 1, none⟩) (blk_far (p := ⟨g4, 0, none⟩) HI4.out (Ne.symm G4.out) _) (Ne.symm G4.out) _, below_then HB.out HB.out.size X1, KeepBut.of_below X1 g none⟩
    | false =>
      have c4 := HI4.out.c4
      have f4 := blk_frozen HI4.out 4
      go_upto_region 6 with fail
      have HI5 := Aside0.mk (HI4.out.set4 92)
      have HK5 := Aside0.mk (tb_keeps (j := 4) (v := .int .i64 92) (KeepBut.of_below HB4.out g none))
      have HB5 := Aside0.mk (below_set (g := g) (j := 4) (v := .int .i64 92) (below_then HB.out HB.out.size HB4.out) hg)
      have B55 := Aside0.mk (blk_far (p := ⟨g, 4, none⟩) B54.out (Ne.symm N5.out) (.int .i64 92))
      have B45 := Aside0.mk (blk_far (p := ⟨g, 4, none⟩) B44.out G4.out (.int .i64 92))
      clear c4 f4
      generalize w4.setCell ⟨g, 4, none⟩ (.int .i64 92) = w5 at HI5 HK5 HB5 B55 B45 ⊢
      have y0 : w5.cell? ⟨g5, 0, none⟩ = some (.string nm) := (blk_cell B55.out 0).trans rfl
      have y1 : w5.cell? ⟨g5, 1, none⟩ = some (.string vl) := (blk_cell B55.out 1).trans rfl
      have z0 : w5.cell? ⟨g4, 0, none⟩ = some (.string ⟨#[]⟩) := (blk_cell B45.out 0).trans rfl
      have z1 : w5.cell? ⟨g4, 1, none⟩ = some (.string ⟨#[]⟩) := (blk_cell B45.out 1).trans rfl
      have f0 := blk_frozen B45.out 0
      have f1 := blk_frozen B45.out 1
      have Z := Aside0.mk (show ((w5.setCell ⟨g4, 0, none⟩ (.string nm)).setCell ⟨g4, 1, none⟩ (.string vl)).heap[g4]? = some (.cells #[.string nm, .string vl] 88 (0, 0)) from blk_put (blk_put B45.out 0 (.string nm) rfl) 1 (.string vl) rfl)
      go_wp2
      refine bodyPost_ret (results_cell_row rfl _ _ g4 88 #[.string nm, .string vl] (0, 0) _ rfl Z.out Tryd.underlying88 rfl (by kernel_rfl)) rfl ?_
      have L4 : w0.heap.size ≤ g4 := Nat.le_trans HB.out.size W4.out
      exact ⟨rfl, blk_far (p := ⟨g4, 1, none⟩) (blk_far (p := ⟨g4, 0, none⟩) HI5.out (Ne.symm G4.out) _) (Ne.symm G4.out) _, below_set (below_set HB5.out L4) L4, keep_far (p := ⟨g4, 1, none⟩) (keep_far (p := ⟨g4, 0, none⟩) HK5.out W4.out _) W4.out _⟩
  · rw [if_neg he] at h
    obtain rfl := Option.some.inj h
    have q1 : (e != 0) = true := bne_iff_ne.mpr he
    have q2 : (e == 0) = false := beq_eq_false_iff_ne.mpr he
    clear h hI hB hl hc he
    go_enter Tryd.func49, Tryd.ntmps49
    go_upto_region 2 with (first | ((with_reducible refine gate_dst (N := 4) rfl ?_); refine box_event ?hg (N := 4) ?hd (cs := #[.string ⟨#[]⟩, .string ⟨#[]⟩]) (t := 88) ?hr ?_; (case hd => rfl); (case hg => rfl); (case hr => first | (go_simp; done) | (go_simp; rfl)); intro g4 hg4 w1 hbox hb; have G4 := Aside0.mk (show g4 ≠ g by have := HG.out; omega); have W4 := Aside0.mk (show w.heap.size ≤ g4 by omega); have B4 := Aside0.mk hbox; have HI1 := Aside0.mk (HI.out.below hb); have HB1 := Aside0.mk hb; clear hg4 hbox hb; have c4 := HI1.out.c4; have z0 : w1.cell? ⟨g4, 0, none⟩ = some (.string ⟨#[]⟩) := (blk_cell B4.out 0).trans rfl; have z1 : w1.cell? ⟨g4, 1, none⟩ = some (.string ⟨#[]⟩) := (blk_cell B4.out 1).trans rfl; have f0 := blk_frozen B4.out 0; have f1 := blk_frozen B4.out 1))
    have Z := Aside0.mk (show ((w1.setCell ⟨g4, 0, none⟩ (.string ⟨#[]⟩)).setCell ⟨g4, 1, none⟩ (.string ⟨#[]⟩)).heap[g4]? = some (.cells #[.string ⟨#[]⟩, .string ⟨#[]⟩] 88 (0, 0)) from blk_put (blk_put B4.out 0 (.string ⟨#[]⟩) rfl) 1 (.string ⟨#[]⟩) rfl)
    go_wp2
    refine bodyPost_ret (results_cell_row rfl _ _ g4 88 #[.string ⟨#[]⟩, .string ⟨#[]⟩] (0, 0) _ rfl Z.out Tryd.underlying88 rfl (by kernel_rfl)) rfl ?_
    have X1 := below_set (g := g4) (j := 1) (v := .string ⟨#[]⟩) (below_set (g := g4) (j := 0) (v := .string ⟨#[]⟩) HB1.out W4.out) W4.out
    exact ⟨rfl, blk_far (p := ⟨g4, 1, none⟩) (blk_far (p := ⟨g4, 0, none⟩) HI1.out (Ne.symm G4.out) _) (Ne.symm G4.out) _, below_then HB.out HB.out.size X1, KeepBut.of_below X1 g none⟩
theorem fldE0 (w : World) (v0 v1 : Value) : (Instr.field 88 (.agg #[v0, v1]) 0).run Tryd.prog w = .ok v0 w := by
  have hu := Tryd.underlying88
  have hf := Tryd.underlying9
  simp [Go.Instr.field, run_underlying hu, asAgg, part, isAgg, run_underlying hf]
attribute [local go_sem high] fldE0
def rfLit (k : Nat) (m : Int) (l : List S88) (s : ByteArray) (a e bits : Int) : Option (ByteArray × ByteArray × Int × Int) :=
  (rfNum k s a e bits).bind fun p => if p.1 > 0 then ((rfEnt k m l p.2.2 p.1).bind fun q => (rfText k s p.2.1 q.2.2).bind fun v => some (q.1, v.1, v.2.1, v.2.2)) else ((rfText k s p.2.1 p.2.2).bind fun u => (rfText k s u.2.1 u.2.2).bind fun v => some (u.1, v.1, v.2.1, v.2.2))
set_option maxHeartbeats 4000000 in
set_option maxRecDepth 100000 in
theorem rf_literal (k g : Nat) (m : Int) (A : Option Addr) (c : Nat) (l : List S88) (s : ByteArray) (a e bits : Int) (r : ByteArray × ByteArray × Int × Int) (b : Nat) (ok : Nat → Prop) (w0 w : World) (hI : IsX w g m A l.length c s a e) (hg : w0.heap.size ≤ g) (hB : Below w0.heap.size w0 w) (hl : Kd.R k88 88 w b ok (.slice A l.length c) l) (h : rfLit k m l s a e bits = some r) :
    Calls Tryd.prog 50 #[.pointer (some ⟨g, 0, none⟩), .int .i64 bits] w fun en w' => en = .returned (.agg #[.string r.1, .string r.2.1, .bool false]) ∧ IsX w' g m A l.length c s r.2.2.1 r.2.2.2 ∧ Below w0.heap.size w0 w' ∧ KeepBut w w' g none := by
  unfold rfLit at h
  have HI := Aside0.mk hI
  have HB := Aside0.mk hB
  have HL := Aside0.mk hl
  have HG := Aside0.mk (blk_lt hI)
  obtain ⟨⟨n, a1, e1⟩, h1, h2⟩ := Option.bind_eq_some_iff.mp h
  simp only at h2
  have A1 := Aside0.mk h1
  have A2 := Aside0.mk h2
  clear h h1 h2 hI hB hl
  go_enter Tryd.func50, Tryd.ntmps50
  go_upto_region 2 with (first | ((with_reducible refine gate_dst (N := 4) rfl ?_); refine box_event ?hg (N := 4) ?hd (cs := #[.string ⟨#[]⟩, .string ⟨#[]⟩, .bool false]) (t := 26) ?hr ?_; (case hd => rfl); (case hg => rfl); (case hr => first | (go_simp; done) | (go_simp; rfl)); intro g4 hg4 w1 hbox hb; have G4 := Aside0.mk (show g4 ≠ g by have := HG.out; omega); have W4 := Aside0.mk (show w.heap.size ≤ g4 by omega); have B4 := Aside0.mk hbox; have HI1 := Aside0.mk (HI.out.below hb); have HB1 := Aside0.mk hb; clear hg4 hbox hb) | ((with_reducible refine gate_dst (N := 5) rfl ?_); refine box_event ?hg (N := 5) ?hd (cs := #[.string ⟨#[]⟩, .string ⟨#[]⟩, .bool false]) (t := 26) ?hr ?_; (case hd => rfl); (case hg => rfl); (case hr => first | (go_simp; done) | (go_simp; rfl)); intro g5 hg5 w2 hbox hb; have G54 := Aside0.mk (show g5 ≠ g4 by have := blk_lt B4.out; omega); have W5 := Aside0.mk (show w.heap.size ≤ g5 by have := HB1.out.size; omega); have B5 := Aside0.mk hbox; have HI2 := Aside0.mk (HI1.out.below hb); have HB2 := Aside0.mk (below_step HB1.out hb); have B42 := Aside0.mk (blk_below B4.out hb); clear hg5 hbox hb; have f0 := blk_frozen B5.out 0; have f1 := blk_frozen B5.out 1; have f2 := blk_frozen B5.out 2; have y0 : w2.cell? ⟨g5, 0, none⟩ = some (.string ⟨#[]⟩) := (blk_cell B5.out 0).trans rfl; have y1 : w2.cell? ⟨g5, 1, none⟩ = some (.string ⟨#[]⟩) := (blk_cell B5.out 1).trans rfl; have y2 : w2.cell? ⟨g5, 2, none⟩ = some (.bool false) := (blk_cell B5.out 2).trans rfl))
  have N5 := Aside0.mk (show g5 ≠ g by have := HG.out; have := W5.out; omega)
  have L4 := Aside0.mk (show w0.heap.size ≤ g4 from Nat.le_trans HB.out.size W4.out)
  have L5 := Aside0.mk (show w0.heap.size ≤ g5 from Nat.le_trans HB.out.size W5.out)
  have HI3 := Aside0.mk (show IsX (((w2.setCell ⟨g5, 0, none⟩ (.string ⟨#[]⟩)).setCell ⟨g5, 1, none⟩ (.string ⟨#[]⟩)).setCell ⟨g5, 2, none⟩ (.bool false)) g m A l.length c s a e from blk_far (p := ⟨g5, 2, none⟩) (blk_far (p := ⟨g5, 1, none⟩) (blk_far (p := ⟨g5, 0, none⟩) HI2.out (Ne.symm N5.out) _) (Ne.symm N5.out) _) (Ne.symm N5.out) _)
  have B53 := Aside0.mk (blk_put (blk_put (blk_put B5.out 0 (.string ⟨#[]⟩) rfl) 1 (.string ⟨#[]⟩) rfl) 2 (.bool false) rfl)
  have B43 := Aside0.mk (blk_far (p := ⟨g5, 2, none⟩) (blk_far (p := ⟨g5, 1, none⟩) (blk_far (p := ⟨g5, 0, none⟩) B42.out (Ne.symm G54.out) (.string ⟨#[]⟩)) (Ne.symm G54.out) (.string ⟨#[]⟩)) (Ne.symm G54.out) (.bool false))
  have HB3 := Aside0.mk (below_set (g := g5) (j := 2) (v := .bool false) (below_set (g := g5) (j := 1) (v := .string ⟨#[]⟩) (below_set (g := g5) (j := 0) (v := .string ⟨#[]⟩) HB2.out W5.out) W5.out) W5.out)
  clear y0 y1 y2 f0 f1 f2
  generalize ((w2.setCell ⟨g5, 0, none⟩ (.string ⟨#[]⟩)).setCell ⟨g5, 1, none⟩ (.string ⟨#[]⟩)).setCell ⟨g5, 2, none⟩ (.bool false) = w3 at HI3 B53 B43 HB3 ⊢
  have HC3 := Aside0.mk (below_then HB.out HB.out.size HB3.out)
  by_cases hn : n > 0
  · have q0 : decide (0 < n) = true := decide_eq_true hn
    have h2 := A2.out
    rw [if_pos hn] at h2
    obtain ⟨⟨nm, vl, e2⟩, h3, h4⟩ := Option.bind_eq_some_iff.mp h2
    obtain ⟨⟨v, a3, e3⟩, h5, h6⟩ := Option.bind_eq_some_iff.mp h4
    obtain rfl := Option.some.inj h6
    have A3 := Aside0.mk h3
    have A5 := Aside0.mk h5
    clear h2 h3 h4 h5 h6 A2 hn
    go_upto_region 6 with (first | (go_at_call 48; (with_reducible refine (rf_number k g m A l.length c s a e bits (n, a1, e1) w0 _ HI3.out hg HC3.out A1.out).mono ?_); rintro en w4 ⟨rfl, hi, hb, hk⟩; have HI4 := Aside0.mk hi; have HC4 := Aside0.mk hb; have HK4 := Aside0.mk (tb_keep2 (KeepBut.of_below HB3.out g none) hk); have B44 := Aside0.mk ((hk.2 g4 (blk_lt B43.out) G4.out (by simp)).trans B43.out); have B54 := Aside0.mk ((hk.2 g5 (blk_lt B53.out) N5.out (by simp)).trans B53.out); clear hi hb hk) | (go_at_call 49; (with_reducible refine (rf_entry k g m A c l s a1 e1 n (nm, vl, e2) w0 _ HI4.out hg HC4.out ?hLL (Kd.R_reads' HL.out).2.1 A3.out).mono ?_); (case hLL => exact (Kd.R_reads' (Kd.R_keep (Kd.R_types HL.out HI.out (by decide)) HK4.out (fun _ h => h.2))).2.2); rintro en w5 ⟨rfl, hi, hb, hk⟩; have HI5 := Aside0.mk hi; have HC5 := Aside0.mk hb; have HK5 := Aside0.mk (tb_keep2 HK4.out hk); have B45 := Aside0.mk ((hk.2 g4 (blk_lt B44.out) G4.out (by simp)).trans B44.out); have B55 := Aside0.mk ((hk.2 g5 (blk_lt B54.out) N5.out (by simp)).trans B54.out); clear hi hb hk; have f0 := blk_frozen B55.out 0; have y0 : w5.cell? ⟨g5, 0, none⟩ = some (.string ⟨#[]⟩) := (blk_cell B55.out 0).trans rfl))
    have HI6 := Aside0.mk (show IsX (w5.setCell ⟨g5, 0, none⟩ (.string nm)) g m A l.length c s a1 e2 from blk_far (p := ⟨g5, 0, none⟩) HI5.out (Ne.symm N5.out) _)
    have HC6 := Aside0.mk (below_set (g := g5) (j := 0) (v := .string nm) HC5.out L5.out)
    have HK6 := Aside0.mk (keep_far (p := ⟨g5, 0, none⟩) HK5.out W5.out (.string nm))
    have B56 := Aside0.mk (blk_put B55.out 0 (.string nm) rfl)
    have B46 := Aside0.mk (blk_far (p := ⟨g5, 0, none⟩) B45.out (Ne.symm G54.out) (.string nm))
    clear f0 y0
    generalize w5.setCell ⟨g5, 0, none⟩ (.string nm) = w6 at HI6 HC6 HK6 B56 B46 ⊢
    go_upto_region 7 with (first | (go_at_call 68; (with_reducible refine (rf_text k g m A l.length c s a1 e2 (v, a3, e3) w0 _ HI6.out hg HC6.out A5.out).mono ?_); rintro en w7 ⟨rfl, hi, hb, hk⟩; have HI7 := Aside0.mk hi; have HC7 := Aside0.mk hb; have HK7 := Aside0.mk (tb_keep2 HK6.out hk); have B47 := Aside0.mk ((hk.2 g4 (blk_lt B46.out) G4.out (by simp)).trans B46.out); have B57 := Aside0.mk ((hk.2 g5 (blk_lt B56.out) N5.out (by simp)).trans B56.out); clear hi hb hk; have f1 := blk_frozen B57.out 1; have y1 : w7.cell? ⟨g5, 1, none⟩ = some (.string ⟨#[]⟩) := (blk_cell B57.out 1).trans rfl))
    have HI8 := Aside0.mk (show IsX (w7.setCell ⟨g5, 1, none⟩ (.string v)) g m A l.length c s a3 e3 from blk_far (p := ⟨g5, 1, none⟩) HI7.out (Ne.symm N5.out) _)
    have HC8 := Aside0.mk (below_set (g := g5) (j := 1) (v := .string v) HC7.out L5.out)
    have HK8 := Aside0.mk (keep_far (p := ⟨g5, 1, none⟩) HK7.out W5.out (.string v))
    have B58 := Aside0.mk (blk_put B57.out 1 (.string v) rfl)
    have B48 := Aside0.mk (blk_far (p := ⟨g5, 1, none⟩) B47.out (Ne.symm G54.out) (.string v))
    clear f1 y1
    generalize w7.setCell ⟨g5, 1, none⟩ (.string v) = w8 at HI8 HC8 HK8 B58 B48 ⊢
    have x0 : w8.cell? ⟨g5, 0, none⟩ = some (.string nm) := (blk_cell B58.out 0).trans rfl
    have x1 : w8.cell? ⟨g5, 1, none⟩ = some (.string v) := (blk_cell B58.out 1).trans rfl
    have x2 : w8.cell? ⟨g5, 2, none⟩ = some (.bool false) := (blk_cell B58.out 2).trans rfl
    have z0 : w8.cell? ⟨g4, 0, none⟩ = some (.string ⟨#[]⟩) := (blk_cell B48.out 0).trans rfl
    have z1 : w8.cell? ⟨g4, 1, none⟩ = some (.string ⟨#[]⟩) := (blk_cell B48.out 1).trans rfl
    have z2 : w8.cell? ⟨g4, 2, none⟩ = some (.bool false) := (blk_cell B48.out 2).trans rfl
    have f0 := blk_frozen B48.out 0
    have f1 := blk_frozen B48.out 1
    have f2 := blk_frozen B48.out 2
    have Z := Aside0.mk (show (((w8.setCell ⟨g4, 0, none⟩ (.string nm)).setCell ⟨g4, 1, none⟩ (.string v)).setCell ⟨g4, 2, none⟩ (.bool false)).heap[g4]? = some (.cells #[.string nm, .string v, .bool false] 26 (0, 0)) from blk_put (blk_put (blk_put B48.out 0 (.string nm) rfl) 1 (.string v) rfl) 2 (.bool false) rfl)
    go_wp2
    refine bodyPost_ret (results_cell_row rfl _ _ g4 26 #[.string nm, .string v, .bool false] (0, 0) _ rfl Z.out Tryd.underlying26 rfl (by kernel_rfl)) rfl ?_
    exact ⟨rfl, blk_far (p := ⟨g4, 2, none⟩) (blk_far (p := ⟨g4, 1, none⟩) (blk_far (p := ⟨g4, 0, none⟩) HI8.out (Ne.symm G4.out) _) (Ne.symm G4.out) _) (Ne.symm G4.out) _, below_set (below_set (below_set HC8.out L4.out) L4.out) L4.out, keep_far (p := ⟨g4, 2, none⟩) (keep_far (p := ⟨g4, 1, none⟩) (keep_far (p := ⟨g4, 0, none⟩) HK8.out W4.out _) W4.out _) W4.out _⟩
  · have q0 : decide (0 < n) = false := decide_eq_false hn
    have h2 := A2.out
    rw [if_neg hn] at h2
    obtain ⟨⟨nm, a2, e2⟩, h3, h4⟩ := Option.bind_eq_some_iff.mp h2
    obtain ⟨⟨v, a3, e3⟩, h5, h6⟩ := Option.bind_eq_some_iff.mp h4
    obtain rfl := Option.some.inj h6
    have A3 := Aside0.mk h3
    have A5 := Aside0.mk h5
    clear h2 h3 h4 h5 h6 A2 hn
    go_upto_region 6 with (first | (go_at_call 48; (with_reducible refine (rf_number k g m A l.length c s a e bits (n, a1, e1) w0 _ HI3.out hg HC3.out A1.out).mono ?_); rintro en w4 ⟨rfl, hi, hb, hk⟩; have HI4 := Aside0.mk hi; have HC4 := Aside0.mk hb; have HK4 := Aside0.mk (tb_keep2 (KeepBut.of_below HB3.out g none) hk); have B44 := Aside0.mk ((hk.2 g4 (blk_lt B43.out) G4.out (by simp)).trans B43.out); have B54 := Aside0.mk ((hk.2 g5 (blk_lt B53.out) N5.out (by simp)).trans B53.out); clear hi hb hk) | (go_at_call 68; (with_reducible refine (rf_text k g m A l.length c s a1 e1 (nm, a2, e2) w0 _ HI4.out hg HC4.out A3.out).mono ?_); rintro en w5 ⟨rfl, hi, hb, hk⟩; have HI5 := Aside0.mk hi; have HC5 := Aside0.mk hb; have HK5 := Aside0.mk (tb_keep2 HK4.out hk); have B45 := Aside0.mk ((hk.2 g4 (blk_lt B44.out) G4.out (by simp)).trans B44.out); have B55 := Aside0.mk ((hk.2 g5 (blk_lt B54.out) N5.out (by simp)).trans B54.out); clear hi hb hk; have f0 := blk_frozen B55.out 0; have y0 : w5.cell? ⟨g5, 0, none⟩ = some (.string ⟨#[]⟩) := (blk_cell B55.out 0).trans rfl))
    have HI6 := Aside0.mk (show IsX (w5.setCell ⟨g5, 0, none⟩ (.string nm)) g m A l.length c s a2 e2 from blk_far (p := ⟨g5, 0, none⟩) HI5.out (Ne.symm N5.out) _)
    have HC6 := Aside0.mk (below_set (g := g5) (j := 0) (v := .string nm) HC5.out L5.out)
    have HK6 := Aside0.mk (keep_far (p := ⟨g5, 0, none⟩) HK5.out W5.out (.string nm))
    have B56 := Aside0.mk (blk_put B55.out 0 (.string nm) rfl)
    have B46 := Aside0.mk (blk_far (p := ⟨g5, 0, none⟩) B45.out (Ne.symm G54.out) (.string nm))
    clear f0 y0
    generalize w5.setCell ⟨g5, 0, none⟩ (.string nm) = w6 at HI6 HC6 HK6 B56 B46 ⊢
    go_upto_region 7 with (first | (go_at_call 68; (with_reducible refine (rf_text k g m A l.length c s a2 e2 (v, a3, e3) w0 _ HI6.out hg HC6.out A5.out).mono ?_); rintro en w7 ⟨rfl, hi, hb, hk⟩; have HI7 := Aside0.mk hi; have HC7 := Aside0.mk hb; have HK7 := Aside0.mk (tb_keep2 HK6.out hk); have B47 := Aside0.mk ((hk.2 g4 (blk_lt B46.out) G4.out (by simp)).trans B46.out); have B57 := Aside0.mk ((hk.2 g5 (blk_lt B56.out) N5.out (by simp)).trans B56.out); clear hi hb hk; have f1 := blk_frozen B57.out 1; have y1 : w7.cell? ⟨g5, 1, none⟩ = some (.string ⟨#[]⟩) := (blk_cell B57.out 1).trans rfl))
    have HI8 := Aside0.mk (show IsX (w7.setCell ⟨g5, 1, none⟩ (.string v)) g m A l.length c s a3 e3 from blk_far (p := ⟨g5, 1, none⟩) HI7.out (Ne.symm N5.out) _)
    have HC8 := Aside0.mk (below_set (g := g5) (j := 1) (v := .string v) HC7.out L5.out)
    have HK8 := Aside0.mk (keep_far (p := ⟨g5, 1, none⟩) HK7.out W5.out (.string v))
    have B58 := Aside0.mk (blk_put B57.out 1 (.string v) rfl)
    have B48 := Aside0.mk (blk_far (p := ⟨g5, 1, none⟩) B47.out (Ne.symm G54.out) (.string v))
    clear f1 y1
    generalize w7.setCell ⟨g5, 1, none⟩ (.string v) = w8 at HI8 HC8 HK8 B58 B48 ⊢
    have x0 : w8.cell? ⟨g5, 0, none⟩ = some (.string nm) := (blk_cell B58.out 0).trans rfl
    have x1 : w8.cell? ⟨g5, 1, none⟩ = some (.string v) := (blk_cell B58.out 1).trans rfl
    have x2 : w8.cell? ⟨g5, 2, none⟩ = some (.bool false) := (blk_cell B58.out 2).trans rfl
    have z0 : w8.cell? ⟨g4, 0, none⟩ = some (.string ⟨#[]⟩) := (blk_cell B48.out 0).trans rfl
    have z1 : w8.cell? ⟨g4, 1, none⟩ = some (.string ⟨#[]⟩) := (blk_cell B48.out 1).trans rfl
    have z2 : w8.cell? ⟨g4, 2, none⟩ = some (.bool false) := (blk_cell B48.out 2).trans rfl
    have f0 := blk_frozen B48.out 0
    have f1 := blk_frozen B48.out 1
    have f2 := blk_frozen B48.out 2
    have Z := Aside0.mk (show (((w8.setCell ⟨g4, 0, none⟩ (.string nm)).setCell ⟨g4, 1, none⟩ (.string v)).setCell ⟨g4, 2, none⟩ (.bool false)).heap[g4]? = some (.cells #[.string nm, .string v, .bool false] 26 (0, 0)) from blk_put (blk_put (blk_put B48.out 0 (.string nm) rfl) 1 (.string v) rfl) 2 (.bool false) rfl)
    go_wp2
    refine bodyPost_ret (results_cell_row rfl _ _ g4 26 #[.string nm, .string v, .bool false] (0, 0) _ rfl Z.out Tryd.underlying26 rfl (by kernel_rfl)) rfl ?_
    exact ⟨rfl, blk_far (p := ⟨g4, 2, none⟩) (blk_far (p := ⟨g4, 1, none⟩) (blk_far (p := ⟨g4, 0, none⟩) HI8.out (Ne.symm G4.out) _) (Ne.symm G4.out) _) (Ne.symm G4.out) _, below_set (below_set (below_set HC8.out L4.out) L4.out) L4.out, keep_far (p := ⟨g4, 2, none⟩) (keep_far (p := ⟨g4, 1, none⟩) (keep_far (p := ⟨g4, 0, none⟩) HK8.out W4.out _) W4.out _) W4.out _⟩
end Go.Proofs.YtfkdocmhbmameaaDoor.Mine
namespace Go.Proofs.YtfkdocmhbmameaaDoor.Mine
open Go.RowKit Go.Proofs.YtfkdocmhbmameaaDoorW.PrintWords Go.Proofs.YtfkdocmhbmameaaDoorW.PrintLast Go.Proofs.YtfkdocmhbmameaaDoorW.PrintMore
attribute [local go_sem] max2_int min2_int max_two min_two max_three min_three max_four min_four
set_option linter.unusedVariables false
set_option linter.unusedSimpArgs false
def nuncioref11_Add.f (k : Nat) (a0_0 : Int) (l0_1 : List (S88)) (a1 : ByteArray) (a2 : ByteArray) : Option (Int × (List (S88))) := (some (([(⟨a1, a2⟩ : S88)] : List (S88)) : List (S88))).bind fun y309 => (if y309.length + l0_1.length < 4398046511104 then ((nuncioref11_least.f k (y309 ++ l0_1) a0_0).bind fun t315 => (some (a0_0, t315))) else (none))
def nuncioref11_Add.T1 : Bool × List (List Nat × List Nat) := (true, [([], []), ([], []), ([0, 1], [0, 1]), ([2], [2]), ([], []), ([4], [4]), ([3, 5], [3, 5]), ([], []), ([7], [7]), ([6, 8, 6], [6, 8]), ([0, 1, 2, 3, 4, 5, 6, 7, 8, 9], []), ([10, 9, 9, 0, 1, 2, 3, 4, 5, 6, 7, 8, 9], [9, 10])])
def nuncioref11_Add.B1 : List Nat := [0, 0, 3, 7, 0, 16, 63, 0, 128, 511, 1023, 2047]
theorem nuncioref11_Add.tab1 : rtab .any (opsOf Tryd.f44 1) = nuncioref11_Add.T1 := by kernel_rfl
theorem nuncioref11_Add.bits1 : waitsOk nuncioref11_Add.T1.2 nuncioref11_Add.B1 = true := by kernel_rfl
set_option maxHeartbeats 8000000 in
set_option maxRecDepth 100000 in
theorem nuncioref11_Add.calls (k : Nat) (a0_0 : Int) (A0_1 : Option Addr) (c0_1 : Nat) (l0_1 : List (S88)) (a1 : ByteArray) (a2 : ByteArray) (r1 : Int) (r2 : List (S88)) (w : World) (hr0_1 : Kd.C k88 w A0_1 l0_1.length l0_1) (hc0_1 : l0_1.length ≤ c0_1) (h : nuncioref11_Add.f k a0_0 l0_1 a1 a2 = some (r1, r2)) :
  Calls Tryd.prog 44 #[.agg #[.int .i64 a0_0, .slice A0_1 l0_1.length c0_1], .string a1, .string a2] w fun e w' => ∃ v1_ : Value, e = .returned (.agg #[.int .i64 r1, v1_]) ∧ Kd.R k88 88 w' w.heap.size (fun _ => True) v1_ r2 ∧ Below w.heap.size w w' := by
 have hu37 := Tryd.underlying37
 have hu88 := Tryd.underlying88
 have HR0_1 := Aside0.mk hr0_1
 have HC0_1 := Aside0.mk hc0_1
 clear hr0_1 hc0_1
 have HB := Aside0.mk (Below.refl w.heap.size w)
 have H : ((some (([(⟨a1, a2⟩ : S88)] : List (S88)) : List (S88))).bind fun y309 => (if y309.length + l0_1.length < 4398046511104 then ((nuncioref11_least.f k (y309 ++ l0_1) a0_0).bind fun t315 => (some (a0_0, t315))) else (none))) = some (r1, r2) := h
 clear h
 obtain ⟨y309, hy309⟩ : ∃ y_ : List (S88), y_ = (([(⟨a1, a2⟩ : S88)] : List (S88))) := ⟨_, rfl⟩
 replace H : (if y309.length + l0_1.length < 4398046511104 then ((nuncioref11_least.f k (y309 ++ l0_1) a0_0).bind fun t315 => (some (a0_0, t315))) else (none)) = some (r1, r2) := by first | (rw [hy309]; with_reducible exact H) | (have H2_ := (Option.bind_some _ _).symm.trans H; rw [hy309]; with_reducible exact H2_) | (have H2_ := (Option.bind_some _ _).symm.trans H; with_reducible exact H2_) | with_reducible exact H | (rw [hy309]; exact H) | exact H
 have Ny309 := Aside0.mk hy309
 clear hy309
 by_cases c4 : y309.length + l0_1.length < 4398046511104
 ·
  rw [if_pos c4] at H
  have LMc4 := Aside0.mk c4
  clear c4
  obtain ⟨y312, hy312⟩ : ∃ y_ : List (S88), y_ = (y309 ++ l0_1) := ⟨_, rfl⟩
  replace H : ((nuncioref11_least.f k y312 a0_0).bind fun t315 => (some (a0_0, t315))) = some (r1, r2) := by first | (rw [hy312]; with_reducible exact H) | (have H2_ := (Option.bind_some _ _).symm.trans H; rw [hy312]; with_reducible exact H2_) | (have H2_ := (Option.bind_some _ _).symm.trans H; with_reducible exact H2_) | with_reducible exact H | (rw [hy312]; exact H) | exact H
  have Ny312 := Aside0.mk hy312
  clear hy312
  replace H := Option.bind_eq_some_iff.mp H
  obtain ⟨t315, A50, H⟩ := H
  replace H : (some (a0_0, t315)) = some (r1, r2) := H
  have A5 := Aside0.mk A50
  clear A50
  simp only [Option.some.injEq, Prod.mk.injEq] at H
  obtain ⟨rfl, rfl⟩ := H
  go_enter Tryd.func44, Tryd.ntmps44
  try go_wp2_with (first | ((with_reducible refine gate_dst (N := 3) rfl ?_); refine box_event ?hg (N := 3) ?hd (cs := #[.int .i64 a0_0, .slice A0_1 l0_1.length c0_1]) (t := 37) ?hr ?_; (case hd => rfl); (case hg => rfl); (case hr => first | (go_simp; done) | (go_simp; rfl)); intro gb307 hg w6 hbox hb; have n0_ := Aside0.mk (below_step (by repeat (first | (with_reducible first | exact HB.out | apply below_alloc | apply pw_below_drewN | apply below_drew1) | exact HB.out)) hb); have n1_ := Aside0.mk (hbox); have n2_ := Aside0.mk ((by rw [hg]; exact (below_size (by repeat (first | (with_reducible first | exact HB.out | apply below_alloc | apply pw_below_drewN | apply below_drew1) | exact HB.out))) : w.heap.size ≤ gb307)); have n3_ := Aside0.mk ((by rw [hg]; exact (below_size (by repeat (first | (with_reducible first | exact HB.out | apply below_alloc | apply pw_below_drewN | apply below_drew1) | exact HB.out))) : w.heap.size ≤ gb307)); clear HB; have HB := n0_; have BK307 := n1_; have GW307 := n2_; have GE307 := n3_; clear n0_ n1_ n2_ n3_; clear hb hbox hg) | ((with_reducible refine gate_dst (N := 6) rfl ?_); refine box_event ?hg (N := 6) ?hd (cs := #[.int .i64 0, .slice none 0 0]) (t := 37) ?hr ?_; (case hd => rfl); (case hg => rfl); (case hr => first | (go_simp; done) | (go_simp; rfl)); intro gb308 hg w7 hbox hb; have n0_ := Aside0.mk (blk_below (g := gb307) (o := .cells #[.int .i64 a0_0, .slice A0_1 l0_1.length c0_1] 37 (0, 0)) (by (with_reducible repeat (first | refine blk_drewN ?_ _ | refine blk_drew ?_ | refine blk_alloc ?_ _)); exact BK307.out) hb); have n1_ := Aside0.mk (below_step (by repeat (first | (with_reducible first | exact HB.out | apply below_alloc | apply pw_below_drewN | apply below_drew1 | refine below_set ?_ GE307.out) | exact HB.out)) hb); have n2_ := Aside0.mk (hbox); have n3_ := Aside0.mk ((by rw [hg]; exact (below_size (by repeat (first | (with_reducible first | exact HB.out | apply below_alloc | apply pw_below_drewN | apply below_drew1 | refine below_set ?_ GE307.out) | exact HB.out))) : w.heap.size ≤ gb308)); have n4_ := Aside0.mk ((by rw [hg]; exact (below_size (by repeat (first | (with_reducible first | exact HB.out | apply below_alloc | apply pw_below_drewN | apply below_drew1 | refine below_set ?_ GE307.out) | exact HB.out))) : w.heap.size ≤ gb308)); have n5_ := Aside0.mk ((by rw [hg]; exact Nat.ne_of_lt (blk_lt (g := gb307) (o := .cells #[.int .i64 a0_0, .slice A0_1 l0_1.length c0_1] 37 (0, 0)) (by (with_reducible repeat (first | refine blk_drewN ?_ _ | refine blk_drew ?_ | refine blk_alloc ?_ _)); exact BK307.out)) : gb307 ≠ gb308)); have n6_ := Aside0.mk ((by rw [hg]; exact Nat.ne_of_gt (blk_lt (g := gb307) (o := .cells #[.int .i64 a0_0, .slice A0_1 l0_1.length c0_1] 37 (0, 0)) (by (with_reducible repeat (first | refine blk_drewN ?_ _ | refine blk_drew ?_ | refine blk_alloc ?_ _)); exact BK307.out)) : gb308 ≠ gb307)); clear BK307; clear HB; have BK307 := n0_; have HB := n1_; have BK308 := n2_; have GW308 := n3_; have GE308 := n4_; have NB307_308 := n5_; have NB308_307 := n6_; clear n0_ n1_ n2_ n3_ n4_ n5_ n6_; clear hb hbox hg))
  have n0_ := Aside0.mk (blk_drew BK307.out)
  have n1_ := Aside0.mk (blk_drew BK308.out)
  have n2_ := Aside0.mk (below_drew1 HB.out)
  clear BK307
  clear BK308
  clear HB
  have BK307 := n0_
  have BK308 := n1_
  have HB := n2_
  clear n0_ n1_ n2_
  refine start_ (n := 12) (S := fun w' => w'.cell? ⟨gb307, 0, none⟩ = some (.int .i64 a0_0) ∧ w'.cell? ⟨gb307, 1, none⟩ = some (.slice A0_1 l0_1.length c0_1)) (ds := [11]) #[false, false, false, false, false, false, false, false, false, false, false, false] (by kernel_rfl) rfl rfl ⟨(blk_cell BK307.out 0).trans rfl, (blk_cell BK307.out 1).trans rfl⟩ (fun hHeld => ?_); refine with_tabW nuncioref11_Add.tab1 nuncioref11_Add.bits1 (fun HT_ HW_ => ?_)
  generalize w7.drew = w8 at BK307 BK308 HB hHeld ⊢
  refine pure_ (i := 0) (N := some 7) (v := ?_) (a' := ?_) #[true, false, false, false, false, false, false, false, false, false, false, false] rfl rfl (any_of HT_.out (by kernel_rfl)) (fun _ _ _ h => h) (Or.inl ⟨by rfl, ?_⟩) ?_ ?_
  rotate_left
  ·
   intro w'
   go_simp
   with_reducible rfl
  rotate_left
  ·
   simp only [Act.put, List.setIfInBounds_toArray, List.set_cons_zero, List.set_cons_succ, i64_w, i32_w]
   rfl
  refine pure_ (i := 1) (N := some 8) (v := ?_) (a' := ?_) #[true, true, false, false, false, false, false, false, false, false, false, false] rfl rfl (any_of HT_.out (by kernel_rfl)) (fun _ _ _ h => h) (Or.inl ⟨by rfl, ?_⟩) ?_ ?_
  rotate_left
  ·
   intro w'
   go_simp
   with_reducible rfl
  rotate_left
  ·
   simp only [Act.put, List.setIfInBounds_toArray, List.set_cons_zero, List.set_cons_succ, i64_w, i32_w]
   rfl
  refine pure_ (i := 2) (N := some 9) (v := ?_) (a' := ?_) #[true, true, true, false, false, false, false, false, false, false, false, false] rfl rfl (any_of HT_.out (by kernel_rfl)) (fun _ _ _ h => h) (Or.inl ⟨by rfl, ?_⟩) ?_ ?_
  rotate_left
  ·
   intro w'
   go_simp
   with_reducible rfl
  rotate_left
  ·
   simp only [Act.put, List.setIfInBounds_toArray, List.set_cons_zero, List.set_cons_succ, i64_w, i32_w]
   rfl
  refine pure_ (i := 4) (N := some 11) (v := ?_) (a' := ?_) #[true, true, true, false, true, false, false, false, false, false, false, false] rfl rfl (any_of HT_.out (by kernel_rfl)) (fun _ _ _ h => h) (Or.inl ⟨by rfl, ?_⟩) ?_ ?_
  rotate_left
  ·
   intro w'
   go_simp
   with_reducible rfl
  rotate_left
  ·
   simp only [Act.put, List.setIfInBounds_toArray, List.set_cons_zero, List.set_cons_succ, i64_w, i32_w]
   rfl
  refine pure_ (i := 7) (N := some 14) (v := ?_) (a' := ?_) #[true, true, true, false, true, false, false, true, false, false, false, false] rfl rfl (any_of HT_.out (by kernel_rfl)) (fun _ _ _ h => h) (Or.inl ⟨by rfl, ?_⟩) ?_ ?_
  rotate_left
  ·
   intro w'
   go_simp
   with_reducible rfl
  rotate_left
  ·
   simp only [Act.put, List.setIfInBounds_toArray, List.set_cons_zero, List.set_cons_succ, i64_w, i32_w]
   rfl
  refine take_ (i := 5) (N := some 12) (v := ?_) (a' := ?_) #[true, true, true, false, true, true, false, true, false, false, false, false] rfl rfl (take_ofW HT_.out HW_.out (by kernel_rfl)) (fun _ _ _ h => h) (Or.inl ⟨by rfl, ?_⟩) hHeld ?_ ?_
  rotate_left
  ·
   rintro w' ⟨s0, s1⟩
   go_simp
   with_reducible rfl
  rotate_left
  ·
   simp only [Act.put, List.setIfInBounds_toArray, List.set_cons_zero, List.set_cons_succ, i64_w, i32_w]
   rfl
  refine take_ (i := 8) (N := some 15) (v := ?_) (a' := ?_) #[true, true, true, false, true, true, false, true, true, false, false, false] rfl rfl (take_ofW HT_.out HW_.out (by kernel_rfl)) (fun _ _ _ h => h) (Or.inl ⟨by rfl, ?_⟩) hHeld ?_ ?_
  rotate_left
  ·
   rintro w' ⟨s0, s1⟩
   go_simp
   with_reducible rfl
  rotate_left
  ·
   simp only [Act.put, List.setIfInBounds_toArray, List.set_cons_zero, List.set_cons_succ, i64_w, i32_w]
   rfl
  refine one_ (i := 3) (N := some 10) #[true, true, true, true, true, true, false, true, true, false, false, false] rfl rfl (one_of HT_.out (by kernel_rfl)) (by decide) (fun K hK => ?_)
  refine Kd.R_lit_step k88 _ 88 ?hg (N := 10) ?hd (xs := ([(⟨a1, a2⟩ : S88)] : List (S88))) (inner := [.string a1, .string a2]) (ok := fun _ => True) (okp := fun _ => True) ?hr ?hp (fun _ hk => hk) trivial (Below.refl _ _) (Nat.le_refl _) (by simp) ?_; (case hd => rfl); (case hg => rfl); (case hr => first | (go_simp; done) | (go_simp; rfl)); (case hp => exact (Reps.c2 (show Kd.M k88 _ _ _ (⟨a1, a2⟩ : S88) [.string a1, .string a2] from (k88_mkM _ _ _ (⟨a1, a2⟩ : S88) )) (Reps.none _ _)))
  intro v310 w9 ho10 hb hg_ hnew_
  clear hg_ hnew_
  (first | rw [← Ny309.out] at ho10 | (simp only [Int.reduceToNat] at ho10; rw [← Ny309.out] at ho10))
  have n0_ := Aside0.mk (Kd.R_lower ho10 (below_size (by repeat (first | (with_reducible first | exact HB.out | apply below_alloc | apply pw_below_drewN | apply below_drew1 | refine below_set ?_ GE307.out | refine below_set ?_ GE308.out) | exact HB.out))))
  have n1_ := Aside0.mk (blk_below (g := gb307) (o := .cells #[.int .i64 a0_0, .slice A0_1 l0_1.length c0_1] 37 (0, 0)) (by (with_reducible repeat (first | refine blk_drewN ?_ _ | refine blk_drew ?_ | refine blk_alloc ?_ _)); exact BK307.out) hb)
  have n2_ := Aside0.mk (blk_below (g := gb308) (o := .cells #[.int .i64 0, .slice none 0 0] 37 (0, 0)) (by (with_reducible repeat (first | refine blk_drewN ?_ _ | refine blk_drew ?_ | refine blk_alloc ?_ _)); exact BK308.out) hb)
  have n3_ := Aside0.mk (below_step (by repeat (first | (with_reducible first | exact HB.out | apply below_alloc | apply pw_below_drewN | apply below_drew1 | refine below_set ?_ GE307.out | refine below_set ?_ GE308.out) | exact HB.out)) hb)
  clear BK307
  clear BK308
  clear HB
  have HO311 := n0_
  have BK307 := n1_
  have BK308 := n2_
  have HB := n3_
  clear n0_ n1_ n2_ n3_
  clear hb ho10
  refine hK.out _ _ ⟨(blk_cell BK307.out 0).trans rfl, (blk_cell BK307.out 1).trans rfl⟩ (fun hHeld => ?_)
  clear hK K
  refine norm_ (a' := ?_) ?_ ?_
  rotate_left
  ·
   show Act.put _ (some 10) _ = _
   simp only [Act.put, List.setIfInBounds_toArray, List.set_cons_zero, List.set_cons_succ, i64_w, i32_w]
   rfl
  refine one_ (i := 6) (N := some 13) #[true, true, true, true, true, true, true, true, true, false, false, false] rfl rfl (one_of HT_.out (by kernel_rfl)) (by decide) (fun K hK => ?_)
  refine Kd.R_append_rows_step k88 (w0 := w) w.heap.size (by rfl) (.tmp 10) (.tmp 12) 35 88 (.agg #[(.string ⟨#[]⟩), (.string ⟨#[]⟩)]) 32 rfl Tryd.underlying35 info88 rfl (by decide) (by omega) v310 y309 l0_1 _ _ _ (fun _ => True) (fun _ => False) rfl rfl ?aO ?aR (fun _ _ h => h) (fun _ h => h.elim) ?aF ?aB ?aS ?aL ?_
  (case aR => repeat (first | exact (Kd.C_below HR0_1.out HB.out) | (with_reducible refine Kd.C_alloc ?_ _) | (with_reducible refine Kd.C_drewN ?_ _) | (with_reducible refine Kd.C_drew ?_)))
  (case aB => exact (by repeat (first | (with_reducible first | exact HB.out | apply below_alloc | apply pw_below_drewN | apply below_drew1 | refine below_set ?_ GE307.out | refine below_set ?_ GE308.out) | exact HB.out)))
  (case aF => exact (fun _ _ => trivial))
  (case aO => exact (by (with_reducible repeat (first | apply Kd.R_alloc | apply Kd.R_drewN | apply Kd.R_drew)); exact HO311.out))
  (case aS => exact (below_size (by repeat (first | (with_reducible first | exact HB.out | apply below_alloc | apply pw_below_drewN | apply below_drew1 | refine below_set ?_ GE307.out | refine below_set ?_ GE308.out) | exact HB.out))))
  (case aL => have := LMc4.out; omega)
  intro v313 w11 ho hb hg hat
  rw [← Ny312.out] at ho
  have n0_ := Aside0.mk (blk_grown (g := gb307) (o := .cells #[.int .i64 a0_0, .slice A0_1 l0_1.length c0_1] 37 (0, 0)) (by (with_reducible repeat (first | refine blk_drewN ?_ _ | refine blk_drew ?_ | refine blk_alloc ?_ _)); exact BK307.out) hg (Kd.R_ne HO311.out BK307.out (by decide)))
  have n1_ := Aside0.mk (blk_grown (g := gb308) (o := .cells #[.int .i64 0, .slice none 0 0] 37 (0, 0)) (by (with_reducible repeat (first | refine blk_drewN ?_ _ | refine blk_drew ?_ | refine blk_alloc ?_ _)); exact BK308.out) hg (Kd.R_ne HO311.out BK308.out (by decide)))
  have n2_ := Aside0.mk (hb)
  have n3_ := Aside0.mk (ho)
  clear BK307
  clear BK308
  clear HB
  clear HO311
  have BK307 := n0_
  have BK308 := n1_
  have HB := n2_
  have HO314 := n3_
  clear n0_ n1_ n2_ n3_
  clear ho hb hg hat
  obtain ⟨Ao12, co12, eo12⟩ := Kd.R_slice HO314.out
  (first | subst eo12 | (injection eo12 with f1_ f2_ f3_; have f4_ := f1_.symm; have f5_ := f3_.symm; clear f1_ f2_ f3_; subst f4_; subst f5_))
  refine hK.out _ _ ⟨(blk_cell BK307.out 0).trans rfl, (blk_cell BK307.out 1).trans rfl⟩ (fun hHeld => ?_)
  clear hK K
  refine norm_ (a' := ?_) ?_ ?_
  rotate_left
  ·
   show Act.put _ (some 13) _ = _
   simp only [Act.put, List.setIfInBounds_toArray, List.set_cons_zero, List.set_cons_succ, i64_w, i32_w]
   rfl
  refine one_ (i := 9) (N := some 16) #[true, true, true, true, true, true, true, true, true, true, false, false] rfl rfl (one_of HT_.out (by kernel_rfl)) (by decide) (fun K hK => ?_)
  refine goes_ Tryd.func58 (by kernel_rfl) rfl #[.slice Ao12 y312.length co12, .int .i64 a0_0] (by rfl) rfl rfl (by (try simp only [List.map_toArray, List.map_cons, List.map_nil]); first | done | rfl | (simp only [List.length_drop, List.length_take]; rfl)) ?_
  with_reducible refine (nuncioref11_least.calls k _ _ y312 a0_0 t315 _ ?side1 ?side2 A5.out).mono ?_
  (case side1 => repeat (first | exact (Kd.R_reads' HO314.out).2.2 | (with_reducible refine Kd.C_alloc ?_ _) | (with_reducible refine Kd.C_drewN ?_ _) | (with_reducible refine Kd.C_drew ?_)))
  (case side2 => exact (Kd.R_reads' HO314.out).2.1)
  rintro e w13 ⟨v316, rfl, ho0, hb⟩
  refine ⟨_, rfl, ?_⟩
  have n0_ := Aside0.mk (Kd.R_elder' (by (with_reducible repeat (first | apply Kd.R_alloc | apply Kd.R_drewN | apply Kd.R_drew)); exact HO314.out) (Kd.R_base ho0) hb)
  have n1_ := Aside0.mk (Kd.R_lower (Kd.R_new' ho0 (Kd.R_lt (by (with_reducible repeat (first | apply Kd.R_alloc | apply Kd.R_drewN | apply Kd.R_drew)); exact HO314.out))) (below_size (by repeat (first | (with_reducible first | exact HB.out | apply below_alloc | apply pw_below_drewN | apply below_drew1 | refine below_set ?_ GE307.out | refine below_set ?_ GE308.out) | exact HB.out))))
  have n2_ := Aside0.mk (blk_below (g := gb307) (o := .cells #[.int .i64 a0_0, .slice A0_1 l0_1.length c0_1] 37 (0, 0)) (by (with_reducible repeat (first | refine blk_drewN ?_ _ | refine blk_drew ?_ | refine blk_alloc ?_ _)); exact BK307.out) hb)
  have n3_ := Aside0.mk (blk_below (g := gb308) (o := .cells #[.int .i64 0, .slice none 0 0] 37 (0, 0)) (by (with_reducible repeat (first | refine blk_drewN ?_ _ | refine blk_drew ?_ | refine blk_alloc ?_ _)); exact BK308.out) hb)
  have n4_ := Aside0.mk (below_step (by repeat (first | (with_reducible first | exact HB.out | apply below_alloc | apply pw_below_drewN | apply below_drew1 | refine below_set ?_ GE307.out | refine below_set ?_ GE308.out) | exact HB.out)) hb)
  clear HO314
  clear BK307
  clear BK308
  clear HB
  have HO314 := n0_
  have HO317 := n1_
  have BK307 := n2_
  have BK308 := n3_
  have HB := n4_
  clear n0_ n1_ n2_ n3_ n4_
  (try clear hb)
  (try clear hb2)
  (try clear hk)
  (try clear hi)
  (try clear ho0)
  obtain ⟨Ao14, co14, eo14⟩ := Kd.R_slice HO317.out
  (first | subst eo14 | (injection eo14 with f1_ f2_ f3_; have f4_ := f1_.symm; have f5_ := f3_.symm; clear f1_ f2_ f3_; subst f4_; subst f5_))
  refine hK.out _ _ ⟨(blk_cell BK307.out 0).trans rfl, (blk_cell BK307.out 1).trans rfl⟩ (fun hHeld => ?_)
  clear hK K
  refine norm_ (a' := ?_) ?_ ?_
  rotate_left
  ·
   show Act.put _ (some 16) _ = _
   simp only [Act.put, List.setIfInBounds_toArray, List.set_cons_zero, List.set_cons_succ, i64_w, i32_w]
   rfl
  refine pure_ (i := 10) (N := some 17) (v := ?_) (a' := ?_) #[true, true, true, true, true, true, true, true, true, true, true, false] rfl rfl (any_of HT_.out (by kernel_rfl)) (fun _ _ _ h => h) (Or.inl ⟨by rfl, ?_⟩) ?_ ?_
  rotate_left
  ·
   intro w'
   go_simp
   with_reducible rfl
  rotate_left
  ·
   simp only [Act.put, List.setIfInBounds_toArray, List.set_cons_zero, List.set_cons_succ, i64_w, i32_w]
   rfl
  refine last_ (i := 11) (N := none) #[true, true, true, true, true, true, true, true, true, true, true, true] rfl rfl (one_of HT_.out (by kernel_rfl)) (by decide) (fun K hK => ?_)
  have hs15 : w13.cell? ⟨gb307, 1, none⟩ = some (.slice A0_1 l0_1.length c0_1) := (blk_cell BK307.out 1).trans rfl
  have hfs15 := blk_frozen BK307.out 1
  have hns15_1 := NB308_307.out
  have hms15_1 := NB307_308.out
  refine skip_ (w1 := ?_) (by rfl) rfl ?_ ?_
  rotate_left
  ·
   go_simp
   rfl
  refine hK.out _ _ ?_
  clear hK K
  refine done_ (done_of HT_.out (by kernel_rfl)) ?_
  have hnb16 := NB307_308.out
  have hnc16 := NB308_307.out
  have hcz17_0 : w13.cell? ⟨gb307, 0, none⟩ = some (.int .i64 a0_0) := (blk_cell BK307.out 0).trans rfl
  have hcz17_1 : w13.cell? ⟨gb307, 1, none⟩ = some (.slice A0_1 l0_1.length c0_1) := (blk_cell BK307.out 1).trans rfl
  have hfz17_0 := blk_frozen BK307.out 0
  have hfz17_1 := blk_frozen BK307.out 1
  have hcz18_0 : w13.cell? ⟨gb308, 0, none⟩ = some (.int .i64 0) := (blk_cell BK308.out 0).trans rfl
  have hcz18_1 : w13.cell? ⟨gb308, 1, none⟩ = some (.slice none 0 0) := (blk_cell BK308.out 1).trans rfl
  have hfz18_0 := blk_frozen BK308.out 0
  have hfz18_1 := blk_frozen BK308.out 1
  try go_wp2
  refine bodyPost_ret (results_cell_row rfl _ _ gb308 37 #[.int .i64 a0_0, .slice Ao14 t315.length co14] (0, 0) _ rfl (by (with_reducible repeat (first | refine blk_drewN ?_ _ | refine blk_drew ?_ | refine blk_alloc ?_ _)); refine blk_put (cs := #[.int .i64 a0_0, .slice none 0 0]) ?_ 1 _ rfl; (with_reducible repeat (first | refine blk_drewN ?_ _ | refine blk_drew ?_ | refine blk_alloc ?_ _)); refine blk_put (cs := #[.int .i64 0, .slice none 0 0]) ?_ 0 _ rfl; (with_reducible repeat (first | refine blk_drewN ?_ _ | refine blk_drew ?_ | refine blk_alloc ?_ _)); refine blk_far ?_ NB308_307.out _; (with_reducible repeat (first | refine blk_drewN ?_ _ | refine blk_drew ?_ | refine blk_alloc ?_ _)); exact BK308.out) Tryd.underlying37 rfl (by kernel_rfl)) rfl ?_
  exact ⟨_, by first | rfl | (simp [errW_none, errW_some] <;> rfl) | (simp [*, errW_none, errW_some] <;> rfl), by (with_reducible repeat (first | apply Kd.R_alloc | apply Kd.R_drewN | apply Kd.R_drew)); exact Kd.R_mono (Kd.R_far (p := ⟨gb308, 1, none⟩) (Kd.R_far (p := ⟨gb308, 0, none⟩) (Kd.R_far (p := ⟨gb307, 1, none⟩) (Kd.R_types (Kd.R_types HO317.out BK307.out (by decide)) BK308.out (by decide)) (fun _ hk => hk.1.2) (.slice Ao14 t315.length co14)) (fun _ hk => hk.2) (.int .i64 a0_0)) (fun _ hk => hk.2) (.slice Ao14 t315.length co14)) (fun _ hk => trivial), by repeat (first | (with_reducible first | exact HB.out | apply below_alloc | apply pw_below_drewN | apply below_drew1 | refine below_set ?_ GE307.out | refine below_set ?_ GE308.out) | exact HB.out)⟩
 ·
  rw [if_neg c4] at H
  exact absurd H (by simp)
end Go.Proofs.YtfkdocmhbmameaaDoor.Mine
