/- The walks and the plain laws that the row comes to: merged out of this repo's texts. -/
import Derived.Test.YtfkdocmhbmameaaDoorProg
import Derived.Below
import Derived.Deep.Draws
import Derived.Deep.AppendLies
import Derived.Maps.AppendAt
import Derived.OwnWalk
import Derived.Laws.BytesArg
import Derived.Laws.MakeOwn
import Derived.Laws.OwnMore
import Derived.Deep.OwnRows
import Derived.Tactics
import Derived.Lib.ConvBytes
import Derived.Laws.Slices
import Derived.WalkKit
import Derived.KernelRfl
import Derived.RowKit3
import Derived.Deep.LoopGhost
import Derived.Deep.QuietTactic
import Derived.BigQuiet
import Derived.WideLaws
import Derived.Deep.DeepCutAuto
import Derived.Deep.CutBlock
import Derived.Deep.RegionHeld3
import Derived.Laws.Rows
import Derived.Lib.AppendStr
import Derived.ArgAppend
import Derived.Laws.IdiomCopy
import Derived.RowKit
import Derived.OrdersHeld
import Derived.Laws.BitsLemmas
import Derived.Laws.StructEq
import Derived.Laws.CopyOwn
import Derived.SizedLaws
import Derived.ChangeSlices
import Derived.Deep.Slices
import Derived.Lib.SmallJoins
import Derived.Lib.OthersKept
import Derived.Lib.AppendZerosOnto
import Derived.WalkSpells
import Derived.Shelf.Utf8.RuneCount
import Derived.Shelf.Strings.Search1
import Derived.Shelf.Strings.Search2
import Derived.Shelf.Strings.Search3
import Derived.Shelf.Strings.Cut
import Derived.Shelf.Strings.Count
import Derived.Shelf.LaysM
import Derived.Shelf.Strings.Shaped
import Derived.Shelf.Strings.Split
import Derived.Shelf.Strings.SplitShaped
import Derived.Shelf.Unicode.Decode
import Derived.Shelf.Strings.RuneCount
import Derived.Shelf.Strings.Explode
import Derived.Shelf.Unicode.DecodeSlow
import Derived.Shelf.Unicode.DecodeAny
import Derived.Recover
import Derived.WalkLawsBesides
import Derived.Test.YtfkdocmhbmameaaDoorCUnpackReads1
import Derived.Test.YtfkdocmhbmameaaDoorCUnpackReads2
import Derived.Test.YtfkdocmhbmameaaDoorCUnpackReads3
import Derived.Test.YtfkdocmhbmameaaDoorCUnpackReads4
import Derived.Test.YtfkdocmhbmameaaDoorCUnpackReads5
import Derived.Test.YtfkdocmhbmameaaDoorCUnpackReads6
import Derived.Test.YtfkdocmhbmameaaDoorCUnpackReads7
import Derived.Test.YtfkdocmhbmameaaDoorCUnpackReads8
import Derived.Test.YtfkdocmhbmameaaDoorCUnpackReads9
import Derived.Test.YtfkdocmhbmameaaDoorCUnpackReads10
namespace Go.Proofs.YtfkdocmhbmameaaDoor.Mine
open Go.RowKit Go.Proofs Go.Proofs.YtfkdocmhbmameaaDoorW.PrintWords Go.Proofs.YtfkdocmhbmameaaDoorW.PrintLast Go.Proofs.YtfkdocmhbmameaaDoorW.PrintMore
attribute [local go_sem] max2_int min2_int max_two min_two max_three min_three max_four min_four
set_option linter.unusedVariables false
set_option linter.unusedSimpArgs false
theorem ud_yes (v : Value) (w : World) : (Instr.typeAssert (.iface 58 v) 20 58 true).run Tryd.prog w = .ok (.tuple #[v, .bool true]) w := by kernel_rfl
theorem ud_no (w : World) : (Instr.typeAssert .nilIface 20 58 true).run Tryd.prog w = .ok (.tuple #[.int .i64 0, .bool false]) w := by kernel_rfl
set_option maxHeartbeats 400000 in
set_option maxRecDepth 100000 in
theorem ud_catch (g gt g2 g4 g5 : Nat) (b : Bool) (e x : Int) (v : Value) (older : List PanicEntry) (w : World) (h2 : w.heap[g2]? = some (.cells #[.pointer (some ⟨g, 0, none⟩)] 53 (0, 0))) (hD : w.heap[g]? = some (.cells #[.pointer (some ⟨gt, 0, none⟩), .bool b] 90 (0, 0))) (h4 : w.heap[g4]? = some (.cells #[v] 22 (0, 0))) (h5 : w.heap[g5]? = some (.cells #[.int .i64 x] 58 (0, 0))) :
    CallsD Tryd.prog 46 #[.pointer (some ⟨g2, 0, none⟩), .pointer (some ⟨g4, 0, none⟩), .pointer (some ⟨g5, 0, none⟩)] (.panicking ({ v := .iface 58 (.int .i64 e), recovered := false } :: older)) w fun en u' w' =>
      en = .returned (.tuple #[]) ∧ u' = .panicking ({ v := .iface 58 (.int .i64 e), recovered := true } :: older) ∧ w' = ((w.setCell ⟨g, 1, none⟩ (.bool true)).setCell ⟨g4, 0, none⟩ (.slice none 0 0)).setCell ⟨g5, 0, none⟩ (.int .i64 e) := by
  have c2 : w.cell? ⟨g2, 0, none⟩ = some (.pointer (some ⟨g, 0, none⟩)) := (blk_cell h2 0).trans rfl
  have cD : w.cell? ⟨g, 1, none⟩ = some (.bool b) := (blk_cell hD 1).trans rfl
  have fD := blk_frozen hD 1
  have n4 : g4 ≠ g := by rintro rfl; rw [hD] at h4; exact absurd h4 (by simp)
  have n5 : g5 ≠ g := by rintro rfl; rw [hD] at h5; exact absurd h5 (by simp)
  have n54 : g5 ≠ g4 := by rintro rfl; rw [h4] at h5; exact absurd h5 (by simp)
  have k4 := blk_far (p := ⟨g, 1, none⟩) h4 n4 (.bool true)
  have c4 : (w.setCell ⟨g, 1, none⟩ (.bool true)).cell? ⟨g4, 0, none⟩ = some v := (blk_cell k4 0).trans rfl
  have f4 := blk_frozen k4 0
  have k5 := blk_far (p := ⟨g4, 0, none⟩) (blk_far (p := ⟨g, 1, none⟩) h5 n5 (.bool true)) n54 (.slice none 0 0)
  have c5 : ((w.setCell ⟨g, 1, none⟩ (.bool true)).setCell ⟨g4, 0, none⟩ (.slice none 0 0)).cell? ⟨g5, 0, none⟩ = some (.int .i64 x) := (blk_cell k5 0).trans rfl
  have f5 := blk_frozen k5 0
  refine callsD_of_wpS Tryd.func46 rfl fun c₀ cs hu => ?_
  apply wpS_seq
  apply wpS_region
  simp [wpOpsS, go_sem, recoverD, hu, Tryd.ntmps46, Exit.thenS, ud_yes]
  apply wpS_seq
  apply wpS_region
  simp [wpOpsS, go_sem, Exit.thenS]
  refine wpS_cond (t := true) (by simp [go_sem]) ?_
  simp only [if_true]
  apply wpS_seq
  apply wpS_region
  simp [wpOpsS, go_sem, c2, cD, fD, Exit.thenS]
  apply wpS_region
  simp [wpOpsS, go_sem, c4, f4, c5, f5, bodyPostS, results, Tryd.results46]
set_option maxHeartbeats 400000 in
set_option maxRecDepth 100000 in
theorem ud_idle (g2 g4 g5 : Nat) (w : World) :
    CallsD Tryd.prog 46 #[.pointer (some ⟨g2, 0, none⟩), .pointer (some ⟨g4, 0, none⟩), .pointer (some ⟨g5, 0, none⟩)] .returning w fun en u' w' => en = .returned (.tuple #[]) ∧ u' = .returning ∧ w' = w := by
  refine callsD_of_wpS Tryd.func46 rfl fun c₀ cs hu => ?_
  apply wpS_seq
  apply wpS_region
  simp [wpOpsS, go_sem, recoverD, hu, Tryd.ntmps46, Exit.thenS, ud_no]
  apply wpS_seq
  apply wpS_region
  simp [wpOpsS, go_sem, Exit.thenS]
  refine wpS_cond (t := false) (by simp [go_sem]) ?_
  simp only [Bool.false_eq_true, if_false]
  apply wpS_of_wp
  apply wp_skip
  simp [bodyPostS, results, Tryd.results46]
  cases c₀
  simp_all
theorem ud_keepset {w W : World} {g j : Nat} {r : Option Nat} {v : Value} (h : KeepBut w W g r) : KeepBut w (W.setCell ⟨g, j, none⟩ v) g r := ⟨by simpa [World.setCell] using h.1, fun i hi hg hr => (Below.heap_setCell W ⟨g, j, none⟩ v i hg).trans (h.2 i hi hg hr)⟩
theorem ud_keepnew {w W W1 : World} {g g2 : Nat} {r : Option Nat} (h : KeepBut w W g r) (h2 : KeepBut W W1 g2 r) (hg : w.heap.size ≤ g2) : KeepBut w W1 g r := ⟨Nat.le_trans h.1 h2.1, fun i hi h3 h4 => (h2.2 i (Nat.lt_of_lt_of_le hi h.1) (by omega) h4).trans (h.2 i hi h3 h4)⟩
def unpack_Decoder_Read.f (k : Nat) (d : TD) (s : ByteArray) : Option (List S26 × Int × TD) :=
  if d.down = true then some ([], 8, d) else (upFld k k d.t s 0 []).bind fun q => match q.2 with | .error e => some ([], e, ⟨q.1, true⟩) | .ok l => some (l, 0, ⟨q.1, false⟩)
set_option maxHeartbeats 4000000 in
set_option maxRecDepth 100000 in
theorem unpack_Decoder_Read.calls (k g : Nat) (s0_0 : TD) (a1 : ByteArray) (r1 : List S26) (r2 : Int) (r3 : TD) (w0 w : World) (hI : IsS90 w0 w g s0_0) (hB : Below w0.heap.size w0 w) (h : unpack_Decoder_Read.f k s0_0 a1 = some (r1, r2, r3)) :
    Calls Tryd.prog 25 #[.pointer (some ⟨g, 0, none⟩), .string a1] w fun e w' => ∃ v0_ : Value, e = .returned (.tuple #[v0_, .int .i64 r2]) ∧ Kd.R k26 26 w' w.heap.size (fun _ => True) v0_ r1 ∧ IsS90 w0 w' g r3 ∧ Below w0.heap.size w0 w' ∧ KeepBut w w' g (some (g - 1)) := by
  have hmf : ∀ (fn : Fn) (first cap : Array Value) (w : World), (Instr.makeFunc fn first cap).run Tryd.prog w = .ok (.func fn first cap) w := fun _ _ _ _ => rfl
  have HI := Aside0.mk hI
  have HB := Aside0.mk hB
  have HG := Aside0.mk hI.lt
  have HP := Aside0.mk hI.pos
  have HGE := Aside0.mk hI.ge
  obtain ⟨gt, hgt, hD, hT⟩ := hI
  have GT := Aside0.mk hgt
  have HD := Aside0.mk hD
  have HT := Aside0.mk hT
  obtain ⟨t, down⟩ := s0_0
  clear hgt hD hT hB
  unfold unpack_Decoder_Read.f at h
  simp only at h
  cases down with
  | true =>
    rw [if_pos rfl] at h
    simp only [Option.some.injEq, Prod.mk.injEq] at h
    obtain ⟨rfl, rfl, rfl⟩ := h
    go_enter_defers Tryd.func25, Tryd.ntmps25
    go_wp2_with (first | ((with_reducible refine gate_dst (N := 2) rfl ?_); refine box_event ?hg (N := 2) ?hd (cs := #[.pointer (some ⟨g, 0, none⟩)]) (t := 53) ?hr ?_; (case hd => rfl); (case hg => rfl); (case hr => first | (go_simp; done) | (go_simp; rfl)); intro g2 hg w2 hbox hb; have W2 := Aside0.mk (show w.heap.size ≤ g2 by omega); have B2 := Aside0.mk hbox; have HB2 := Aside0.mk hb; clear hb hbox hg) | ((with_reducible refine gate_dst (N := 4) rfl ?_); refine box_event ?hg (N := 4) ?hd (cs := #[.slice none 0 0]) (t := 22) ?hr ?_; (case hd => rfl); (case hg => rfl); (case hr => first | (go_simp; done) | (go_simp; rfl)); intro g4 hg w4 hbox hb; have W4 := Aside0.mk (show w.heap.size ≤ g4 by have := HB2.out.size; omega); have B4 := Aside0.mk hbox; have B24 := Aside0.mk (blk_below B2.out hb); have HB4 := Aside0.mk (below_step HB2.out hb); clear hb hbox hg) | ((with_reducible refine gate_dst (N := 5) rfl ?_); refine box_event ?hg (N := 5) ?hd (cs := #[.int .i64 0]) (t := 58) ?hr ?_; (case hd => rfl); (case hg => rfl); (case hr => first | (go_simp; done) | (go_simp; rfl)); intro g5 hg w5 hbox hb; have W5 := Aside0.mk (show w.heap.size ≤ g5 by have := HB4.out.size; omega); have G54 := Aside0.mk (show g5 ≠ g4 by have := blk_lt B4.out; omega); have B5 := Aside0.mk hbox; have B25 := Aside0.mk (blk_below B24.out hb); have B45 := Aside0.mk (blk_below B4.out hb); have HB5 := Aside0.mk (below_step HB4.out hb); have HD5 := Aside0.mk (blk_below HD.out HB5.out); clear hb hbox hg; have c2 := (blk_cell B25.out 0).trans (rfl : _ = some (Value.pointer (some ⟨g, 0, none⟩))); have cD := (blk_cell HD5.out 1).trans (rfl : _ = some (Value.bool true)); have cP := (blk_cell HD5.out 0).trans (rfl : _ = some (Value.pointer (some ⟨gt, 0, none⟩))); have c4 := (blk_cell B45.out 0).trans (rfl : _ = some (Value.slice none 0 0)); have c5 := (blk_cell (blk_far (p := ⟨g4, 0, none⟩) B5.out G54.out (.slice none 0 0)) 0).trans (rfl : _ = some (Value.int .i64 0)); have f4 := blk_frozen B45.out 0; have f5 := blk_frozen (blk_far (p := ⟨g4, 0, none⟩) B5.out G54.out (.slice none 0 0)) 0))
    have hc4 := (blk_cell (blk_far (p := ⟨g5, 0, none⟩) (blk_put B45.out 0 (.slice none 0 0) rfl) (Ne.symm G54.out) (.int .i64 8)) 0).trans (rfl : _ = some (Value.slice none 0 0))
    have hc5 := (blk_cell (blk_put (blk_far (p := ⟨g4, 0, none⟩) B5.out G54.out (.slice none 0 0)) 0 (.int .i64 8) rfl) 0).trans (rfl : _ = some (Value.int .i64 8))
    have XB := Aside0.mk (below_set (g := g5) (j := 0) (v := .int .i64 8) (below_set (g := g4) (j := 0) (v := .slice none 0 0) HB5.out W4.out) W5.out)
    generalize (w5.setCell ⟨g4, 0, none⟩ (.slice none 0 0)).setCell ⟨g5, 0, none⟩ (.int .i64 8) = w6 at hc4 hc5 XB ⊢
    simp [bodyPostD, Leaves, settle, results, Tryd.results25, go_sem, hc4, hc5]
    exact ⟨Kd.R_nil _ _ _ _ _, HI.out.below XB.out, below_then HB.out HB.out.size XB.out, KeepBut.of_below XB.out g _⟩
  | false =>
    rw [if_neg (by decide)] at h
    obtain ⟨⟨t2, RES⟩, h1, h2⟩ := Option.bind_eq_some_iff.mp h
    simp only at h2
    have A1 := Aside0.mk h1
    have L6 : Aside0 (∀ q, w.heap.size ≤ q → w0.heap.size ≤ q) := ⟨fun q hq => Nat.le_trans HB.out.size hq⟩
    have TN : Aside0 (∀ q, w.heap.size ≤ q → q ≠ gt) := ⟨fun q hq => by have := HT.out.lt; omega⟩
    have hgt : g - 1 = gt := by have := GT.out; omega
    rw [hgt]
    clear h h1
    cases RES with
    | error e =>
      simp only [Option.some.injEq, Prod.mk.injEq] at h2
      obtain ⟨rfl, rfl, rfl⟩ := h2
      go_enter_defers Tryd.func25, Tryd.ntmps25
      go_wp2_with (first | ((with_reducible refine gate_dst (N := 2) rfl ?_); refine box_event ?hg (N := 2) ?hd (cs := #[.pointer (some ⟨g, 0, none⟩)]) (t := 53) ?hr ?_; (case hd => rfl); (case hg => rfl); (case hr => first | (go_simp; done) | (go_simp; rfl)); intro g2 hg w2 hbox hb; have W2 := Aside0.mk (show w.heap.size ≤ g2 by omega); have B2 := Aside0.mk hbox; have HB2 := Aside0.mk hb; clear hb hbox hg) | ((with_reducible refine gate_dst (N := 4) rfl ?_); refine box_event ?hg (N := 4) ?hd (cs := #[.slice none 0 0]) (t := 22) ?hr ?_; (case hd => rfl); (case hg => rfl); (case hr => first | (go_simp; done) | (go_simp; rfl)); intro g4 hg w4 hbox hb; have W4 := Aside0.mk (show w.heap.size ≤ g4 by have := HB2.out.size; omega); have B4 := Aside0.mk hbox; have B24 := Aside0.mk (blk_below B2.out hb); have HB4 := Aside0.mk (below_step HB2.out hb); clear hb hbox hg) | ((with_reducible refine gate_dst (N := 5) rfl ?_); refine box_event ?hg (N := 5) ?hd (cs := #[.int .i64 0]) (t := 58) ?hr ?_; (case hd => rfl); (case hg => rfl); (case hr => first | (go_simp; done) | (go_simp; rfl)); intro g5 hg w5 hbox hb; have W5 := Aside0.mk (show w.heap.size ≤ g5 by have := HB4.out.size; omega); have G54 := Aside0.mk (show g5 ≠ g4 by have := blk_lt B4.out; omega); have B5 := Aside0.mk hbox; have B25 := Aside0.mk (blk_below B24.out hb); have B45 := Aside0.mk (blk_below B4.out hb); have HB5 := Aside0.mk (below_step HB4.out hb); have HD5 := Aside0.mk (blk_below HD.out HB5.out); clear hb hbox hg; have c2 := (blk_cell B25.out 0).trans (rfl : _ = some (Value.pointer (some ⟨g, 0, none⟩))); have cD := (blk_cell HD5.out 1).trans (rfl : _ = some (Value.bool false)); have cP := (blk_cell HD5.out 0).trans (rfl : _ = some (Value.pointer (some ⟨gt, 0, none⟩))); have c4 := (blk_cell B45.out 0).trans (rfl : _ = some (Value.slice none 0 0)); have c5 := (blk_cell (blk_far (p := ⟨g4, 0, none⟩) B5.out G54.out (.slice none 0 0)) 0).trans (rfl : _ = some (Value.int .i64 0)); have f4 := blk_frozen B45.out 0; have f5 := blk_frozen (blk_far (p := ⟨g4, 0, none⟩) B5.out G54.out (.slice none 0 0)) 0) | ((with_reducible refine gate_dst (N := 18) rfl ?_); refine box_event ?hg (N := 18) ?hd (cs := #[.pointer (some ⟨gt, 0, none⟩), .string a1, .int .i64 0]) (t := 94) ?hr ?_; (case hd => rfl); (case hg => rfl); (case hr => first | (go_simp; done) | (go_simp; rfl)); intro g18 hg w6 hbox hb; have HB6 := Aside0.mk (below_step HB5.out hb); have W6 := Aside0.mk (show w.heap.size ≤ g18 by have := HB5.out.size; omega); have HI6 := Aside0.mk (show IsB w6 g18 gt a1 0 from hbox); have HT6 := Aside0.mk (HT.out.below HB6.out); have N6 := Aside0.mk (show g18 ≠ gt by have := HT.out.lt; have := W6.out; omega); have B26 := Aside0.mk (blk_below B25.out hb); have B46 := Aside0.mk (blk_below B45.out hb); have B56 := Aside0.mk (blk_below B5.out hb); have HD6 := Aside0.mk (blk_below HD5.out hb); have N2 := Aside0.mk (show g2 ≠ g18 by have := blk_lt B25.out; omega); have N4 := Aside0.mk (show g4 ≠ g18 by have := blk_lt B45.out; omega); have N5 := Aside0.mk (show g5 ≠ g18 by have := blk_lt B5.out; omega); have ND := Aside0.mk (show g ≠ g18 by have := HG.out; have := W6.out; omega); have C6 := Aside0.mk (below_then HB.out HB.out.size HB6.out); clear hb hbox hg c2 cD cP c4 c5 f4 f5) | (go_at_call 47; (with_reducible refine (up_fields k k g18 gt t a1 0 (t2, .error e) w0 _ HI6.out HT6.out N6.out (L6.out _ W6.out) C6.out A1.out).mono ?_); have T2 := Aside0.mk (TN.out _ W2.out); have T4 := Aside0.mk (TN.out _ W4.out); have T5 := Aside0.mk (TN.out _ W5.out); rintro en w7 ⟨hb, hk, ht, rfl⟩; have HB7 := Aside0.mk hb; have HK7 := Aside0.mk (ud_keepnew (KeepBut.of_below HB6.out g (some gt)) hk W6.out); have HT7 := Aside0.mk ht; have B27 := Aside0.mk ((hk.2 g2 (blk_lt B26.out) N2.out (fun e_ => T2.out (Option.some.inj e_))).trans B26.out); have B47 := Aside0.mk ((hk.2 g4 (blk_lt B46.out) N4.out (fun e_ => T4.out (Option.some.inj e_))).trans B46.out); have B57 := Aside0.mk ((hk.2 g5 (blk_lt B56.out) N5.out (fun e_ => T5.out (Option.some.inj e_))).trans B56.out); have HD7 := Aside0.mk ((hk.2 g (blk_lt HD6.out) ND.out (fun e_ => by have := GT.out; have := Option.some.inj e_; omega)).trans HD6.out); clear hb hk ht))
      refine leaves_cons (f := 46) (args := #[.pointer (some ⟨g2, 0, none⟩), .pointer (some ⟨g4, 0, none⟩), .pointer (some ⟨g5, 0, none⟩)]) (by simp) (by simp [go_sem]) ?_
      refine (ud_catch g gt g2 g4 g5 false e 0 (.slice none 0 0) _ _ B27.out HD7.out B47.out B57.out).mono ?_
      rintro en2 u' w'' ⟨rfl, rfl, rfl⟩
      have G4 := Aside0.mk (show g4 ≠ g by have := HG.out; have := W4.out; omega)
      have G5 := Aside0.mk (show g5 ≠ g by have := HG.out; have := W5.out; omega)
      have D1 := blk_put HD7.out 1 (.bool true) rfl
      have E4 := blk_far (p := ⟨g, 1, none⟩) B47.out G4.out (.bool true)
      have E5 := blk_far (p := ⟨g, 1, none⟩) B57.out G5.out (.bool true)
      have D2 := blk_far (p := ⟨g5, 0, none⟩) (blk_far (p := ⟨g4, 0, none⟩) D1 (Ne.symm G4.out) (.slice none 0 0)) (Ne.symm G5.out) (.int .i64 e)
      have F4 := blk_far (p := ⟨g5, 0, none⟩) (blk_put E4 0 (.slice none 0 0) rfl) (Ne.symm G54.out) (.int .i64 e)
      have F5 := blk_put (blk_far (p := ⟨g4, 0, none⟩) E5 G54.out (.slice none 0 0)) 0 (.int .i64 e) rfl
      have T8 := IsS77.farT (p := ⟨g5, 0, none⟩) (IsS77.farT (p := ⟨g4, 0, none⟩) (IsS77.farT (p := ⟨g, 1, none⟩) HT7.out (TyOf.mk HD7.out) (by decide) (.bool true)) (TyOf.mk E4) (by decide) (.slice none 0 0)) (TyOf.mk (blk_far (p := ⟨g4, 0, none⟩) E5 G54.out (.slice none 0 0))) (by decide) (.int .i64 e)
      have X8 := below_set (g := g5) (j := 0) (v := .int .i64 e) (below_set (g := g4) (j := 0) (v := .slice none 0 0) (below_set (g := g) (j := 1) (v := .bool true) HB7.out HGE.out) (L6.out _ W4.out)) (L6.out _ W5.out)
      have K8 := keep_far (p := ⟨g5, 0, none⟩) (keep_far (p := ⟨g4, 0, none⟩) (ud_keepset (j := 1) (v := .bool true) HK7.out) W4.out (.slice none 0 0)) W5.out (.int .i64 e)
      have hc4 := (blk_cell F4 0).trans (rfl : _ = some (Value.slice none 0 0))
      have hc5 := (blk_cell F5 0).trans (rfl : _ = some (Value.int .i64 e))
      simp [Leaves, settle, results, Tryd.results25, go_sem, hc4, hc5]
      exact ⟨Kd.R_nil _ _ _ _ _, ⟨gt, GT.out, D2, T8⟩, X8, K8⟩
    | ok l =>
      simp only [Option.some.injEq, Prod.mk.injEq] at h2
      obtain ⟨rfl, rfl, rfl⟩ := h2
      go_enter_defers Tryd.func25, Tryd.ntmps25
      go_wp2_with (first | ((with_reducible refine gate_dst (N := 2) rfl ?_); refine box_event ?hg (N := 2) ?hd (cs := #[.pointer (some ⟨g, 0, none⟩)]) (t := 53) ?hr ?_; (case hd => rfl); (case hg => rfl); (case hr => first | (go_simp; done) | (go_simp; rfl)); intro g2 hg w2 hbox hb; have W2 := Aside0.mk (show w.heap.size ≤ g2 by omega); have B2 := Aside0.mk hbox; have HB2 := Aside0.mk hb; clear hb hbox hg) | ((with_reducible refine gate_dst (N := 4) rfl ?_); refine box_event ?hg (N := 4) ?hd (cs := #[.slice none 0 0]) (t := 22) ?hr ?_; (case hd => rfl); (case hg => rfl); (case hr => first | (go_simp; done) | (go_simp; rfl)); intro g4 hg w4 hbox hb; have W4 := Aside0.mk (show w.heap.size ≤ g4 by have := HB2.out.size; omega); have B4 := Aside0.mk hbox; have B24 := Aside0.mk (blk_below B2.out hb); have HB4 := Aside0.mk (below_step HB2.out hb); clear hb hbox hg) | ((with_reducible refine gate_dst (N := 5) rfl ?_); refine box_event ?hg (N := 5) ?hd (cs := #[.int .i64 0]) (t := 58) ?hr ?_; (case hd => rfl); (case hg => rfl); (case hr => first | (go_simp; done) | (go_simp; rfl)); intro g5 hg w5 hbox hb; have W5 := Aside0.mk (show w.heap.size ≤ g5 by have := HB4.out.size; omega); have G54 := Aside0.mk (show g5 ≠ g4 by have := blk_lt B4.out; omega); have B5 := Aside0.mk hbox; have B25 := Aside0.mk (blk_below B24.out hb); have B45 := Aside0.mk (blk_below B4.out hb); have HB5 := Aside0.mk (below_step HB4.out hb); have HD5 := Aside0.mk (blk_below HD.out HB5.out); clear hb hbox hg; have c2 := (blk_cell B25.out 0).trans (rfl : _ = some (Value.pointer (some ⟨g, 0, none⟩))); have cD := (blk_cell HD5.out 1).trans (rfl : _ = some (Value.bool false)); have cP := (blk_cell HD5.out 0).trans (rfl : _ = some (Value.pointer (some ⟨gt, 0, none⟩))); have c4 := (blk_cell B45.out 0).trans (rfl : _ = some (Value.slice none 0 0)); have c5 := (blk_cell (blk_far (p := ⟨g4, 0, none⟩) B5.out G54.out (.slice none 0 0)) 0).trans (rfl : _ = some (Value.int .i64 0)); have f4 := blk_frozen B45.out 0; have f5 := blk_frozen (blk_far (p := ⟨g4, 0, none⟩) B5.out G54.out (.slice none 0 0)) 0) | ((with_reducible refine gate_dst (N := 18) rfl ?_); refine box_event ?hg (N := 18) ?hd (cs := #[.pointer (some ⟨gt, 0, none⟩), .string a1, .int .i64 0]) (t := 94) ?hr ?_; (case hd => rfl); (case hg => rfl); (case hr => first | (go_simp; done) | (go_simp; rfl)); intro g18 hg w6 hbox hb; have HB6 := Aside0.mk (below_step HB5.out hb); have W6 := Aside0.mk (show w.heap.size ≤ g18 by have := HB5.out.size; omega); have HI6 := Aside0.mk (show IsB w6 g18 gt a1 0 from hbox); have HT6 := Aside0.mk (HT.out.below HB6.out); have N6 := Aside0.mk (show g18 ≠ gt by have := HT.out.lt; have := W6.out; omega); have B26 := Aside0.mk (blk_below B25.out hb); have B46 := Aside0.mk (blk_below B45.out hb); have B56 := Aside0.mk (blk_below B5.out hb); have HD6 := Aside0.mk (blk_below HD5.out hb); have N2 := Aside0.mk (show g2 ≠ g18 by have := blk_lt B25.out; omega); have N4 := Aside0.mk (show g4 ≠ g18 by have := blk_lt B45.out; omega); have N5 := Aside0.mk (show g5 ≠ g18 by have := blk_lt B5.out; omega); have ND := Aside0.mk (show g ≠ g18 by have := HG.out; have := W6.out; omega); have C6 := Aside0.mk (below_then HB.out HB.out.size HB6.out); clear hb hbox hg c2 cD cP c4 c5 f4 f5) | (go_at_call 47; (with_reducible refine (up_fields k k g18 gt t a1 0 (t2, .ok l) w0 _ HI6.out HT6.out N6.out (L6.out _ W6.out) C6.out A1.out).mono ?_); have T2 := Aside0.mk (TN.out _ W2.out); have T4 := Aside0.mk (TN.out _ W4.out); have T5 := Aside0.mk (TN.out _ W5.out); rintro en w7 ⟨hb, hk, ht, v, rfl, hr⟩; obtain ⟨A9, c9, rfl⟩ := Kd.R_slice hr; have HB7 := Aside0.mk hb; have HK7 := Aside0.mk (ud_keepnew (KeepBut.of_below HB6.out g (some gt)) hk W6.out); have HT7 := Aside0.mk ht; have B27 := Aside0.mk ((hk.2 g2 (blk_lt B26.out) N2.out (fun e_ => T2.out (Option.some.inj e_))).trans B26.out); have B47 := Aside0.mk ((hk.2 g4 (blk_lt B46.out) N4.out (fun e_ => T4.out (Option.some.inj e_))).trans B46.out); have B57 := Aside0.mk ((hk.2 g5 (blk_lt B56.out) N5.out (fun e_ => T5.out (Option.some.inj e_))).trans B56.out); have HD7 := Aside0.mk ((hk.2 g (blk_lt HD6.out) ND.out (fun e_ => by have := GT.out; have := Option.some.inj e_; omega)).trans HD6.out); have HR7 := Aside0.mk hr; clear hb hk ht hr; have c4 := (blk_cell B47.out 0).trans (rfl : _ = some (Value.slice none 0 0)); have f4 := blk_frozen B47.out 0; have c5 := (blk_cell (blk_far (p := ⟨g4, 0, none⟩) B57.out G54.out (.slice A9 l.length c9)) 0).trans (rfl : _ = some (Value.int .i64 0)); have f5 := blk_frozen (blk_far (p := ⟨g4, 0, none⟩) B57.out G54.out (.slice A9 l.length c9)) 0))
      have G4 := Aside0.mk (show g4 ≠ g by have := HG.out; have := W4.out; omega)
      have G5 := Aside0.mk (show g5 ≠ g by have := HG.out; have := W5.out; omega)
      have D2 := blk_far (p := ⟨g5, 0, none⟩) (blk_far (p := ⟨g4, 0, none⟩) HD7.out (Ne.symm G4.out) (.slice A9 l.length c9)) (Ne.symm G5.out) (.int .i64 0)
      have F4 := blk_far (p := ⟨g5, 0, none⟩) (blk_put B47.out 0 (.slice A9 l.length c9) rfl) (Ne.symm G54.out) (.int .i64 0)
      have F5 := blk_put (blk_far (p := ⟨g4, 0, none⟩) B57.out G54.out (.slice A9 l.length c9)) 0 (.int .i64 0) rfl
      have T8 := IsS77.farT (p := ⟨g5, 0, none⟩) (IsS77.farT (p := ⟨g4, 0, none⟩) HT7.out (TyOf.mk B47.out) (by decide) (.slice A9 l.length c9)) (TyOf.mk (blk_far (p := ⟨g4, 0, none⟩) B57.out G54.out (.slice A9 l.length c9))) (by decide) (.int .i64 0)
      have X8 := below_set (g := g5) (j := 0) (v := .int .i64 0) (below_set (g := g4) (j := 0) (v := (.slice A9 l.length c9)) HB7.out (L6.out _ W4.out)) (L6.out _ W5.out)
      have K8 := keep_far (p := ⟨g5, 0, none⟩) (keep_far (p := ⟨g4, 0, none⟩) HK7.out W4.out (.slice A9 l.length c9)) W5.out (.int .i64 0)
      have R8 := Kd.R_mono (Kd.R_far (p := ⟨g5, 0, none⟩) (Kd.R_far (p := ⟨g4, 0, none⟩) (Kd.R_types (Kd.R_types (Kd.R_lower HR7.out HB6.out.size) B47.out (by decide)) B57.out (by decide)) (fun _ h => h.1.2) (.slice A9 l.length c9)) (fun _ h => h.2) (.int .i64 0)) (fun _ _ => (trivial : (fun _ => True) _))
      have hc4 := (blk_cell F4 0).trans (rfl : _ = some (Value.slice A9 l.length c9))
      have hc5 := (blk_cell F5 0).trans (rfl : _ = some (Value.int .i64 0))
      generalize (w7.setCell ⟨g4, 0, none⟩ (.slice A9 l.length c9)).setCell ⟨g5, 0, none⟩ (.int .i64 0) = w8 at D2 T8 X8 K8 R8 hc4 hc5 ⊢
      have D8 := Aside0.mk D2
      have T9 := Aside0.mk T8
      have X9 := Aside0.mk X8
      have K9 := Aside0.mk K8
      have R9 := Aside0.mk R8
      clear D2 F4 F5 T8 X8 K8 R8
      refine leaves_cons (f := 46) (args := #[.pointer (some ⟨g2, 0, none⟩), .pointer (some ⟨g4, 0, none⟩), .pointer (some ⟨g5, 0, none⟩)]) (by simp) (by simp [go_sem]) ?_
      refine (ud_idle g2 g4 g5 _).mono ?_
      rintro e u' w'' ⟨rfl, rfl, rfl⟩
      simp [Leaves, settle, results, Tryd.results25, go_sem, hc4, hc5]
      exact ⟨R9.out, ⟨gt, GT.out, D8.out, T9.out⟩, X9.out, K9.out⟩
end Go.Proofs.YtfkdocmhbmameaaDoor.Mine
namespace Go.Proofs.YtfkdocmhbmameaaDoor.Mine
open Go.RowKit Go.Proofs.YtfkdocmhbmameaaDoorW.PrintWords Go.Proofs.YtfkdocmhbmameaaDoorW.PrintLast Go.Proofs.YtfkdocmhbmameaaDoorW.PrintMore
attribute [local go_sem] max2_int min2_int max_two min_two max_three min_three max_four min_four
set_option linter.unusedVariables false
set_option linter.unusedSimpArgs false
def nuncioref11_least.l0 : Nat → List (S88) → Int → List (S88) → Int → Int → Option ((List (S88)))
 | 0, _, _, _, _, _ => none
 | k + 1, x0, x1, x5, x6, x7 => if x7 < (x0.length : Int) then (if 0 ≤ x7 then (if (wrap64 ((wrap64 ((wrap64 (x6 + (((rd_T88 x0 x7).f0).size : Int))) + (((rd_T88 x0 x7).f1).size : Int))) + 32)) > x1 then (some x5) else (if x5.length < 4398046511104 then (nuncioref11_least.l0 k x0 x1 (x5 ++ [(⟨(rd_T88 x0 x7).f0, (rd_T88 x0 x7).f1⟩ : S88)]) (wrap64 ((wrap64 ((wrap64 (x6 + (((rd_T88 x0 x7).f0).size : Int))) + (((rd_T88 x0 x7).f1).size : Int))) + 32)) (wrap64 (x7 + 1))) else (none))) else (none)) else (some x5)
def nuncioref11_least.f (k : Nat) (l0 : List (S88)) (a1 : Int) : Option ((List (S88))) := nuncioref11_least.l0 k l0 a1 ([] : List (S88)) 0 0
set_option maxHeartbeats 8000000 in
set_option maxRecDepth 100000 in
theorem nuncioref11_least.calls (k : Nat) (A0 : Option Addr) (c0 : Nat) (l0 : List (S88)) (a1 : Int) (r : List (S88)) (w : World) (hr0 : Kd.C k88 w A0 l0.length l0) (hc0 : l0.length ≤ c0) (h : nuncioref11_least.f k l0 a1 = some r) :
  Calls Tryd.prog 58 #[.slice A0 l0.length c0, .int .i64 a1] w fun e w' => ∃ v0_ : Value, e = .returned (v0_) ∧ Kd.R k88 88 w' w.heap.size (fun _ => True) v0_ r ∧ Below w.heap.size w w' := by
 have hu88 := Tryd.underlying88
 have HR0 := Aside0.mk hr0
 have HC0 := Aside0.mk hc0
 clear hr0 hc0
 have HB := Aside0.mk (Below.refl w.heap.size w)
 have H : (nuncioref11_least.l0 k l0 a1 ([] : List (S88)) 0 0) = some r := h
 clear h
 have H' := Aside0.mk H
 clear H
 go_enter Tryd.func58, Tryd.ntmps58
 go_wp2
 repeat (go_quiet (fail); try go_wp2)
 go_loopg [5, 6, 7] k (fun kq v5 v6 v7 w' => ∃ (x5_1 : List (S88)) (x6_1 : Int) (x7_1 : Int), v6 = .int .i64 x6_1 ∧ v7 = .int .i64 x7_1 ∧ Aside0 (nuncioref11_least.l0 kq l0 a1 x5_1 x6_1 x7_1 = some r) ∧ Aside0 (kq ≤ k) ∧ Aside0 (Kd.R k88 88 w' w.heap.size (fun _ => True) v5 x5_1) ∧ Aside0 (Below w.heap.size w w'))
 case atStart => exact ⟨(([] : List (S88))), (0), (0), (by first | rfl | (simp; done) | (simp [*]; done)), (by first | rfl | (simp; done) | (simp [*]; done)), H', ⟨Nat.le_refl _⟩, ⟨by first | exact Kd.R_nil _ _ _ _ _ | exact Kd.N_nil _ _ _ _ _ | exact Kd.V_nil _ _ _ _ _ | exact Kd.Q_nil _ _ _ _ _ | exact Kd.S_nil _ _ _ _ _⟩, ⟨by repeat (first | (with_reducible first | exact HB.out | apply below_alloc | apply pw_below_drewN | apply below_drew1) | exact HB.out)⟩⟩
 case round =>
  clear H'
  try clear p2
  obtain ⟨x5_1, x6_1, x7_1, rfl, rfl, HA, HK1, HO_5, HB⟩ := hrel
  cases gk with
  | zero => exact absurd HA.out (by simp [nuncioref11_least.l0])
  | succ k1 =>
   have H := HA.out
   clear HA
   simp only [nuncioref11_least.l0] at H
   by_cases c3 : x7_1 < (l0.length : Int)
   ·
    rw [if_pos c3] at H
    have c3b0 : decide (x7_1 < (l0.length : Int)) = true := decide_eq_true c3
    clear c3
    by_cases c4 : 0 ≤ x7_1
    ·
     rw [if_pos c4] at H
     have c4b0 : decide (0 ≤ x7_1) = true := decide_eq_true c4
     clear c4
     by_cases c5 : (wrap64 ((wrap64 ((wrap64 (x6_1 + (((rd_T88 l0 x7_1).f0).size : Int))) + (((rd_T88 l0 x7_1).f1).size : Int))) + 32)) > a1
     ·
      rw [if_pos c5] at H
      have c5b0 : decide (a1 < (wrap64 ((wrap64 ((wrap64 (x6_1 + (((rd_T88 l0 x7_1).f0).size : Int))) + (((rd_T88 l0 x7_1).f1).size : Int))) + 32))) = true := decide_eq_true c5
      clear c5
      obtain rfl := Option.some.inj H
      have p210 : 0 ≤ (x7_1 : Int) := of_decide_eq_true (by first | (with_reducible assumption) | assumption)
      have q210 : x7_1 < (l0.length : Int) := of_decide_eq_true (by first | (with_reducible assumption) | assumption)
      obtain ⟨ad210, e210, hx210_0, hx210_1⟩ := at_T88 HR0.out x7_1 p210 q210
      cases e210
      replace hx210_0 := (HB.out.cell (World.block_lt_of_cell? w _ hx210_0)).trans hx210_0
      replace hx210_1 := (HB.out.cell (World.block_lt_of_cell? w _ hx210_1)).trans hx210_1
      replace p210 := eq_true p210
      replace q210 := eq_true q210
      have p211 : 0 ≤ (x7_1 : Int) := of_decide_eq_true (by first | (with_reducible assumption) | assumption)
      have q211 : x7_1 < (l0.length : Int) := of_decide_eq_true (by first | (with_reducible assumption) | assumption)
      obtain ⟨ad211, e211, hx211_0, hx211_1⟩ := at_T88 HR0.out x7_1 p211 q211
      obtain rfl : ad210 = ad211 := (by injection e211)
      replace hx211_0 := (HB.out.cell (World.block_lt_of_cell? w _ hx211_0)).trans hx211_0
      replace hx211_1 := (HB.out.cell (World.block_lt_of_cell? w _ hx211_1)).trans hx211_1
      replace p211 := eq_true p211
      replace q211 := eq_true q211
      go_wp2
      repeat (go_quiet (fail); try go_wp2)
      go_ret
      exact ⟨_, by first | rfl | (simp [errW_none, errW_some] <;> rfl) | (simp [*, errW_none, errW_some] <;> rfl), by (with_reducible repeat (first | apply Kd.R_alloc | apply Kd.R_drewN | apply Kd.R_drew)); exact HO_5.out, by repeat (first | (with_reducible first | exact HB.out | apply below_alloc | apply pw_below_drewN | apply below_drew1) | exact HB.out)⟩
     ·
      rw [if_neg c5] at H
      have c5b0 : decide (a1 < (wrap64 ((wrap64 ((wrap64 (x6_1 + (((rd_T88 l0 x7_1).f0).size : Int))) + (((rd_T88 l0 x7_1).f1).size : Int))) + 32))) = false := decide_eq_false c5
      clear c5
      by_cases c6 : x5_1.length < 4398046511104
      ·
       rw [if_pos c6] at H
       have LMc6 := Aside0.mk c6
       clear c6
       obtain ⟨y213, hy213⟩ : ∃ y_ : List (S88), y_ = (x5_1 ++ [(⟨(rd_T88 l0 x7_1).f0, (rd_T88 l0 x7_1).f1⟩ : S88)]) := ⟨_, rfl⟩
       replace H : (nuncioref11_least.l0 k1 l0 a1 y213 (wrap64 ((wrap64 ((wrap64 (x6_1 + (((rd_T88 l0 x7_1).f0).size : Int))) + (((rd_T88 l0 x7_1).f1).size : Int))) + 32)) (wrap64 (x7_1 + 1))) = some r := by first | (rw [hy213]; with_reducible exact H) | (have H2_ := (Option.bind_some _ _).symm.trans H; rw [hy213]; with_reducible exact H2_) | (have H2_ := (Option.bind_some _ _).symm.trans H; with_reducible exact H2_) | with_reducible exact H | (rw [hy213]; exact H) | exact H
       have Ny213 := Aside0.mk hy213
       clear hy213
       have H' := Aside0.mk H
       clear H
       have p210 : 0 ≤ (x7_1 : Int) := of_decide_eq_true (by first | (with_reducible assumption) | assumption)
       have q210 : x7_1 < (l0.length : Int) := of_decide_eq_true (by first | (with_reducible assumption) | assumption)
       obtain ⟨ad210, e210, hx210_0, hx210_1⟩ := at_T88 HR0.out x7_1 p210 q210
       cases e210
       replace hx210_0 := (HB.out.cell (World.block_lt_of_cell? w _ hx210_0)).trans hx210_0
       replace hx210_1 := (HB.out.cell (World.block_lt_of_cell? w _ hx210_1)).trans hx210_1
       replace p210 := eq_true p210
       replace q210 := eq_true q210
       have p211 : 0 ≤ (x7_1 : Int) := of_decide_eq_true (by first | (with_reducible assumption) | assumption)
       have q211 : x7_1 < (l0.length : Int) := of_decide_eq_true (by first | (with_reducible assumption) | assumption)
       obtain ⟨ad211, e211, hx211_0, hx211_1⟩ := at_T88 HR0.out x7_1 p211 q211
       obtain rfl : ad210 = ad211 := (by injection e211)
       replace hx211_0 := (HB.out.cell (World.block_lt_of_cell? w _ hx211_0)).trans hx211_0
       replace hx211_1 := (HB.out.cell (World.block_lt_of_cell? w _ hx211_1)).trans hx211_1
       replace p211 := eq_true p211
       replace q211 := eq_true q211
       have p212 : 0 ≤ (x7_1 : Int) := of_decide_eq_true (by first | (with_reducible assumption) | assumption)
       have q212 : x7_1 < (l0.length : Int) := of_decide_eq_true (by first | (with_reducible assumption) | assumption)
       obtain ⟨ad212, e212, hx212_0, hx212_1⟩ := at_T88 HR0.out x7_1 p212 q212
       obtain rfl : ad210 = ad212 := (by injection e212)
       replace hx212_0 := (HB.out.cell (World.block_lt_of_cell? w _ hx212_0)).trans hx212_0
       replace hx212_1 := (HB.out.cell (World.block_lt_of_cell? w _ hx212_1)).trans hx212_1
       replace p212 := eq_true p212
       replace q212 := eq_true q212
       go_wp2_with (first | ((with_reducible refine gate_builtin (b := .append) (xs := #[.tmp 34, .tmp 39]) rfl ?_); at_builtin; refine Kd.R_append k88 (w0 := w) w.heap.size rfl (.tmp 34) (.tmp 39) 35 88 (.agg #[(.string ⟨#[]⟩), (.string ⟨#[]⟩)]) 32 rfl Tryd.underlying35 info88 rfl (by decide) (by omega) u5 x5_1 (⟨(rd_T88 l0 x7_1).f0, (rd_T88 l0 x7_1).f1⟩ : S88) [.string ((rd_T88 l0 x7_1).f0), .string ((rd_T88 l0 x7_1).f1)] (fun _ => True) (fun _ => False) rfl rfl ?aP (fun _ hk => hk.elim) ?aF ?aO ?aB ?aS ?aL ?_; (case aP => exact k88_mkM _ _ _ (⟨(rd_T88 l0 x7_1).f0, (rd_T88 l0 x7_1).f1⟩ : S88)); (case aB => exact (by repeat (first | (with_reducible first | exact HB.out | apply below_alloc | apply pw_below_drewN | apply below_drew1) | exact HB.out))); (case aF => exact (fun _ _ => trivial)); (case aO => exact (by (with_reducible repeat (first | apply Kd.R_alloc | apply Kd.R_drewN | apply Kd.R_drew)); exact HO_5.out)); (case aS => exact (below_size (by repeat (first | (with_reducible first | exact HB.out | apply below_alloc | apply pw_below_drewN | apply below_drew1) | exact HB.out)))); (case aL => have := LMc6.out; omega); intro v214 w7 ho hb hg hat; rw [← Ny213.out] at ho; have n0_ := Aside0.mk (hb); have n1_ := Aside0.mk (ho); clear HB; clear HO_5; have HB := n0_; have HO215 := n1_; clear n0_ n1_; clear ho hb hg hat))
       repeat (go_quiet (first | ((with_reducible refine gate_builtin (b := .append) (xs := #[.tmp 34, .tmp 39]) rfl ?_); at_builtin; refine Kd.R_append k88 (w0 := w) w.heap.size rfl (.tmp 34) (.tmp 39) 35 88 (.agg #[(.string ⟨#[]⟩), (.string ⟨#[]⟩)]) 32 rfl Tryd.underlying35 info88 rfl (by decide) (by omega) u5 x5_1 (⟨(rd_T88 l0 x7_1).f0, (rd_T88 l0 x7_1).f1⟩ : S88) [.string ((rd_T88 l0 x7_1).f0), .string ((rd_T88 l0 x7_1).f1)] (fun _ => True) (fun _ => False) rfl rfl ?aP (fun _ hk => hk.elim) ?aF ?aO ?aB ?aS ?aL ?_; (case aP => exact k88_mkM _ _ _ (⟨(rd_T88 l0 x7_1).f0, (rd_T88 l0 x7_1).f1⟩ : S88)); (case aB => exact (by repeat (first | (with_reducible first | exact HB.out | apply below_alloc | apply pw_below_drewN | apply below_drew1) | exact HB.out))); (case aF => exact (fun _ _ => trivial)); (case aO => exact (by (with_reducible repeat (first | apply Kd.R_alloc | apply Kd.R_drewN | apply Kd.R_drew)); exact HO_5.out)); (case aS => exact (below_size (by repeat (first | (with_reducible first | exact HB.out | apply below_alloc | apply pw_below_drewN | apply below_drew1) | exact HB.out)))); (case aL => have := LMc6.out; omega); intro v214 w7 ho hb hg hat; rw [← Ny213.out] at ho; have n0_ := Aside0.mk (hb); have n1_ := Aside0.mk (ho); clear HB; clear HO_5; have HB := n0_; have HO215 := n1_; clear n0_ n1_; clear ho hb hg hat)); try go_wp2_with (first | ((with_reducible refine gate_builtin (b := .append) (xs := #[.tmp 34, .tmp 39]) rfl ?_); at_builtin; refine Kd.R_append k88 (w0 := w) w.heap.size rfl (.tmp 34) (.tmp 39) 35 88 (.agg #[(.string ⟨#[]⟩), (.string ⟨#[]⟩)]) 32 rfl Tryd.underlying35 info88 rfl (by decide) (by omega) u5 x5_1 (⟨(rd_T88 l0 x7_1).f0, (rd_T88 l0 x7_1).f1⟩ : S88) [.string ((rd_T88 l0 x7_1).f0), .string ((rd_T88 l0 x7_1).f1)] (fun _ => True) (fun _ => False) rfl rfl ?aP (fun _ hk => hk.elim) ?aF ?aO ?aB ?aS ?aL ?_; (case aP => exact k88_mkM _ _ _ (⟨(rd_T88 l0 x7_1).f0, (rd_T88 l0 x7_1).f1⟩ : S88)); (case aB => exact (by repeat (first | (with_reducible first | exact HB.out | apply below_alloc | apply pw_below_drewN | apply below_drew1) | exact HB.out))); (case aF => exact (fun _ _ => trivial)); (case aO => exact (by (with_reducible repeat (first | apply Kd.R_alloc | apply Kd.R_drewN | apply Kd.R_drew)); exact HO_5.out)); (case aS => exact (below_size (by repeat (first | (with_reducible first | exact HB.out | apply below_alloc | apply pw_below_drewN | apply below_drew1) | exact HB.out)))); (case aL => have := LMc6.out; omega); intro v214 w7 ho hb hg hat; rw [← Ny213.out] at ho; have n0_ := Aside0.mk (hb); have n1_ := Aside0.mk (ho); clear HB; clear HO_5; have HB := n0_; have HO215 := n1_; clear n0_ n1_; clear ho hb hg hat)))
       go_roundg k1
       case measure => have := HK1.out; omega
       case rel => exact ⟨(y213), (wrap64 ((wrap64 ((wrap64 (x6_1 + (((rd_T88 l0 x7_1).f0).size : Int))) + (((rd_T88 l0 x7_1).f1).size : Int))) + 32)), (wrap64 (x7_1 + 1)), (by first | rfl | (simp; done) | (simp [*]; done)), (by first | rfl | (simp; done) | (simp [*]; done)), H', ⟨by have := HK1.out; omega⟩, ⟨by (with_reducible repeat (first | apply Kd.R_alloc | apply Kd.R_drewN | apply Kd.R_drew)); exact HO215.out⟩, ⟨by repeat (first | (with_reducible first | exact HB.out | apply below_alloc | apply pw_below_drewN | apply below_drew1) | exact HB.out)⟩⟩
      ·
       rw [if_neg c6] at H
       exact absurd H (by simp)
    ·
     rw [if_neg c4] at H
     exact absurd H (by simp)
   ·
    rw [if_neg c3] at H
    have c3b0 : decide (x7_1 < (l0.length : Int)) = false := decide_eq_false c3
    clear c3
    obtain rfl := Option.some.inj H
    go_wp2
    repeat (go_quiet (fail); try go_wp2)
    go_ret
    exact ⟨_, by first | rfl | (simp [errW_none, errW_some] <;> rfl) | (simp [*, errW_none, errW_some] <;> rfl), by (with_reducible repeat (first | apply Kd.R_alloc | apply Kd.R_drewN | apply Kd.R_drew)); exact HO_5.out, by repeat (first | (with_reducible first | exact HB.out | apply below_alloc | apply pw_below_drewN | apply below_drew1) | exact HB.out)⟩
def nuncioref11_Resize.f (k : Nat) (a0_0 : Int) (l0_1 : List (S88)) (a1 : Int) : Option (Int × (List (S88))) := if a1 < 0 then ((nuncioref11_least.f k l0_1 0).bind fun t218 => (some (0, t218))) else ((nuncioref11_least.f k l0_1 a1).bind fun t221 => (some (a1, t221)))
set_option maxHeartbeats 8000000 in
set_option maxRecDepth 100000 in
theorem nuncioref11_Resize.calls (k : Nat) (a0_0 : Int) (A0_1 : Option Addr) (c0_1 : Nat) (l0_1 : List (S88)) (a1 : Int) (r1 : Int) (r2 : List (S88)) (w : World) (hr0_1 : Kd.C k88 w A0_1 l0_1.length l0_1) (hc0_1 : l0_1.length ≤ c0_1) (h : nuncioref11_Resize.f k a0_0 l0_1 a1 = some (r1, r2)) :
  Calls Tryd.prog 40 #[.agg #[.int .i64 a0_0, .slice A0_1 l0_1.length c0_1], .int .i64 a1] w fun e w' => ∃ v1_ : Value, e = .returned (.agg #[.int .i64 r1, v1_]) ∧ Kd.R k88 88 w' w.heap.size (fun _ => True) v1_ r2 ∧ Below w.heap.size w w' := by
 have hu37 := Tryd.underlying37
 have HR0_1 := Aside0.mk hr0_1
 have HC0_1 := Aside0.mk hc0_1
 clear hr0_1 hc0_1
 have HB := Aside0.mk (Below.refl w.heap.size w)
 have H : (if a1 < 0 then ((nuncioref11_least.f k l0_1 0).bind fun t218 => (some (0, t218))) else ((nuncioref11_least.f k l0_1 a1).bind fun t221 => (some (a1, t221)))) = some (r1, r2) := h
 clear h
 by_cases c3 : a1 < 0
 ·
  rw [if_pos c3] at H
  have c3b0 : decide (a1 < 0) = true := decide_eq_true c3
  clear c3
  replace H := Option.bind_eq_some_iff.mp H
  obtain ⟨t218, A40, H⟩ := H
  replace H : (some (0, t218)) = some (r1, r2) := H
  have A4 := Aside0.mk A40
  clear A40
  simp only [Option.some.injEq, Prod.mk.injEq] at H
  obtain ⟨rfl, rfl⟩ := H
  go_enter Tryd.func40, Tryd.ntmps40
  go_wp2_with (first | ((with_reducible refine gate_dst (N := 2) rfl ?_); refine box_event ?hg (N := 2) ?hd (cs := #[.int .i64 a0_0, .slice A0_1 l0_1.length c0_1]) (t := 37) ?hr ?_; (case hd => rfl); (case hg => rfl); (case hr => first | (go_simp; done) | (go_simp; rfl)); intro gb216 hg w5 hbox hb; have n0_ := Aside0.mk (below_step (by repeat (first | (with_reducible first | exact HB.out | apply below_alloc | apply pw_below_drewN | apply below_drew1) | exact HB.out)) hb); have n1_ := Aside0.mk (hbox); have n2_ := Aside0.mk ((by rw [hg]; exact (below_size (by repeat (first | (with_reducible first | exact HB.out | apply below_alloc | apply pw_below_drewN | apply below_drew1) | exact HB.out))) : w.heap.size ≤ gb216)); have n3_ := Aside0.mk ((by rw [hg]; exact (below_size (by repeat (first | (with_reducible first | exact HB.out | apply below_alloc | apply pw_below_drewN | apply below_drew1) | exact HB.out))) : w.heap.size ≤ gb216)); clear HB; have HB := n0_; have BK216 := n1_; have GW216 := n2_; have GE216 := n3_; clear n0_ n1_ n2_ n3_; clear hb hbox hg) | ((with_reducible refine gate_dst (N := 4) rfl ?_); refine box_event ?hg (N := 4) ?hd (cs := #[.int .i64 0, .slice none 0 0]) (t := 37) ?hr ?_; (case hd => rfl); (case hg => rfl); (case hr => first | (go_simp; done) | (go_simp; rfl)); intro gb217 hg w6 hbox hb; have n0_ := Aside0.mk (blk_below (g := gb216) (o := .cells #[.int .i64 a0_0, .slice A0_1 l0_1.length c0_1] 37 (0, 0)) (by (with_reducible repeat (first | refine blk_drewN ?_ _ | refine blk_drew ?_ | refine blk_alloc ?_ _)); exact BK216.out) hb); have n1_ := Aside0.mk (below_step (by repeat (first | (with_reducible first | exact HB.out | apply below_alloc | apply pw_below_drewN | apply below_drew1 | refine below_set ?_ GE216.out) | exact HB.out)) hb); have n2_ := Aside0.mk (hbox); have n3_ := Aside0.mk ((by rw [hg]; exact (below_size (by repeat (first | (with_reducible first | exact HB.out | apply below_alloc | apply pw_below_drewN | apply below_drew1 | refine below_set ?_ GE216.out) | exact HB.out))) : w.heap.size ≤ gb217)); have n4_ := Aside0.mk ((by rw [hg]; exact (below_size (by repeat (first | (with_reducible first | exact HB.out | apply below_alloc | apply pw_below_drewN | apply below_drew1 | refine below_set ?_ GE216.out) | exact HB.out))) : w.heap.size ≤ gb217)); have n5_ := Aside0.mk ((by rw [hg]; exact Nat.ne_of_lt (blk_lt (g := gb216) (o := .cells #[.int .i64 a0_0, .slice A0_1 l0_1.length c0_1] 37 (0, 0)) (by (with_reducible repeat (first | refine blk_drewN ?_ _ | refine blk_drew ?_ | refine blk_alloc ?_ _)); exact BK216.out)) : gb216 ≠ gb217)); have n6_ := Aside0.mk ((by rw [hg]; exact Nat.ne_of_gt (blk_lt (g := gb216) (o := .cells #[.int .i64 a0_0, .slice A0_1 l0_1.length c0_1] 37 (0, 0)) (by (with_reducible repeat (first | refine blk_drewN ?_ _ | refine blk_drew ?_ | refine blk_alloc ?_ _)); exact BK216.out)) : gb217 ≠ gb216)); clear BK216; clear HB; have BK216 := n0_; have HB := n1_; have BK217 := n2_; have GW217 := n3_; have GE217 := n4_; have NB216_217 := n5_; have NB217_216 := n6_; clear n0_ n1_ n2_ n3_ n4_ n5_ n6_; clear hb hbox hg; have hnb7 := NB216_217.out; have hnc7 := NB217_216.out; have hcz8_0 : w6.cell? ⟨gb216, 0, none⟩ = some (.int .i64 a0_0) := (blk_cell BK216.out 0).trans rfl; have hcz8_1 : w6.cell? ⟨gb216, 1, none⟩ = some (.slice A0_1 l0_1.length c0_1) := (blk_cell BK216.out 1).trans rfl; have hfz8_0 := blk_frozen BK216.out 0; have hfz8_1 := blk_frozen BK216.out 1) | ((with_reducible refine gate_callee (f := 58) rfl ?_); refine goesL_ (some 12) rfl rfl Tryd.func58 (by kernel_rfl) rfl #[.slice A0_1 l0_1.length c0_1, .int .i64 0] rfl (by (try simp only [List.map_toArray, List.map_cons, List.map_nil]); first | done | rfl | (simp only [List.length_drop, List.length_take]; rfl)) ?_; (with_reducible refine (nuncioref11_least.calls k _ _ l0_1 0 t218 _ ?side1 ?side2 A4.out).mono ?_); (case side1 => exact Kd.C_below HR0_1.out (by repeat (first | (with_reducible first | exact HB.out | apply below_alloc | apply pw_below_drewN | apply below_drew1 | refine below_set ?_ GE216.out | refine below_set ?_ GE217.out) | exact HB.out))); (case side2 => exact HC0_1.out); rintro e w9 ⟨v219, rfl, ho0, hb⟩; refine ⟨_, rfl, ?_⟩; have n0_ := Aside0.mk (Kd.R_lower ho0 (below_size (by repeat (first | (with_reducible first | exact HB.out | apply below_alloc | apply pw_below_drewN | apply below_drew1 | refine below_set ?_ GE216.out | refine below_set ?_ GE217.out) | exact HB.out)))); have n1_ := Aside0.mk (blk_below (g := gb216) (o := .cells #[.int .i64 0, .slice A0_1 l0_1.length c0_1] 37 (0, 0)) (by (with_reducible repeat (first | refine blk_drewN ?_ _ | refine blk_drew ?_ | refine blk_alloc ?_ _)); refine blk_put (cs := #[.int .i64 a0_0, .slice A0_1 l0_1.length c0_1]) ?_ 0 _ rfl; (with_reducible repeat (first | refine blk_drewN ?_ _ | refine blk_drew ?_ | refine blk_alloc ?_ _)); exact BK216.out) hb); have n2_ := Aside0.mk (blk_below (g := gb217) (o := .cells #[.int .i64 0, .slice none 0 0] 37 (0, 0)) (by (with_reducible repeat (first | refine blk_drewN ?_ _ | refine blk_drew ?_ | refine blk_alloc ?_ _)); refine blk_far ?_ NB217_216.out _; (with_reducible repeat (first | refine blk_drewN ?_ _ | refine blk_drew ?_ | refine blk_alloc ?_ _)); exact BK217.out) hb); have n3_ := Aside0.mk (below_step (by repeat (first | (with_reducible first | exact HB.out | apply below_alloc | apply pw_below_drewN | apply below_drew1 | refine below_set ?_ GE216.out | refine below_set ?_ GE217.out) | exact HB.out)) hb); clear BK216; clear BK217; clear HB; have HO220 := n0_; have BK216 := n1_; have BK217 := n2_; have HB := n3_; clear n0_ n1_ n2_ n3_; (try clear hb); (try clear hb2); (try clear hk); (try clear hi); (try clear ho0); obtain ⟨Ao10, co10, eo10⟩ := Kd.R_slice HO220.out; subst eo10; have hcz11_0 : w9.cell? ⟨gb216, 0, none⟩ = some (.int .i64 0) := (blk_cell BK216.out 0).trans rfl; have hcz11_1 : w9.cell? ⟨gb216, 1, none⟩ = some (.slice A0_1 l0_1.length c0_1) := (blk_cell BK216.out 1).trans rfl; have hfz11_0 := blk_frozen BK216.out 0; have hfz11_1 := blk_frozen BK216.out 1; have hcz12_0 : w9.cell? ⟨gb217, 0, none⟩ = some (.int .i64 0) := (blk_cell BK217.out 0).trans rfl; have hcz12_1 : w9.cell? ⟨gb217, 1, none⟩ = some (.slice none 0 0) := (blk_cell BK217.out 1).trans rfl; have hfz12_0 := blk_frozen BK217.out 0; have hfz12_1 := blk_frozen BK217.out 1))
  refine bodyPost_ret (results_cell_row rfl _ _ gb217 37 #[.int .i64 0, .slice Ao10 t218.length co10] (0, 0) _ rfl (by (with_reducible repeat (first | refine blk_drewN ?_ _ | refine blk_drew ?_ | refine blk_alloc ?_ _)); refine blk_put (cs := #[.int .i64 0, .slice none 0 0]) ?_ 1 _ rfl; (with_reducible repeat (first | refine blk_drewN ?_ _ | refine blk_drew ?_ | refine blk_alloc ?_ _)); refine blk_put (cs := #[.int .i64 0, .slice none 0 0]) ?_ 0 _ rfl; (with_reducible repeat (first | refine blk_drewN ?_ _ | refine blk_drew ?_ | refine blk_alloc ?_ _)); refine blk_far ?_ NB217_216.out _; (with_reducible repeat (first | refine blk_drewN ?_ _ | refine blk_drew ?_ | refine blk_alloc ?_ _)); exact BK217.out) Tryd.underlying37 rfl (by kernel_rfl)) rfl ?_
  exact ⟨_, by first | rfl | (simp [errW_none, errW_some] <;> rfl) | (simp [*, errW_none, errW_some] <;> rfl), by (with_reducible repeat (first | apply Kd.R_alloc | apply Kd.R_drewN | apply Kd.R_drew)); exact Kd.R_mono (Kd.R_far (p := ⟨gb217, 1, none⟩) (Kd.R_far (p := ⟨gb217, 0, none⟩) (Kd.R_far (p := ⟨gb216, 1, none⟩) (Kd.R_types (Kd.R_types HO220.out BK216.out (by decide)) BK217.out (by decide)) (fun _ hk => hk.1.2) (.slice Ao10 t218.length co10)) (fun _ hk => hk.2) (.int .i64 0)) (fun _ hk => hk.2) (.slice Ao10 t218.length co10)) (fun _ hk => trivial), by repeat (first | (with_reducible first | exact HB.out | apply below_alloc | apply pw_below_drewN | apply below_drew1 | refine below_set ?_ GE216.out | refine below_set ?_ GE217.out) | exact HB.out)⟩
 ·
  rw [if_neg c3] at H
  have c3b0 : decide (a1 < 0) = false := decide_eq_false c3
  clear c3
  replace H := Option.bind_eq_some_iff.mp H
  obtain ⟨t221, A130, H⟩ := H
  replace H : (some (a1, t221)) = some (r1, r2) := H
  have A13 := Aside0.mk A130
  clear A130
  simp only [Option.some.injEq, Prod.mk.injEq] at H
  obtain ⟨rfl, rfl⟩ := H
  go_enter Tryd.func40, Tryd.ntmps40
  go_wp2_with (first | ((with_reducible refine gate_dst (N := 2) rfl ?_); refine box_event ?hg (N := 2) ?hd (cs := #[.int .i64 a0_0, .slice A0_1 l0_1.length c0_1]) (t := 37) ?hr ?_; (case hd => rfl); (case hg => rfl); (case hr => first | (go_simp; done) | (go_simp; rfl)); intro gb216 hg w14 hbox hb; have n0_ := Aside0.mk (below_step (by repeat (first | (with_reducible first | exact HB.out | apply below_alloc | apply pw_below_drewN | apply below_drew1) | exact HB.out)) hb); have n1_ := Aside0.mk (hbox); have n2_ := Aside0.mk ((by rw [hg]; exact (below_size (by repeat (first | (with_reducible first | exact HB.out | apply below_alloc | apply pw_below_drewN | apply below_drew1) | exact HB.out))) : w.heap.size ≤ gb216)); have n3_ := Aside0.mk ((by rw [hg]; exact (below_size (by repeat (first | (with_reducible first | exact HB.out | apply below_alloc | apply pw_below_drewN | apply below_drew1) | exact HB.out))) : w.heap.size ≤ gb216)); clear HB; have HB := n0_; have BK216 := n1_; have GW216 := n2_; have GE216 := n3_; clear n0_ n1_ n2_ n3_; clear hb hbox hg) | ((with_reducible refine gate_dst (N := 4) rfl ?_); refine box_event ?hg (N := 4) ?hd (cs := #[.int .i64 0, .slice none 0 0]) (t := 37) ?hr ?_; (case hd => rfl); (case hg => rfl); (case hr => first | (go_simp; done) | (go_simp; rfl)); intro gb217 hg w15 hbox hb; have n0_ := Aside0.mk (blk_below (g := gb216) (o := .cells #[.int .i64 a0_0, .slice A0_1 l0_1.length c0_1] 37 (0, 0)) (by (with_reducible repeat (first | refine blk_drewN ?_ _ | refine blk_drew ?_ | refine blk_alloc ?_ _)); exact BK216.out) hb); have n1_ := Aside0.mk (below_step (by repeat (first | (with_reducible first | exact HB.out | apply below_alloc | apply pw_below_drewN | apply below_drew1 | refine below_set ?_ GE216.out) | exact HB.out)) hb); have n2_ := Aside0.mk (hbox); have n3_ := Aside0.mk ((by rw [hg]; exact (below_size (by repeat (first | (with_reducible first | exact HB.out | apply below_alloc | apply pw_below_drewN | apply below_drew1 | refine below_set ?_ GE216.out) | exact HB.out))) : w.heap.size ≤ gb217)); have n4_ := Aside0.mk ((by rw [hg]; exact (below_size (by repeat (first | (with_reducible first | exact HB.out | apply below_alloc | apply pw_below_drewN | apply below_drew1 | refine below_set ?_ GE216.out) | exact HB.out))) : w.heap.size ≤ gb217)); have n5_ := Aside0.mk ((by rw [hg]; exact Nat.ne_of_lt (blk_lt (g := gb216) (o := .cells #[.int .i64 a0_0, .slice A0_1 l0_1.length c0_1] 37 (0, 0)) (by (with_reducible repeat (first | refine blk_drewN ?_ _ | refine blk_drew ?_ | refine blk_alloc ?_ _)); exact BK216.out)) : gb216 ≠ gb217)); have n6_ := Aside0.mk ((by rw [hg]; exact Nat.ne_of_gt (blk_lt (g := gb216) (o := .cells #[.int .i64 a0_0, .slice A0_1 l0_1.length c0_1] 37 (0, 0)) (by (with_reducible repeat (first | refine blk_drewN ?_ _ | refine blk_drew ?_ | refine blk_alloc ?_ _)); exact BK216.out)) : gb217 ≠ gb216)); clear BK216; clear HB; have BK216 := n0_; have HB := n1_; have BK217 := n2_; have GW217 := n3_; have GE217 := n4_; have NB216_217 := n5_; have NB217_216 := n6_; clear n0_ n1_ n2_ n3_ n4_ n5_ n6_; clear hb hbox hg; have hnb16 := NB216_217.out; have hnc16 := NB217_216.out; have hcz17_0 : w15.cell? ⟨gb216, 0, none⟩ = some (.int .i64 a0_0) := (blk_cell BK216.out 0).trans rfl; have hcz17_1 : w15.cell? ⟨gb216, 1, none⟩ = some (.slice A0_1 l0_1.length c0_1) := (blk_cell BK216.out 1).trans rfl; have hfz17_0 := blk_frozen BK216.out 0; have hfz17_1 := blk_frozen BK216.out 1) | ((with_reducible refine gate_callee (f := 58) rfl ?_); refine goesL_ (some 12) rfl rfl Tryd.func58 (by kernel_rfl) rfl #[.slice A0_1 l0_1.length c0_1, .int .i64 a1] rfl (by (try simp only [List.map_toArray, List.map_cons, List.map_nil]); first | done | rfl | (simp only [List.length_drop, List.length_take]; rfl)) ?_; (with_reducible refine (nuncioref11_least.calls k _ _ l0_1 a1 t221 _ ?side1 ?side2 A13.out).mono ?_); (case side1 => exact Kd.C_below HR0_1.out (by repeat (first | (with_reducible first | exact HB.out | apply below_alloc | apply pw_below_drewN | apply below_drew1 | refine below_set ?_ GE216.out | refine below_set ?_ GE217.out) | exact HB.out))); (case side2 => exact HC0_1.out); rintro e w18 ⟨v222, rfl, ho0, hb⟩; refine ⟨_, rfl, ?_⟩; have n0_ := Aside0.mk (Kd.R_lower ho0 (below_size (by repeat (first | (with_reducible first | exact HB.out | apply below_alloc | apply pw_below_drewN | apply below_drew1 | refine below_set ?_ GE216.out | refine below_set ?_ GE217.out) | exact HB.out)))); have n1_ := Aside0.mk (blk_below (g := gb216) (o := .cells #[.int .i64 a1, .slice A0_1 l0_1.length c0_1] 37 (0, 0)) (by (with_reducible repeat (first | refine blk_drewN ?_ _ | refine blk_drew ?_ | refine blk_alloc ?_ _)); refine blk_put (cs := #[.int .i64 a0_0, .slice A0_1 l0_1.length c0_1]) ?_ 0 _ rfl; (with_reducible repeat (first | refine blk_drewN ?_ _ | refine blk_drew ?_ | refine blk_alloc ?_ _)); exact BK216.out) hb); have n2_ := Aside0.mk (blk_below (g := gb217) (o := .cells #[.int .i64 0, .slice none 0 0] 37 (0, 0)) (by (with_reducible repeat (first | refine blk_drewN ?_ _ | refine blk_drew ?_ | refine blk_alloc ?_ _)); refine blk_far ?_ NB217_216.out _; (with_reducible repeat (first | refine blk_drewN ?_ _ | refine blk_drew ?_ | refine blk_alloc ?_ _)); exact BK217.out) hb); have n3_ := Aside0.mk (below_step (by repeat (first | (with_reducible first | exact HB.out | apply below_alloc | apply pw_below_drewN | apply below_drew1 | refine below_set ?_ GE216.out | refine below_set ?_ GE217.out) | exact HB.out)) hb); clear BK216; clear BK217; clear HB; have HO223 := n0_; have BK216 := n1_; have BK217 := n2_; have HB := n3_; clear n0_ n1_ n2_ n3_; (try clear hb); (try clear hb2); (try clear hk); (try clear hi); (try clear ho0); obtain ⟨Ao19, co19, eo19⟩ := Kd.R_slice HO223.out; subst eo19; have hcz20_0 : w18.cell? ⟨gb216, 0, none⟩ = some (.int .i64 a1) := (blk_cell BK216.out 0).trans rfl; have hcz20_1 : w18.cell? ⟨gb216, 1, none⟩ = some (.slice A0_1 l0_1.length c0_1) := (blk_cell BK216.out 1).trans rfl; have hfz20_0 := blk_frozen BK216.out 0; have hfz20_1 := blk_frozen BK216.out 1; have hcz21_0 : w18.cell? ⟨gb217, 0, none⟩ = some (.int .i64 0) := (blk_cell BK217.out 0).trans rfl; have hcz21_1 : w18.cell? ⟨gb217, 1, none⟩ = some (.slice none 0 0) := (blk_cell BK217.out 1).trans rfl; have hfz21_0 := blk_frozen BK217.out 0; have hfz21_1 := blk_frozen BK217.out 1))
  refine bodyPost_ret (results_cell_row rfl _ _ gb217 37 #[.int .i64 a1, .slice Ao19 t221.length co19] (0, 0) _ rfl (by (with_reducible repeat (first | refine blk_drewN ?_ _ | refine blk_drew ?_ | refine blk_alloc ?_ _)); refine blk_put (cs := #[.int .i64 a1, .slice none 0 0]) ?_ 1 _ rfl; (with_reducible repeat (first | refine blk_drewN ?_ _ | refine blk_drew ?_ | refine blk_alloc ?_ _)); refine blk_put (cs := #[.int .i64 0, .slice none 0 0]) ?_ 0 _ rfl; (with_reducible repeat (first | refine blk_drewN ?_ _ | refine blk_drew ?_ | refine blk_alloc ?_ _)); refine blk_far ?_ NB217_216.out _; (with_reducible repeat (first | refine blk_drewN ?_ _ | refine blk_drew ?_ | refine blk_alloc ?_ _)); exact BK217.out) Tryd.underlying37 rfl (by kernel_rfl)) rfl ?_
  exact ⟨_, by first | rfl | (simp [errW_none, errW_some] <;> rfl) | (simp [*, errW_none, errW_some] <;> rfl), by (with_reducible repeat (first | apply Kd.R_alloc | apply Kd.R_drewN | apply Kd.R_drew)); exact Kd.R_mono (Kd.R_far (p := ⟨gb217, 1, none⟩) (Kd.R_far (p := ⟨gb217, 0, none⟩) (Kd.R_far (p := ⟨gb216, 1, none⟩) (Kd.R_types (Kd.R_types HO223.out BK216.out (by decide)) BK217.out (by decide)) (fun _ hk => hk.1.2) (.slice Ao19 t221.length co19)) (fun _ hk => hk.2) (.int .i64 a1)) (fun _ hk => hk.2) (.slice Ao19 t221.length co19)) (fun _ hk => trivial), by repeat (first | (with_reducible first | exact HB.out | apply below_alloc | apply pw_below_drewN | apply below_drew1 | refine below_set ?_ GE216.out | refine below_set ?_ GE217.out) | exact HB.out)⟩
end Go.Proofs.YtfkdocmhbmameaaDoor.Mine
namespace Go.Proofs.YtfkdocmhbmameaaDoor.Mine
open Go.RowKit Go.Proofs.YtfkdocmhbmameaaDoorW.PrintWords Go.Proofs.YtfkdocmhbmameaaDoorW.PrintLast Go.Proofs.YtfkdocmhbmameaaDoorW.PrintMore
attribute [local go_sem] max2_int min2_int max_two min_two max_three min_three max_four min_four
set_option linter.unusedVariables false
set_option linter.unusedSimpArgs false
def nuncioref09_Full.l0 : Nat → Int → Int → Int → Option (Int)
 | 0, _, _, _ => none
 | k + 1, x0, x3, x4 => if x4 < x0 then (if x4 < 8 then (nuncioref09_Full.l0 k x0 (IntKind.u64.wrap ((IntKind.u64.wrap (x3 * 2)) + 1)) (wrap64 (x4 + 1))) else (some x3)) else (some x3)
def nuncioref09_Full.f (k : Nat) (a0 : Int) : Option (Int) := nuncioref09_Full.l0 k a0 1 1
set_option maxHeartbeats 8000000 in
set_option maxRecDepth 100000 in
theorem nuncioref09_Full.calls (k : Nat) (a0 : Int) (r : Int) (w : World) (h : nuncioref09_Full.f k a0 = some r) :
  Calls Tryd.prog 59 #[.int .i64 a0] w fun e w' => e = .returned (.int .u64 r) ∧ Drawn0 w w' := by
 have H : (nuncioref09_Full.l0 k a0 1 1) = some r := h
 clear h
 have H' := Aside0.mk H
 clear H
 go_enter Tryd.func59, Tryd.ntmps59
 go_wp2
 go_loopg [3, 4] k (fun kq v3 v4 w' => ∃ (x3_1 : Int) (x4_1 : Int), v3 = .int .u64 x3_1 ∧ v4 = .int .i64 x4_1 ∧ Aside0 (nuncioref09_Full.l0 kq a0 x3_1 x4_1 = some r) ∧ Aside0 (kq ≤ k) ∧ Drawn0 w w')
 case atStart => exact ⟨(1), (1), (by first | rfl | (simp; done) | (simp [*]; done)), (by first | rfl | (simp; done) | (simp [*]; done)), H', ⟨Nat.le_refl _⟩, by repeat (first | exact Drawn0.refl _ | apply Drawn0.step)⟩
 case round =>
  clear H'
  obtain ⟨x3_1, x4_1, rfl, rfl, HA, HK1, ⟨m1, rfl⟩⟩ := hrel
  cases gk with
  | zero => exact absurd HA.out (by simp [nuncioref09_Full.l0])
  | succ k1 =>
   have H := HA.out
   clear HA
   simp only [nuncioref09_Full.l0] at H
   by_cases c2 : x4_1 < a0
   ·
    rw [if_pos c2] at H
    have c2b0 : decide (x4_1 < a0) = true := decide_eq_true c2
    clear c2
    by_cases c3 : x4_1 < 8
    ·
     rw [if_pos c3] at H
     have c3b0 : decide (x4_1 < 8) = true := decide_eq_true c3
     clear c3
     have H' := Aside0.mk H
     clear H
     go_wp2
     go_roundg k1
     case measure => have := HK1.out; omega
     case rel => exact ⟨(IntKind.u64.wrap ((IntKind.u64.wrap (x3_1 * 2)) + 1)), (wrap64 (x4_1 + 1)), (by first | rfl | (simp; done) | (simp [*]; done)), (by first | rfl | (simp; done) | (simp [*]; done)), H', ⟨by have := HK1.out; omega⟩, by repeat (first | exact Drawn0.refl _ | apply Drawn0.step)⟩
    ·
     rw [if_neg c3] at H
     have c3b0 : decide (x4_1 < 8) = false := decide_eq_false c3
     clear c3
     obtain rfl := Option.some.inj H
     go_wp2
     go_ret
     exact ⟨by first | rfl | (simp; done) | (simp [*]; done), by repeat (first | exact Drawn0.refl _ | apply Drawn0.step)⟩
   ·
    rw [if_neg c2] at H
    have c2b0 : decide (x4_1 < a0) = false := decide_eq_false c2
    clear c2
    obtain rfl := Option.some.inj H
    go_wp2
    go_ret
    exact ⟨by first | rfl | (simp; done) | (simp [*]; done), by repeat (first | exact Drawn0.refl _ | apply Drawn0.step)⟩
end Go.Proofs.YtfkdocmhbmameaaDoor.Mine
