/- The walks and the plain laws that the rows come to: merged out of this repo's texts. -/
import Derived.Test.YtfkdocmhbmameaaDoorProg
import Derived.Below
import Derived.Deep.Draws
import Derived.Deep.AppendLies
import Derived.Maps.AppendAt
import Derived.OwnWalk
import Derived.Laws.BytesArg
import Derived.Laws.MakeOwn
import Derived.Laws.OwnMore
import Derived.Deep.OwnRows
import Derived.Tactics
import Derived.Lib.ConvBytes
import Derived.Laws.Slices
import Derived.WalkKit
import Derived.KernelRfl
import Derived.RowKit3
import Derived.Deep.LoopGhost
import Derived.Deep.QuietTactic
import Derived.BigQuiet
import Derived.WideLaws
import Derived.Deep.DeepCutAuto
import Derived.Deep.CutBlock
import Derived.Deep.RegionHeld3
import Derived.Laws.Rows
import Derived.Lib.AppendStr
import Derived.ArgAppend
import Derived.Laws.IdiomCopy
import Derived.RowKit
import Derived.OrdersHeld
import Derived.Laws.BitsLemmas
import Derived.Laws.StructEq
import Derived.Laws.CopyOwn
import Derived.SizedLaws
import Derived.ChangeSlices
import Derived.Deep.Slices
import Derived.Lib.SmallJoins
import Derived.Lib.OthersKept
import Derived.Lib.AppendZerosOnto
import Derived.WalkSpells
import Derived.Shelf.Utf8.RuneCount
import Derived.Shelf.Strings.Search1
import Derived.Shelf.Strings.Search2
import Derived.Shelf.Strings.Search3
import Derived.Shelf.Strings.Cut
import Derived.Shelf.Strings.Count
import Derived.Shelf.LaysM
import Derived.Shelf.Strings.Shaped
import Derived.Shelf.Strings.Split
import Derived.Shelf.Strings.SplitShaped
import Derived.Shelf.Unicode.Decode
import Derived.Shelf.Strings.RuneCount
import Derived.Shelf.Strings.Explode
import Derived.Shelf.Unicode.DecodeSlow
import Derived.Shelf.Unicode.DecodeAny
import Derived.Recover
import Derived.WalkLawsBesides
import Derived.Test.YtfkdocmhbmameaaDoorCA1
import Derived.Test.YtfkdocmhbmameaaDoorCA2
import Derived.Test.YtfkdocmhbmameaaDoorCA3
import Derived.Test.YtfkdocmhbmameaaDoorCA4
import Derived.Test.YtfkdocmhbmameaaDoorCA5
import Derived.Test.YtfkdocmhbmameaaDoorCA6
import Derived.Test.YtfkdocmhbmameaaDoorCA7
import Derived.Test.YtfkdocmhbmameaaDoorCA8
import Derived.Test.YtfkdocmhbmameaaDoorCA9
import Derived.Test.YtfkdocmhbmameaaDoorCA10
import Derived.Test.YtfkdocmhbmameaaDoorCA11
import Derived.Test.YtfkdocmhbmameaaDoorCA12
import Derived.Test.YtfkdocmhbmameaaDoorCA13
import Derived.Test.YtfkdocmhbmameaaDoorCA14
namespace Go.Proofs.YtfkdocmhbmameaaDoor.Mine
open Go.RowKit Go.Proofs Go.Proofs.YtfkdocmhbmameaaDoorW.PrintWords Go.Proofs.YtfkdocmhbmameaaDoorW.PrintLast Go.Proofs.YtfkdocmhbmameaaDoorW.PrintMore
attribute [local go_sem] max2_int min2_int max_two min_two max_three min_three max_four min_four
set_option linter.unusedVariables false
set_option linter.unusedSimpArgs false
theorem ud_yes (v : Value) (w : World) : (Instr.typeAssert (.iface 58 v) 20 58 true).run Tryd.prog w = .ok (.tuple #[v, .bool true]) w := by kernel_rfl
theorem ud_no (w : World) : (Instr.typeAssert .nilIface 20 58 true).run Tryd.prog w = .ok (.tuple #[.int .i64 0, .bool false]) w := by kernel_rfl
set_option maxHeartbeats 400000 in
set_option maxRecDepth 100000 in
theorem ud_catch (g gt g2 g4 g5 : Nat) (b : Bool) (e x : Int) (v : Value) (older : List PanicEntry) (w : World) (h2 : w.heap[g2]? = some (.cells #[.pointer (some ⟨g, 0, none⟩)] 53 (0, 0))) (hD : w.heap[g]? = some (.cells #[.pointer (some ⟨gt, 0, none⟩), .bool b] 90 (0, 0))) (h4 : w.heap[g4]? = some (.cells #[v] 22 (0, 0))) (h5 : w.heap[g5]? = some (.cells #[.int .i64 x] 58 (0, 0))) :
    CallsD Tryd.prog 46 #[.pointer (some ⟨g2, 0, none⟩), .pointer (some ⟨g4, 0, none⟩), .pointer (some ⟨g5, 0, none⟩)] (.panicking ({ v := .iface 58 (.int .i64 e), recovered := false } :: older)) w fun en u' w' =>
      en = .returned (.tuple #[]) ∧ u' = .panicking ({ v := .iface 58 (.int .i64 e), recovered := true } :: older) ∧ w' = ((w.setCell ⟨g, 1, none⟩ (.bool true)).setCell ⟨g4, 0, none⟩ (.slice none 0 0)).setCell ⟨g5, 0, none⟩ (.int .i64 e) := by
  have c2 : w.cell? ⟨g2, 0, none⟩ = some (.pointer (some ⟨g, 0, none⟩)) := (blk_cell h2 0).trans rfl
  have cD : w.cell? ⟨g, 1, none⟩ = some (.bool b) := (blk_cell hD 1).trans rfl
  have fD := blk_frozen hD 1
  have n4 : g4 ≠ g := by rintro rfl; rw [hD] at h4; exact absurd h4 (by simp)
  have n5 : g5 ≠ g := by rintro rfl; rw [hD] at h5; exact absurd h5 (by simp)
  have n54 : g5 ≠ g4 := by rintro rfl; rw [h4] at h5; exact absurd h5 (by simp)
  have k4 := blk_far (p := ⟨g, 1, none⟩) h4 n4 (.bool true)
  have c4 : (w.setCell ⟨g, 1, none⟩ (.bool true)).cell? ⟨g4, 0, none⟩ = some v := (blk_cell k4 0).trans rfl
  have f4 := blk_frozen k4 0
  have k5 := blk_far (p := ⟨g4, 0, none⟩) (blk_far (p := ⟨g, 1, none⟩) h5 n5 (.bool true)) n54 (.slice none 0 0)
  have c5 : ((w.setCell ⟨g, 1, none⟩ (.bool true)).setCell ⟨g4, 0, none⟩ (.slice none 0 0)).cell? ⟨g5, 0, none⟩ = some (.int .i64 x) := (blk_cell k5 0).trans rfl
  have f5 := blk_frozen k5 0
  refine callsD_of_wpS Tryd.func46 rfl fun c₀ cs hu => ?_
  apply wpS_seq
  apply wpS_region
  simp [wpOpsS, go_sem, recoverD, hu, Tryd.ntmps46, Exit.thenS, ud_yes]
  apply wpS_seq
  apply wpS_region
  simp [wpOpsS, go_sem, Exit.thenS]
  refine wpS_cond (t := true) (by simp [go_sem]) ?_
  simp only [if_true]
  apply wpS_seq
  apply wpS_region
  simp [wpOpsS, go_sem, c2, cD, fD, Exit.thenS]
  apply wpS_region
  simp [wpOpsS, go_sem, c4, f4, c5, f5, bodyPostS, results, Tryd.results46]
set_option maxHeartbeats 400000 in
set_option maxRecDepth 100000 in
theorem ud_idle (g2 g4 g5 : Nat) (w : World) :
    CallsD Tryd.prog 46 #[.pointer (some ⟨g2, 0, none⟩), .pointer (some ⟨g4, 0, none⟩), .pointer (some ⟨g5, 0, none⟩)] .returning w fun en u' w' => en = .returned (.tuple #[]) ∧ u' = .returning ∧ w' = w := by
  refine callsD_of_wpS Tryd.func46 rfl fun c₀ cs hu => ?_
  apply wpS_seq
  apply wpS_region
  simp [wpOpsS, go_sem, recoverD, hu, Tryd.ntmps46, Exit.thenS, ud_no]
  apply wpS_seq
  apply wpS_region
  simp [wpOpsS, go_sem, Exit.thenS]
  refine wpS_cond (t := false) (by simp [go_sem]) ?_
  simp only [Bool.false_eq_true, if_false]
  apply wpS_of_wp
  apply wp_skip
  simp [bodyPostS, results, Tryd.results46]
  cases c₀
  simp_all
theorem ud_keepset {w W : World} {g j : Nat} {r : Option Nat} {v : Value} (h : KeepBut w W g r) : KeepBut w (W.setCell ⟨g, j, none⟩ v) g r := ⟨by simpa [World.setCell] using h.1, fun i hi hg hr => (Below.heap_setCell W ⟨g, j, none⟩ v i hg).trans (h.2 i hi hg hr)⟩
theorem ud_keepnew {w W W1 : World} {g g2 : Nat} {r : Option Nat} (h : KeepBut w W g r) (h2 : KeepBut W W1 g2 r) (hg : w.heap.size ≤ g2) : KeepBut w W1 g r := ⟨Nat.le_trans h.1 h2.1, fun i hi h3 h4 => (h2.2 i (Nat.lt_of_lt_of_le hi h.1) (by omega) h4).trans (h.2 i hi h3 h4)⟩
def unpack_Decoder_Read.f (k : Nat) (d : TD) (s : ByteArray) : Option (List S26 × Int × TD) :=
  if d.down = true then some ([], 8, d) else (upFld k k d.t s 0 []).bind fun q => match q.2 with | .error e => some ([], e, ⟨q.1, true⟩) | .ok l => some (l, 0, ⟨q.1, false⟩)
set_option maxHeartbeats 4000000 in
set_option maxRecDepth 100000 in
theorem unpack_Decoder_Read.calls (k g : Nat) (s0_0 : TD) (a1 : ByteArray) (r1 : List S26) (r2 : Int) (r3 : TD) (w0 w : World) (hI : IsS90 w0 w g s0_0) (hB : Below w0.heap.size w0 w) (h : unpack_Decoder_Read.f k s0_0 a1 = some (r1, r2, r3)) :
    Calls Tryd.prog 25 #[.pointer (some ⟨g, 0, none⟩), .string a1] w fun e w' => ∃ v0_ : Value, e = .returned (.tuple #[v0_, .int .i64 r2]) ∧ Kd.R k26 26 w' w.heap.size (fun _ => True) v0_ r1 ∧ IsS90 w0 w' g r3 ∧ Below w0.heap.size w0 w' ∧ KeepBut w w' g (some (g - 1)) := by
  have hmf : ∀ (fn : Fn) (first cap : Array Value) (w : World), (Instr.makeFunc fn first cap).run Tryd.prog w = .ok (.func fn first cap) w := fun _ _ _ _ => rfl
  have HI := Aside0.mk hI
  have HB := Aside0.mk hB
  have HG := Aside0.mk hI.lt
  have HP := Aside0.mk hI.pos
  have HGE := Aside0.mk hI.ge
  obtain ⟨gt, hgt, hD, hT⟩ := hI
  have GT := Aside0.mk hgt
  have HD := Aside0.mk hD
  have HT := Aside0.mk hT
  obtain ⟨t, down⟩ := s0_0
  clear hgt hD hT hB
  unfold unpack_Decoder_Read.f at h
  simp only at h
  cases down with
  | true =>
    rw [if_pos rfl] at h
    simp only [Option.some.injEq, Prod.mk.injEq] at h
    obtain ⟨rfl, rfl, rfl⟩ := h
    go_enter_defers Tryd.func25, Tryd.ntmps25
    go_wp2_with (first | ((with_reducible refine gate_dst (N := 2) rfl ?_); refine box_event ?hg (N := 2) ?hd (cs := #[.pointer (some ⟨g, 0, none⟩)]) (t := 53) ?hr ?_; (case hd => rfl); (case hg => rfl); (case hr => first | (go_simp; done) | (go_simp; rfl)); intro g2 hg w2 hbox hb; have W2 := Aside0.mk (show w.heap.size ≤ g2 by omega); have B2 := Aside0.mk hbox; have HB2 := Aside0.mk hb; clear hb hbox hg) | ((with_reducible refine gate_dst (N := 4) rfl ?_); refine box_event ?hg (N := 4) ?hd (cs := #[.slice none 0 0]) (t := 22) ?hr ?_; (case hd => rfl); (case hg => rfl); (case hr => first | (go_simp; done) | (go_simp; rfl)); intro g4 hg w4 hbox hb; have W4 := Aside0.mk (show w.heap.size ≤ g4 by have := HB2.out.size; omega); have B4 := Aside0.mk hbox; have B24 := Aside0.mk (blk_below B2.out hb); have HB4 := Aside0.mk (below_step HB2.out hb); clear hb hbox hg) | ((with_reducible refine gate_dst (N := 5) rfl ?_); refine box_event ?hg (N := 5) ?hd (cs := #[.int .i64 0]) (t := 58) ?hr ?_; (case hd => rfl); (case hg => rfl); (case hr => first | (go_simp; done) | (go_simp; rfl)); intro g5 hg w5 hbox hb; have W5 := Aside0.mk (show w.heap.size ≤ g5 by have := HB4.out.size; omega); have G54 := Aside0.mk (show g5 ≠ g4 by have := blk_lt B4.out; omega); have B5 := Aside0.mk hbox; have B25 := Aside0.mk (blk_below B24.out hb); have B45 := Aside0.mk (blk_below B4.out hb); have HB5 := Aside0.mk (below_step HB4.out hb); have HD5 := Aside0.mk (blk_below HD.out HB5.out); clear hb hbox hg; have c2 := (blk_cell B25.out 0).trans (rfl : _ = some (Value.pointer (some ⟨g, 0, none⟩))); have cD := (blk_cell HD5.out 1).trans (rfl : _ = some (Value.bool true)); have cP := (blk_cell HD5.out 0).trans (rfl : _ = some (Value.pointer (some ⟨gt, 0, none⟩))); have c4 := (blk_cell B45.out 0).trans (rfl : _ = some (Value.slice none 0 0)); have c5 := (blk_cell (blk_far (p := ⟨g4, 0, none⟩) B5.out G54.out (.slice none 0 0)) 0).trans (rfl : _ = some (Value.int .i64 0)); have f4 := blk_frozen B45.out 0; have f5 := blk_frozen (blk_far (p := ⟨g4, 0, none⟩) B5.out G54.out (.slice none 0 0)) 0))
    have hc4 := (blk_cell (blk_far (p := ⟨g5, 0, none⟩) (blk_put B45.out 0 (.slice none 0 0) rfl) (Ne.symm G54.out) (.int .i64 8)) 0).trans (rfl : _ = some (Value.slice none 0 0))
    have hc5 := (blk_cell (blk_put (blk_far (p := ⟨g4, 0, none⟩) B5.out G54.out (.slice none 0 0)) 0 (.int .i64 8) rfl) 0).trans (rfl : _ = some (Value.int .i64 8))
    have XB := Aside0.mk (below_set (g := g5) (j := 0) (v := .int .i64 8) (below_set (g := g4) (j := 0) (v := .slice none 0 0) HB5.out W4.out) W5.out)
    generalize (w5.setCell ⟨g4, 0, none⟩ (.slice none 0 0)).setCell ⟨g5, 0, none⟩ (.int .i64 8) = w6 at hc4 hc5 XB ⊢
    simp [bodyPostD, Leaves, settle, results, Tryd.results25, go_sem, hc4, hc5]
    exact ⟨Kd.R_nil _ _ _ _ _, HI.out.below XB.out, below_then HB.out HB.out.size XB.out, KeepBut.of_below XB.out g _⟩
  | false =>
    rw [if_neg (by decide)] at h
    obtain ⟨⟨t2, RES⟩, h1, h2⟩ := Option.bind_eq_some_iff.mp h
    simp only at h2
    have A1 := Aside0.mk h1
    have L6 : Aside0 (∀ q, w.heap.size ≤ q → w0.heap.size ≤ q) := ⟨fun q hq => Nat.le_trans HB.out.size hq⟩
    have TN : Aside0 (∀ q, w.heap.size ≤ q → q ≠ gt) := ⟨fun q hq => by have := HT.out.lt; omega⟩
    have hgt : g - 1 = gt := by have := GT.out; omega
    rw [hgt]
    clear h h1
    cases RES with
    | error e =>
      simp only [Option.some.injEq, Prod.mk.injEq] at h2
      obtain ⟨rfl, rfl, rfl⟩ := h2
      go_enter_defers Tryd.func25, Tryd.ntmps25
      go_wp2_with (first | ((with_reducible refine gate_dst (N := 2) rfl ?_); refine box_event ?hg (N := 2) ?hd (cs := #[.pointer (some ⟨g, 0, none⟩)]) (t := 53) ?hr ?_; (case hd => rfl); (case hg => rfl); (case hr => first | (go_simp; done) | (go_simp; rfl)); intro g2 hg w2 hbox hb; have W2 := Aside0.mk (show w.heap.size ≤ g2 by omega); have B2 := Aside0.mk hbox; have HB2 := Aside0.mk hb; clear hb hbox hg) | ((with_reducible refine gate_dst (N := 4) rfl ?_); refine box_event ?hg (N := 4) ?hd (cs := #[.slice none 0 0]) (t := 22) ?hr ?_; (case hd => rfl); (case hg => rfl); (case hr => first | (go_simp; done) | (go_simp; rfl)); intro g4 hg w4 hbox hb; have W4 := Aside0.mk (show w.heap.size ≤ g4 by have := HB2.out.size; omega); have B4 := Aside0.mk hbox; have B24 := Aside0.mk (blk_below B2.out hb); have HB4 := Aside0.mk (below_step HB2.out hb); clear hb hbox hg) | ((with_reducible refine gate_dst (N := 5) rfl ?_); refine box_event ?hg (N := 5) ?hd (cs := #[.int .i64 0]) (t := 58) ?hr ?_; (case hd => rfl); (case hg => rfl); (case hr => first | (go_simp; done) | (go_simp; rfl)); intro g5 hg w5 hbox hb; have W5 := Aside0.mk (show w.heap.size ≤ g5 by have := HB4.out.size; omega); have G54 := Aside0.mk (show g5 ≠ g4 by have := blk_lt B4.out; omega); have B5 := Aside0.mk hbox; have B25 := Aside0.mk (blk_below B24.out hb); have B45 := Aside0.mk (blk_below B4.out hb); have HB5 := Aside0.mk (below_step HB4.out hb); have HD5 := Aside0.mk (blk_below HD.out HB5.out); clear hb hbox hg; have c2 := (blk_cell B25.out 0).trans (rfl : _ = some (Value.pointer (some ⟨g, 0, none⟩))); have cD := (blk_cell HD5.out 1).trans (rfl : _ = some (Value.bool false)); have cP := (blk_cell HD5.out 0).trans (rfl : _ = some (Value.pointer (some ⟨gt, 0, none⟩))); have c4 := (blk_cell B45.out 0).trans (rfl : _ = some (Value.slice none 0 0)); have c5 := (blk_cell (blk_far (p := ⟨g4, 0, none⟩) B5.out G54.out (.slice none 0 0)) 0).trans (rfl : _ = some (Value.int .i64 0)); have f4 := blk_frozen B45.out 0; have f5 := blk_frozen (blk_far (p := ⟨g4, 0, none⟩) B5.out G54.out (.slice none 0 0)) 0) | ((with_reducible refine gate_dst (N := 18) rfl ?_); refine box_event ?hg (N := 18) ?hd (cs := #[.pointer (some ⟨gt, 0, none⟩), .string a1, .int .i64 0]) (t := 94) ?hr ?_; (case hd => rfl); (case hg => rfl); (case hr => first | (go_simp; done) | (go_simp; rfl)); intro g18 hg w6 hbox hb; have HB6 := Aside0.mk (below_step HB5.out hb); have W6 := Aside0.mk (show w.heap.size ≤ g18 by have := HB5.out.size; omega); have HI6 := Aside0.mk (show IsB w6 g18 gt a1 0 from hbox); have HT6 := Aside0.mk (HT.out.below HB6.out); have N6 := Aside0.mk (show g18 ≠ gt by have := HT.out.lt; have := W6.out; omega); have B26 := Aside0.mk (blk_below B25.out hb); have B46 := Aside0.mk (blk_below B45.out hb); have B56 := Aside0.mk (blk_below B5.out hb); have HD6 := Aside0.mk (blk_below HD5.out hb); have N2 := Aside0.mk (show g2 ≠ g18 by have := blk_lt B25.out; omega); have N4 := Aside0.mk (show g4 ≠ g18 by have := blk_lt B45.out; omega); have N5 := Aside0.mk (show g5 ≠ g18 by have := blk_lt B5.out; omega); have ND := Aside0.mk (show g ≠ g18 by have := HG.out; have := W6.out; omega); have C6 := Aside0.mk (below_then HB.out HB.out.size HB6.out); clear hb hbox hg c2 cD cP c4 c5 f4 f5) | (go_at_call 47; (with_reducible refine (up_fields k k g18 gt t a1 0 (t2, .error e) w0 _ HI6.out HT6.out N6.out (L6.out _ W6.out) C6.out A1.out).mono ?_); have T2 := Aside0.mk (TN.out _ W2.out); have T4 := Aside0.mk (TN.out _ W4.out); have T5 := Aside0.mk (TN.out _ W5.out); rintro en w7 ⟨hb, hk, ht, rfl⟩; have HB7 := Aside0.mk hb; have HK7 := Aside0.mk (ud_keepnew (KeepBut.of_below HB6.out g (some gt)) hk W6.out); have HT7 := Aside0.mk ht; have B27 := Aside0.mk ((hk.2 g2 (blk_lt B26.out) N2.out (fun e_ => T2.out (Option.some.inj e_))).trans B26.out); have B47 := Aside0.mk ((hk.2 g4 (blk_lt B46.out) N4.out (fun e_ => T4.out (Option.some.inj e_))).trans B46.out); have B57 := Aside0.mk ((hk.2 g5 (blk_lt B56.out) N5.out (fun e_ => T5.out (Option.some.inj e_))).trans B56.out); have HD7 := Aside0.mk ((hk.2 g (blk_lt HD6.out) ND.out (fun e_ => by have := GT.out; have := Option.some.inj e_; omega)).trans HD6.out); clear hb hk ht))
      refine leaves_cons (f := 46) (args := #[.pointer (some ⟨g2, 0, none⟩), .pointer (some ⟨g4, 0, none⟩), .pointer (some ⟨g5, 0, none⟩)]) (by simp) (by simp [go_sem]) ?_
      refine (ud_catch g gt g2 g4 g5 false e 0 (.slice none 0 0) _ _ B27.out HD7.out B47.out B57.out).mono ?_
      rintro en2 u' w'' ⟨rfl, rfl, rfl⟩
      have G4 := Aside0.mk (show g4 ≠ g by have := HG.out; have := W4.out; omega)
      have G5 := Aside0.mk (show g5 ≠ g by have := HG.out; have := W5.out; omega)
      have D1 := blk_put HD7.out 1 (.bool true) rfl
      have E4 := blk_far (p := ⟨g, 1, none⟩) B47.out G4.out (.bool true)
      have E5 := blk_far (p := ⟨g, 1, none⟩) B57.out G5.out (.bool true)
      have D2 := blk_far (p := ⟨g5, 0, none⟩) (blk_far (p := ⟨g4, 0, none⟩) D1 (Ne.symm G4.out) (.slice none 0 0)) (Ne.symm G5.out) (.int .i64 e)
      have F4 := blk_far (p := ⟨g5, 0, none⟩) (blk_put E4 0 (.slice none 0 0) rfl) (Ne.symm G54.out) (.int .i64 e)
      have F5 := blk_put (blk_far (p := ⟨g4, 0, none⟩) E5 G54.out (.slice none 0 0)) 0 (.int .i64 e) rfl
      have T8 := IsS77.farT (p := ⟨g5, 0, none⟩) (IsS77.farT (p := ⟨g4, 0, none⟩) (IsS77.farT (p := ⟨g, 1, none⟩) HT7.out (TyOf.mk HD7.out) (by decide) (.bool true)) (TyOf.mk E4) (by decide) (.slice none 0 0)) (TyOf.mk (blk_far (p := ⟨g4, 0, none⟩) E5 G54.out (.slice none 0 0))) (by decide) (.int .i64 e)
      have X8 := below_set (g := g5) (j := 0) (v := .int .i64 e) (below_set (g := g4) (j := 0) (v := .slice none 0 0) (below_set (g := g) (j := 1) (v := .bool true) HB7.out HGE.out) (L6.out _ W4.out)) (L6.out _ W5.out)
      have K8 := keep_far (p := ⟨g5, 0, none⟩) (keep_far (p := ⟨g4, 0, none⟩) (ud_keepset (j := 1) (v := .bool true) HK7.out) W4.out (.slice none 0 0)) W5.out (.int .i64 e)
      have hc4 := (blk_cell F4 0).trans (rfl : _ = some (Value.slice none 0 0))
      have hc5 := (blk_cell F5 0).trans (rfl : _ = some (Value.int .i64 e))
      simp [Leaves, settle, results, Tryd.results25, go_sem, hc4, hc5]
      exact ⟨Kd.R_nil _ _ _ _ _, ⟨gt, GT.out, D2, T8⟩, X8, K8⟩
    | ok l =>
      simp only [Option.some.injEq, Prod.mk.injEq] at h2
      obtain ⟨rfl, rfl, rfl⟩ := h2
      go_enter_defers Tryd.func25, Tryd.ntmps25
      go_wp2_with (first | ((with_reducible refine gate_dst (N := 2) rfl ?_); refine box_event ?hg (N := 2) ?hd (cs := #[.pointer (some ⟨g, 0, none⟩)]) (t := 53) ?hr ?_; (case hd => rfl); (case hg => rfl); (case hr => first | (go_simp; done) | (go_simp; rfl)); intro g2 hg w2 hbox hb; have W2 := Aside0.mk (show w.heap.size ≤ g2 by omega); have B2 := Aside0.mk hbox; have HB2 := Aside0.mk hb; clear hb hbox hg) | ((with_reducible refine gate_dst (N := 4) rfl ?_); refine box_event ?hg (N := 4) ?hd (cs := #[.slice none 0 0]) (t := 22) ?hr ?_; (case hd => rfl); (case hg => rfl); (case hr => first | (go_simp; done) | (go_simp; rfl)); intro g4 hg w4 hbox hb; have W4 := Aside0.mk (show w.heap.size ≤ g4 by have := HB2.out.size; omega); have B4 := Aside0.mk hbox; have B24 := Aside0.mk (blk_below B2.out hb); have HB4 := Aside0.mk (below_step HB2.out hb); clear hb hbox hg) | ((with_reducible refine gate_dst (N := 5) rfl ?_); refine box_event ?hg (N := 5) ?hd (cs := #[.int .i64 0]) (t := 58) ?hr ?_; (case hd => rfl); (case hg => rfl); (case hr => first | (go_simp; done) | (go_simp; rfl)); intro g5 hg w5 hbox hb; have W5 := Aside0.mk (show w.heap.size ≤ g5 by have := HB4.out.size; omega); have G54 := Aside0.mk (show g5 ≠ g4 by have := blk_lt B4.out; omega); have B5 := Aside0.mk hbox; have B25 := Aside0.mk (blk_below B24.out hb); have B45 := Aside0.mk (blk_below B4.out hb); have HB5 := Aside0.mk (below_step HB4.out hb); have HD5 := Aside0.mk (blk_below HD.out HB5.out); clear hb hbox hg; have c2 := (blk_cell B25.out 0).trans (rfl : _ = some (Value.pointer (some ⟨g, 0, none⟩))); have cD := (blk_cell HD5.out 1).trans (rfl : _ = some (Value.bool false)); have cP := (blk_cell HD5.out 0).trans (rfl : _ = some (Value.pointer (some ⟨gt, 0, none⟩))); have c4 := (blk_cell B45.out 0).trans (rfl : _ = some (Value.slice none 0 0)); have c5 := (blk_cell (blk_far (p := ⟨g4, 0, none⟩) B5.out G54.out (.slice none 0 0)) 0).trans (rfl : _ = some (Value.int .i64 0)); have f4 := blk_frozen B45.out 0; have f5 := blk_frozen (blk_far (p := ⟨g4, 0, none⟩) B5.out G54.out (.slice none 0 0)) 0) | ((with_reducible refine gate_dst (N := 18) rfl ?_); refine box_event ?hg (N := 18) ?hd (cs := #[.pointer (some ⟨gt, 0, none⟩), .string a1, .int .i64 0]) (t := 94) ?hr ?_; (case hd => rfl); (case hg => rfl); (case hr => first | (go_simp; done) | (go_simp; rfl)); intro g18 hg w6 hbox hb; have HB6 := Aside0.mk (below_step HB5.out hb); have W6 := Aside0.mk (show w.heap.size ≤ g18 by have := HB5.out.size; omega); have HI6 := Aside0.mk (show IsB w6 g18 gt a1 0 from hbox); have HT6 := Aside0.mk (HT.out.below HB6.out); have N6 := Aside0.mk (show g18 ≠ gt by have := HT.out.lt; have := W6.out; omega); have B26 := Aside0.mk (blk_below B25.out hb); have B46 := Aside0.mk (blk_below B45.out hb); have B56 := Aside0.mk (blk_below B5.out hb); have HD6 := Aside0.mk (blk_below HD5.out hb); have N2 := Aside0.mk (show g2 ≠ g18 by have := blk_lt B25.out; omega); have N4 := Aside0.mk (show g4 ≠ g18 by have := blk_lt B45.out; omega); have N5 := Aside0.mk (show g5 ≠ g18 by have := blk_lt B5.out; omega); have ND := Aside0.mk (show g ≠ g18 by have := HG.out; have := W6.out; omega); have C6 := Aside0.mk (below_then HB.out HB.out.size HB6.out); clear hb hbox hg c2 cD cP c4 c5 f4 f5) | (go_at_call 47; (with_reducible refine (up_fields k k g18 gt t a1 0 (t2, .ok l) w0 _ HI6.out HT6.out N6.out (L6.out _ W6.out) C6.out A1.out).mono ?_); have T2 := Aside0.mk (TN.out _ W2.out); have T4 := Aside0.mk (TN.out _ W4.out); have T5 := Aside0.mk (TN.out _ W5.out); rintro en w7 ⟨hb, hk, ht, v, rfl, hr⟩; obtain ⟨A9, c9, rfl⟩ := Kd.R_slice hr; have HB7 := Aside0.mk hb; have HK7 := Aside0.mk (ud_keepnew (KeepBut.of_below HB6.out g (some gt)) hk W6.out); have HT7 := Aside0.mk ht; have B27 := Aside0.mk ((hk.2 g2 (blk_lt B26.out) N2.out (fun e_ => T2.out (Option.some.inj e_))).trans B26.out); have B47 := Aside0.mk ((hk.2 g4 (blk_lt B46.out) N4.out (fun e_ => T4.out (Option.some.inj e_))).trans B46.out); have B57 := Aside0.mk ((hk.2 g5 (blk_lt B56.out) N5.out (fun e_ => T5.out (Option.some.inj e_))).trans B56.out); have HD7 := Aside0.mk ((hk.2 g (blk_lt HD6.out) ND.out (fun e_ => by have := GT.out; have := Option.some.inj e_; omega)).trans HD6.out); have HR7 := Aside0.mk hr; clear hb hk ht hr; have c4 := (blk_cell B47.out 0).trans (rfl : _ = some (Value.slice none 0 0)); have f4 := blk_frozen B47.out 0; have c5 := (blk_cell (blk_far (p := ⟨g4, 0, none⟩) B57.out G54.out (.slice A9 l.length c9)) 0).trans (rfl : _ = some (Value.int .i64 0)); have f5 := blk_frozen (blk_far (p := ⟨g4, 0, none⟩) B57.out G54.out (.slice A9 l.length c9)) 0))
      have G4 := Aside0.mk (show g4 ≠ g by have := HG.out; have := W4.out; omega)
      have G5 := Aside0.mk (show g5 ≠ g by have := HG.out; have := W5.out; omega)
      have D2 := blk_far (p := ⟨g5, 0, none⟩) (blk_far (p := ⟨g4, 0, none⟩) HD7.out (Ne.symm G4.out) (.slice A9 l.length c9)) (Ne.symm G5.out) (.int .i64 0)
      have F4 := blk_far (p := ⟨g5, 0, none⟩) (blk_put B47.out 0 (.slice A9 l.length c9) rfl) (Ne.symm G54.out) (.int .i64 0)
      have F5 := blk_put (blk_far (p := ⟨g4, 0, none⟩) B57.out G54.out (.slice A9 l.length c9)) 0 (.int .i64 0) rfl
      have T8 := IsS77.farT (p := ⟨g5, 0, none⟩) (IsS77.farT (p := ⟨g4, 0, none⟩) HT7.out (TyOf.mk B47.out) (by decide) (.slice A9 l.length c9)) (TyOf.mk (blk_far (p := ⟨g4, 0, none⟩) B57.out G54.out (.slice A9 l.length c9))) (by decide) (.int .i64 0)
      have X8 := below_set (g := g5) (j := 0) (v := .int .i64 0) (below_set (g := g4) (j := 0) (v := (.slice A9 l.length c9)) HB7.out (L6.out _ W4.out)) (L6.out _ W5.out)
      have K8 := keep_far (p := ⟨g5, 0, none⟩) (keep_far (p := ⟨g4, 0, none⟩) HK7.out W4.out (.slice A9 l.length c9)) W5.out (.int .i64 0)
      have R8 := Kd.R_mono (Kd.R_far (p := ⟨g5, 0, none⟩) (Kd.R_far (p := ⟨g4, 0, none⟩) (Kd.R_types (Kd.R_types (Kd.R_lower HR7.out HB6.out.size) B47.out (by decide)) B57.out (by decide)) (fun _ h => h.1.2) (.slice A9 l.length c9)) (fun _ h => h.2) (.int .i64 0)) (fun _ _ => (trivial : (fun _ => True) _))
      have hc4 := (blk_cell F4 0).trans (rfl : _ = some (Value.slice A9 l.length c9))
      have hc5 := (blk_cell F5 0).trans (rfl : _ = some (Value.int .i64 0))
      generalize (w7.setCell ⟨g4, 0, none⟩ (.slice A9 l.length c9)).setCell ⟨g5, 0, none⟩ (.int .i64 0) = w8 at D2 T8 X8 K8 R8 hc4 hc5 ⊢
      have D8 := Aside0.mk D2
      have T9 := Aside0.mk T8
      have X9 := Aside0.mk X8
      have K9 := Aside0.mk K8
      have R9 := Aside0.mk R8
      clear D2 F4 F5 T8 X8 K8 R8
      refine leaves_cons (f := 46) (args := #[.pointer (some ⟨g2, 0, none⟩), .pointer (some ⟨g4, 0, none⟩), .pointer (some ⟨g5, 0, none⟩)]) (by simp) (by simp [go_sem]) ?_
      refine (ud_idle g2 g4 g5 _).mono ?_
      rintro e u' w'' ⟨rfl, rfl, rfl⟩
      simp [Leaves, settle, results, Tryd.results25, go_sem, hc4, hc5]
      exact ⟨R9.out, ⟨gt, GT.out, D8.out, T9.out⟩, X9.out, K9.out⟩
end Go.Proofs.YtfkdocmhbmameaaDoor.Mine
namespace Go.Proofs.YtfkdocmhbmameaaDoor.Mine
open Go.RowKit Go.Proofs.YtfkdocmhbmameaaDoorW.PrintWords Go.Proofs.YtfkdocmhbmameaaDoorW.PrintLast Go.Proofs.YtfkdocmhbmameaaDoorW.PrintMore
attribute [local go_sem] max2_int min2_int max_two min_two max_three min_three max_four min_four
set_option linter.unusedVariables false
set_option linter.unusedSimpArgs false
def nuncioref11_least.l0 : Nat → List (S88) → Int → List (S88) → Int → Int → Option ((List (S88)))
 | 0, _, _, _, _, _ => none
 | k + 1, x0, x1, x5, x6, x7 => if x7 < (x0.length : Int) then (if 0 ≤ x7 then (if (wrap64 ((wrap64 ((wrap64 (x6 + (((rd_T88 x0 x7).f0).size : Int))) + (((rd_T88 x0 x7).f1).size : Int))) + 32)) > x1 then (some x5) else (if x5.length < 4398046511104 then (nuncioref11_least.l0 k x0 x1 (x5 ++ [(⟨(rd_T88 x0 x7).f0, (rd_T88 x0 x7).f1⟩ : S88)]) (wrap64 ((wrap64 ((wrap64 (x6 + (((rd_T88 x0 x7).f0).size : Int))) + (((rd_T88 x0 x7).f1).size : Int))) + 32)) (wrap64 (x7 + 1))) else (none))) else (none)) else (some x5)
def nuncioref11_least.f (k : Nat) (l0 : List (S88)) (a1 : Int) : Option ((List (S88))) := nuncioref11_least.l0 k l0 a1 ([] : List (S88)) 0 0
def nuncioref11_Resize.f (k : Nat) (a0_0 : Int) (l0_1 : List (S88)) (a1 : Int) : Option (Int × (List (S88))) := if a1 < 0 then ((nuncioref11_least.f k l0_1 0).bind fun t218 => (some (0, t218))) else ((nuncioref11_least.f k l0_1 a1).bind fun t221 => (some (a1, t221)))
end Go.Proofs.YtfkdocmhbmameaaDoor.Mine
namespace Go.Proofs.YtfkdocmhbmameaaDoor.Mine
open Go.RowKit Go.Proofs.YtfkdocmhbmameaaDoorW.PrintWords Go.Proofs.YtfkdocmhbmameaaDoorW.PrintLast Go.Proofs.YtfkdocmhbmameaaDoorW.PrintMore
attribute [local go_sem] max2_int min2_int max_two min_two max_three min_three max_four min_four
set_option linter.unusedVariables false
set_option linter.unusedSimpArgs false
def nuncioref09_Full.l0 : Nat → Int → Int → Int → Option (Int)
 | 0, _, _, _ => none
 | k + 1, x0, x3, x4 => if x4 < x0 then (if x4 < 8 then (nuncioref09_Full.l0 k x0 (IntKind.u64.wrap ((IntKind.u64.wrap (x3 * 2)) + 1)) (wrap64 (x4 + 1))) else (some x3)) else (some x3)
def nuncioref09_Full.f (k : Nat) (a0 : Int) : Option (Int) := nuncioref09_Full.l0 k a0 1 1
end Go.Proofs.YtfkdocmhbmameaaDoor.Mine
namespace Go.Proofs.YtfkdocmhbmameaaDoor.Mine
open Go.RowKit Go.Proofs.YtfkdocmhbmameaaDoorW.PrintWords Go.Proofs.YtfkdocmhbmameaaDoorW.PrintLast Go.Proofs.YtfkdocmhbmameaaDoorW.PrintMore
attribute [local go_sem] max2_int min2_int max_two min_two max_three min_three max_four min_four
set_option linter.unusedVariables false
set_option linter.unusedSimpArgs false
mutual
def nuncioref09_Get.j0 : Nat → ByteArray → Int → Int → Bool → Option (Int × Int × Int)
 | 0, _, _, _, _ => none
 | k + 1, x0, x1, x2, x21 => if x21 = true then (some (0, 0, 2)) else ((nuncioref09_Full.f k x2).bind fun t409 => (if 0 ≤ x1 then (if x1 < (x0.size : Int) then (if (IntKind.u64.wrap (t409 + 1)) = 0 then (none) else (if (Int.tmod (IntKind.u64.wrap (bt x0 x1)) (IntKind.u64.wrap (t409 + 1))) < t409 then (some (Int.tmod (IntKind.u64.wrap (bt x0 x1)) (IntKind.u64.wrap (t409 + 1)), wrap64 (x1 + 1), 0)) else (nuncioref09_Get.l0 k x0 x1 (Int.tmod (IntKind.u64.wrap (bt x0 x1)) (IntKind.u64.wrap (t409 + 1))) 1 1))) else (none)) else (none)))
def nuncioref09_Get.l0 : Nat → ByteArray → Int → Int → Int → Int → Option (Int × Int × Int)
 | 0, _, _, _, _, _ => none
 | k + 1, x0, x1, x10, x11, x12 => if x12 ≤ 5 then (if (wrap64 ((x0.size : Int) - x1)) ≤ x12 then (some (0, 0, 2)) else (if 0 ≤ (wrap64 (x1 + x12)) then (if (wrap64 (x1 + x12)) < (x0.size : Int) then (if (IntKind.u64.wrap (x10 + (IntKind.u64.wrap ((Int.tmod (IntKind.u64.wrap (bt x0 (wrap64 (x1 + x12)))) 128) * x11)))) > 4294967295 then (some (0, 0, 90)) else (if (IntKind.u64.wrap (bt x0 (wrap64 (x1 + x12)))) < 128 then (some (IntKind.u64.wrap (x10 + (IntKind.u64.wrap ((Int.tmod (IntKind.u64.wrap (bt x0 (wrap64 (x1 + x12)))) 128) * x11))), wrap64 ((wrap64 (x1 + x12)) + 1), 0)) else (nuncioref09_Get.l0 k x0 x1 (IntKind.u64.wrap (x10 + (IntKind.u64.wrap ((Int.tmod (IntKind.u64.wrap (bt x0 (wrap64 (x1 + x12)))) 128) * x11)))) (IntKind.u64.wrap (x11 * 128)) (wrap64 (x12 + 1))))) else (none)) else (none))) else (some (0, 0, 90))
end
def nuncioref09_Get.f (k : Nat) (a0 : ByteArray) (a1 : Int) (a2 : Int) : Option (Int × Int × Int) := if a1 < 0 then (nuncioref09_Get.j0 k a0 a1 a2 true) else (nuncioref09_Get.j0 k a0 a1 a2 (decide (a1 ≥ (a0.size : Int))))
end Go.Proofs.YtfkdocmhbmameaaDoor.Mine
namespace Go.Proofs.YtfkdocmhbmameaaDoor.Mine
open Go.RowKit Go.Proofs.YtfkdocmhbmameaaDoorW.PrintWords Go.Proofs.YtfkdocmhbmameaaDoorW.PrintLast Go.Proofs.YtfkdocmhbmameaaDoorW.PrintMore
attribute [local go_sem] max2_int min2_int max_two min_two max_three min_three max_four min_four
set_option linter.unusedVariables false
set_option linter.unusedSimpArgs false
mutual
def nuncioref11_Fixed.l0 (tx : ByteArray) : Nat → List (S88) → Bool → Int → ByteArray → ByteArray → Option ((List (S88)))
 | 0, _, _, _, _, _ => none
 | k + 1, x1, x3, x4, x232000, x232001 => if x4 ≤ 758 then (if x4 = 758 then (nuncioref11_Fixed.j1 tx k x1 x3 x4 true x232000 x232001) else (if 0 ≤ x4 then (if x4 < 758 then (nuncioref11_Fixed.j1 tx k x1 x3 x4 ((bt tx x4) == 10) x232000 x232001) else (none)) else (none))) else (some x1)
def nuncioref11_Fixed.j1 (tx : ByteArray) : Nat → List (S88) → Bool → Int → Bool → ByteArray → ByteArray → Option ((List (S88)))
 | 0, _, _, _, _, _, _ => none
 | k + 1, x1, x3, x4, x18, x232000, x232001 => if x18 = true then (if x1.length < 4398046511104 then (nuncioref11_Fixed.l0 tx k (x1 ++ [(⟨x232000, x232001⟩ : S88)]) false (wrap64 (x4 + 1)) (⟨#[]⟩ : ByteArray) (⟨#[]⟩ : ByteArray)) else (none)) else (if 0 ≤ x4 then (if x4 < 758 then (if (bt tx x4) = 61 then (nuncioref11_Fixed.j2 tx k x1 x3 x4 (!x3) x232000 x232001) else (nuncioref11_Fixed.j2 tx k x1 x3 x4 false x232000 x232001)) else (none)) else (none))
def nuncioref11_Fixed.j2 (tx : ByteArray) : Nat → List (S88) → Bool → Int → Bool → ByteArray → ByteArray → Option ((List (S88)))
 | 0, _, _, _, _, _, _ => none
 | k + 1, x1, x3, x4, x31, x232000, x232001 => if x31 = true then (nuncioref11_Fixed.l0 tx k x1 true (wrap64 (x4 + 1)) x232000 x232001) else (if x3 = true then (if 0 ≤ x4 then (if x4 ≤ (wrap64 (x4 + 1)) then (if (wrap64 (x4 + 1)) ≤ 758 then (if x232001.size + (tx.extract (x4 : Int).toNat ((wrap64 (x4 + 1)) : Int).toNat).size ≤ 9223372036854775807 then (nuncioref11_Fixed.l0 tx k x1 x3 (wrap64 (x4 + 1)) x232000 (x232001 ++ (tx.extract (x4 : Int).toNat ((wrap64 (x4 + 1)) : Int).toNat))) else (none)) else (none)) else (none)) else (none)) else (if 0 ≤ x4 then (if x4 ≤ (wrap64 (x4 + 1)) then (if (wrap64 (x4 + 1)) ≤ 758 then (if x232000.size + (tx.extract (x4 : Int).toNat ((wrap64 (x4 + 1)) : Int).toNat).size ≤ 9223372036854775807 then (nuncioref11_Fixed.l0 tx k x1 x3 (wrap64 (x4 + 1)) (x232000 ++ (tx.extract (x4 : Int).toNat ((wrap64 (x4 + 1)) : Int).toNat)) x232001) else (none)) else (none)) else (none)) else (none)))
end
def tbRefText : ByteArray := (⟨(((([58, 97, 117, 116, 104, 111, 114, 105, 116, 121, 10, 58, 109, 101, 116, 104, 111, 100, 61, 71, 69, 84, 10, 58, 109, 101, 116, 104, 111, 100, 61, 80, 79, 83, 84, 10, 58, 112, 97, 116, 104, 61, 47, 10, 58, 112, 97].append [116, 104, 61, 47, 105, 110, 100, 101, 120, 46, 104, 116, 109, 108, 10, 58, 115, 99, 104, 101, 109, 101, 61, 104, 116, 116, 112, 10, 58, 115, 99, 104, 101, 109, 101, 61, 104, 116, 116, 112, 115, 10, 58, 115, 116, 97, 116]).append ([117, 115, 61, 50, 48, 48, 10, 58, 115, 116, 97, 116, 117, 115, 61, 50, 48, 52, 10, 58, 115, 116, 97, 116, 117, 115, 61, 50, 48, 54, 10, 58, 115, 116, 97, 116, 117, 115, 61, 51, 48, 52, 10, 58, 115, 116, 97].append [116, 117, 115, 61, 52, 48, 48, 10, 58, 115, 116, 97, 116, 117, 115, 61, 52, 48, 52, 10, 58, 115, 116, 97, 116, 117, 115, 61, 53, 48, 48, 10, 97, 99, 99, 101, 112, 116, 45, 99, 104, 97, 114, 115, 101, 116, 10, 97])).append (([99, 99, 101, 112, 116, 45, 101, 110, 99, 111, 100, 105, 110, 103, 61, 103, 122, 105, 112, 44, 32, 100, 101, 102, 108, 97, 116, 101, 10, 97, 99, 99, 101, 112, 116, 45, 108, 97, 110, 103, 117, 97, 103, 101, 10, 97, 99].append [99, 101, 112, 116, 45, 114, 97, 110, 103, 101, 115, 10, 97, 99, 99, 101, 112, 116, 10, 97, 99, 99, 101, 115, 115, 45, 99, 111, 110, 116, 114, 111, 108, 45, 97, 108, 108, 111, 119, 45, 111, 114, 105, 103, 105, 110, 10, 97]).append ([103, 101, 10, 97, 108, 108, 111, 119, 10, 97, 117, 116, 104, 111, 114, 105, 122, 97, 116, 105, 111, 110, 10, 99, 97, 99, 104, 101, 45, 99, 111, 110, 116, 114, 111, 108, 10, 99, 111, 110, 116, 101, 110, 116, 45, 100, 105].append [115, 112, 111, 115, 105, 116, 105, 111, 110, 10, 99, 111, 110, 116, 101, 110, 116, 45, 101, 110, 99, 111, 100, 105, 110, 103, 10, 99, 111, 110, 116, 101, 110, 116, 45, 108, 97, 110, 103, 117, 97, 103, 101, 10, 99, 111, 110, 116]))).append ((([101, 110, 116, 45, 108, 101, 110, 103, 116, 104, 10, 99, 111, 110, 116, 101, 110, 116, 45, 108, 111, 99, 97, 116, 105, 111, 110, 10, 99, 111, 110, 116, 101, 110, 116, 45, 114, 97, 110, 103, 101, 10, 99, 111, 110, 116, 101].append [110, 116, 45, 116, 121, 112, 101, 10, 99, 111, 111, 107, 105, 101, 10, 100, 97, 116, 101, 10, 101, 116, 97, 103, 10, 101, 120, 112, 101, 99, 116, 10, 101, 120, 112, 105, 114, 101, 115, 10, 102, 114, 111, 109, 10, 104, 111]).append ([115, 116, 10, 105, 102, 45, 109, 97, 116, 99, 104, 10, 105, 102, 45, 109, 111, 100, 105, 102, 105, 101, 100, 45, 115, 105, 110, 99, 101, 10, 105, 102, 45, 110, 111, 110, 101, 45, 109, 97, 116, 99, 104, 10, 105, 102, 45].append [114, 97, 110, 103, 101, 10, 105, 102, 45, 117, 110, 109, 111, 100, 105, 102, 105, 101, 100, 45, 115, 105, 110, 99, 101, 10, 108, 97, 115, 116, 45, 109, 111, 100, 105, 102, 105, 101, 100, 10, 108, 105, 110, 107, 10, 108, 111, 99])).append (([97, 116, 105, 111, 110, 10, 109, 97, 120, 45, 102, 111, 114, 119, 97, 114, 100, 115, 10, 112, 114, 111, 120, 121, 45, 97, 117, 116, 104, 101, 110, 116, 105, 99, 97, 116, 101, 10, 112, 114, 111, 120, 121, 45, 97, 117, 116].append [104, 111, 114, 105, 122, 97, 116, 105, 111, 110, 10, 114, 97, 110, 103, 101, 10, 114, 101, 102, 101, 114, 101, 114, 10, 114, 101, 102, 114, 101, 115, 104, 10, 114, 101, 116, 114, 121, 45, 97, 102, 116, 101, 114, 10, 115, 101, 114]).append ([118, 101, 114, 10, 115, 101, 116, 45, 99, 111, 111, 107, 105, 101, 10, 115, 116, 114, 105, 99, 116, 45, 116, 114, 97, 110, 115, 112, 111, 114, 116, 45, 115, 101, 99, 117, 114, 105, 116, 121, 10, 116, 114, 97, 110, 115, 102].append [101, 114, 45, 101, 110, 99, 111, 100, 105, 110, 103, 10, 117, 115, 101, 114, 45, 97, 103, 101, 110, 116, 10, 118, 97, 114, 121, 10, 118, 105, 97, 10, 119, 119, 119, 45, 97, 117, 116, 104, 101, 110, 116, 105, 99, 97, 116, 101])))).toArray⟩ : ByteArray)
def nuncioref11_Fixed.f (k : Nat) : Option ((List (S88))) := nuncioref11_Fixed.l0 tbRefText k ([] : List (S88)) false 0 (⟨#[]⟩ : ByteArray) (⟨#[]⟩ : ByteArray)
end Go.Proofs.YtfkdocmhbmameaaDoor.Mine
namespace Go.Proofs.YtfkdocmhbmameaaDoor.Mine
open Go.RowKit Go.Proofs.YtfkdocmhbmameaaDoorW.PrintWords Go.Proofs.YtfkdocmhbmameaaDoorW.PrintLast Go.Proofs.YtfkdocmhbmameaaDoorW.PrintMore
attribute [local go_sem] max2_int min2_int max_two min_two max_three min_three max_four min_four
set_option linter.unusedVariables false
set_option linter.unusedSimpArgs false
def nuncioref11_All.f (k : Nat) (a0_0 : Int) (l0_1 : List (S88)) : Option ((List (S88))) := (nuncioref11_Fixed.f k).bind fun t266 => (if t266.length + l0_1.length < 4398046511104 then (some (t266 ++ l0_1)) else (none))
end Go.Proofs.YtfkdocmhbmameaaDoor.Mine
namespace Go.Proofs.YtfkdocmhbmameaaDoor.Mine
open Go.RowKit Go.Proofs.YtfkdocmhbmameaaDoorW.PrintWords Go.Proofs.YtfkdocmhbmameaaDoorW.PrintLast Go.Proofs.YtfkdocmhbmameaaDoorW.PrintMore
attribute [local go_sem] max2_int min2_int max_two min_two max_three min_three max_four min_four
set_option linter.unusedVariables false
set_option linter.unusedSimpArgs false
mutual
def nuncioref11_Find.l0 : Nat → ByteArray → ByteArray → List (S88) → Int → Option (Int × Bool)
 | 0, _, _, _, _ => none
 | k + 1, x1, x2, x8, x9 => if x9 < (x8.length : Int) then (if 0 ≤ x9 then (if ((rd_T88 x8 x9).f0).toList = x1.toList then (if ((rd_T88 x8 x9).f1).toList = x2.toList then (some (wrap64 (x9 + 1), true)) else (nuncioref11_Find.l0 k x1 x2 x8 (wrap64 (x9 + 1)))) else (nuncioref11_Find.l0 k x1 x2 x8 (wrap64 (x9 + 1)))) else (none)) else (nuncioref11_Find.l1 k x1 x8 0)
def nuncioref11_Find.l1 : Nat → ByteArray → List (S88) → Int → Option (Int × Bool)
 | 0, _, _, _ => none
 | k + 1, x1, x8, x10 => if x10 < (x8.length : Int) then (if 0 ≤ x10 then (if ((rd_T88 x8 x10).f0).toList = x1.toList then (some (wrap64 (x10 + 1), false)) else (nuncioref11_Find.l1 k x1 x8 (wrap64 (x10 + 1)))) else (none)) else (some (0, false))
end
def nuncioref11_Find.f (k : Nat) (a0_0 : Int) (l0_1 : List (S88)) (a1 : ByteArray) (a2 : ByteArray) : Option (Int × Bool) := (nuncioref11_All.f k a0_0 l0_1).bind fun t273 => (nuncioref11_Find.l0 k a1 a2 t273 0)
def nuncioref10_Length.f (a0 : Int) : Option (Int) := if 0 ≤ a0 then (if a0 < 257 then (some (wrap64 ((wrap64 (bt (⟨#[105, 115, 120, 120, 120, 120, 120, 120, 120, 116, 122, 120, 120, 122, 120, 120, 120, 120, 120, 120, 120, 120, 122, 120, 120, 120, 120, 120, 120, 120, 120, 120, 98, 102, 102, 104, 105, 98, 100, 103, 102, 102, 100, 103, 100, 98, 98, 98, 97, 97, 97, 98, 98, 98, 98, 98, 98, 98, 99, 100, 107, 98, 104, 102, 105, 98, 99, 99, 99, 99, 99, 99, 99, 99, 99, 99, 99, 99, 99, 99, 99, 99, 99, 99, 99, 99, 99, 99, 100, 99, 100, 105, 111, 105, 106, 98, 107, 97, 98, 97, 98, 97, 98, 98, 98, 97, 99, 99, 98, 98, 98, 97, 98, 99, 98, 97, 97, 98, 99, 99, 99, 99, 99, 107, 103, 106, 105, 120, 112, 114, 112, 112, 114, 114, 114, 115, 114, 115, 115, 115, 115, 115, 116, 115, 116, 116, 114, 115, 116, 115, 115, 115, 115, 113, 114, 115, 114, 115, 115, 116, 114, 113, 112, 114, 114, 115, 115, 113, 115, 114, 114, 116, 113, 114, 115, 115, 113, 113, 114, 113, 115, 114, 115, 115, 112, 114, 114, 114, 115, 114, 114, 115, 118, 118, 112, 111, 114, 115, 114, 117, 118, 118, 118, 119, 119, 118, 116, 117, 111, 113, 118, 119, 119, 118, 119, 116, 113, 113, 118, 118, 120, 119, 119, 119, 112, 116, 112, 113, 114, 113, 113, 115, 114, 114, 117, 117, 116, 116, 118, 115, 118, 119, 118, 118, 119, 119, 119, 119, 119, 120, 119, 119, 119, 119, 119, 118, 122]⟩ : ByteArray) a0)) - 92))) else (none)) else (none)
end Go.Proofs.YtfkdocmhbmameaaDoor.Mine
namespace Go.Proofs.YtfkdocmhbmameaaDoor.Mine
open Go.RowKit Go.Proofs.YtfkdocmhbmameaaDoorW.PrintWords Go.Proofs.YtfkdocmhbmameaaDoorW.PrintLast Go.Proofs.YtfkdocmhbmameaaDoorW.PrintMore
attribute [local go_sem] max2_int min2_int max_two min_two max_three min_three max_four min_four
set_option linter.unusedVariables false
set_option linter.unusedSimpArgs false
mutual
def nuncioref10_Codes.l0 : Nat → List Int → Int → Int → Bool → Int → Option (List Int)
 | 0, _, _, _, _, _ => none
 | k + 1, x1, x2, x3, x4, x5 => if x5 ≤ 30 then (nuncioref10_Codes.l1 k x1 x2 x3 x4 x5 0) else (some x1)
def nuncioref10_Codes.l1 : Nat → List Int → Int → Int → Bool → Int → Int → Option (List Int)
 | 0, _, _, _, _, _, _ => none
 | k + 1, x1, x2, x3, x4, x5, x6 => if x6 ≤ 256 then ((nuncioref10_Length.f x6).bind fun t282 => (if t282 = x5 then (if x4 = true then (nuncioref10_Codes.j2 k x1 x2 x3 x5 x6) else (nuncioref10_Codes.j2 k x1 (IntKind.u64.wrap (x2 + 1)) x3 x5 x6)) else (nuncioref10_Codes.l1 k x1 x2 x3 x4 x5 (wrap64 (x6 + 1))))) else (nuncioref10_Codes.l0 k x1 x2 x3 x4 (wrap64 (x5 + 1)))
def nuncioref10_Codes.j2 : Nat → List Int → Int → Int → Int → Int → Option (List Int)
 | 0, _, _, _, _, _ => none
 | k + 1, x1, x2, x3, x5, x6 => nuncioref10_Codes.l2 k x1 x2 x3 false x5 x6
def nuncioref10_Codes.l2 : Nat → List Int → Int → Int → Bool → Int → Int → Option (List Int)
 | 0, _, _, _, _, _, _ => none
 | k + 1, x1, x2, x3, x4, x5, x6 => if x3 < x5 then (nuncioref10_Codes.l2 k x1 (IntKind.u64.wrap (x2 * 2)) (wrap64 (x3 + 1)) x4 x5 x6) else (if 0 ≤ x6 then (if x6 < (x1.length : Int) then (nuncioref10_Codes.l1 k (x1.set (x6 : Int).toNat x2) x2 x3 x4 x5 (wrap64 (x6 + 1))) else (none)) else (none))
end
def nuncioref10_Codes.f (k : Nat)  : Option (List Int) := if 257 ≤ 35184372088832 then (nuncioref10_Codes.l0 k (List.replicate 257 0) 0 5 true 5) else (none)
theorem nuncioref10_Codes.mono_l : ∀ k, (∀ y0 y1 y2 y3 y4, LeO (nuncioref10_Codes.l0 k y0 y1 y2 y3 y4) (nuncioref10_Codes.l0 (k + 1) y0 y1 y2 y3 y4)) ∧ (∀ y0 y1 y2 y3 y4 y5, LeO (nuncioref10_Codes.l1 k y0 y1 y2 y3 y4 y5) (nuncioref10_Codes.l1 (k + 1) y0 y1 y2 y3 y4 y5)) ∧ (∀ y0 y1 y2 y3 y4, LeO (nuncioref10_Codes.j2 k y0 y1 y2 y3 y4) (nuncioref10_Codes.j2 (k + 1) y0 y1 y2 y3 y4)) ∧ (∀ y0 y1 y2 y3 y4 y5, LeO (nuncioref10_Codes.l2 k y0 y1 y2 y3 y4 y5) (nuncioref10_Codes.l2 (k + 1) y0 y1 y2 y3 y4 y5))
 | 0 => ⟨fun _ _ _ _ _ r h => by simp [nuncioref10_Codes.l0] at h, fun _ _ _ _ _ _ r h => by simp [nuncioref10_Codes.l1] at h, fun _ _ _ _ _ r h => by simp [nuncioref10_Codes.j2] at h, fun _ _ _ _ _ _ r h => by simp [nuncioref10_Codes.l2] at h⟩
 | k + 1 => by
  obtain ⟨ih0, ih1, ih2, ih3⟩ := nuncioref10_Codes.mono_l k
  refine ⟨?_, ?_, ?_, ?_⟩
  ·
   intro y0 y1 y2 y3 y4
   unfold nuncioref10_Codes.l0
   repeat' first
   | (with_reducible exact ih0 _ _ _ _ _)
   | (with_reducible exact ih1 _ _ _ _ _ _)
   | (with_reducible exact ih2 _ _ _ _ _)
   | (with_reducible exact ih3 _ _ _ _ _ _)
   | (with_reducible exact LeO.refl _)
   | (with_reducible exact LeO.none _)
   | (with_reducible refine LeO.ite ?_ ?_)
   | (with_reducible refine LeO.bind ?_ (fun _ => ?_))
   | exact ih0 _ _ _ _ _
   | exact ih1 _ _ _ _ _ _
   | exact ih2 _ _ _ _ _
   | exact ih3 _ _ _ _ _ _
   | exact LeO.none _
   | refine LeO.ite ?_ ?_
   | refine LeO.bind ?_ (fun _ => ?_)
  ·
   intro y0 y1 y2 y3 y4 y5
   unfold nuncioref10_Codes.l1
   repeat' first
   | (with_reducible exact ih0 _ _ _ _ _)
   | (with_reducible exact ih1 _ _ _ _ _ _)
   | (with_reducible exact ih2 _ _ _ _ _)
   | (with_reducible exact ih3 _ _ _ _ _ _)
   | (with_reducible exact LeO.refl _)
   | (with_reducible exact LeO.none _)
   | (with_reducible refine LeO.ite ?_ ?_)
   | (with_reducible refine LeO.bind ?_ (fun _ => ?_))
   | exact ih0 _ _ _ _ _
   | exact ih1 _ _ _ _ _ _
   | exact ih2 _ _ _ _ _
   | exact ih3 _ _ _ _ _ _
   | exact LeO.none _
   | refine LeO.ite ?_ ?_
   | refine LeO.bind ?_ (fun _ => ?_)
  ·
   intro y0 y1 y2 y3 y4
   unfold nuncioref10_Codes.j2
   repeat' first
   | (with_reducible exact ih0 _ _ _ _ _)
   | (with_reducible exact ih1 _ _ _ _ _ _)
   | (with_reducible exact ih2 _ _ _ _ _)
   | (with_reducible exact ih3 _ _ _ _ _ _)
   | (with_reducible exact LeO.refl _)
   | (with_reducible exact LeO.none _)
   | (with_reducible refine LeO.ite ?_ ?_)
   | (with_reducible refine LeO.bind ?_ (fun _ => ?_))
   | exact ih0 _ _ _ _ _
   | exact ih1 _ _ _ _ _ _
   | exact ih2 _ _ _ _ _
   | exact ih3 _ _ _ _ _ _
   | exact LeO.none _
   | refine LeO.ite ?_ ?_
   | refine LeO.bind ?_ (fun _ => ?_)
  ·
   intro y0 y1 y2 y3 y4 y5
   unfold nuncioref10_Codes.l2
   repeat' first
   | (with_reducible exact ih0 _ _ _ _ _)
   | (with_reducible exact ih1 _ _ _ _ _ _)
   | (with_reducible exact ih2 _ _ _ _ _)
   | (with_reducible exact ih3 _ _ _ _ _ _)
   | (with_reducible exact LeO.refl _)
   | (with_reducible exact LeO.none _)
   | (with_reducible refine LeO.ite ?_ ?_)
   | (with_reducible refine LeO.bind ?_ (fun _ => ?_))
   | exact ih0 _ _ _ _ _
   | exact ih1 _ _ _ _ _ _
   | exact ih2 _ _ _ _ _
   | exact ih3 _ _ _ _ _ _
   | exact LeO.none _
   | refine LeO.ite ?_ ?_
   | refine LeO.bind ?_ (fun _ => ?_)
theorem nuncioref10_Codes.mono : ∀ k, LeO (nuncioref10_Codes.f k ) (nuncioref10_Codes.f (k + 1) ) := by
 intro  k
 obtain ⟨ih0, ih1, ih2, ih3⟩ := nuncioref10_Codes.mono_l k
 unfold nuncioref10_Codes.f
 repeat' first
   | (with_reducible exact ih0 _ _ _ _ _)
   | (with_reducible exact ih1 _ _ _ _ _ _)
   | (with_reducible exact ih2 _ _ _ _ _)
   | (with_reducible exact ih3 _ _ _ _ _ _)
   | (with_reducible exact LeO.refl _)
   | (with_reducible exact LeO.none _)
   | (with_reducible refine LeO.ite ?_ ?_)
   | (with_reducible refine LeO.bind ?_ (fun _ => ?_))
   | exact ih0 _ _ _ _ _
   | exact ih1 _ _ _ _ _ _
   | exact ih2 _ _ _ _ _
   | exact ih3 _ _ _ _ _ _
   | exact LeO.none _
   | refine LeO.ite ?_ ?_
   | refine LeO.bind ?_ (fun _ => ?_)
end Go.Proofs.YtfkdocmhbmameaaDoor.Mine
namespace Go.Proofs.YtfkdocmhbmameaaDoor.Mine
open Go.RowKit Go.Proofs.YtfkdocmhbmameaaDoorW.PrintWords Go.Proofs.YtfkdocmhbmameaaDoorW.PrintLast Go.Proofs.YtfkdocmhbmameaaDoorW.PrintMore
attribute [local go_sem] max2_int min2_int max_two min_two max_three min_three max_four min_four
set_option linter.unusedVariables false
set_option linter.unusedSimpArgs false
mutual
def nuncioref10_Decode.l0 : Nat → ByteArray → List Int → List Int → Int → Int → Int → Option (ByteArray × Int)
 | 0, _, _, _, _, _, _ => none
 | k + 1, x0, x4, x5, x6, x7, x8 => if x8 < (wrap64 (8 * (x0.size : Int))) then (if 0 ≤ (wrap64 (Int.tdiv x8 8)) then (if (wrap64 (Int.tdiv x8 8)) < (x0.size : Int) then (nuncioref10_Decode.l1 k x0 x4 x5 x6 x7 x8 (bt x0 (wrap64 (Int.tdiv x8 8))) (Int.tmod x8 8)) else (none)) else (none)) else (if x7 > 7 then (some ((⟨#[]⟩ : ByteArray), 91)) else (nuncioref10_Decode.l3 k x5 x6 x7 0))
def nuncioref10_Decode.l1 : Nat → ByteArray → List Int → List Int → Int → Int → Int → Int → Int → Option (ByteArray × Int)
 | 0, _, _, _, _, _, _, _, _ => none
 | k + 1, x0, x4, x5, x6, x7, x8, x9, x10 => if x10 < 7 then (nuncioref10_Decode.l1 k x0 x4 x5 x6 x7 x8 ((Int.tdiv x9 2) % 256) (wrap64 (x10 + 1))) else (if (wrap64 (x7 + 1)) > 30 then (some ((⟨#[]⟩ : ByteArray), 91)) else (nuncioref10_Decode.l2 k x0 x4 x5 (IntKind.u64.wrap ((IntKind.u64.wrap (x6 * 2)) + (IntKind.u64.wrap (Int.tmod x9 2)))) (wrap64 (x7 + 1)) x8 0))
def nuncioref10_Decode.l2 : Nat → ByteArray → List Int → List Int → Int → Int → Int → Int → Option (ByteArray × Int)
 | 0, _, _, _, _, _, _, _ => none
 | k + 1, x0, x4, x5, x6, x7, x8, x11 => if x11 ≤ 256 then ((nuncioref10_Length.f x11).bind fun t427 => (if t427 = x7 then (if 0 ≤ x11 then (if x11 < (x4.length : Int) then (nuncioref10_Decode.j3 k x0 x4 x5 x6 x7 x8 x11 ((rd x4 x11) == x6)) else (none)) else (none)) else (nuncioref10_Decode.j3 k x0 x4 x5 x6 x7 x8 x11 false))) else (nuncioref10_Decode.l0 k x0 x4 x5 x6 x7 (wrap64 (x8 + 1)))
def nuncioref10_Decode.j3 : Nat → ByteArray → List Int → List Int → Int → Int → Int → Int → Bool → Option (ByteArray × Int)
 | 0, _, _, _, _, _, _, _, _ => none
 | k + 1, x0, x4, x5, x6, x7, x8, x11, x58 => if x58 = true then (if x11 = 256 then (some ((⟨#[]⟩ : ByteArray), 91)) else (if x5.length < 140737488355328 then (nuncioref10_Decode.l0 k x0 x4 (x5 ++ [(x11) % 256]) 0 0 (wrap64 (x8 + 1))) else (none))) else (nuncioref10_Decode.l2 k x0 x4 x5 x6 x7 x8 (wrap64 (x11 + 1)))
def nuncioref10_Decode.l3 : Nat → List Int → Int → Int → Int → Option (ByteArray × Int)
 | 0, _, _, _, _ => none
 | k + 1, x5, x6, x7, x12 => if x12 < x7 then (if (Int.tmod x6 2) = 0 then (some ((⟨#[]⟩ : ByteArray), 91)) else (nuncioref10_Decode.l3 k x5 (IntKind.u64.wrap (Int.tdiv x6 2)) x7 (wrap64 (x12 + 1)))) else (some (strOfNums x5, 0))
end
def nuncioref10_Decode.f (k : Nat) (a0 : ByteArray) : Option (ByteArray × Int) := (nuncioref10_Codes.f k).bind fun t424 => (nuncioref10_Decode.l0 k a0 t424 ([] : List Int) 0 0 0)
end Go.Proofs.YtfkdocmhbmameaaDoor.Mine
namespace Go.Proofs.YtfkdocmhbmameaaDoor.Mine
open Go.RowKit Go.Proofs.YtfkdocmhbmameaaDoorW.PrintWords Go.Proofs.YtfkdocmhbmameaaDoorW.PrintLast Go.Proofs.YtfkdocmhbmameaaDoorW.PrintMore
attribute [local go_sem] max2_int min2_int max_two min_two max_three min_three max_four min_four
set_option linter.unusedVariables false
set_option linter.unusedSimpArgs false
def nuncioref11_Add.f (k : Nat) (a0_0 : Int) (l0_1 : List (S88)) (a1 : ByteArray) (a2 : ByteArray) : Option (Int × (List (S88))) := (some (([(⟨a1, a2⟩ : S88)] : List (S88)) : List (S88))).bind fun y309 => (if y309.length + l0_1.length < 4398046511104 then ((nuncioref11_least.f k (y309 ++ l0_1) a0_0).bind fun t315 => (some (a0_0, t315))) else (none))
end Go.Proofs.YtfkdocmhbmameaaDoor.Mine
