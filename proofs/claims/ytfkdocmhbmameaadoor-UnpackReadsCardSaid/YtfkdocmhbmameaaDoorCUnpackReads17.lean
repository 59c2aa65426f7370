/- The walks and the plain laws that the row comes to: merged out of this repo's texts. -/
import Derived.Test.YtfkdocmhbmameaaDoorProg
import Derived.Below
import Derived.Deep.Draws
import Derived.Deep.AppendLies
import Derived.Maps.AppendAt
import Derived.OwnWalk
import Derived.Laws.BytesArg
import Derived.Laws.MakeOwn
import Derived.Laws.OwnMore
import Derived.Deep.OwnRows
import Derived.Tactics
import Derived.Lib.ConvBytes
import Derived.Laws.Slices
import Derived.WalkKit
import Derived.KernelRfl
import Derived.RowKit3
import Derived.Deep.LoopGhost
import Derived.Deep.QuietTactic
import Derived.BigQuiet
import Derived.WideLaws
import Derived.Deep.DeepCutAuto
import Derived.Deep.CutBlock
import Derived.Deep.RegionHeld3
import Derived.Laws.Rows
import Derived.Lib.AppendStr
import Derived.ArgAppend
import Derived.Laws.IdiomCopy
import Derived.RowKit
import Derived.OrdersHeld
import Derived.Laws.BitsLemmas
import Derived.Laws.StructEq
import Derived.Laws.CopyOwn
import Derived.SizedLaws
import Derived.ChangeSlices
import Derived.Deep.Slices
import Derived.Lib.SmallJoins
import Derived.Lib.OthersKept
import Derived.Lib.AppendZerosOnto
import Derived.WalkSpells
import Derived.Shelf.Utf8.RuneCount
import Derived.Shelf.Strings.Search1
import Derived.Shelf.Strings.Search2
import Derived.Shelf.Strings.Search3
import Derived.Shelf.Strings.Cut
import Derived.Shelf.Strings.Count
import Derived.Shelf.LaysM
import Derived.Shelf.Strings.Shaped
import Derived.Shelf.Strings.Split
import Derived.Shelf.Strings.SplitShaped
import Derived.Shelf.Unicode.Decode
import Derived.Shelf.Strings.RuneCount
import Derived.Shelf.Strings.Explode
import Derived.Shelf.Unicode.DecodeSlow
import Derived.Shelf.Unicode.DecodeAny
import Derived.Test.YtfkdocmhbmameaaDoorCUnpackReads1
import Derived.Test.YtfkdocmhbmameaaDoorCUnpackReads2
import Derived.Test.YtfkdocmhbmameaaDoorCUnpackReads3
import Derived.Test.YtfkdocmhbmameaaDoorCUnpackReads6
import Derived.Test.YtfkdocmhbmameaaDoorCUnpackReads7
import Derived.Test.YtfkdocmhbmameaaDoorCUnpackReads8
import Derived.Test.YtfkdocmhbmameaaDoorCUnpackReads9
import Derived.Test.YtfkdocmhbmameaaDoorCUnpackReads11
import Derived.Test.YtfkdocmhbmameaaDoorCUnpackReads12
import Derived.Test.YtfkdocmhbmameaaDoorCUnpackReads13
import Derived.Test.YtfkdocmhbmameaaDoorCUnpackReads14
import Derived.Test.YtfkdocmhbmameaaDoorCUnpackReads15
import Derived.Test.YtfkdocmhbmameaaDoorCUnpackReads16
namespace Go.Proofs.YtfkdocmhbmameaaDoor.Mine
open Go.RowKit Go.Proofs Go.Proofs.YtfkdocmhbmameaaDoorW.PrintWords Go.Proofs.YtfkdocmhbmameaaDoorW.PrintLast Go.Proofs.YtfkdocmhbmameaaDoorW.PrintMore
attribute [local go_sem] max2_int min2_int max_two min_two max_three min_three max_four min_four
set_option linter.unusedVariables false
set_option linter.unusedSimpArgs false
section
variable {W W1 : World} {g n c b : Nat} {m a e : Int} {A : Option Addr} {s : ByteArray} {ok : Nat → Prop} {v : Value}
theorem xr_rows {l : List S88} (h : Kd.R k88 88 W b ok v l) (hI : IsX W g m A n c s a e) (hk : KeepBut W W1 g none) : Kd.R k88 88 W1 b ok v l := Kd.R_mono (Kd.R_keep (Kd.R_types h hI (by decide)) hk (fun _ h => h.2)) (fun _ h => h.1)
theorem xr_rows2 {l : List S26} (h : Kd.R k26 26 W b ok v l) (hI : IsX W g m A n c s a e) (hk : KeepBut W W1 g none) : Kd.R k26 26 W1 b ok v l := Kd.R_mono (Kd.R_keep (Kd.R_types h hI (by decide)) hk (fun _ h => h.2)) (fun _ h => h.1)
theorem xr_set {l : List S88} (h : Kd.R k88 88 W b ok v l) (hI : IsX W g m A n c s a e) (j : Nat) (u : Value) : Kd.R k88 88 (W.setCell ⟨g, j, none⟩ u) b ok v l := Kd.R_mono (Kd.R_far (p := ⟨g, j, none⟩) (Kd.R_types h hI (by decide)) (fun _ h => h.2) u) (fun _ h => h.1)
theorem xr_set2 {l : List S26} (h : Kd.R k26 26 W b ok v l) (hI : IsX W g m A n c s a e) (j : Nat) (u : Value) : Kd.R k26 26 (W.setCell ⟨g, j, none⟩ u) b ok v l := Kd.R_mono (Kd.R_far (p := ⟨g, j, none⟩) (Kd.R_types h hI (by decide)) (fun _ h => h.2) u) (fun _ h => h.1)
end
theorem xr_grown {W W1 : World} {b b2 : Nat} {ok ok2 : Nat → Prop} {v v2 : Value} {l : List S88} {l2 : List S26} (h : Kd.R k88 88 W b ok v l) (ho : Kd.R k26 26 W b2 ok2 v2 l2) (hg : W.grownBy W1 v2.ownBlock) : Kd.R k88 88 W1 b ok v l := by
  refine Kd.R_mono (Kd.R_step (Kd.R_bound h) (fun k hk hlt => hg.block k hlt (fun e_ => ?_))) (fun _ h => h.1)
  obtain ⟨_, _, _, q, hq, cs, hc⟩ := hk
  obtain ⟨cs2, hc2⟩ := Kd.R_typed ho k e_.symm
  rw [hc] at hc2
  have hq2 : q = 26 := by
    injection hc2 with hc2
    injection hc2
  exact absurd hq2 ((by decide : ∀ q, q ∈ 88 :: k88.E → q ≠ 26) q hq)
theorem xr_new {W : World} {b base n : Nat} {v : Value} {l : List S88} {P : Nat → Prop} (h : Kd.R k88 88 W b (fun _ => True) v l) (hb : n ≤ b) (hb2 : base ≤ n) : Kd.R k88 88 W base (fun k_ => P k_ ∨ n ≤ k_) v l := Kd.R_lower (Kd.R_mono (Kd.R_bound h) (fun k hk => .inr (Nat.le_trans hb hk.2.1))) (Nat.le_trans hb2 hb)
theorem xr_infoF : (Tryd.prog.info? 26).map (fun i => (i.zero, i.size, i.bytes)) = some (some (.agg #[.string ⟨#[]⟩, .string ⟨#[]⟩, .bool false]), k26.sz, 40) := by kernel_rfl
def rfRound (k : Nat) (m : Int) (l : List S88) (s : ByteArray) (a : Int) (out : List S26) : Option (Int × List S88 × Int × Int × List S26) :=
  if 0 ≤ a then
    (if 32 ≤ bt s a ∧ bt s a ≤ 63 then ((rfNum k s a 0 5).bind fun p => if p.2.2 = 0 then (if 0 < out.length ∨ p.1 > 4096 then some (m, l, p.2.1, 93, out) else ((nuncioref11_Resize.f k m l p.1).bind fun q => some (q.1, q.2, p.2.1, 0, out))) else some (m, l, p.2.1, p.2.2, out))
    else if out.length = 64 then some (m, l, a, 94, out)
    else if bt s a ≥ 128 then ((rfNum k s a 0 7).bind fun p => (rfEnt k m l p.2.2 p.1).bind fun q => some (m, l, p.2.1, q.2.2, out ++ [⟨q.1, q.2.1, false⟩]))
    else if bt s a ≥ 64 then ((rfLit k m l s a 0 6).bind fun p => if p.2.2.2 = 0 then ((nuncioref11_Add.f k m l p.1 p.2.1).bind fun q => some (q.1, q.2, p.2.2.1, 0, out ++ [⟨p.1, p.2.1, false⟩])) else some (m, l, p.2.2.1, p.2.2.2, out ++ [⟨p.1, p.2.1, false⟩]))
    else ((rfLit k m l s a 0 4).bind fun p => some (m, l, p.2.2.1, p.2.2.2, out ++ [⟨p.1, p.2.1, decide (bt s a ≥ 16)⟩]))) else none
def rfLoop (k : Nat) : Nat → Int → List S88 → ByteArray → Int → Int → List S26 → Option (Int × List S88 × Int × List S26)
  | 0, _, _, _, _, _, _ => none
  | r + 1, m, l, s, a, e, out => if e = 0 ∧ a < (s.size : Int) then ((rfRound k m l s a out).bind fun q => rfLoop k r q.1 q.2.1 s q.2.2.1 q.2.2.2.1 q.2.2.2.2) else some (m, l, e, out)
def nuncioref12_Read.f (k : Nat) (m : Int) (l : List S88) (down : Bool) (s : ByteArray) : Option (Int × List S88 × Bool × List S26 × Int) :=
  if down = true then some (m, l, true, [], 8) else (rfLoop k k m l s 0 0 []).bind fun q => if q.2.2.1 = 0 then some (q.1, q.2.1, false, q.2.2.2, 0) else some (q.1, q.2.1, true, [], q.2.2.1)
set_option maxHeartbeats 8000000 in
set_option maxRecDepth 100000 in
theorem rf_read (P0 : Nat → Prop) (k : Nat) (m : Int) (A : Option Addr) (c : Nat) (l : List S88) (down : Bool) (s : ByteArray) (r1 : Int) (r2 : List S88) (r3 : Bool) (r4 : List S26) (r5 : Int) (base : Nat) (w : World) (hbase : base ≤ w.heap.size) (hl : Kd.R k88 88 w base P0 (.slice A l.length c) l) (h : nuncioref12_Read.f k m l down s = some (r1, r2, r3, r4, r5)) :
    Calls Tryd.prog 26 #[.agg #[.int .i64 m, .slice A l.length c, .bool down], .string s] w fun en w' => ∃ u v : Value, en = .returned (.tuple #[.agg #[.int .i64 r1, u, .bool r3], v, .int .i64 r5]) ∧ Kd.R k88 88 w' base (fun k_ => P0 k_ ∨ w.heap.size ≤ k_) u r2 ∧ Kd.R k26 26 w' w.heap.size (fun _ => True) v r4 ∧ Below w.heap.size w w' := by
  have HLw := Aside0.mk (show Kd.R k88 88 w base (fun k_ => P0 k_ ∨ w.heap.size ≤ k_) (.slice A l.length c) l from Kd.R_mono hl (fun _ h => .inl h))
  have HBs := Aside0.mk hbase
  have hu1_ := Tryd.underlying56
  have hu2_ := Tryd.underlying98
  have hu3_ := Tryd.underlying37
  have hu4_ := Tryd.underlying88
  have hu5_ := Tryd.underlying26
  unfold nuncioref12_Read.f at h
  clear hl hbase
  cases down with
  | true =>
    rw [if_pos rfl] at h
    simp only [Option.some.injEq, Prod.mk.injEq] at h
    obtain ⟨rfl, rfl, rfl, rfl, rfl⟩ := h
    go_enter Tryd.func26, Tryd.ntmps26
    go_wp2_with (first | ((with_reducible refine gate_dst (N := 2) rfl ?_); refine box_event ?hg (N := 2) ?hd (cs := #[.int .i64 m, .slice A l.length c, .bool true]) (t := 56) ?hr ?_; (case hd => rfl); (case hg => rfl); (case hr => first | (go_simp; done) | (go_simp; rfl)); intro g2 hg_ w2 hbox hb; have W2 := Aside0.mk (show w.heap.size ≤ g2 by omega); have B2 := Aside0.mk hbox; have HB2 := Aside0.mk hb; clear hb hbox hg_) | ((with_reducible refine gate_dst (N := 4) rfl ?_); refine box_event ?hg (N := 4) ?hd (cs := #[.int .i64 0, .slice none 0 0, .bool false]) (t := 56) ?hr ?_; (case hd => rfl); (case hg => rfl); (case hr => first | (go_simp; done) | (go_simp; rfl)); intro g4 hg_ w4 hbox hb; have W4 := Aside0.mk (show w.heap.size ≤ g4 by have := HB2.out.size; omega); have G42 := Aside0.mk (show g4 ≠ g2 by have := blk_lt B2.out; omega); have B4 := Aside0.mk hbox; have B24 := Aside0.mk (blk_below B2.out hb); have HB4 := Aside0.mk (below_step HB2.out hb); have x0 := (blk_cell B24.out 0).trans (rfl : _ = some (Value.int .i64 m)); have x1 := (blk_cell B24.out 1).trans (rfl : _ = some (Value.slice A l.length c)); have x2 := (blk_cell B24.out 2).trans (rfl : _ = some (Value.bool true)); have y0 := (blk_cell B4.out 0).trans (rfl : _ = some (Value.int .i64 0)); have y1 := (blk_cell B4.out 1).trans (rfl : _ = some (Value.slice none 0 0)); have y2 := (blk_cell B4.out 2).trans (rfl : _ = some (Value.bool false)); have f0 := blk_frozen B4.out 0; have f1 := blk_frozen B4.out 1; have f2 := blk_frozen B4.out 2; clear hb hbox hg_))
    have Z := blk_put (blk_put (blk_put B4.out 0 (.int .i64 m) rfl) 1 (.slice A l.length c) rfl) 2 (.bool true) rfl
    refine bodyPost_ret (results_ctt rfl _ _ g4 56 #[.int .i64 m, .slice A l.length c, .bool true] (0, 0) _ rfl Z Tryd.underlying56 rfl (by kernel_rfl)) rfl ?_
    have X1 := below_set (g := g4) (j := 2) (v := .bool true) (below_set (g := g4) (j := 1) (v := .slice A l.length c) (below_set (g := g4) (j := 0) (v := .int .i64 m) HB4.out W4.out) W4.out) W4.out
    exact ⟨_, _, rfl, Kd.R_below HLw.out X1, Kd.R_nil _ _ _ _ _, X1⟩
  | false =>
    rw [if_neg (by decide)] at h
    obtain ⟨⟨mR, lR, eR, oR⟩, h1, h2⟩ := Option.bind_eq_some_iff.mp h
    simp only at h2
    have HA := Aside0.mk h1
    have HR := Aside0.mk h2
    clear h h1 h2
    go_enter Tryd.func26, Tryd.ntmps26
    go_wp2_with (first | ((with_reducible refine gate_dst (N := 2) rfl ?_); refine box_event ?hg (N := 2) ?hd (cs := #[.int .i64 m, .slice A l.length c, .bool false]) (t := 56) ?hr ?_; (case hd => rfl); (case hg => rfl); (case hr => first | (go_simp; done) | (go_simp; rfl)); intro g2 hg_ w2 hbox hb; have W2 := Aside0.mk (show w.heap.size ≤ g2 by omega); have B2 := Aside0.mk hbox; have HB2 := Aside0.mk hb; clear hb hbox hg_) | ((with_reducible refine gate_dst (N := 4) rfl ?_); refine box_event ?hg (N := 4) ?hd (cs := #[.int .i64 0, .slice none 0 0, .bool false]) (t := 56) ?hr ?_; (case hd => rfl); (case hg => rfl); (case hr => first | (go_simp; done) | (go_simp; rfl)); intro g4 hg_ w4 hbox hb; have W4 := Aside0.mk (show w.heap.size ≤ g4 by have := HB2.out.size; omega); have G42 := Aside0.mk (show g4 ≠ g2 by have := blk_lt B2.out; omega); have B4 := Aside0.mk hbox; have B24 := Aside0.mk (blk_below B2.out hb); have HB4 := Aside0.mk (below_step HB2.out hb); have x0 := (blk_cell B24.out 0).trans (rfl : _ = some (Value.int .i64 m)); have x1 := (blk_cell B24.out 1).trans (rfl : _ = some (Value.slice A l.length c)); have x2 := (blk_cell B24.out 2).trans (rfl : _ = some (Value.bool false)); have y0 := (blk_cell B4.out 0).trans (rfl : _ = some (Value.int .i64 0)); have y1 := (blk_cell B4.out 1).trans (rfl : _ = some (Value.slice none 0 0)); have y2 := (blk_cell B4.out 2).trans (rfl : _ = some (Value.bool false)); have f0 := blk_frozen B4.out 0; have f1 := blk_frozen B4.out 1; have f2 := blk_frozen B4.out 2; clear hb hbox hg_) | ((with_reducible refine gate_dst (N := 20) rfl ?_); refine box_event ?hg (N := 20) ?hd (cs := #[.int .i64 m, .slice A l.length c, .string s, .int .i64 0, .int .i64 0]) (t := 98) ?hr ?_; (case hd => rfl); (case hg => rfl); (case hr => first | (go_simp; done) | (go_simp; rfl)); intro g hg_ w5 hbox hb; have WG := Aside0.mk (show w.heap.size ≤ g by have := HB4.out.size; omega); have N2 := Aside0.mk (show g2 ≠ g by have := blk_lt B24.out; omega); have N4 := Aside0.mk (show g4 ≠ g by have := blk_lt B4.out; omega); have HI0 := Aside0.mk (show IsX w5 g m A l.length c s 0 0 from hbox); have HB0 := Aside0.mk (below_step HB4.out hb); have HL0 := Aside0.mk (Kd.R_below HLw.out HB0.out); have B20 := Aside0.mk (blk_below B24.out hb); have B40 := Aside0.mk (blk_below B4.out hb); clear x0 x1 x2 y0 y1 y2 f0 f1 f2 HB2 HB4 B2 B4 B24; clear hb hbox hg_))
    have HB := HB0
    have HL := HL0
    have HI := HI0
    have B2 := B20
    have B4 := B40
    clear HB0 HL0 HI0 B20 B40
    go_loopg [8] k (fun kq v8 wr => ∃ (m' : Int) (l' : List S88) (A' : Option Addr) (c' : Nat) (a' e' : Int) (out : List S26), Aside0 (rfLoop k kq m' l' s a' e' out = some (mR, lR, eR, oR)) ∧ Aside0 (IsX wr g m' A' l'.length c' s a' e') ∧ Aside0 (Kd.R k88 88 wr base (fun k_ => P0 k_ ∨ w.heap.size ≤ k_) (.slice A' l'.length c') l') ∧ Aside0 (Kd.R k26 26 wr w.heap.size (fun _ => True) v8 out) ∧ Aside0 (wr.heap[g2]? = some (.cells #[.int .i64 m, .slice A l.length c, .bool false] 56 (0, 0))) ∧ Aside0 (wr.heap[g4]? = some (.cells #[.int .i64 0, .slice none 0 0, .bool false] 56 (0, 0))) ∧ Aside0 (Below w.heap.size w wr) ∧ Aside0 (out.length ≤ 64))
    case atStart => exact ⟨m, l, A, c, 0, 0, [], HA, HI, HL, ⟨Kd.R_nil _ _ _ _ _⟩, B2, B4, HB, ⟨Nat.zero_le _⟩⟩
    case round =>
      clear HA HB HL HI B2 B4
      obtain ⟨m', l', A', c', a', e', out, HA, HI, HL, HO, B2, B4, HB, HN⟩ := hrel
      obtain ⟨A3_, k3_, e3_⟩ := Kd.R_slice HO.out
      subst e3_
      have c3 := HI.out.c3
      have c4 := HI.out.c4
      cases gk with
      | zero => exact absurd HA.out (by simp [rfLoop])
      | succ q =>
        have hA := HA.out
        unfold rfLoop at hA
        by_cases hc : e' = 0 ∧ a' < (s.size : Int)
        · rw [if_pos hc] at hA
          obtain ⟨rfl, ha⟩ := hc
          obtain ⟨⟨m2, l2, a2, e2, out2⟩, h1, h2⟩ := Option.bind_eq_some_iff.mp hA
          simp only at h2
          have A2 := Aside0.mk h2
          have q1 : decide (a' < (s.size : Int)) = true := decide_eq_true ha
          have q7 := eq_true ha
          unfold rfRound at h1
          clear HA hA h2 ha
          by_cases h0 : 0 ≤ a'
          · rw [if_pos h0] at h1
            have p7 := eq_true h0
            have hx7 := bt_at s a'
            clear h0
            by_cases hz : 32 ≤ bt s a' ∧ bt s a' ≤ 63
            · rw [if_pos hz] at h1
              have q2 : decide (32 ≤ bt s a') = true := decide_eq_true hz.1
              have q3 : decide (bt s a' ≤ 63) = true := decide_eq_true hz.2
              obtain ⟨⟨n, a1, e1⟩, h3, h4⟩ := Option.bind_eq_some_iff.mp h1
              simp only at h4
              have A3 := Aside0.mk h3
              have A4 := Aside0.mk h4
              clear h1 h3 h4 hz
              have c2 := HI.out.c2
              by_cases he : e1 = 0
              · subst he
                have h4 := A4.out
                rw [if_pos rfl] at h4
                by_cases hv : 0 < out.length ∨ n > 4096
                · rw [if_pos hv] at h4
                  simp only [Option.some.injEq, Prod.mk.injEq] at h4
                  obtain ⟨rfl, rfl, rfl, rfl, rfl⟩ := h4
                  clear A4
                  have h9 : (decide (0 < out.length) || decide (4096 < n)) = true := by rw [Bool.or_eq_true]; simpa only [decide_eq_true_eq] using hv
                  by_cases hv1 : 0 < out.length
                  · have q8 : decide (0 < out.length) = true := decide_eq_true hv1
                    have q9 : decide ((0 : Int) < (out.length : Int)) = true := decide_eq_true (by omega)
                    clear hv hv1 h9
                    go_wp2_with (first | (go_at_call 48; (with_reducible refine (rf_number k g m' A' l'.length c' s a' 0 5 (n, a1, 0) w _ HI.out WG.out HB.out A3.out).mono ?_); rintro en w3 ⟨rfl, hi, hb, hk⟩; have HI3 := Aside0.mk hi; have HB3 := Aside0.mk hb; have HL3 := Aside0.mk (xr_rows HL.out HI.out hk); have HO3 := Aside0.mk (xr_rows2 HO.out HI.out hk); have B23 := Aside0.mk ((hk.2 g2 (blk_lt B2.out) N2.out (by simp)).trans B2.out); have B43 := Aside0.mk ((hk.2 g4 (blk_lt B4.out) N4.out (by simp)).trans B4.out); clear hi hb hk; have d4 := HI3.out.c4; have f4 := blk_frozen HI3.out 4))
                    repeat (go_quiet (fail); try go_wp2_with (first | (go_at_call 48; (with_reducible refine (rf_number k g m' A' l'.length c' s a' 0 5 (n, a1, 0) w _ HI.out WG.out HB.out A3.out).mono ?_); rintro en w3 ⟨rfl, hi, hb, hk⟩; have HI3 := Aside0.mk hi; have HB3 := Aside0.mk hb; have HL3 := Aside0.mk (xr_rows HL.out HI.out hk); have HO3 := Aside0.mk (xr_rows2 HO.out HI.out hk); have B23 := Aside0.mk ((hk.2 g2 (blk_lt B2.out) N2.out (by simp)).trans B2.out); have B43 := Aside0.mk ((hk.2 g4 (blk_lt B4.out) N4.out (by simp)).trans B4.out); clear hi hb hk; have d4 := HI3.out.c4; have f4 := blk_frozen HI3.out 4)))
                    go_roundg q
                    case measure => omega
                    case rel => exact ⟨m', l', A', c', a1, 93, out, A2, ⟨HI3.out.set4 93⟩, ⟨xr_set HL3.out HI3.out 4 _⟩, ⟨xr_set2 HO3.out HI3.out 4 _⟩, ⟨blk_far (p := ⟨g, 4, none⟩) B23.out N2.out _⟩, ⟨blk_far (p := ⟨g, 4, none⟩) B43.out N4.out _⟩, ⟨below_set HB3.out WG.out⟩, HN⟩
                  · have q8 : decide (0 < out.length) = false := decide_eq_false hv1
                    have q9 : decide ((0 : Int) < (out.length : Int)) = false := decide_eq_false (by omega)
                    have q10 : decide (4096 < n) = true := decide_eq_true (by omega)
                    clear hv hv1 h9
                    go_wp2_with (first | (go_at_call 48; (with_reducible refine (rf_number k g m' A' l'.length c' s a' 0 5 (n, a1, 0) w _ HI.out WG.out HB.out A3.out).mono ?_); rintro en w3 ⟨rfl, hi, hb, hk⟩; have HI3 := Aside0.mk hi; have HB3 := Aside0.mk hb; have HL3 := Aside0.mk (xr_rows HL.out HI.out hk); have HO3 := Aside0.mk (xr_rows2 HO.out HI.out hk); have B23 := Aside0.mk ((hk.2 g2 (blk_lt B2.out) N2.out (by simp)).trans B2.out); have B43 := Aside0.mk ((hk.2 g4 (blk_lt B4.out) N4.out (by simp)).trans B4.out); clear hi hb hk; have d4 := HI3.out.c4; have f4 := blk_frozen HI3.out 4))
                    repeat (go_quiet (fail); try go_wp2_with (first | (go_at_call 48; (with_reducible refine (rf_number k g m' A' l'.length c' s a' 0 5 (n, a1, 0) w _ HI.out WG.out HB.out A3.out).mono ?_); rintro en w3 ⟨rfl, hi, hb, hk⟩; have HI3 := Aside0.mk hi; have HB3 := Aside0.mk hb; have HL3 := Aside0.mk (xr_rows HL.out HI.out hk); have HO3 := Aside0.mk (xr_rows2 HO.out HI.out hk); have B23 := Aside0.mk ((hk.2 g2 (blk_lt B2.out) N2.out (by simp)).trans B2.out); have B43 := Aside0.mk ((hk.2 g4 (blk_lt B4.out) N4.out (by simp)).trans B4.out); clear hi hb hk; have d4 := HI3.out.c4; have f4 := blk_frozen HI3.out 4)))
                    go_roundg q
                    case measure => omega
                    case rel => exact ⟨m', l', A', c', a1, 93, out, A2, ⟨HI3.out.set4 93⟩, ⟨xr_set HL3.out HI3.out 4 _⟩, ⟨xr_set2 HO3.out HI3.out 4 _⟩, ⟨blk_far (p := ⟨g, 4, none⟩) B23.out N2.out _⟩, ⟨blk_far (p := ⟨g, 4, none⟩) B43.out N4.out _⟩, ⟨below_set HB3.out WG.out⟩, HN⟩
                · rw [if_neg hv] at h4
                  obtain ⟨⟨m9, l9⟩, h5, h6⟩ := Option.bind_eq_some_iff.mp h4
                  simp only [Option.some.injEq, Prod.mk.injEq] at h6
                  obtain ⟨rfl, rfl, rfl, rfl, rfl⟩ := h6
                  have A6 := Aside0.mk h5
                  have q8 : decide (0 < out.length) = false := decide_eq_false (by omega)
                  have q9 : decide ((0 : Int) < (out.length : Int)) = false := decide_eq_false (by omega)
                  have q10 : decide (4096 < n) = false := decide_eq_false (by omega)
                  clear A4 h4 h5 hv
                  go_upto_region 12 with (first | (go_at_call 48; (with_reducible refine (rf_number k g m' A' l'.length c' s a' 0 5 (n, a1, 0) w _ HI.out WG.out HB.out A3.out).mono ?_); rintro en w3 ⟨rfl, hi, hb, hk⟩; have HI3 := Aside0.mk hi; have HB3 := Aside0.mk hb; have HL3 := Aside0.mk (xr_rows HL.out HI.out hk); have HO3 := Aside0.mk (xr_rows2 HO.out HI.out hk); have B23 := Aside0.mk ((hk.2 g2 (blk_lt B2.out) N2.out (by simp)).trans B2.out); have B43 := Aside0.mk ((hk.2 g4 (blk_lt B4.out) N4.out (by simp)).trans B4.out); clear hi hb hk; have d4 := HI3.out.c4; have f4 := blk_frozen HI3.out 4))
                  have d0 := HI3.out.c0
                  have d1 := HI3.out.c1
                  go_wp2_with (first | (go_at_call 40; (with_reducible refine (nuncioref11_Resize.calls k m' A' c' l' n m9 l9 _ (Kd.R_reads' HL3.out).2.2 (Kd.R_reads' HL3.out).2.1 A6.out).mono ?_); rintro en w4 ⟨v1, rfl, ho, hb⟩; obtain ⟨A9, c9, rfl⟩ := Kd.R_slice ho; have HI4 := Aside0.mk (HI3.out.below hb); have HB4 := Aside0.mk (below_step HB3.out hb); have HL4 := Aside0.mk (xr_new (P := P0) ho HB3.out.size HBs.out); have HO4 := Aside0.mk (Kd.R_below HO3.out hb); have B24 := Aside0.mk (blk_below B23.out hb); have B44 := Aside0.mk (blk_below B43.out hb); clear ho hb c2 c3 c4 d0 d1 d4 f4; have d0 := HI4.out.c0; have d1 := HI4.out.c1; have f0 := blk_frozen HI4.out 0; have f1 := blk_frozen (HI4.out.set0 m9) 1))
                  have HI5 := Aside0.mk ((HI4.out.set0 m9).set1 A9 l9.length c9)
                  have HL5 := Aside0.mk (xr_set (xr_set HL4.out HI4.out 0 (.int .i64 m9)) (HI4.out.set0 m9) 1 (.slice A9 l9.length c9))
                  have HO5 := Aside0.mk (xr_set2 (xr_set2 HO4.out HI4.out 0 (.int .i64 m9)) (HI4.out.set0 m9) 1 (.slice A9 l9.length c9))
                  have B25 := Aside0.mk (blk_far (p := ⟨g, 1, none⟩) (blk_far (p := ⟨g, 0, none⟩) B24.out N2.out (.int .i64 m9)) N2.out (.slice A9 l9.length c9))
                  have B45 := Aside0.mk (blk_far (p := ⟨g, 1, none⟩) (blk_far (p := ⟨g, 0, none⟩) B44.out N4.out (.int .i64 m9)) N4.out (.slice A9 l9.length c9))
                  have HB5 := Aside0.mk (below_set (g := g) (j := 1) (v := .slice A9 l9.length c9) (below_set (g := g) (j := 0) (v := .int .i64 m9) HB4.out WG.out) WG.out)
                  go_roundg q
                  case measure => omega
                  case rel => exact ⟨_, _, A9, c9, a1, 0, out, A2, HI5, HL5, HO5, B25, B45, HB5, HN⟩
              · have h4 := A4.out
                rw [if_neg he] at h4
                simp only [Option.some.injEq, Prod.mk.injEq] at h4
                obtain ⟨rfl, rfl, rfl, rfl, rfl⟩ := h4
                have q8 : (e1 == 0) = false := beq_eq_false_iff_ne.mpr he
                clear A4 he
                go_wp2_with (first | (go_at_call 48; (with_reducible refine (rf_number k g m' A' l'.length c' s a' 0 5 (n, a1, e1) w _ HI.out WG.out HB.out A3.out).mono ?_); rintro en w3 ⟨rfl, hi, hb, hk⟩; have HI3 := Aside0.mk hi; have HB3 := Aside0.mk hb; have HL3 := Aside0.mk (xr_rows HL.out HI.out hk); have HO3 := Aside0.mk (xr_rows2 HO.out HI.out hk); have B23 := Aside0.mk ((hk.2 g2 (blk_lt B2.out) N2.out (by simp)).trans B2.out); have B43 := Aside0.mk ((hk.2 g4 (blk_lt B4.out) N4.out (by simp)).trans B4.out); clear hi hb hk; have d4 := HI3.out.c4; have f4 := blk_frozen HI3.out 4))
                repeat (go_quiet (fail); try go_wp2_with (first | (go_at_call 48; (with_reducible refine (rf_number k g m' A' l'.length c' s a' 0 5 (n, a1, e1) w _ HI.out WG.out HB.out A3.out).mono ?_); rintro en w3 ⟨rfl, hi, hb, hk⟩; have HI3 := Aside0.mk hi; have HB3 := Aside0.mk hb; have HL3 := Aside0.mk (xr_rows HL.out HI.out hk); have HO3 := Aside0.mk (xr_rows2 HO.out HI.out hk); have B23 := Aside0.mk ((hk.2 g2 (blk_lt B2.out) N2.out (by simp)).trans B2.out); have B43 := Aside0.mk ((hk.2 g4 (blk_lt B4.out) N4.out (by simp)).trans B4.out); clear hi hb hk; have d4 := HI3.out.c4; have f4 := blk_frozen HI3.out 4)))
                go_roundg q
                case measure => omega
                case rel => exact ⟨m', l', A', c', a1, e1, out, A2, HI3, HL3, HO3, B23, B43, HB3, HN⟩
            · rw [if_neg hz] at h1
              have q23 : (decide (32 ≤ bt s a') && decide (bt s a' ≤ 63)) = false := by rw [Bool.and_eq_false_iff]; simp only [decide_eq_false_iff_not]; omega
              obtain ⟨b23, hb23⟩ : ∃ b, b = decide (32 ≤ bt s a') := ⟨_, rfl⟩
              have A1 := Aside0.mk h1
              clear h1 hz
              by_cases hn : out.length = 64
              · have h1 := A1.out
                rw [if_pos hn] at h1
                simp only [Option.some.injEq, Prod.mk.injEq] at h1
                obtain ⟨rfl, rfl, rfl, rfl, rfl⟩ := h1
                have q5 : ((out.length : Int) == 64) = true := beq_iff_eq.mpr (by omega)
                have q6 : (out.length == 64) = true := beq_iff_eq.mpr hn
                clear hn A1
                by_cases h32 : 32 ≤ bt s a'
                · have q2 : decide (32 ≤ bt s a') = true := decide_eq_true h32
                  have q3 : decide (bt s a' ≤ 63) = false := by simpa [h32] using q23
                  have f4 := blk_frozen HI.out 4
                  clear h32 hb23 q23 b23
                  go_wp2
                  repeat (go_quiet (fail); try go_wp2)
                  go_roundg q
                  case measure => omega
                  case rel => exact ⟨m', l', A', c', a', 94, out, A2, ⟨HI.out.set4 94⟩, ⟨xr_set HL.out HI.out 4 _⟩, ⟨xr_set2 HO.out HI.out 4 _⟩, ⟨blk_far (p := ⟨g, 4, none⟩) B2.out N2.out _⟩, ⟨blk_far (p := ⟨g, 4, none⟩) B4.out N4.out _⟩, ⟨below_set HB.out WG.out⟩, HN⟩
                · have q2 : decide (32 ≤ bt s a') = false := decide_eq_false h32
                  have f4 := blk_frozen HI.out 4
                  clear h32 hb23 q23 b23
                  go_wp2
                  repeat (go_quiet (fail); try go_wp2)
                  go_roundg q
                  case measure => omega
                  case rel => exact ⟨m', l', A', c', a', 94, out, A2, ⟨HI.out.set4 94⟩, ⟨xr_set HL.out HI.out 4 _⟩, ⟨xr_set2 HO.out HI.out 4 _⟩, ⟨blk_far (p := ⟨g, 4, none⟩) B2.out N2.out _⟩, ⟨blk_far (p := ⟨g, 4, none⟩) B4.out N4.out _⟩, ⟨below_set HB.out WG.out⟩, HN⟩
              · have h1 := A1.out
                rw [if_neg hn] at h1
                have q5 : ((out.length : Int) == 64) = false := beq_eq_false_iff_ne.mpr (by omega)
                have q6 : (out.length == 64) = false := beq_eq_false_iff_ne.mpr hn
                have HN2 := Aside0.mk hn
                have A5 := Aside0.mk h1
                clear hn A1 h1
                have c2 := HI.out.c2
                by_cases h128 : bt s a' ≥ 128
                · have h1 := A5.out
                  rw [if_pos h128] at h1
                  have q2 : decide (32 ≤ bt s a') = true := decide_eq_true (by omega)
                  have q3 : decide (bt s a' ≤ 63) = false := decide_eq_false (by omega)
                  have q4 : decide (128 ≤ bt s a') = true := decide_eq_true h128
                  obtain ⟨⟨n, a1, e1⟩, h3, h4⟩ := Option.bind_eq_some_iff.mp h1
                  obtain ⟨⟨nm, vl, e3⟩, h5, h6⟩ := Option.bind_eq_some_iff.mp h4
                  simp only [Option.some.injEq, Prod.mk.injEq] at h6
                  obtain ⟨rfl, rfl, rfl, rfl, rfl⟩ := h6
                  have A3 := Aside0.mk h3
                  have A4 := Aside0.mk h5
                  clear A5 h1 h3 h4 h5 h128 hb23 q23 b23
                  go_upto_region 16 with (first | ((with_reducible refine gate_dst (N := 11) rfl ?_); refine box_event ?hg (N := 11) ?hd (cs := #[.string ⟨#[]⟩, .string ⟨#[]⟩, .bool false]) (t := 26) ?hr ?_; (case hd => rfl); (case hg => rfl); (case hr => first | (go_simp; done) | (go_simp; rfl)); intro g11 hg_ w5 hbox hb; have W11 := Aside0.mk (show w.heap.size ≤ g11 by have := HB.out.size; omega); have N11 := Aside0.mk (show g11 ≠ g by have := blk_lt HI.out; omega); have N112 := Aside0.mk (show g2 ≠ g11 by have := blk_lt B2.out; omega); have N114 := Aside0.mk (show g4 ≠ g11 by have := blk_lt B4.out; omega); have B115 := Aside0.mk hbox; have HI5 := Aside0.mk (HI.out.below hb); have HB5 := Aside0.mk (below_step HB.out hb); have HL5 := Aside0.mk (Kd.R_below HL.out hb); have HO5 := Aside0.mk (Kd.R_below (Kd.R_elderB HO.out g11 (by rw [hg_]; exact Nat.le_refl _)) hb); have B25 := Aside0.mk (blk_below B2.out hb); have B45 := Aside0.mk (blk_below B4.out hb); have y0 := (blk_cell B115.out 0).trans (rfl : _ = some (Value.string ⟨#[]⟩)); have y1 := (blk_cell B115.out 1).trans (rfl : _ = some (Value.string ⟨#[]⟩)); have y2 := (blk_cell B115.out 2).trans (rfl : _ = some (Value.bool false)); have f0 := blk_frozen B115.out 0; have f1 := blk_frozen B115.out 1; have f2 := blk_frozen B115.out 2; clear hb hbox hg_))
                  have HI6 := Aside0.mk (show IsX (((w5.setCell ⟨g11, 0, none⟩ (.string ⟨#[]⟩)).setCell ⟨g11, 1, none⟩ (.string ⟨#[]⟩)).setCell ⟨g11, 2, none⟩ (.bool false)) g m' A' l'.length c' s a' 0 from blk_far (p := ⟨g11, 2, none⟩) (blk_far (p := ⟨g11, 1, none⟩) (blk_far (p := ⟨g11, 0, none⟩) HI5.out (Ne.symm N11.out) (.string ⟨#[]⟩)) (Ne.symm N11.out) (.string ⟨#[]⟩)) (Ne.symm N11.out) (.bool false))
                  have B26 := Aside0.mk (blk_far (p := ⟨g11, 2, none⟩) (blk_far (p := ⟨g11, 1, none⟩) (blk_far (p := ⟨g11, 0, none⟩) B25.out N112.out (.string ⟨#[]⟩)) N112.out (.string ⟨#[]⟩)) N112.out (.bool false))
                  have B46 := Aside0.mk (blk_far (p := ⟨g11, 2, none⟩) (blk_far (p := ⟨g11, 1, none⟩) (blk_far (p := ⟨g11, 0, none⟩) B45.out N114.out (.string ⟨#[]⟩)) N114.out (.string ⟨#[]⟩)) N114.out (.bool false))
                  have P61 := blk_put B115.out 0 (.string ⟨#[]⟩) rfl
                  have P62 := blk_put P61 1 (.string ⟨#[]⟩) rfl
                  have B116 := Aside0.mk (blk_put P62 2 (.bool false) rfl)
                  have HO6 := Aside0.mk (Kd.R_far (p := ⟨g11, 2, none⟩) (Kd.R_far (p := ⟨g11, 1, none⟩) (Kd.R_far (p := ⟨g11, 0, none⟩) HO5.out (fun _ h => h.2) (.string ⟨#[]⟩)) (fun _ h => h.2) (.string ⟨#[]⟩)) (fun _ h => h.2) (.bool false))
                  have HL6 := Aside0.mk (Kd.R_mono (Kd.R_far (p := ⟨g11, 2, none⟩) (Kd.R_far (p := ⟨g11, 1, none⟩) (Kd.R_far (p := ⟨g11, 0, none⟩) (Kd.R_types HL5.out B115.out (by decide)) (fun _ h => h.2) (.string ⟨#[]⟩)) (fun _ h => h.2) (.string ⟨#[]⟩)) (fun _ h => h.2) (.bool false)) (fun _ h => h.1))
                  have HB6 := Aside0.mk (below_set (g := g11) (j := 2) (v := .bool false) (below_set (g := g11) (j := 1) (v := .string ⟨#[]⟩) (below_set (g := g11) (j := 0) (v := .string ⟨#[]⟩) HB5.out W11.out) W11.out) W11.out)
                  clear y0 y1 y2 f0 f1 f2 P61 P62
                  generalize ((w5.setCell ⟨g11, 0, none⟩ (.string ⟨#[]⟩)).setCell ⟨g11, 1, none⟩ (.string ⟨#[]⟩)).setCell ⟨g11, 2, none⟩ (.bool false) = w6 at HI6 B26 B46 B116 HO6 HL6 HB6 ⊢
                  go_upto_region 18 with (first | (go_at_call 48; (with_reducible refine (rf_number k g m' A' l'.length c' s a' 0 7 (n, a1, e1) w _ HI6.out WG.out HB6.out A3.out).mono ?_); rintro en w7 ⟨rfl, hi, hb, hk⟩; have HI7 := Aside0.mk hi; have HB7 := Aside0.mk hb; have HL7 := Aside0.mk (xr_rows HL6.out HI6.out hk); have HO7 := Aside0.mk (xr_rows2 HO6.out HI6.out hk); have B27 := Aside0.mk ((hk.2 g2 (blk_lt B26.out) N2.out (by simp)).trans B26.out); have B47 := Aside0.mk ((hk.2 g4 (blk_lt B46.out) N4.out (by simp)).trans B46.out); have B117 := Aside0.mk ((hk.2 g11 (blk_lt B116.out) N11.out (by simp)).trans B116.out); clear hi hb hk) | (go_at_call 49; (with_reducible refine (rf_entry k g m' A' c' l' s a1 e1 n (nm, vl, e3) w _ HI7.out WG.out HB7.out (Kd.R_reads' HL7.out).2.2 (Kd.R_reads' HL7.out).2.1 A4.out).mono ?_); rintro en w8 ⟨rfl, hi, hb, hk⟩; have HI8 := Aside0.mk hi; have HB8 := Aside0.mk hb; have HL8 := Aside0.mk (xr_rows HL7.out HI7.out hk); have HO8 := Aside0.mk (xr_rows2 HO7.out HI7.out hk); have B28 := Aside0.mk ((hk.2 g2 (blk_lt B27.out) N2.out (by simp)).trans B27.out); have B48 := Aside0.mk ((hk.2 g4 (blk_lt B47.out) N4.out (by simp)).trans B47.out); have B118 := Aside0.mk ((hk.2 g11 (blk_lt B117.out) N11.out (by simp)).trans B117.out); clear hi hb hk) | ((with_reducible refine gate_dst (N := 12) rfl ?_); refine box_event ?hg (N := 12) ?hd (cs := #[.string ⟨#[]⟩, .string ⟨#[]⟩]) (t := 88) ?hr ?_; (case hd => rfl); (case hg => rfl); (case hr => first | (go_simp; done) | (go_simp; rfl)); intro g12 hg_ wa hbox hb; have W12 := Aside0.mk (show w.heap.size ≤ g12 by have := HB8.out.size; omega); have N12 := Aside0.mk (show g12 ≠ g by have := blk_lt HI8.out; omega); have N122 := Aside0.mk (show g2 ≠ g12 by have := blk_lt B28.out; omega); have N124 := Aside0.mk (show g4 ≠ g12 by have := blk_lt B48.out; omega); have N1211 := Aside0.mk (show g11 ≠ g12 by have := blk_lt B118.out; omega); have B12a := Aside0.mk hbox; have HIa := Aside0.mk (HI8.out.below hb); have HBa := Aside0.mk (below_step HB8.out hb); have HLa := Aside0.mk (Kd.R_below (Kd.R_elderB HL8.out g12 (by rw [hg_]; exact Nat.le_refl _)) hb); have HOa := Aside0.mk (Kd.R_below HO8.out hb); have B2a := Aside0.mk (blk_below B28.out hb); have B4a := Aside0.mk (blk_below B48.out hb); have B11a := Aside0.mk (blk_below B118.out hb); have z0 := (blk_cell B12a.out 0).trans (rfl : _ = some (Value.string ⟨#[]⟩)); have z1 := (blk_cell B12a.out 1).trans (rfl : _ = some (Value.string ⟨#[]⟩)); have f0 := blk_frozen B12a.out 0; have f1 := blk_frozen B12a.out 1; clear hb hbox hg_))
                  have HIb := Aside0.mk (show IsX ((wa.setCell ⟨g12, 0, none⟩ (.string nm)).setCell ⟨g12, 1, none⟩ (.string vl)) g m' A' l'.length c' s a1 e3 from blk_far (p := ⟨g12, 1, none⟩) (blk_far (p := ⟨g12, 0, none⟩) HIa.out (Ne.symm N12.out) _) (Ne.symm N12.out) _)
                  have B2b := Aside0.mk (blk_far (p := ⟨g12, 1, none⟩) (blk_far (p := ⟨g12, 0, none⟩) B2a.out N122.out (.string nm)) N122.out (.string vl))
                  have B4b := Aside0.mk (blk_far (p := ⟨g12, 1, none⟩) (blk_far (p := ⟨g12, 0, none⟩) B4a.out N124.out (.string nm)) N124.out (.string vl))
                  have B11b := Aside0.mk (blk_far (p := ⟨g12, 1, none⟩) (blk_far (p := ⟨g12, 0, none⟩) B11a.out N1211.out (.string nm)) N1211.out (.string vl))
                  have B12b := Aside0.mk (blk_put (blk_put B12a.out 0 (.string nm) rfl) 1 (.string vl) rfl)
                  have HLb := Aside0.mk (Kd.R_mono (Kd.R_far (p := ⟨g12, 1, none⟩) (Kd.R_far (p := ⟨g12, 0, none⟩) HLa.out (fun _ h => h.2) (.string nm)) (fun _ h => h.2) (.string vl)) (fun _ h => h.1))
                  have HOb := Aside0.mk (Kd.R_mono (Kd.R_far (p := ⟨g12, 1, none⟩) (Kd.R_far (p := ⟨g12, 0, none⟩) (Kd.R_types HOa.out B12a.out (by decide)) (fun _ h => h.2) (.string nm)) (fun _ h => h.2) (.string vl)) (fun _ h => h.1))
                  have HBb := Aside0.mk (below_set (g := g12) (j := 1) (v := .string vl) (below_set (g := g12) (j := 0) (v := .string nm) HBa.out W12.out) W12.out)
                  clear z0 z1 f0 f1
                  generalize (wa.setCell ⟨g12, 0, none⟩ (.string nm)).setCell ⟨g12, 1, none⟩ (.string vl) = wb at HIb B2b B4b B11b B12b HLb HOb HBb ⊢
                  have z0 := (blk_cell B12b.out 0).trans (rfl : _ = some (Value.string nm))
                  have z1 := (blk_cell B12b.out 1).trans (rfl : _ = some (Value.string vl))
                  have y0 := (blk_cell B11b.out 0).trans (rfl : _ = some (Value.string ⟨#[]⟩))
                  have y1 := (blk_cell B11b.out 1).trans (rfl : _ = some (Value.string ⟨#[]⟩))
                  have y2 := (blk_cell B11b.out 2).trans (rfl : _ = some (Value.bool false))
                  have f0 := blk_frozen B11b.out 0
                  have f1 := blk_frozen B11b.out 1
                  have f2 := blk_frozen B11b.out 2
                  go_upto_region 25 with fail
                  have HIc := Aside0.mk (show IsX (((wb.setCell ⟨g11, 0, none⟩ (.string nm)).setCell ⟨g11, 1, none⟩ (.string vl)).setCell ⟨g11, 2, none⟩ (.bool false)) g m' A' l'.length c' s a1 e3 from blk_far (p := ⟨g11, 2, none⟩) (blk_far (p := ⟨g11, 1, none⟩) (blk_far (p := ⟨g11, 0, none⟩) HIb.out (Ne.symm N11.out) (.string nm)) (Ne.symm N11.out) (.string vl)) (Ne.symm N11.out) (.bool false))
                  have B2c := Aside0.mk (blk_far (p := ⟨g11, 2, none⟩) (blk_far (p := ⟨g11, 1, none⟩) (blk_far (p := ⟨g11, 0, none⟩) B2b.out N112.out (.string nm)) N112.out (.string vl)) N112.out (.bool false))
                  have B4c := Aside0.mk (blk_far (p := ⟨g11, 2, none⟩) (blk_far (p := ⟨g11, 1, none⟩) (blk_far (p := ⟨g11, 0, none⟩) B4b.out N114.out (.string nm)) N114.out (.string vl)) N114.out (.bool false))
                  have Pc1 := blk_put B11b.out 0 (.string nm) rfl
                  have Pc2 := blk_put Pc1 1 (.string vl) rfl
                  have B11c := Aside0.mk (blk_put Pc2 2 (.bool false) rfl)
                  have HOc := Aside0.mk (Kd.R_far (p := ⟨g11, 2, none⟩) (Kd.R_far (p := ⟨g11, 1, none⟩) (Kd.R_far (p := ⟨g11, 0, none⟩) HOb.out (fun _ h => h.2) (.string nm)) (fun _ h => h.2) (.string vl)) (fun _ h => h.2) (.bool false))
                  have HLc := Aside0.mk (Kd.R_mono (Kd.R_far (p := ⟨g11, 2, none⟩) (Kd.R_far (p := ⟨g11, 1, none⟩) (Kd.R_far (p := ⟨g11, 0, none⟩) (Kd.R_types HLb.out B11b.out (by decide)) (fun _ h => h.2) (.string nm)) (fun _ h => h.2) (.string vl)) (fun _ h => h.2) (.bool false)) (fun _ h => h.1))
                  have HBc := Aside0.mk (below_set (g := g11) (j := 2) (v := .bool false) (below_set (g := g11) (j := 1) (v := .string vl) (below_set (g := g11) (j := 0) (v := .string nm) HBb.out W11.out) W11.out) W11.out)
                  clear y0 y1 y2 f0 f1 f2 Pc1 Pc2
                  generalize ((wb.setCell ⟨g11, 0, none⟩ (.string nm)).setCell ⟨g11, 1, none⟩ (.string vl)).setCell ⟨g11, 2, none⟩ (.bool false) = wc at HIc B2c B4c B11c HOc HLc HBc ⊢
                  clear z0 z1
                  have hlen := Aside0.mk (show (out ++ [(⟨nm, vl, false⟩ : S26)]).length ≤ 64 by have := HN.out; have := HN2.out; rw [List.length_append, List.length_singleton]; omega)
                  have y0 := (blk_cell B11c.out 0).trans (rfl : _ = some (Value.string nm))
                  have y1 := (blk_cell B11c.out 1).trans (rfl : _ = some (Value.string vl))
                  have y2 := (blk_cell B11c.out 2).trans (rfl : _ = some (Value.bool false))
                  go_wp2_with (first | ((with_reducible refine gate_builtin (b := .append) (xs := #[.tmp 124, .tmp 126]) rfl ?_); at_builtin; refine Kd.R_append k26 (w0 := w) w.heap.size rfl (.tmp 124) (.tmp 126) 22 26 (.agg #[.string ⟨#[]⟩, .string ⟨#[]⟩, .bool false]) 40 rfl Tryd.underlying22 xr_infoF rfl (by decide) (by omega) _ out (⟨nm, vl, false⟩) [.string (nm), .string (vl), .bool (false)] (fun k => True ∧ k ≠ g11) (fun _ => False) rfl (by first | (go_simp; done) | (go_simp; rfl)) (k26_mkM _ _ _ _) (fun _ hk => hk.elim) (fun k hk => ⟨trivial, by have := blk_lt B11c.out; omega⟩) HOc.out HBc.out HBc.out.size (by have := HN.out; omega) ?_; intro v9 w9 ho hb hg_ hat; have HO9 := Aside0.mk (Kd.R_mono ho (fun _ _ => trivial : ∀ k, _ → (fun _ => True) k)); have HI9 := Aside0.mk (show IsX w9 g m' A' l'.length c' s a1 e3 from blk_grown HIc.out hg_ (Kd.R_ne HOc.out HIc.out (by decide))); have HL9 := Aside0.mk (xr_grown HLc.out HOc.out hg_); have B29 := Aside0.mk (blk_grown B2c.out hg_ (Kd.R_ne HOc.out B2c.out (by decide))); have B49 := Aside0.mk (blk_grown B4c.out hg_ (Kd.R_ne HOc.out B4c.out (by decide))); have HB9 := Aside0.mk hb; clear ho hb hg_ hat))
                  go_roundg q
                  case measure => omega
                  case rel => exact ⟨m', l', A', c', a1, e3, out ++ [⟨nm, vl, false⟩], A2, HI9, HL9, HO9, B29, B49, HB9, hlen⟩
                · by_cases h64 : bt s a' ≥ 64
                  · have h1 := A5.out
                    rw [if_neg h128, if_pos h64] at h1
                    have q2 : decide (32 ≤ bt s a') = true := decide_eq_true (by omega)
                    have q3 : decide (bt s a' ≤ 63) = false := decide_eq_false (by omega)
                    have q4 : decide (128 ≤ bt s a') = false := decide_eq_false h128
                    have q9 : decide (64 ≤ bt s a') = true := decide_eq_true h64
                    obtain ⟨⟨nm, vl, a1, e1⟩, h3, h4⟩ := Option.bind_eq_some_iff.mp h1
                    simp only at h4
                    have A3 := Aside0.mk h3
                    have A4 := Aside0.mk h4
                    clear A5 h1 h3 h4 h128 h64 hb23 q23 b23
                    go_upto_region 16 with (first | ((with_reducible refine gate_dst (N := 11) rfl ?_); refine box_event ?hg (N := 11) ?hd (cs := #[.string ⟨#[]⟩, .string ⟨#[]⟩, .bool false]) (t := 26) ?hr ?_; (case hd => rfl); (case hg => rfl); (case hr => first | (go_simp; done) | (go_simp; rfl)); intro g11 hg_ w5 hbox hb; have W11 := Aside0.mk (show w.heap.size ≤ g11 by have := HB.out.size; omega); have N11 := Aside0.mk (show g11 ≠ g by have := blk_lt HI.out; omega); have N112 := Aside0.mk (show g2 ≠ g11 by have := blk_lt B2.out; omega); have N114 := Aside0.mk (show g4 ≠ g11 by have := blk_lt B4.out; omega); have B115 := Aside0.mk hbox; have HI5 := Aside0.mk (HI.out.below hb); have HB5 := Aside0.mk (below_step HB.out hb); have HL5 := Aside0.mk (Kd.R_below HL.out hb); have HO5 := Aside0.mk (Kd.R_below (Kd.R_elderB HO.out g11 (by rw [hg_]; exact Nat.le_refl _)) hb); have B25 := Aside0.mk (blk_below B2.out hb); have B45 := Aside0.mk (blk_below B4.out hb); have y0 := (blk_cell B115.out 0).trans (rfl : _ = some (Value.string ⟨#[]⟩)); have y1 := (blk_cell B115.out 1).trans (rfl : _ = some (Value.string ⟨#[]⟩)); have y2 := (blk_cell B115.out 2).trans (rfl : _ = some (Value.bool false)); have f0 := blk_frozen B115.out 0; have f1 := blk_frozen B115.out 1; have f2 := blk_frozen B115.out 2; clear hb hbox hg_))
                    have HI6 := Aside0.mk (show IsX (((w5.setCell ⟨g11, 0, none⟩ (.string ⟨#[]⟩)).setCell ⟨g11, 1, none⟩ (.string ⟨#[]⟩)).setCell ⟨g11, 2, none⟩ (.bool false)) g m' A' l'.length c' s a' 0 from blk_far (p := ⟨g11, 2, none⟩) (blk_far (p := ⟨g11, 1, none⟩) (blk_far (p := ⟨g11, 0, none⟩) HI5.out (Ne.symm N11.out) (.string ⟨#[]⟩)) (Ne.symm N11.out) (.string ⟨#[]⟩)) (Ne.symm N11.out) (.bool false))
                    have B26 := Aside0.mk (blk_far (p := ⟨g11, 2, none⟩) (blk_far (p := ⟨g11, 1, none⟩) (blk_far (p := ⟨g11, 0, none⟩) B25.out N112.out (.string ⟨#[]⟩)) N112.out (.string ⟨#[]⟩)) N112.out (.bool false))
                    have B46 := Aside0.mk (blk_far (p := ⟨g11, 2, none⟩) (blk_far (p := ⟨g11, 1, none⟩) (blk_far (p := ⟨g11, 0, none⟩) B45.out N114.out (.string ⟨#[]⟩)) N114.out (.string ⟨#[]⟩)) N114.out (.bool false))
                    have P61 := blk_put B115.out 0 (.string ⟨#[]⟩) rfl
                    have P62 := blk_put P61 1 (.string ⟨#[]⟩) rfl
                    have B116 := Aside0.mk (blk_put P62 2 (.bool false) rfl)
                    have HO6 := Aside0.mk (Kd.R_far (p := ⟨g11, 2, none⟩) (Kd.R_far (p := ⟨g11, 1, none⟩) (Kd.R_far (p := ⟨g11, 0, none⟩) HO5.out (fun _ h => h.2) (.string ⟨#[]⟩)) (fun _ h => h.2) (.string ⟨#[]⟩)) (fun _ h => h.2) (.bool false))
                    have HL6 := Aside0.mk (Kd.R_mono (Kd.R_far (p := ⟨g11, 2, none⟩) (Kd.R_far (p := ⟨g11, 1, none⟩) (Kd.R_far (p := ⟨g11, 0, none⟩) (Kd.R_types HL5.out B115.out (by decide)) (fun _ h => h.2) (.string ⟨#[]⟩)) (fun _ h => h.2) (.string ⟨#[]⟩)) (fun _ h => h.2) (.bool false)) (fun _ h => h.1))
                    have HB6 := Aside0.mk (below_set (g := g11) (j := 2) (v := .bool false) (below_set (g := g11) (j := 1) (v := .string ⟨#[]⟩) (below_set (g := g11) (j := 0) (v := .string ⟨#[]⟩) HB5.out W11.out) W11.out) W11.out)
                    clear y0 y1 y2 f0 f1 f2 P61 P62
                    generalize ((w5.setCell ⟨g11, 0, none⟩ (.string ⟨#[]⟩)).setCell ⟨g11, 1, none⟩ (.string ⟨#[]⟩)).setCell ⟨g11, 2, none⟩ (.bool false) = w6 at HI6 B26 B46 B116 HO6 HL6 HB6 ⊢
                    go_upto_region 21 with (first | (go_at_call 50; (with_reducible refine (rf_literal k g m' A' c' l' s a' 0 6 (nm, vl, a1, e1) _ _ w _ HI6.out WG.out HB6.out HL6.out A3.out).mono ?_); rintro en w7 ⟨rfl, hi, hb, hk⟩; have HI7 := Aside0.mk hi; have HB7 := Aside0.mk hb; have HL7 := Aside0.mk (xr_rows HL6.out HI6.out hk); have HO7 := Aside0.mk (xr_rows2 HO6.out HI6.out hk); have B27 := Aside0.mk ((hk.2 g2 (blk_lt B26.out) N2.out (by simp)).trans B26.out); have B47 := Aside0.mk ((hk.2 g4 (blk_lt B46.out) N4.out (by simp)).trans B46.out); have B117 := Aside0.mk ((hk.2 g11 (blk_lt B116.out) N11.out (by simp)).trans B116.out); clear hi hb hk; have y0 := (blk_cell B117.out 0).trans (rfl : _ = some (Value.string ⟨#[]⟩)); have y1 := (blk_cell B117.out 1).trans (rfl : _ = some (Value.string ⟨#[]⟩)); have y2 := (blk_cell B117.out 2).trans (rfl : _ = some (Value.bool false)); have f0 := blk_frozen B117.out 0; have f1 := blk_frozen B117.out 1; have f2 := blk_frozen B117.out 2))
                    have HI8 := Aside0.mk (show IsX (((w7.setCell ⟨g11, 0, none⟩ (.string nm)).setCell ⟨g11, 1, none⟩ (.string vl)).setCell ⟨g11, 2, none⟩ (.bool false)) g m' A' l'.length c' s a1 e1 from blk_far (p := ⟨g11, 2, none⟩) (blk_far (p := ⟨g11, 1, none⟩) (blk_far (p := ⟨g11, 0, none⟩) HI7.out (Ne.symm N11.out) (.string nm)) (Ne.symm N11.out) (.string vl)) (Ne.symm N11.out) (.bool false))
                    have B28 := Aside0.mk (blk_far (p := ⟨g11, 2, none⟩) (blk_far (p := ⟨g11, 1, none⟩) (blk_far (p := ⟨g11, 0, none⟩) B27.out N112.out (.string nm)) N112.out (.string vl)) N112.out (.bool false))
                    have B48 := Aside0.mk (blk_far (p := ⟨g11, 2, none⟩) (blk_far (p := ⟨g11, 1, none⟩) (blk_far (p := ⟨g11, 0, none⟩) B47.out N114.out (.string nm)) N114.out (.string vl)) N114.out (.bool false))
                    have P81 := blk_put B117.out 0 (.string nm) rfl
                    have P82 := blk_put P81 1 (.string vl) rfl
                    have B118 := Aside0.mk (blk_put P82 2 (.bool false) rfl)
                    have HO8 := Aside0.mk (Kd.R_far (p := ⟨g11, 2, none⟩) (Kd.R_far (p := ⟨g11, 1, none⟩) (Kd.R_far (p := ⟨g11, 0, none⟩) HO7.out (fun _ h => h.2) (.string nm)) (fun _ h => h.2) (.string vl)) (fun _ h => h.2) (.bool false))
                    have HL8 := Aside0.mk (Kd.R_mono (Kd.R_far (p := ⟨g11, 2, none⟩) (Kd.R_far (p := ⟨g11, 1, none⟩) (Kd.R_far (p := ⟨g11, 0, none⟩) (Kd.R_types HL7.out B117.out (by decide)) (fun _ h => h.2) (.string nm)) (fun _ h => h.2) (.string vl)) (fun _ h => h.2) (.bool false)) (fun _ h => h.1))
                    have HB8 := Aside0.mk (below_set (g := g11) (j := 2) (v := .bool false) (below_set (g := g11) (j := 1) (v := .string vl) (below_set (g := g11) (j := 0) (v := .string nm) HB7.out W11.out) W11.out) W11.out)
                    clear y0 y1 y2 f0 f1 f2 P81 P82
                    generalize ((w7.setCell ⟨g11, 0, none⟩ (.string nm)).setCell ⟨g11, 1, none⟩ (.string vl)).setCell ⟨g11, 2, none⟩ (.bool false) = w8 at HI8 B28 B48 B118 HO8 HL8 HB8 ⊢
                    by_cases he : e1 = 0
                    · subst he
                      have h4 := A4.out
                      rw [if_pos rfl] at h4
                      obtain ⟨⟨m9, l9⟩, h5, h6⟩ := Option.bind_eq_some_iff.mp h4
                      simp only [Option.some.injEq, Prod.mk.injEq] at h6
                      obtain ⟨rfl, rfl, rfl, rfl, rfl⟩ := h6
                      have A6 := Aside0.mk h5
                      clear A4 h4 h5
                      have c0 := HI8.out.c0
                      have c1 := HI8.out.c1
                      replace c4 := HI8.out.c4
                      have y0 := (blk_cell B118.out 0).trans (rfl : _ = some (Value.string nm))
                      have y1 := (blk_cell B118.out 1).trans (rfl : _ = some (Value.string vl))
                      have y2 := (blk_cell B118.out 2).trans (rfl : _ = some (Value.bool false))
                      go_upto_region 22 with fail
                      go_region_with (first | (go_at_call 44; (with_reducible refine (nuncioref11_Add.calls k m' A' c' l' nm vl m9 l9 _ ?sR (Kd.R_reads' HL8.out).2.1 A6.out).mono ?_); (case sR => exact (Kd.R_reads' (Kd.R_drew HL8.out)).2.2); rintro en wa ⟨v1, rfl, ho, hb⟩; obtain ⟨A9, c9, rfl⟩ := Kd.R_slice ho; have HIa := Aside0.mk ((show IsX w8.drew g m' A' l'.length c' s a1 0 from HI8.out).below hb); have HBa := Aside0.mk (below_step (below_drew1 HB8.out) hb); have HLa := Aside0.mk (xr_new (P := P0) ho HB8.out.size HBs.out); have HOa := Aside0.mk (Kd.R_below (Kd.R_drew HO8.out) hb); have B2a := Aside0.mk (blk_below (show w8.drew.heap[g2]? = _ from B28.out) hb); have B4a := Aside0.mk (blk_below (show w8.drew.heap[g4]? = _ from B48.out) hb); have B11a := Aside0.mk (blk_below (show w8.drew.heap[g11]? = _ from B118.out) hb); clear ho hb c0 c1 c4 y0 y1 y2; have d0 := HIa.out.c0; have d1 := HIa.out.c1; have f0 := blk_frozen HIa.out 0; have f1 := blk_frozen (HIa.out.set0 m9) 1))
                      all_goals
                        have HIb := Aside0.mk ((HIa.out.set0 m9).set1 A9 l9.length c9)
                        have HLb := Aside0.mk (xr_set (xr_set HLa.out HIa.out 0 (.int .i64 m9)) (HIa.out.set0 m9) 1 (.slice A9 l9.length c9))
                        have HOb := Aside0.mk (xr_set2 (xr_set2 HOa.out HIa.out 0 (.int .i64 m9)) (HIa.out.set0 m9) 1 (.slice A9 l9.length c9))
                        have B2b := Aside0.mk (blk_far (p := ⟨g, 1, none⟩) (blk_far (p := ⟨g, 0, none⟩) B2a.out N2.out (.int .i64 m9)) N2.out (.slice A9 l9.length c9))
                        have B4b := Aside0.mk (blk_far (p := ⟨g, 1, none⟩) (blk_far (p := ⟨g, 0, none⟩) B4a.out N4.out (.int .i64 m9)) N4.out (.slice A9 l9.length c9))
                        have B11b := Aside0.mk (blk_far (p := ⟨g, 1, none⟩) (blk_far (p := ⟨g, 0, none⟩) B11a.out N11.out (.int .i64 m9)) N11.out (.slice A9 l9.length c9))
                        have HBb := Aside0.mk (below_set (g := g) (j := 1) (v := .slice A9 l9.length c9) (below_set (g := g) (j := 0) (v := .int .i64 m9) HBa.out WG.out) WG.out)
                        clear d0 d1 f0 f1
                        generalize (wa.setCell ⟨g, 0, none⟩ (.int .i64 m9)).setCell ⟨g, 1, none⟩ (.slice A9 l9.length c9) = wb at HIb HLb HOb B2b B4b B11b HBb ⊢
                        have hlen := Aside0.mk (show (out ++ [(⟨nm, vl, false⟩ : S26)]).length ≤ 64 by have := HN.out; have := HN2.out; rw [List.length_append, List.length_singleton]; omega)
                        have y0 := (blk_cell B11b.out 0).trans (rfl : _ = some (Value.string nm))
                        have y1 := (blk_cell B11b.out 1).trans (rfl : _ = some (Value.string vl))
                        have y2 := (blk_cell B11b.out 2).trans (rfl : _ = some (Value.bool false))
                        go_wp2_with (first | ((with_reducible refine gate_builtin (b := .append) (xs := #[.tmp 124, .tmp 126]) rfl ?_); at_builtin; refine Kd.R_append k26 (w0 := w) w.heap.size rfl (.tmp 124) (.tmp 126) 22 26 (.agg #[.string ⟨#[]⟩, .string ⟨#[]⟩, .bool false]) 40 rfl Tryd.underlying22 xr_infoF rfl (by decide) (by omega) _ out (⟨nm, vl, false⟩) [.string (nm), .string (vl), .bool (false)] (fun k => True ∧ k ≠ g11) (fun _ => False) rfl (by first | (go_simp; done) | (go_simp; rfl)) (k26_mkM _ _ _ _) (fun _ hk => hk.elim) (fun k hk => ⟨trivial, by have := blk_lt B11b.out; omega⟩) HOb.out HBb.out HBb.out.size (by have := HN.out; omega) ?_; intro v9 w9 ho hb hg_ hat; have HO9 := Aside0.mk (Kd.R_mono ho (fun _ _ => trivial : ∀ k, _ → (fun _ => True) k)); have HI9 := Aside0.mk (show IsX w9 g m9 A9 l9.length c9 s a1 0 from blk_grown HIb.out hg_ (Kd.R_ne HOb.out HIb.out (by decide))); have HL9 := Aside0.mk (xr_grown HLb.out HOb.out hg_); have B29 := Aside0.mk (blk_grown B2b.out hg_ (Kd.R_ne HOb.out B2b.out (by decide))); have B49 := Aside0.mk (blk_grown B4b.out hg_ (Kd.R_ne HOb.out B4b.out (by decide))); have HB9 := Aside0.mk hb; clear ho hb hg_ hat))
                        go_roundg q
                        case measure => omega
                        case rel => exact ⟨m9, l9, A9, c9, a1, 0, out ++ [⟨nm, vl, false⟩], A2, HI9, HL9, HO9, B29, B49, HB9, hlen⟩
                    · have h4 := A4.out
                      rw [if_neg he] at h4
                      simp only [Option.some.injEq, Prod.mk.injEq] at h4
                      obtain ⟨rfl, rfl, rfl, rfl, rfl⟩ := h4
                      have q8 : (e1 == 0) = false := beq_eq_false_iff_ne.mpr he
                      clear A4 he
                      replace c4 := HI8.out.c4
                      have hlen := Aside0.mk (show (out ++ [(⟨nm, vl, false⟩ : S26)]).length ≤ 64 by have := HN.out; have := HN2.out; rw [List.length_append, List.length_singleton]; omega)
                      have y0 := (blk_cell B118.out 0).trans (rfl : _ = some (Value.string nm))
                      have y1 := (blk_cell B118.out 1).trans (rfl : _ = some (Value.string vl))
                      have y2 := (blk_cell B118.out 2).trans (rfl : _ = some (Value.bool false))
                      go_wp2_with (first | ((with_reducible refine gate_builtin (b := .append) (xs := #[.tmp 124, .tmp 126]) rfl ?_); at_builtin; refine Kd.R_append k26 (w0 := w) w.heap.size rfl (.tmp 124) (.tmp 126) 22 26 (.agg #[.string ⟨#[]⟩, .string ⟨#[]⟩, .bool false]) 40 rfl Tryd.underlying22 xr_infoF rfl (by decide) (by omega) _ out (⟨nm, vl, false⟩) [.string (nm), .string (vl), .bool (false)] (fun k => True ∧ k ≠ g11) (fun _ => False) rfl (by first | (go_simp; done) | (go_simp; rfl)) (k26_mkM _ _ _ _) (fun _ hk => hk.elim) (fun k hk => ⟨trivial, by have := blk_lt B118.out; omega⟩) HO8.out HB8.out HB8.out.size (by have := HN.out; omega) ?_; intro v9 w9 ho hb hg_ hat; have HO9 := Aside0.mk (Kd.R_mono ho (fun _ _ => trivial : ∀ k, _ → (fun _ => True) k)); have HI9 := Aside0.mk (show IsX w9 g m' A' l'.length c' s a1 e1 from blk_grown HI8.out hg_ (Kd.R_ne HO8.out HI8.out (by decide))); have HL9 := Aside0.mk (xr_grown HL8.out HO8.out hg_); have B29 := Aside0.mk (blk_grown B28.out hg_ (Kd.R_ne HO8.out B28.out (by decide))); have B49 := Aside0.mk (blk_grown B48.out hg_ (Kd.R_ne HO8.out B48.out (by decide))); have HB9 := Aside0.mk hb; clear ho hb hg_ hat))
                      go_roundg q
                      case measure => omega
                      case rel => exact ⟨m', l', A', c', a1, e1, out ++ [⟨nm, vl, false⟩], A2, HI9, HL9, HO9, B29, B49, HB9, hlen⟩
                  · have h1 := A5.out
                    rw [if_neg h128, if_neg h64] at h1
                    have q2 : decide (32 ≤ bt s a') = false := decide_eq_false (fun h => by rw [decide_eq_true h, Bool.true_and, decide_eq_false_iff_not] at q23; omega)
                    have q4 : decide (128 ≤ bt s a') = false := decide_eq_false h128
                    have q9 : decide (64 ≤ bt s a') = false := decide_eq_false h64
                    obtain ⟨⟨nm, vl, a1, e1⟩, h3, h4⟩ := Option.bind_eq_some_iff.mp h1
                    simp only [Option.some.injEq, Prod.mk.injEq] at h4
                    obtain ⟨rfl, rfl, rfl, rfl, rfl⟩ := h4
                    have A3 := Aside0.mk h3
                    clear A5 h1 h3 h128 h64 hb23 q23 b23
                    go_upto_region 16 with (first | ((with_reducible refine gate_dst (N := 11) rfl ?_); refine box_event ?hg (N := 11) ?hd (cs := #[.string ⟨#[]⟩, .string ⟨#[]⟩, .bool false]) (t := 26) ?hr ?_; (case hd => rfl); (case hg => rfl); (case hr => first | (go_simp; done) | (go_simp; rfl)); intro g11 hg_ w5 hbox hb; have W11 := Aside0.mk (show w.heap.size ≤ g11 by have := HB.out.size; omega); have N11 := Aside0.mk (show g11 ≠ g by have := blk_lt HI.out; omega); have N112 := Aside0.mk (show g2 ≠ g11 by have := blk_lt B2.out; omega); have N114 := Aside0.mk (show g4 ≠ g11 by have := blk_lt B4.out; omega); have B115 := Aside0.mk hbox; have HI5 := Aside0.mk (HI.out.below hb); have HB5 := Aside0.mk (below_step HB.out hb); have HL5 := Aside0.mk (Kd.R_below HL.out hb); have HO5 := Aside0.mk (Kd.R_below (Kd.R_elderB HO.out g11 (by rw [hg_]; exact Nat.le_refl _)) hb); have B25 := Aside0.mk (blk_below B2.out hb); have B45 := Aside0.mk (blk_below B4.out hb); have y0 := (blk_cell B115.out 0).trans (rfl : _ = some (Value.string ⟨#[]⟩)); have y1 := (blk_cell B115.out 1).trans (rfl : _ = some (Value.string ⟨#[]⟩)); have y2 := (blk_cell B115.out 2).trans (rfl : _ = some (Value.bool false)); have f0 := blk_frozen B115.out 0; have f1 := blk_frozen B115.out 1; have f2 := blk_frozen B115.out 2; clear hb hbox hg_))
                    have HI6 := Aside0.mk (show IsX (((w5.setCell ⟨g11, 0, none⟩ (.string ⟨#[]⟩)).setCell ⟨g11, 1, none⟩ (.string ⟨#[]⟩)).setCell ⟨g11, 2, none⟩ (.bool false)) g m' A' l'.length c' s a' 0 from blk_far (p := ⟨g11, 2, none⟩) (blk_far (p := ⟨g11, 1, none⟩) (blk_far (p := ⟨g11, 0, none⟩) HI5.out (Ne.symm N11.out) (.string ⟨#[]⟩)) (Ne.symm N11.out) (.string ⟨#[]⟩)) (Ne.symm N11.out) (.bool false))
                    have B26 := Aside0.mk (blk_far (p := ⟨g11, 2, none⟩) (blk_far (p := ⟨g11, 1, none⟩) (blk_far (p := ⟨g11, 0, none⟩) B25.out N112.out (.string ⟨#[]⟩)) N112.out (.string ⟨#[]⟩)) N112.out (.bool false))
                    have B46 := Aside0.mk (blk_far (p := ⟨g11, 2, none⟩) (blk_far (p := ⟨g11, 1, none⟩) (blk_far (p := ⟨g11, 0, none⟩) B45.out N114.out (.string ⟨#[]⟩)) N114.out (.string ⟨#[]⟩)) N114.out (.bool false))
                    have P61 := blk_put B115.out 0 (.string ⟨#[]⟩) rfl
                    have P62 := blk_put P61 1 (.string ⟨#[]⟩) rfl
                    have B116 := Aside0.mk (blk_put P62 2 (.bool false) rfl)
                    have HO6 := Aside0.mk (Kd.R_far (p := ⟨g11, 2, none⟩) (Kd.R_far (p := ⟨g11, 1, none⟩) (Kd.R_far (p := ⟨g11, 0, none⟩) HO5.out (fun _ h => h.2) (.string ⟨#[]⟩)) (fun _ h => h.2) (.string ⟨#[]⟩)) (fun _ h => h.2) (.bool false))
                    have HL6 := Aside0.mk (Kd.R_mono (Kd.R_far (p := ⟨g11, 2, none⟩) (Kd.R_far (p := ⟨g11, 1, none⟩) (Kd.R_far (p := ⟨g11, 0, none⟩) (Kd.R_types HL5.out B115.out (by decide)) (fun _ h => h.2) (.string ⟨#[]⟩)) (fun _ h => h.2) (.string ⟨#[]⟩)) (fun _ h => h.2) (.bool false)) (fun _ h => h.1))
                    have HB6 := Aside0.mk (below_set (g := g11) (j := 2) (v := .bool false) (below_set (g := g11) (j := 1) (v := .string ⟨#[]⟩) (below_set (g := g11) (j := 0) (v := .string ⟨#[]⟩) HB5.out W11.out) W11.out) W11.out)
                    clear y0 y1 y2 f0 f1 f2 P61 P62
                    generalize ((w5.setCell ⟨g11, 0, none⟩ (.string ⟨#[]⟩)).setCell ⟨g11, 1, none⟩ (.string ⟨#[]⟩)).setCell ⟨g11, 2, none⟩ (.bool false) = w6 at HI6 B26 B46 B116 HO6 HL6 HB6 ⊢
                    go_upto_region 24 with (first | (go_at_call 50; (with_reducible refine (rf_literal k g m' A' c' l' s a' 0 4 (nm, vl, a1, e1) _ _ w _ HI6.out WG.out HB6.out HL6.out A3.out).mono ?_); rintro en w7 ⟨rfl, hi, hb, hk⟩; have HI7 := Aside0.mk hi; have HB7 := Aside0.mk hb; have HL7 := Aside0.mk (xr_rows HL6.out HI6.out hk); have HO7 := Aside0.mk (xr_rows2 HO6.out HI6.out hk); have B27 := Aside0.mk ((hk.2 g2 (blk_lt B26.out) N2.out (by simp)).trans B26.out); have B47 := Aside0.mk ((hk.2 g4 (blk_lt B46.out) N4.out (by simp)).trans B46.out); have B117 := Aside0.mk ((hk.2 g11 (blk_lt B116.out) N11.out (by simp)).trans B116.out); clear hi hb hk; have y0 := (blk_cell B117.out 0).trans (rfl : _ = some (Value.string ⟨#[]⟩)); have y1 := (blk_cell B117.out 1).trans (rfl : _ = some (Value.string ⟨#[]⟩)); have y2 := (blk_cell B117.out 2).trans (rfl : _ = some (Value.bool false)); have f0 := blk_frozen B117.out 0; have f1 := blk_frozen B117.out 1; have f2 := blk_frozen B117.out 2))
                    have HI8 := Aside0.mk (show IsX (((w7.setCell ⟨g11, 0, none⟩ (.string nm)).setCell ⟨g11, 1, none⟩ (.string vl)).setCell ⟨g11, 2, none⟩ (.bool false)) g m' A' l'.length c' s a1 e1 from blk_far (p := ⟨g11, 2, none⟩) (blk_far (p := ⟨g11, 1, none⟩) (blk_far (p := ⟨g11, 0, none⟩) HI7.out (Ne.symm N11.out) (.string nm)) (Ne.symm N11.out) (.string vl)) (Ne.symm N11.out) (.bool false))
                    have B28 := Aside0.mk (blk_far (p := ⟨g11, 2, none⟩) (blk_far (p := ⟨g11, 1, none⟩) (blk_far (p := ⟨g11, 0, none⟩) B27.out N112.out (.string nm)) N112.out (.string vl)) N112.out (.bool false))
                    have B48 := Aside0.mk (blk_far (p := ⟨g11, 2, none⟩) (blk_far (p := ⟨g11, 1, none⟩) (blk_far (p := ⟨g11, 0, none⟩) B47.out N114.out (.string nm)) N114.out (.string vl)) N114.out (.bool false))
                    have P81 := blk_put B117.out 0 (.string nm) rfl
                    have P82 := blk_put P81 1 (.string vl) rfl
                    have B118 := Aside0.mk (blk_put P82 2 (.bool false) rfl)
                    have HO8 := Aside0.mk (Kd.R_far (p := ⟨g11, 2, none⟩) (Kd.R_far (p := ⟨g11, 1, none⟩) (Kd.R_far (p := ⟨g11, 0, none⟩) HO7.out (fun _ h => h.2) (.string nm)) (fun _ h => h.2) (.string vl)) (fun _ h => h.2) (.bool false))
                    have HL8 := Aside0.mk (Kd.R_mono (Kd.R_far (p := ⟨g11, 2, none⟩) (Kd.R_far (p := ⟨g11, 1, none⟩) (Kd.R_far (p := ⟨g11, 0, none⟩) (Kd.R_types HL7.out B117.out (by decide)) (fun _ h => h.2) (.string nm)) (fun _ h => h.2) (.string vl)) (fun _ h => h.2) (.bool false)) (fun _ h => h.1))
                    have HB8 := Aside0.mk (below_set (g := g11) (j := 2) (v := .bool false) (below_set (g := g11) (j := 1) (v := .string vl) (below_set (g := g11) (j := 0) (v := .string nm) HB7.out W11.out) W11.out) W11.out)
                    clear y0 y1 y2 f0 f1 f2 P81 P82
                    generalize ((w7.setCell ⟨g11, 0, none⟩ (.string nm)).setCell ⟨g11, 1, none⟩ (.string vl)).setCell ⟨g11, 2, none⟩ (.bool false) = w8 at HI8 B28 B48 B118 HO8 HL8 HB8 ⊢
                    obtain ⟨nv, hnv⟩ : ∃ b, decide (bt s a' ≥ 16) = b := ⟨_, rfl⟩
                    have q8 : decide (16 ≤ bt s a') = nv := hnv
                    rw [hnv] at A2
                    have f2 := blk_frozen B118.out 2
                    have y2 := (blk_cell B118.out 2).trans (rfl : _ = some (Value.bool false))
                    go_upto_region 25 with fail
                    have HIa := Aside0.mk (show IsX (w8.setCell ⟨g11, 2, none⟩ (.bool nv)) g m' A' l'.length c' s a1 e1 from blk_far (p := ⟨g11, 2, none⟩) HI8.out (Ne.symm N11.out) _)
                    have B2a := Aside0.mk (blk_far (p := ⟨g11, 2, none⟩) B28.out N112.out (.bool nv))
                    have B4a := Aside0.mk (blk_far (p := ⟨g11, 2, none⟩) B48.out N114.out (.bool nv))
                    have B11a := Aside0.mk (blk_put B118.out 2 (.bool nv) rfl)
                    have HOa := Aside0.mk (Kd.R_far (p := ⟨g11, 2, none⟩) HO8.out (fun _ h => h.2) (.bool nv))
                    have HLa := Aside0.mk (Kd.R_mono (Kd.R_far (p := ⟨g11, 2, none⟩) (Kd.R_types HL8.out B118.out (by decide)) (fun _ h => h.2) (.bool nv)) (fun _ h => h.1))
                    have HBa := Aside0.mk (below_set (g := g11) (j := 2) (v := .bool nv) HB8.out W11.out)
                    clear y2 f2
                    generalize w8.setCell ⟨g11, 2, none⟩ (.bool nv) = wa at HIa B2a B4a B11a HOa HLa HBa ⊢
                    have hlen := Aside0.mk (show (out ++ [(⟨nm, vl, nv⟩ : S26)]).length ≤ 64 by have := HN.out; have := HN2.out; rw [List.length_append, List.length_singleton]; omega)
                    have y0 := (blk_cell B11a.out 0).trans (rfl : _ = some (Value.string nm))
                    have y1 := (blk_cell B11a.out 1).trans (rfl : _ = some (Value.string vl))
                    have y2 := (blk_cell B11a.out 2).trans (rfl : _ = some (Value.bool nv))
                    go_wp2_with (first | ((with_reducible refine gate_builtin (b := .append) (xs := #[.tmp 124, .tmp 126]) rfl ?_); at_builtin; refine Kd.R_append k26 (w0 := w) w.heap.size rfl (.tmp 124) (.tmp 126) 22 26 (.agg #[.string ⟨#[]⟩, .string ⟨#[]⟩, .bool false]) 40 rfl Tryd.underlying22 xr_infoF rfl (by decide) (by omega) _ out (⟨nm, vl, nv⟩) [.string (nm), .string (vl), .bool (nv)] (fun k => True ∧ k ≠ g11) (fun _ => False) rfl (by first | (go_simp; done) | (go_simp; rfl)) (k26_mkM _ _ _ _) (fun _ hk => hk.elim) (fun k hk => ⟨trivial, by have := blk_lt B11a.out; omega⟩) HOa.out HBa.out HBa.out.size (by have := HN.out; omega) ?_; intro v9 w9 ho hb hg_ hat; have HO9 := Aside0.mk (Kd.R_mono ho (fun _ _ => trivial : ∀ k, _ → (fun _ => True) k)); have HI9 := Aside0.mk (show IsX w9 g m' A' l'.length c' s a1 e1 from blk_grown HIa.out hg_ (Kd.R_ne HOa.out HIa.out (by decide))); have HL9 := Aside0.mk (xr_grown HLa.out HOa.out hg_); have B29 := Aside0.mk (blk_grown B2a.out hg_ (Kd.R_ne HOa.out B2a.out (by decide))); have B49 := Aside0.mk (blk_grown B4a.out hg_ (Kd.R_ne HOa.out B4a.out (by decide))); have HB9 := Aside0.mk hb; clear ho hb hg_ hat))
                    go_roundg q
                    case measure => omega
                    case rel => exact ⟨m', l', A', c', a1, e1, out ++ [⟨nm, vl, nv⟩], A2, HI9, HL9, HO9, B29, B49, HB9, hlen⟩
          · rw [if_neg h0] at h1
            exact absurd h1 (by simp)
        · rw [if_neg hc] at hA
          simp only [Option.some.injEq, Prod.mk.injEq] at hA
          obtain ⟨rfl, rfl, rfl, rfl⟩ := hA
          clear HA
          have c0 := HI.out.c0
          have c1 := HI.out.c1
          have e0 := (blk_cell B2.out 0).trans (rfl : _ = some (Value.int .i64 m))
          have e1 := (blk_cell B2.out 1).trans (rfl : _ = some (Value.slice A l.length c))
          have f0 := blk_frozen B2.out 0
          have f1 := blk_frozen B2.out 1
          have N42 := Aside0.mk G42.out
          by_cases he : e' = 0
          · subst he
            have q1 : decide (a' < (s.size : Int)) = false := decide_eq_false (fun h => hc ⟨rfl, h⟩)
            have hR := HR.out
            rw [if_pos rfl] at hR
            simp only [Option.some.injEq, Prod.mk.injEq] at hR
            obtain ⟨rfl, rfl, rfl, rfl, rfl⟩ := hR
            clear HR hc
            go_upto_region 27 with fail
            have HI6 := Aside0.mk (show IsX ((wr.setCell ⟨g2, 0, none⟩ (.int .i64 m')).setCell ⟨g2, 1, none⟩ (.slice A' l'.length c')) g m' A' l'.length c' s a' 0 from blk_far (p := ⟨g2, 1, none⟩) (blk_far (p := ⟨g2, 0, none⟩) HI.out (Ne.symm N2.out) _) (Ne.symm N2.out) _)
            have B26 := Aside0.mk (blk_put (blk_put B2.out 0 (.int .i64 m') rfl) 1 (.slice A' l'.length c') rfl)
            have B46 := Aside0.mk (blk_far (p := ⟨g2, 1, none⟩) (blk_far (p := ⟨g2, 0, none⟩) B4.out N42.out (.int .i64 m')) N42.out (.slice A' l'.length c'))
            have HL6 := Aside0.mk (Kd.R_mono (Kd.R_far (p := ⟨g2, 1, none⟩) (Kd.R_far (p := ⟨g2, 0, none⟩) (Kd.R_types HL.out B2.out (by decide)) (fun _ h => h.2) (.int .i64 m')) (fun _ h => h.2) (.slice A' l'.length c')) (fun _ h => h.1))
            have HO6 := Aside0.mk (Kd.R_mono (Kd.R_far (p := ⟨g2, 1, none⟩) (Kd.R_far (p := ⟨g2, 0, none⟩) (Kd.R_types HO.out B2.out (by decide)) (fun _ h => h.2) (.int .i64 m')) (fun _ h => h.2) (.slice A' l'.length c')) (fun _ h => h.1))
            have HB6 := Aside0.mk (below_set (g := g2) (j := 1) (v := .slice A' l'.length c') (below_set (g := g2) (j := 0) (v := .int .i64 m') HB.out W2.out) W2.out)
            clear c0 c1 c3 c4 e0 e1 f0 f1
            generalize (wr.setCell ⟨g2, 0, none⟩ (.int .i64 m')).setCell ⟨g2, 1, none⟩ (.slice A' l'.length c') = w6 at HI6 B26 B46 HL6 HO6 HB6 ⊢
            have c4 := HI6.out.c4
            have x0 := (blk_cell B26.out 0).trans (rfl : _ = some (Value.int .i64 m'))
            have x1 := (blk_cell B26.out 1).trans (rfl : _ = some (Value.slice A' l'.length c'))
            have x2 := (blk_cell B26.out 2).trans (rfl : _ = some (Value.bool false))
            have y0 := (blk_cell B46.out 0).trans (rfl : _ = some (Value.int .i64 0))
            have y1 := (blk_cell B46.out 1).trans (rfl : _ = some (Value.slice none 0 0))
            have y2 := (blk_cell B46.out 2).trans (rfl : _ = some (Value.bool false))
            have f0 := blk_frozen B46.out 0
            have f1 := blk_frozen B46.out 1
            have f2 := blk_frozen B46.out 2
            go_wp2
            have Z := blk_put (blk_put (blk_put B46.out 0 (.int .i64 m') rfl) 1 (.slice A' l'.length c') rfl) 2 (.bool false) rfl
            refine bodyPost_ret (results_ctt rfl _ _ g4 56 #[.int .i64 m', .slice A' l'.length c', .bool false] (0, 0) _ rfl Z Tryd.underlying56 rfl (by kernel_rfl)) rfl ?_
            have X1 := below_set (g := g4) (j := 2) (v := .bool false) (below_set (g := g4) (j := 1) (v := .slice A' l'.length c') (below_set (g := g4) (j := 0) (v := .int .i64 m') HB6.out W4.out) W4.out) W4.out
            have X2 := Kd.R_mono (Kd.R_far (p := ⟨g4, 2, none⟩) (Kd.R_far (p := ⟨g4, 1, none⟩) (Kd.R_far (p := ⟨g4, 0, none⟩) (Kd.R_types HL6.out B46.out (by decide)) (fun _ h => h.2) (.int .i64 m')) (fun _ h => h.2) (.slice A' l'.length c')) (fun _ h => h.2) (.bool false)) (fun _ h => h.1)
            have X3 := Kd.R_mono (ok' := fun _ => True) (Kd.R_far (p := ⟨g4, 2, none⟩) (Kd.R_far (p := ⟨g4, 1, none⟩) (Kd.R_far (p := ⟨g4, 0, none⟩) (Kd.R_types HO6.out B46.out (by decide)) (fun _ h => h.2) (.int .i64 m')) (fun _ h => h.2) (.slice A' l'.length c')) (fun _ h => h.2) (.bool false)) (fun _ _ => trivial)
            exact ⟨_, _, rfl, X2, X3, X1⟩
          · have q1 : (e' == 0) = false := beq_eq_false_iff_ne.mpr he
            have q2 : (e' != 0) = true := bne_iff_ne.mpr he
            have hR := HR.out
            rw [if_neg he] at hR
            simp only [Option.some.injEq, Prod.mk.injEq] at hR
            obtain ⟨rfl, rfl, rfl, rfl, rfl⟩ := hR
            clear HR hc he
            go_upto_region 27 with fail
            have HI6 := Aside0.mk (show IsX ((wr.setCell ⟨g2, 0, none⟩ (.int .i64 m')).setCell ⟨g2, 1, none⟩ (.slice A' l'.length c')) g m' A' l'.length c' s a' e' from blk_far (p := ⟨g2, 1, none⟩) (blk_far (p := ⟨g2, 0, none⟩) HI.out (Ne.symm N2.out) _) (Ne.symm N2.out) _)
            have B26 := Aside0.mk (blk_put (blk_put B2.out 0 (.int .i64 m') rfl) 1 (.slice A' l'.length c') rfl)
            have B46 := Aside0.mk (blk_far (p := ⟨g2, 1, none⟩) (blk_far (p := ⟨g2, 0, none⟩) B4.out N42.out (.int .i64 m')) N42.out (.slice A' l'.length c'))
            have HL6 := Aside0.mk (Kd.R_mono (Kd.R_far (p := ⟨g2, 1, none⟩) (Kd.R_far (p := ⟨g2, 0, none⟩) (Kd.R_types HL.out B2.out (by decide)) (fun _ h => h.2) (.int .i64 m')) (fun _ h => h.2) (.slice A' l'.length c')) (fun _ h => h.1))
            have HO6 := Aside0.mk (Kd.R_mono (Kd.R_far (p := ⟨g2, 1, none⟩) (Kd.R_far (p := ⟨g2, 0, none⟩) (Kd.R_types HO.out B2.out (by decide)) (fun _ h => h.2) (.int .i64 m')) (fun _ h => h.2) (.slice A' l'.length c')) (fun _ h => h.1))
            have HB6 := Aside0.mk (below_set (g := g2) (j := 1) (v := .slice A' l'.length c') (below_set (g := g2) (j := 0) (v := .int .i64 m') HB.out W2.out) W2.out)
            clear c0 c1 c3 c4 e0 e1 f0 f1
            generalize (wr.setCell ⟨g2, 0, none⟩ (.int .i64 m')).setCell ⟨g2, 1, none⟩ (.slice A' l'.length c') = w6 at HI6 B26 B46 HL6 HO6 HB6 ⊢
            have c4 := HI6.out.c4
            have f2 := blk_frozen B26.out 2
            have x2 := (blk_cell B26.out 2).trans (rfl : _ = some (Value.bool false))
            go_upto_region 29 with fail
            have HI7 := Aside0.mk (show IsX (w6.setCell ⟨g2, 2, none⟩ (.bool true)) g m' A' l'.length c' s a' e' from blk_far (p := ⟨g2, 2, none⟩) HI6.out (Ne.symm N2.out) _)
            have B27 := Aside0.mk (blk_put B26.out 2 (.bool true) rfl)
            have B47 := Aside0.mk (blk_far (p := ⟨g2, 2, none⟩) B46.out N42.out (.bool true))
            have HL7 := Aside0.mk (Kd.R_mono (Kd.R_far (p := ⟨g2, 2, none⟩) (Kd.R_types HL6.out B26.out (by decide)) (fun _ h => h.2) (.bool true)) (fun _ h => h.1))
            have HB7 := Aside0.mk (below_set (g := g2) (j := 2) (v := .bool true) HB6.out W2.out)
            clear f2 x2 c4
            generalize w6.setCell ⟨g2, 2, none⟩ (.bool true) = w7 at HI7 B27 B47 HL7 HB7 ⊢
            have c4 := HI7.out.c4
            have x0 := (blk_cell B27.out 0).trans (rfl : _ = some (Value.int .i64 m'))
            have x1 := (blk_cell B27.out 1).trans (rfl : _ = some (Value.slice A' l'.length c'))
            have x2 := (blk_cell B27.out 2).trans (rfl : _ = some (Value.bool true))
            have y0 := (blk_cell B47.out 0).trans (rfl : _ = some (Value.int .i64 0))
            have y1 := (blk_cell B47.out 1).trans (rfl : _ = some (Value.slice none 0 0))
            have y2 := (blk_cell B47.out 2).trans (rfl : _ = some (Value.bool false))
            have f0 := blk_frozen B47.out 0
            have f1 := blk_frozen B47.out 1
            have f2 := blk_frozen B47.out 2
            go_wp2
            go_region
            all_goals
              go_wp2
              have Z := blk_put (blk_put (blk_put B47.out 0 (.int .i64 m') rfl) 1 (.slice A' l'.length c') rfl) 2 (.bool true) rfl
              refine bodyPost_ret (results_ctt rfl _ _ g4 56 #[.int .i64 m', .slice A' l'.length c', .bool true] (0, 0) _ rfl (blk_drew Z) Tryd.underlying56 rfl (by kernel_rfl)) rfl ?_
              have X1 := below_set (g := g4) (j := 2) (v := .bool true) (below_set (g := g4) (j := 1) (v := .slice A' l'.length c') (below_set (g := g4) (j := 0) (v := .int .i64 m') HB7.out W4.out) W4.out) W4.out
              have X2 := Kd.R_mono (Kd.R_far (p := ⟨g4, 2, none⟩) (Kd.R_far (p := ⟨g4, 1, none⟩) (Kd.R_far (p := ⟨g4, 0, none⟩) (Kd.R_types HL7.out B47.out (by decide)) (fun _ h => h.2) (.int .i64 m')) (fun _ h => h.2) (.slice A' l'.length c')) (fun _ h => h.2) (.bool true)) (fun _ h => h.1)
              exact ⟨_, _, rfl, Kd.R_drew X2, Kd.R_nil _ _ _ _ _, below_drew1 X1⟩
theorem nuncioref12_Read.calls (k : Nat) (a0_0 : Int) (P0_1_ : Nat → Prop) (u9000_ : Value) (l0_1 : List S88) (a0_2 : Bool) (a1 : ByteArray) (r1 : Int) (r2 : List S88) (r3 : Bool) (r4 : List S26) (r5 : Int) (w0 w : World) (hB : Below w0.heap.size w0 w) (ho0_1 : Kd.R k88 88 w w0.heap.size P0_1_ u9000_ l0_1) (h : nuncioref12_Read.f k a0_0 l0_1 a0_2 a1 = some (r1, r2, r3, r4, r5)) :
    Calls Tryd.prog 26 #[.agg #[.int .i64 a0_0, u9000_, .bool a0_2], .string a1] w fun e w' => ∃ v1_ v2_ : Value, e = .returned (.tuple #[.agg #[.int .i64 r1, v1_, .bool r3], v2_, .int .i64 r5]) ∧ Kd.R k88 88 w' w0.heap.size (fun k_ => P0_1_ k_ ∨ w.heap.size ≤ k_) v1_ r2 ∧ Kd.R k26 26 w' w0.heap.size (fun k_ => P0_1_ k_ ∨ w.heap.size ≤ k_) v2_ r4 ∧ Below w0.heap.size w0 w' ∧ Kept w w' (fun k_ => P0_1_ k_) := by
  obtain ⟨A, c, rfl⟩ := Kd.R_slice ho0_1
  refine (rf_read P0_1_ k a0_0 A c l0_1 a0_2 a1 r1 r2 r3 r4 r5 w0.heap.size w hB.size ho0_1 h).mono ?_
  rintro e w' ⟨u, v, rfl, h1, h2, h3⟩
  exact ⟨u, v, rfl, h1, Kd.R_lower (Kd.R_mono (Kd.R_bound h2) (fun k hk => .inr hk.2.1)) hB.size, below_then hB hB.size h3, Kept.of_below h3 _⟩
end Go.Proofs.YtfkdocmhbmameaaDoor.Mine
