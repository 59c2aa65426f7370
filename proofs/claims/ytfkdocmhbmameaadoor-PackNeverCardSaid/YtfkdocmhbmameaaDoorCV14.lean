/- The walks and the plain laws that the rows come to: merged out of this repo's texts. -/
import Derived.Test.YtfkdocmhbmameaaDoorProg
import Derived.Below
import Derived.Deep.Draws
import Derived.Deep.AppendLies
import Derived.Maps.AppendAt
import Derived.OwnWalk
import Derived.Laws.BytesArg
import Derived.Laws.MakeOwn
import Derived.Laws.OwnMore
import Derived.Deep.OwnRows
import Derived.Tactics
import Derived.Lib.ConvBytes
import Derived.Laws.Slices
import Derived.WalkKit
import Derived.KernelRfl
import Derived.RowKit3
import Derived.Deep.LoopGhost
import Derived.Deep.QuietTactic
import Derived.BigQuiet
import Derived.WideLaws
import Derived.Deep.DeepCutAuto
import Derived.Deep.CutBlock
import Derived.Deep.RegionHeld3
import Derived.Laws.Rows
import Derived.Lib.AppendStr
import Derived.ArgAppend
import Derived.Laws.IdiomCopy
import Derived.RowKit
import Derived.OrdersHeld
import Derived.Laws.BitsLemmas
import Derived.Laws.StructEq
import Derived.Laws.CopyOwn
import Derived.SizedLaws
import Derived.ChangeSlices
import Derived.Deep.Slices
import Derived.Lib.SmallJoins
import Derived.Lib.OthersKept
import Derived.Lib.AppendZerosOnto
import Derived.WalkSpells
import Derived.Shelf.Utf8.RuneCount
import Derived.Shelf.Strings.Search1
import Derived.Shelf.Strings.Search2
import Derived.Shelf.Strings.Search3
import Derived.Shelf.Strings.Cut
import Derived.Shelf.Strings.Count
import Derived.Shelf.LaysM
import Derived.Shelf.Strings.Shaped
import Derived.Shelf.Strings.Split
import Derived.Shelf.Strings.SplitShaped
import Derived.Shelf.Unicode.Decode
import Derived.Shelf.Strings.RuneCount
import Derived.Shelf.Strings.Explode
import Derived.Shelf.Unicode.DecodeSlow
import Derived.Shelf.Unicode.DecodeAny
import Derived.Test.YtfkdocmhbmameaaDoorCV1
import Derived.Test.YtfkdocmhbmameaaDoorCV2
import Derived.Test.YtfkdocmhbmameaaDoorCV10
import Derived.Test.YtfkdocmhbmameaaDoorCV12
namespace Go.Proofs.YtfkdocmhbmameaaDoor.Mine
open Go.RowKit Go.Proofs Go.Proofs.YtfkdocmhbmameaaDoorW.PrintWords Go.Proofs.YtfkdocmhbmameaaDoorW.PrintLast Go.Proofs.YtfkdocmhbmameaaDoorW.PrintMore
attribute [local go_sem] max2_int min2_int max_two min_two max_three min_three max_four min_four
set_option linter.unusedVariables false
set_option linter.unusedSimpArgs false
def tbAdd (most size : Int) (l : List S103) (e : S103) : Int × List S103 :=
  if tbSz e ≤ most then (wrap64 ((tbFit (wrap64 (most - tbSz e)) size l).1 + tbSz e), (tbFit (wrap64 (most - tbSz e)) size l).2 ++ [e]) else tbFit (wrap64 (most - tbSz e)) size l
theorem tb_size {e : S103} {S : Int} (hS : tbSz e = S) (w : World) : Calls Tryd.prog 72 #[.agg #[.string e.f0, .string e.f1]] w fun en w' => en = .returned (.int .i64 S) ∧ Below w.heap.size w w' := tb_entry_size.calls e.f0 e.f1 S w (by rw [← hS]; rfl)
theorem tb_keep3 {w w3 w5 : World} {g n : Nat} (h : KeepBut w w3 g none) (hn : w.heap.size ≤ n) (hb : Below n w3 w5) : KeepBut w w5 g none := ⟨Nat.le_trans h.1 hb.size, fun i hi hg hr => (hb.block i (by omega)).trans (h.2 i hi hg hr)⟩
theorem tb_below3 {w w3 w5 : World} {n : Nat} (h : Below w.heap.size w w3) (hn : w.heap.size ≤ n) (hb : Below n w3 w5) : Below w.heap.size w w5 := h.trans ⟨hb.os, hb.tape, hb.output, hb.size, fun k hk => hb.block k (by omega)⟩
theorem tb_undrew {n : Nat} {W w5 : World} (h : Below n W.drew w5) : Below n W w5 := ⟨h.os, h.tape, h.output, h.size, h.block⟩
theorem tbFit_len (top : Int) : ∀ (l : List S103) (z : Int), (tbFit top z l).2.length ≤ l.length
  | [], z => Nat.le_refl _
  | x :: r, z => by
    unfold tbFit
    split
    · exact Nat.le_trans (tbFit_len top r _) (Nat.le_succ _)
    · exact Nat.le_refl _
set_option maxHeartbeats 8000000 in
set_option maxRecDepth 100000 in
theorem tb_add (g : Nat) (most size : Int) (l fx : List S103) (e : S103) (w0 w : World) (hI : IsT w0 w g most size l fx) (hB : Below w0.heap.size w0 w) (hl : l.length < 4398046511103) :
    Calls Tryd.prog 55 #[.pointer (some ⟨g, 0, none⟩), .string e.f0, .string e.f1] w fun en w' => en = .returned (.tuple #[]) ∧ IsT w0 w' g most (tbAdd most size l e).1 (tbAdd most size l e).2 fx ∧ Below w0.heap.size w0 w' ∧ KeepBut w w' g none ∧ w'.cell? ⟨g, 3, none⟩ = w.cell? ⟨g, 3, none⟩ ∧ ∃ v, w'.cell? ⟨g, 2, none⟩ = some v ∧ TyV w' v := by
  have HI := Aside0.mk hI
  have HB := Aside0.mk hB
  have HL := Aside0.mk hl
  have hu_57_ := Tryd.underlying77
  have hu_62_ := Tryd.underlying103
  clear hI hB hl
  obtain ⟨T, hT⟩ : ∃ x, x = tbAdd most size l e := ⟨_, rfl⟩
  rw [← hT]
  have HT := Aside0.mk hT
  clear hT
  obtain ⟨S, hS⟩ : ∃ x, tbSz e = x := ⟨_, rfl⟩
  have HS := Aside0.mk hS
  unfold tbAdd at HT
  rw [hS] at HT
  clear hS
  go_enter Tryd.func55, Tryd.ntmps55
  go_upto_region 1 with fail
  have BE := Aside0.mk (blk_new w (.cells #[.string e.f0, .string e.f1] 103))
  have HD := Aside0.mk (below_alloc (Below.refl w.heap.size w) (.cells #[.string e.f0, .string e.f1] 103))
  have HE : w.heap.size ≤ w.heap.size := Nat.le_refl _
  have HG : g < w.heap.size := HI.out.lt
  have HI1 := Aside0.mk (HI.out.below HD.out)
  have HB1 := Aside0.mk (below_then HB.out (below_size HB.out) HD.out)
  clear HI HB
  generalize w.alloc (.cells #[.string e.f0, .string e.f1] 103) = wA at BE HD HI1 HB1 ⊢
  obtain ⟨ge, hge⟩ : ∃ x, w.heap.size = x := ⟨_, rfl⟩
  rw [hge] at BE ⊢
  have HGE : w.heap.size ≤ ge := by omega
  clear HE hge
  have y0 : wA.cell? ⟨ge, 0, none⟩ = some (.string e.f0) := (blk_cell BE.out 0).trans rfl
  have y1 : wA.cell? ⟨ge, 1, none⟩ = some (.string e.f1) := (blk_cell BE.out 1).trans rfl
  go_upto_region 2 with (first | (go_at_call 72; (with_reducible refine (tb_size HS.out _).mono ?_); rintro en w1 ⟨rfl, hb⟩; have HD1 := Aside0.mk (below_step HD.out hb); have HI2 := Aside0.mk (HI1.out.below hb); have HB2 := Aside0.mk (below_then HB1.out (below_size HB1.out) hb); have BE2 := Aside0.mk (blk_below BE.out hb); clear hb HI1 HB1 BE HD y0 y1) | (go_at_call 57; (with_reducible refine (tb_fit g most size S l fx w0 _ HI2.out HB2.out (by have := HL.out; omega)).mono ?_); rintro en w2 ⟨rfl, hi, hb, hk, h3, v, hv, hr⟩; have HI3 := Aside0.mk hi; have HB3 := Aside0.mk hb; have HK3 := Aside0.mk hk; have HV := Aside0.mk hv; have HR := Aside0.mk hr; have H3 := Aside0.mk h3; clear hi hb hk h3 hv hr))
  have BE3 := Aside0.mk (show w2.heap[ge]? = some (.cells #[.string e.f0, .string e.f1] 103 (0, 0)) from (HK3.out.2 ge (blk_lt BE2.out) (by omega) (by simp)).trans BE2.out)
  obtain ⟨r, hr⟩ : ∃ x, x = tbFit (wrap64 (most - S)) size l := ⟨_, rfl⟩
  rw [← hr] at HI3 HR
  have hr2 := Aside0.mk hr
  clear hr
  obtain ⟨A, c, B, d, k1, k2, k3, k4, k5, k6⟩ := HI3.out
  have z0 : w2.cell? ⟨g, 0, none⟩ = some (.int .i64 most) := (blk_cell k1 0).trans rfl
  have y0 : w2.cell? ⟨ge, 0, none⟩ = some (.string e.f0) := (blk_cell BE3.out 0).trans rfl
  have y1 : w2.cell? ⟨ge, 1, none⟩ = some (.string e.f1) := (blk_cell BE3.out 1).trans rfl
  go_region_with (first | (go_at_call 72; (with_reducible refine (tb_size HS.out _).mono ?_); rintro en w3 ⟨rfl, hb⟩; have HD4 := Aside0.mk (below_step (below_drew1 (Below.refl w2.heap.size w2)) hb); clear hb; have z0' := (blk_cell (blk_below k1 HD4.out) 0).trans rfl))
  all_goals
    have HI4 := Aside0.mk (HI3.out.below HD4.out)
    have HB4 := Aside0.mk (below_then HB3.out (below_size HB3.out) HD4.out)
    have HK4 := Aside0.mk (tb_keep HK3.out HD4.out)
    have HR4 := Aside0.mk (Kd.R_below HR.out HD4.out)
    have HV4 := Aside0.mk (show w3.cell? ⟨g, 2, none⟩ = some v from (HD4.out.cell (World.block_lt_of_cell? _ _ HV.out)).trans HV.out)
    have BE4 := Aside0.mk (blk_below BE3.out HD4.out)
    have GE1 := Aside0.mk (blk_lt BE2.out)
    have H34 := Aside0.mk (show w3.cell? ⟨g, 3, none⟩ = w.cell? ⟨g, 3, none⟩ from (HD4.out.cell (blk_lt k1)).trans (H3.out.trans (HD1.out.cell HG)))
    clear HI3 HB3 HR HV BE3 k1 k2 k3 k4 k5 k6 z0 y0 y1 z0' HB2
    by_cases hle : S ≤ most
    · have q1 : decide (S ≤ most) = true := decide_eq_true hle
      go_wp2
      obtain ⟨A, c, B, d, k1, k2, k3, k4, k5, k6⟩ := HI4.out
      have z2 : w3.cell? ⟨g, 2, none⟩ = some (.slice A r.2.length c) := (blk_cell k1 2).trans rfl
      obtain rfl : v = .slice A r.2.length c := Option.some.inj (HV4.out.symm.trans z2)
      have z2a : (w3.alloc (.cells #[.string e.f0, .string e.f1] 103)).cell? ⟨g, 2, none⟩ = some (.slice A r.2.length c) := (blk_cell (blk_below k1 (below_alloc (Below.refl _ _) _)) 2).trans rfl
      have y0 : w3.cell? ⟨ge, 0, none⟩ = some (.string e.f0) := (blk_cell BE4.out 0).trans rfl
      have y1 : w3.cell? ⟨ge, 1, none⟩ = some (.string e.f1) := (blk_cell BE4.out 1).trans rfl
      have hne := Aside0.mk (Kd.R_ne HR4.out k1 (by decide))
      have K1 := Aside0.mk k1
      have hl9 := Aside0.mk (show r.2.length ≤ l.length by rw [hr2.out]; exact tbFit_len _ _ _)
      obtain ⟨L, hL⟩ : ∃ L, r.2 ++ [e] = L := ⟨_, rfl⟩
      have hL := Aside0.mk hL
      clear k1 k2 k3 k4 k5 k6
      go_region_law (refine Kd.R_append_step k103 (w0 := w3.drew) (W := w3.drew) w1.heap.size (by rfl) (.tmp 25) (.tmp 27) 75 103 (.agg #[.string ⟨#[]⟩, .string ⟨#[]⟩]) 32 rfl Tryd.underlying75 tb_infoE rfl (by decide) (by omega) (.slice A r.2.length c) r.2 e [.string e.f0, .string e.f1] (fun _ => True) (fun _ => False) rfl rfl (k103_mkM _ _ _ _) (fun _ hk => hk.elim) (fun _ _ => trivial) (Kd.R_below HR4.out (below_drew1 (Below.refl _ _))) (Below.refl _ _) (show w1.heap.size ≤ w3.heap.size from HK4.out.1) (by have := hl9.out; have := HL.out; omega) ?_; intro v5 w5 ho hb hg hat; rw [hL.out] at ho; obtain ⟨A5, c5, rfl⟩ := Kd.R_slice ho; have HO5 := Aside0.mk ho; have HB5 := Aside0.mk hb; have K5 := Aside0.mk (blk_grown (w := w3.drew) K1.out hg hne.out); clear ho hb hg hat; have z2' := (blk_cell K5.out 2).trans rfl; have f2' := blk_frozen K5.out 2)
      all_goals
        have HI5 := Aside0.mk (show IsT w0 (w5.setCell ⟨g, 2, none⟩ (.slice A5 L.length c5)) g most r.1 L fx by
          have hR := Kd.R_reads' HO5.out
          obtain ⟨A8, c8, B8, d8, k1, k2, k3, k4, k5, k6⟩ := HI2.out
          have e1 : w3.cell? ⟨g, 3, none⟩ = w2.cell? ⟨g, 3, none⟩ := HD4.out.cell (Nat.lt_of_lt_of_le (blk_lt k1) HK3.out.1)
          have e2 : some (Value.slice B fx.length d) = some (Value.slice B8 fx.length d8) := ((blk_cell K1.out 3).symm.trans e1).trans (H3.out.trans (blk_cell k1 3))
          obtain ⟨rfl, rfl⟩ : B = B8 ∧ d = d8 := by
            injection e2 with e2
            injection e2 with a1 a2 a3
            exact ⟨a1, a3⟩
          have k6' : Kd.C k103 w5 B fx.length fx := tb_keepC k6 k1 (fun i hi hn => (HB5.out.block i hi).trans (HK4.out.2 i hi hn (by simp)))
          exact ⟨A5, c5, B, d, blk_put K5.out 2 _ rfl, k2, hR.2.1, k4, tb_keepC hR.2.2 K5.out (tb_setk _ _ _ _), tb_keepC k6' K5.out (tb_setk _ _ _ _)⟩)
        have H35 := Aside0.mk (show (w5.setCell ⟨g, 2, none⟩ (.slice A5 L.length c5)).cell? ⟨g, 3, none⟩ = w.cell? ⟨g, 3, none⟩ from ((blk_cell (blk_put K5.out 2 (.slice A5 L.length c5) rfl) 3).trans (blk_cell K1.out 3).symm).trans H34.out)
        have H25 := Aside0.mk (show (w5.setCell ⟨g, 2, none⟩ (.slice A5 L.length c5)).cell? ⟨g, 2, none⟩ = some (.slice A5 L.length c5) from (blk_cell (blk_put K5.out 2 (.slice A5 L.length c5) rfl) 2).trans rfl)
        have HT5 := Aside0.mk (TyV.set (TyV.ofR HO5.out) ⟨g, 2, none⟩ (.slice A5 L.length c5))
        have HG0 := IsT.ge HI4.out
        have HS1 := HD1.out.size
        have HB6 := Aside0.mk (below_set (g := g) (j := 2) (v := .slice A5 L.length c5) (tb_below3 HB4.out (Nat.le_trans HG0 (by omega)) (tb_undrew HB5.out)) HG0)
        have HK6 := Aside0.mk (tb_keeps (j := 2) (v := .slice A5 L.length c5) (tb_keep3 (tb_keep2 (KeepBut.of_below HD1.out g none) HK4.out) HS1 (tb_undrew HB5.out)))
        have BE6 := Aside0.mk (blk_far (p := ⟨g, 2, none⟩) ((HB5.out.block ge GE1.out).trans BE4.out) (by show ge ≠ g; omega) (.slice A5 L.length c5))
        clear HI4 HB4 HK4 HR4 BE4 HO5 HB5 K5 K1 HV4 z2' f2' z2 z2a y0 y1
        generalize w5.setCell ⟨g, 2, none⟩ (.slice A5 L.length c5) = w6 at HI5 HB6 HK6 BE6 H35 H25 HT5 ⊢
        go_wp2
        obtain ⟨A6, c6, B6, d6, k1, k2, k3, k4, k5, k6⟩ := HI5.out
        have z1 : w6.cell? ⟨g, 1, none⟩ = some (.int .i64 r.1) := (blk_cell k1 1).trans rfl
        have y0 : w6.cell? ⟨ge, 0, none⟩ = some (.string e.f0) := (blk_cell BE6.out 0).trans rfl
        have y1 : w6.cell? ⟨ge, 1, none⟩ = some (.string e.f1) := (blk_cell BE6.out 1).trans rfl
        go_region_with (first | (go_at_call 72; (with_reducible refine (tb_size HS.out _).mono ?_); rintro en w7 ⟨rfl, hb⟩; have HD7 := Aside0.mk (below_step (below_drew1 (Below.refl w6.heap.size w6)) hb); clear hb; have z1' := (blk_cell (blk_below k1 HD7.out) 1).trans rfl; have f1' := blk_frozen (blk_below k1 HD7.out) 1))
        all_goals
          go_wp2
          go_end0
          refine ⟨rfl, ?_, below_set (below_then HB6.out (below_size HB6.out) HD7.out) HG0, tb_keeps (tb_keep HK6.out HD7.out), (blk_cell (blk_put (blk_below k1 HD7.out) 1 _ rfl) 3).trans ((blk_cell k1 3).symm.trans H35.out), .slice A5 L.length c5, (blk_cell (blk_put (blk_below k1 HD7.out) 1 _ rfl) 2).trans ((blk_cell k1 2).symm.trans H25.out), TyV.set (TyV.below HT5.out HD7.out) _ _⟩
          rw [HT.out, if_pos (by omega), ← hr2.out, hL.out]
          have h9 := (HI5.out.below HD7.out).set1 (wrap64 (r.1 + S))
          rw [IntKind.wrap_i64]
          simp only [wrap64] at h9 ⊢
          exact h9
    · have HLE := Aside0.mk hle
      have q1 : decide (S ≤ most) = false := decide_eq_false hle
      go_wp2
      go_end0
      exact ⟨rfl, by rw [HT.out, if_neg (by have := HLE.out; omega), ← hr2.out]; exact HI4.out, HB4.out, tb_keep2 (KeepBut.of_below HD1.out g none) HK4.out, H34.out, v, HV4.out, TyV.ofR HR4.out⟩
end Go.Proofs.YtfkdocmhbmameaaDoor.Mine
