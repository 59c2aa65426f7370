/- The walks and the plain laws that the rows come to: merged out of this repo's texts. -/
import Derived.Test.YtfkdocmhbmameaaDoorProg
import Derived.Below
import Derived.Deep.Draws
import Derived.Deep.AppendLies
import Derived.Maps.AppendAt
import Derived.OwnWalk
import Derived.Laws.BytesArg
import Derived.Laws.MakeOwn
import Derived.Laws.OwnMore
import Derived.Deep.OwnRows
import Derived.Tactics
import Derived.Lib.ConvBytes
import Derived.Laws.Slices
import Derived.WalkKit
import Derived.KernelRfl
import Derived.RowKit3
import Derived.Deep.LoopGhost
import Derived.Deep.QuietTactic
import Derived.BigQuiet
import Derived.WideLaws
import Derived.Deep.DeepCutAuto
import Derived.Deep.CutBlock
import Derived.Deep.RegionHeld3
import Derived.Laws.Rows
import Derived.Lib.AppendStr
import Derived.ArgAppend
import Derived.Laws.IdiomCopy
import Derived.RowKit
import Derived.OrdersHeld
import Derived.Laws.BitsLemmas
import Derived.Laws.StructEq
import Derived.Laws.CopyOwn
import Derived.SizedLaws
import Derived.ChangeSlices
import Derived.Deep.Slices
import Derived.Lib.SmallJoins
import Derived.Lib.OthersKept
import Derived.Lib.AppendZerosOnto
import Derived.WalkSpells
import Derived.Shelf.Utf8.RuneCount
import Derived.Shelf.Strings.Search1
import Derived.Shelf.Strings.Search2
import Derived.Shelf.Strings.Search3
import Derived.Shelf.Strings.Cut
import Derived.Shelf.Strings.Count
import Derived.Shelf.LaysM
import Derived.Shelf.Strings.Shaped
import Derived.Shelf.Strings.Split
import Derived.Shelf.Strings.SplitShaped
import Derived.Shelf.Unicode.Decode
import Derived.Shelf.Strings.RuneCount
import Derived.Shelf.Strings.Explode
import Derived.Shelf.Unicode.DecodeSlow
import Derived.Shelf.Unicode.DecodeAny
import Derived.Test.YtfkdocmhbmameaaDoorCV1
import Derived.Test.YtfkdocmhbmameaaDoorCV2
import Derived.Test.YtfkdocmhbmameaaDoorCV10
namespace Go.Proofs.YtfkdocmhbmameaaDoor.Mine
open Go.RowKit Go.Proofs Go.Proofs.YtfkdocmhbmameaaDoorW.PrintWords Go.Proofs.YtfkdocmhbmameaaDoorW.PrintLast Go.Proofs.YtfkdocmhbmameaaDoorW.PrintMore
attribute [local go_sem] max2_int min2_int max_two min_two max_three min_three max_four min_four
set_option linter.unusedVariables false
set_option linter.unusedSimpArgs false
def tbSz (x : S103) : Int := wrap64 ((wrap64 ((x.f0.size : Int) + (x.f1.size : Int))) + 32)
def tbFit (top : Int) : Int → List S103 → Int × List S103
  | z, [] => (z, [])
  | z, x :: r => if z > top then tbFit top (wrap64 (z - tbSz x)) r else (z, x :: r)
theorem tb_keep {w W w1 : World} {g : Nat} (h : KeepBut w W g none) (hb : Below W.heap.size W w1) : KeepBut w w1 g none := ⟨Nat.le_trans h.1 hb.size, fun i hi hg hr => (hb.block i (Nat.lt_of_lt_of_le hi h.1)).trans (h.2 i hi hg hr)⟩
theorem tb_keep2 {w W w1 : World} {g : Nat} (h : KeepBut w W g none) (h2 : KeepBut W w1 g none) : KeepBut w w1 g none := ⟨Nat.le_trans h.1 h2.1, fun i hi hg hr => (h2.2 i (Nat.lt_of_lt_of_le hi h.1) hg hr).trans (h.2 i hi hg hr)⟩
theorem tb_keeps {w W : World} {g j : Nat} {v : Value} (h : KeepBut w W g none) : KeepBut w (W.setCell ⟨g, j, none⟩ v) g none := ⟨by simpa [World.setCell] using h.1, fun i hi hg hr => (Below.heap_setCell W ⟨g, j, none⟩ v i hg).trans (h.2 i hi hg hr)⟩
theorem tb_wrap (n : Int) (h : -9223372036854775808 ≤ n) (h2 : n ≤ 9223372036854775807) : wrap64 n = n := by unfold wrap64; omega
theorem tb_R2 {w wr w1 : World} {g : Nat} {v : Value} {l : List S103} {m s : Int} {P1 P2 : Option Addr} {n1 n2 c1 c2 : Nat} (h : Kd.R k103 103 w1 wr.heap.size (fun _ => True) v l) (hs : w.heap.size ≤ wr.heap.size) (hg : w1.heap[g]? = some (.cells #[.int .i64 m, .int .i64 s, .slice P1 n1 c1, .slice P2 n2 c2] 77 (0, 0))) {j : Nat} {u : Value} : Kd.R k103 103 (w1.setCell ⟨g, j, none⟩ u) w.heap.size (fun _ => True) v l :=
  Kd.R_lower (Kd.R_mono (Kd.R_far (p := ⟨g, j, none⟩) (Kd.R_types h hg (by decide)) (fun _ hk => hk.2) u) (fun _ _ => trivial)) hs
set_option maxHeartbeats 2000000 in
set_option maxRecDepth 100000 in
theorem tb_fit (g : Nat) (most size room : Int) (l fx : List S103) (w0 w : World) (hI : IsT w0 w g most size l fx) (hB : Below w0.heap.size w0 w) (hl : l.length < 4398046511104) :
    Calls Tryd.prog 57 #[.pointer (some ⟨g, 0, none⟩), .int .i64 room] w fun e w' => e = .returned (.tuple #[]) ∧ IsT w0 w' g most (tbFit (wrap64 (most - room)) size l).1 (tbFit (wrap64 (most - room)) size l).2 fx ∧ Below w0.heap.size w0 w' ∧ KeepBut w w' g none ∧ w'.cell? ⟨g, 3, none⟩ = w.cell? ⟨g, 3, none⟩ ∧ ∃ v, w'.cell? ⟨g, 2, none⟩ = some v ∧ Kd.R k103 103 w' w.heap.size (fun _ => True) v (tbFit (wrap64 (most - room)) size l).2 := by
  have HI := Aside0.mk hI
  have HB := Aside0.mk hB
  have HK := Aside0.mk (KeepBut.refl w g none)
  have HL := Aside0.mk hl
  have hu_57_ := Tryd.underlying77
  have hu_62_ := Tryd.underlying103
  clear hI hB hl
  obtain ⟨T, hT⟩ : ∃ x, x = tbFit (wrap64 (most - room)) size l := ⟨_, rfl⟩
  rw [← hT]
  have HT := Aside0.mk hT
  clear hT
  go_enter Tryd.func57, Tryd.ntmps57
  go_wp2_with fail
  go_loopw [4] (fun v4 wr => ∃ (j : Nat) (z : Int), j ≤ l.length ∧ v4 = .int .i64 j ∧ Aside0 (tbFit (wrap64 (most - room)) z (l.drop j) = T) ∧ Aside0 (IsT w0 wr g most z l fx) ∧ Aside0 (Below w0.heap.size w0 wr) ∧ Aside0 (KeepBut w wr g none) ∧ Aside0 (wr.cell? ⟨g, 3, none⟩ = w.cell? ⟨g, 3, none⟩)) (fun v4 _ => l.length - (intOf v4).toNat)
  case atStart => exact ⟨0, size, by omega, rfl, ⟨by rw [List.drop_zero]; exact HT.out.symm⟩, HI, HB, HK, ⟨rfl⟩⟩
  case round =>
    clear HI HB HK HT
    obtain ⟨j, z, hj, rfl, HT, HI, HB, HK, H3⟩ := hrel
    obtain ⟨A, c, B, d, hI1, hI2, hI3, hI4, hI5, hI6⟩ := HI.out
    have BG := Aside0.mk hI1
    have LC := Aside0.mk hI3
    have RL := Aside0.mk hI5
    clear hI1 hI2 hI3 hI4 hI5 hI6
    have z0 : wr.cell? ⟨g, 0, none⟩ = some (.int .i64 most) := (blk_cell BG.out 0).trans rfl
    have z1 : wr.cell? ⟨g, 1, none⟩ = some (.int .i64 z) := (blk_cell BG.out 1).trans rfl
    have z2 : wr.cell? ⟨g, 2, none⟩ = some (.slice A l.length c) := (blk_cell BG.out 2).trans rfl
    have f1 := blk_frozen BG.out 1
    have f2 := blk_frozen BG.out 2
    have i0 : (0 : Int) ≤ j := by omega
    by_cases hlt : j < l.length
    · have hw : wrap64 ((j : Int) + 1) = ((j + 1 : Nat) : Int) := by have := HL.out; rw [tb_wrap _ (by omega) (by omega)]; omega
      have hd : l.drop j = l[j] :: l.drop (j + 1) := List.drop_eq_getElem_cons hlt
      have h1 := HT.out
      rw [hd, tbFit] at h1
      have q1 : decide ((j : Int) < (l.length : Int)) = true := decide_eq_true (by omega)
      have q2 : decide (j < l.length) = true := decide_eq_true hlt
      by_cases hz : z > wrap64 (most - room)
      · rw [if_pos hz] at h1
        have H1 := Aside0.mk h1
        clear h1 hd HT
        have q3 : decide (wrap64 (most - room) < z) = true := decide_eq_true hz
        go_wp2
        go_quiet (fail)
        go_wp2
        obtain ⟨ad, rfl, x0_, x1_⟩ := at_T103 RL.out (j : Int) (by omega) (by omega)
        have hrd : rd_T103 l (j : Int) = l[j] := by simp [rd_T103, List.getD_eq_getElem?_getD, List.getElem?_eq_getElem hlt]
        rw [hrd, Int.toNat_natCast] at x0_ x1_
        obtain ⟨xx, hxx⟩ : ∃ x, l[j] = x := ⟨_, rfl⟩
        rw [hxx] at x0_ x1_ H1
        go_region_with (first | (go_at_call 72; (with_reducible refine (tb_entry_size.calls xx.f0 xx.f1 _ _ rfl).mono ?_); rintro e w1 ⟨rfl, hb⟩; have HD := Aside0.mk (below_step (below_drew1 (pw_below_drewN (Below.refl wr.heap.size wr) nq)) hb); have HJ := Aside0.mk (HI.out.below HD.out); clear hb; have z1' := (blk_cell (blk_below BG.out HD.out) 1).trans rfl; have f1' := blk_frozen (blk_below BG.out HD.out) 1))
        all_goals
          have HI2 := Aside0.mk (HJ.out.set1 (wrap64 (z - wrap64 (wrap64 ((xx.f0.size : Int) + (xx.f1.size : Int)) + 32))))
          have HB2 := Aside0.mk (below_set (g := g) (j := 1) (v := .int .i64 (wrap64 (z - wrap64 (wrap64 ((xx.f0.size : Int) + (xx.f1.size : Int)) + 32)))) (below_then HB.out (below_size HB.out) HD.out) (IsT.ge HI.out))
          have HK2 := Aside0.mk (tb_keeps (j := 1) (v := .int .i64 (wrap64 (z - wrap64 (wrap64 ((xx.f0.size : Int) + (xx.f1.size : Int)) + 32)))) (tb_keep HK.out HD.out))
          have H32 := Aside0.mk (((blk_cell (blk_put (blk_below BG.out HD.out) 1 (.int .i64 (wrap64 (z - wrap64 (wrap64 ((xx.f0.size : Int) + (xx.f1.size : Int)) + 32)))) rfl) 3).trans (blk_cell BG.out 3).symm).trans H3.out)
          clear HI HB HK HJ HD H3
          go_wp2
          go_roundw
          case rel => exact ⟨j + 1, _, hlt, by rw [hw], H1, HI2, HB2, HK2, H32⟩
          case measure => rw [hw]; simp [intOf]; omega
      · rw [if_neg hz] at h1
        have q3 : decide (wrap64 (most - room) < z) = false := decide_eq_false hz
        have HT2 := Aside0.mk (show T = (z, l.drop j) by rw [← h1, hd])
        clear h1 hd HT
        have hjc : j ≤ c := by have := LC.out; omega
        have HD := Aside0.mk (Kd.C_drop (m := j) (c := c) RL.out hj LC.out)
        go_wp2
        go_quiet (fail)
        by_cases hcj : c = j
        · rw [if_pos hcj] at HD
          go_wp2_with (first | (go_at_call 56; rw [show l.length - j = (l.drop j).length from List.length_drop.symm]; refine (tb_Clone.calls (A) (0) (l.drop j) (l.drop j) _ (Kd.C_below HD.out (pw_below_drewN (Below.refl wr.heap.size wr) nq)) (by rw [List.length_drop]; have := LC.out; omega) (by unfold tb_Clone.f; rw [if_pos (by rw [List.length_drop]; have := HL.out; omega)])).mono ?_; rintro e w1 ⟨v, rfl, ho, hb⟩; obtain ⟨A9, c9, rfl⟩ := Kd.R_slice ho; have HO := Aside0.mk ho; have HD9 := Aside0.mk (below_step (pw_below_drewN (Below.refl wr.heap.size wr) nq) hb); clear ho hb; have HJ := Aside0.mk (HI.out.below HD9.out); have f2' := blk_frozen (blk_below BG.out HD9.out) 2; have z2' := (blk_cell (blk_below BG.out HD9.out) 2).trans rfl))
          go_end0
          obtain rfl := HT2.out
          obtain ⟨A8, c8, B8, d8, k1, k2, k3, k4, k5, k6⟩ := HJ.out
          have hR := Kd.R_reads' HO.out
          rw [show l.length - j = (l.drop j).length from List.length_drop.symm]
          refine ⟨rfl, HJ.out.set2 hR.2.1 hR.2.2, below_set (below_then HB.out (below_size HB.out) HD9.out) (IsT.ge HI.out), tb_keeps (tb_keep HK.out HD9.out), ((blk_cell (blk_put (blk_below BG.out HD9.out) 2 (.slice A9 (l.drop j).length c9) rfl) 3).trans (blk_cell BG.out 3).symm).trans H3.out, .slice A9 (l.drop j).length c9, (blk_cell (blk_set k1 2 _) 2).trans rfl, ?_⟩
          exact tb_R2 (HO.out) HK.out.1 k1
        · rw [if_neg hcj] at HD
          go_wp2_with (first | (go_at_call 56; rw [show l.length - j = (l.drop j).length from List.length_drop.symm]; refine (tb_Clone.calls (A.map (fun x => x.add (j * 2))) (c - j) (l.drop j) (l.drop j) _ (Kd.C_below HD.out (pw_below_drewN (Below.refl wr.heap.size wr) nq)) (by rw [List.length_drop]; have := LC.out; omega) (by unfold tb_Clone.f; rw [if_pos (by rw [List.length_drop]; have := HL.out; omega)])).mono ?_; rintro e w1 ⟨v, rfl, ho, hb⟩; obtain ⟨A9, c9, rfl⟩ := Kd.R_slice ho; have HO := Aside0.mk ho; have HD9 := Aside0.mk (below_step (pw_below_drewN (Below.refl wr.heap.size wr) nq) hb); clear ho hb; have HJ := Aside0.mk (HI.out.below HD9.out); have f2' := blk_frozen (blk_below BG.out HD9.out) 2; have z2' := (blk_cell (blk_below BG.out HD9.out) 2).trans rfl))
          go_end0
          obtain rfl := HT2.out
          obtain ⟨A8, c8, B8, d8, k1, k2, k3, k4, k5, k6⟩ := HJ.out
          have hR := Kd.R_reads' HO.out
          rw [show l.length - j = (l.drop j).length from List.length_drop.symm]
          refine ⟨rfl, HJ.out.set2 hR.2.1 hR.2.2, below_set (below_then HB.out (below_size HB.out) HD9.out) (IsT.ge HI.out), tb_keeps (tb_keep HK.out HD9.out), ((blk_cell (blk_put (blk_below BG.out HD9.out) 2 (.slice A9 (l.drop j).length c9) rfl) 3).trans (blk_cell BG.out 3).symm).trans H3.out, .slice A9 (l.drop j).length c9, (blk_cell (blk_set k1 2 _) 2).trans rfl, ?_⟩
          exact tb_R2 (HO.out) HK.out.1 k1
    · have q1 : decide ((j : Int) < (l.length : Int)) = false := decide_eq_false (by omega)
      have q2 : decide (j < l.length) = false := decide_eq_false hlt
      have HT2 := Aside0.mk (show T = (z, l.drop j) by rw [← HT.out, List.drop_of_length_le (by omega)]; rfl)
      have hjc : j ≤ c := by have := LC.out; omega
      have HD := Aside0.mk (Kd.C_drop (m := j) (c := c) RL.out hj LC.out)
      go_wp2
      go_quiet (fail)
      by_cases hcj : c = j
      · rw [if_pos hcj] at HD
        go_wp2_with (first | (go_at_call 56; rw [show l.length - j = (l.drop j).length from List.length_drop.symm]; refine (tb_Clone.calls (A) (0) (l.drop j) (l.drop j) _ (Kd.C_below HD.out (pw_below_drewN (Below.refl wr.heap.size wr) nq)) (by rw [List.length_drop]; have := LC.out; omega) (by unfold tb_Clone.f; rw [if_pos (by rw [List.length_drop]; have := HL.out; omega)])).mono ?_; rintro e w1 ⟨v, rfl, ho, hb⟩; obtain ⟨A9, c9, rfl⟩ := Kd.R_slice ho; have HO := Aside0.mk ho; have HD9 := Aside0.mk (below_step (pw_below_drewN (Below.refl wr.heap.size wr) nq) hb); clear ho hb; have HJ := Aside0.mk (HI.out.below HD9.out); have f2' := blk_frozen (blk_below BG.out HD9.out) 2; have z2' := (blk_cell (blk_below BG.out HD9.out) 2).trans rfl))
        go_end0
        obtain rfl := HT2.out
        obtain ⟨A8, c8, B8, d8, k1, k2, k3, k4, k5, k6⟩ := HJ.out
        have hR := Kd.R_reads' HO.out
        rw [show l.length - j = (l.drop j).length from List.length_drop.symm]
        refine ⟨rfl, HJ.out.set2 hR.2.1 hR.2.2, below_set (below_then HB.out (below_size HB.out) HD9.out) (IsT.ge HI.out), tb_keeps (tb_keep HK.out HD9.out), ((blk_cell (blk_put (blk_below BG.out HD9.out) 2 (.slice A9 (l.drop j).length c9) rfl) 3).trans (blk_cell BG.out 3).symm).trans H3.out, .slice A9 (l.drop j).length c9, (blk_cell (blk_set k1 2 _) 2).trans rfl, ?_⟩
        exact tb_R2 (HO.out) HK.out.1 k1
      · rw [if_neg hcj] at HD
        go_wp2_with (first | (go_at_call 56; rw [show l.length - j = (l.drop j).length from List.length_drop.symm]; refine (tb_Clone.calls (A.map (fun x => x.add (j * 2))) (c - j) (l.drop j) (l.drop j) _ (Kd.C_below HD.out (pw_below_drewN (Below.refl wr.heap.size wr) nq)) (by rw [List.length_drop]; have := LC.out; omega) (by unfold tb_Clone.f; rw [if_pos (by rw [List.length_drop]; have := HL.out; omega)])).mono ?_; rintro e w1 ⟨v, rfl, ho, hb⟩; obtain ⟨A9, c9, rfl⟩ := Kd.R_slice ho; have HO := Aside0.mk ho; have HD9 := Aside0.mk (below_step (pw_below_drewN (Below.refl wr.heap.size wr) nq) hb); clear ho hb; have HJ := Aside0.mk (HI.out.below HD9.out); have f2' := blk_frozen (blk_below BG.out HD9.out) 2; have z2' := (blk_cell (blk_below BG.out HD9.out) 2).trans rfl))
        go_end0
        obtain rfl := HT2.out
        obtain ⟨A8, c8, B8, d8, k1, k2, k3, k4, k5, k6⟩ := HJ.out
        have hR := Kd.R_reads' HO.out
        rw [show l.length - j = (l.drop j).length from List.length_drop.symm]
        refine ⟨rfl, HJ.out.set2 hR.2.1 hR.2.2, below_set (below_then HB.out (below_size HB.out) HD9.out) (IsT.ge HI.out), tb_keeps (tb_keep HK.out HD9.out), ((blk_cell (blk_put (blk_below BG.out HD9.out) 2 (.slice A9 (l.drop j).length c9) rfl) 3).trans (blk_cell BG.out 3).symm).trans H3.out, .slice A9 (l.drop j).length c9, (blk_cell (blk_set k1 2 _) 2).trans rfl, ?_⟩
        exact tb_R2 (HO.out) HK.out.1 k1
end Go.Proofs.YtfkdocmhbmameaaDoor.Mine
namespace Go.Proofs.YtfkdocmhbmameaaDoor.Mine
open Go.RowKit Go.Proofs Go.Proofs.YtfkdocmhbmameaaDoorW.PrintWords Go.Proofs.YtfkdocmhbmameaaDoorW.PrintLast Go.Proofs.YtfkdocmhbmameaaDoorW.PrintMore
attribute [local go_sem] max2_int min2_int max_two min_two max_three min_three max_four min_four
set_option linter.unusedVariables false
set_option linter.unusedSimpArgs false
structure TB where
  most : Int
  size : Int
  l : List S103
  fx : List S103
def IsS77 (w0 W : World) (g : Nat) (t : TB) : Prop := IsT w0 W g t.most t.size t.l t.fx ∧ (∀ v, W.cell? ⟨g, 2, none⟩ = some v → TyV W v) ∧ (∀ v, W.cell? ⟨g, 3, none⟩ = some v → TyV W v)
section
variable {w0 W W1 : World} {g : Nat} {t : TB}
theorem IsS77.lt (h : IsS77 w0 W g t) : g < W.heap.size := h.1.lt
theorem IsS77.ge (h : IsS77 w0 W g t) : w0.heap.size ≤ g := h.1.ge
theorem IsS77.ty (h : IsS77 w0 W g t) : TyOf W g 77 := by
  obtain ⟨A, c, B, d, k1, _⟩ := h.1
  exact ⟨_, k1⟩
theorem IsS77.blk (h : IsS77 w0 W g t) : ∃ cs, W.heap[g]? = some (.cells cs 77 (0, 0)) := h.ty
theorem tb_moveC {A : Option Addr} {n : Nat} {xs : List S103} (h : Kd.C k103 W A n xs) (hn : n = xs.length) (ht : ∀ ad, A = some ad → 0 < n → W1.heap[ad.block]? = W.heap[ad.block]?) : Kd.C k103 W1 A n xs := by
  obtain ⟨h1, h2, h3⟩ := h
  refine ⟨h1, h2, fun h0 => ?_⟩
  obtain ⟨ad, e, hc⟩ := h3 h0
  refine ⟨ad, e, fun j p hj => ?_⟩
  obtain ⟨c, l1, l2, l3⟩ := hc j p hj
  have lo := k103_open l2
  subst lo
  refine ⟨_, l1, k103_mk _ _, fun i u hu => ?_⟩
  have hx := l3 i u hu
  have hb : W1.heap[(ad.add (j * k103.sz + i)).block]? = W.heap[(ad.add (j * k103.sz + i)).block]? := by
    rw [add_block]
    refine ht ad e ?_
    rcases Nat.lt_or_ge j xs.length with hl | hl
    · omega
    · rw [List.getElem?_eq_none hl] at hj
      exact absurd hj (by simp)
  exact (World.cell?_of_block hb).trans hx
theorem IsS77.step (h : IsS77 w0 W g t) (hk : ∀ i, i < W.heap.size → i = g ∨ TyOf W i 103 → W1.heap[i]? = W.heap[i]?) : IsS77 w0 W1 g t := by
  obtain ⟨hI, h2, h3⟩ := h
  obtain ⟨A, c, B, d, k1, k2, k3, k4, k5, k6⟩ := hI
  have hg : W1.heap[g]? = W.heap[g]? := hk g (blk_lt k1) (.inl rfl)
  have t2 : TyV W (.slice A t.l.length c) := h2 _ ((blk_cell k1 2).trans rfl)
  have t3 : TyV W (.slice B t.fx.length d) := h3 _ ((blk_cell k1 3).trans rfl)
  have m2 : ∀ ad, A = some ad → 0 < t.l.length → W1.heap[ad.block]? = W.heap[ad.block]? := fun ad e hn => by
    have := t2 ad _ c (by rw [e]) hn
    exact hk _ this.lt (.inr this)
  have m3 : ∀ ad, B = some ad → 0 < t.fx.length → W1.heap[ad.block]? = W.heap[ad.block]? := fun ad e hn => by
    have := t3 ad _ d (by rw [e]) hn
    exact hk _ this.lt (.inr this)
  have k1' := hg.trans k1
  refine ⟨⟨A, c, B, d, k1', k2, k3, k4, tb_moveC k5 rfl m2, tb_moveC k6 rfl m3⟩, fun v hv => ?_, fun v hv => ?_⟩
  · obtain rfl := Option.some.inj ((show W1.cell? ⟨g, 2, none⟩ = some (.slice A t.l.length c) from (blk_cell k1' 2).trans rfl).symm.trans hv)
    intro ad n c' e hn
    have := t2 ad n c' e hn
    obtain ⟨cs, hc⟩ := this
    exact ⟨cs, (hk _ (blk_lt hc) (.inr ⟨cs, hc⟩)).trans hc⟩
  · obtain rfl := Option.some.inj ((show W1.cell? ⟨g, 3, none⟩ = some (.slice B t.fx.length d) from (blk_cell k1' 3).trans rfl).symm.trans hv)
    intro ad n c' e hn
    have := t3 ad n c' e hn
    obtain ⟨cs, hc⟩ := this
    exact ⟨cs, (hk _ (blk_lt hc) (.inr ⟨cs, hc⟩)).trans hc⟩
theorem IsS77.below (h : IsS77 w0 W g t) (hw : Below W.heap.size W W1) : IsS77 w0 W1 g t := h.step (fun i hi _ => hw.block i hi)
theorem IsS77.alloc (h : IsS77 w0 W g t) (o : Obj) : IsS77 w0 (W.alloc o) g t := h.below (below_alloc (Below.refl _ _) o)
theorem IsS77.drewN (h : IsS77 w0 W g t) (m : Nat) : IsS77 w0 (W.drewN m) g t := h
theorem IsS77.drew (h : IsS77 w0 W g t) : IsS77 w0 W.drew g t := h
theorem IsS77.at_ {w' : World} {m : Nat} (hq : W.drewN m = w') (h : IsS77 w0 W g t) : IsS77 w0 w' g t := by subst hq; exact h
theorem IsS77.fresh (h : IsS77 w0 W g t) : ∀ k, W.heap.size ≤ k → k ≠ g := fun k hk e => absurd h.lt (by omega)
theorem IsS77.rebase {w1 : World} (h : IsS77 w1 W g t) (hs : w0.heap.size ≤ w1.heap.size) : IsS77 w0 W g t := by
  obtain ⟨⟨A, c, B, d, k1, k2, k3⟩, h2, h3⟩ := h
  exact ⟨⟨A, c, B, d, k1, Nat.le_trans hs k2, k3⟩, h2, h3⟩
theorem IsS77.ne_blk {a : Nat} {cs : Array Value} {u : TypeId} {fr : Nat × Nat} (h : IsS77 w0 W g t) (hb2 : W.heap[a]? = some (.cells cs u fr)) (ht : u ≠ 77) : g ≠ a := by
  obtain ⟨cs1, hb⟩ := h.blk
  rintro rfl
  rw [hb] at hb2
  injection hb2 with hb2
  injection hb2 with _ ht2
  exact ht ht2.symm
theorem IsS77.grownT {W2 : World} {α : Type} {d : Kd α} {e : Nat} {base : Nat} {ok : Nat → Prop} {v : Value} {xs : List α} (h : IsS77 w0 W1 g t) (hb : Below W.heap.size W W1) (hw : W1.grownBy W2 v.ownBlock) (ho : d.R e W base ok v xs) (ht : e ≠ 77 ∧ e ≠ 103) : IsS77 w0 W2 g t := by
  refine h.step (fun i hi hx => hw.block i hi (fun he => ?_))
  obtain ⟨cs, hc⟩ := Kd.R_typed ho i he.symm
  have hty : TyOf W1 i e := TyOf.below ⟨cs, hc⟩ hb
  rcases hx with rfl | hx
  · exact hty.ne h.ty ht.1 rfl
  · exact hty.ne hx ht.2 rfl
theorem IsS77.farT {p : Addr} {e : TypeId} (h : IsS77 w0 W g t) (hty : TyOf W p.block e) (ht : e ≠ 77 ∧ e ≠ 103) (u : Value) : IsS77 w0 (W.setCell p u) g t := by
  refine h.step (fun i hi hx => Below.heap_setCell W p u i (fun he => ?_))
  subst he
  rcases hx with hx | hx
  · exact hty.ne (hx ▸ h.ty) ht.1 rfl
  · exact hty.ne hx ht.2 rfl
theorem IsS77.keptT {S : Nat → Prop} (h : IsS77 w0 W g t) (hk : Kept W W1 S) (hS : ∀ k, S k → ∃ e, TyOf W k e ∧ e ≠ 77 ∧ e ≠ 103) : IsS77 w0 W1 g t := by
  refine h.step (fun i hi hx => hk.2 i hi (fun hs => ?_))
  obtain ⟨e, he, h1, h2⟩ := hS i hs
  rcases hx with hx | hx
  · exact he.ne (hx ▸ h.ty) h1 rfl
  · exact he.ne hx h2 rfl
theorem IsS77.otherT {g2 : Nat} {e : TypeId} (h : IsS77 w0 W g t) (hty : TyOf W g2 e) (hk : KeepBut W W1 g2 none) (hne : g ≠ g2) (ht : e ≠ 103) : IsS77 w0 W1 g t := by
  refine h.step (fun i hi hx => hk.2 i hi (fun he => ?_) (by simp))
  subst he
  rcases hx with hx | hx
  · exact hne hx.symm
  · exact hty.ne hx ht rfl
section
variable {α : Type} {d : Kd α} {e : Nat} {base : Nat} {ok : Nat → Prop} {v : Value} {xs : List α}
theorem IsS77.apart (h : IsS77 w0 W g t) (ho : d.R e W base ok v xs) (ht : ∀ q, q ∈ e :: d.E → q ≠ 77) : d.R e W base (fun k => ok k ∧ k ≠ g) v xs := by
  obtain ⟨cs, hb⟩ := h.blk
  exact Kd.R_types ho hb ht
theorem IsS77.own_ne (h : IsS77 w0 W g t) (ho : d.R e W base ok v xs) (ht : e ≠ 77) : some g ≠ v.ownBlock := by
  obtain ⟨cs, hb⟩ := h.blk
  exact Kd.R_ne ho hb ht
end
end
end Go.Proofs.YtfkdocmhbmameaaDoor.Mine
namespace Go.Proofs.YtfkdocmhbmameaaDoor.Mine
open Go.RowKit Go.Proofs Go.Proofs.YtfkdocmhbmameaaDoorW.PrintWords Go.Proofs.YtfkdocmhbmameaaDoorW.PrintLast Go.Proofs.YtfkdocmhbmameaaDoorW.PrintMore
attribute [local go_sem] max2_int min2_int max_two min_two max_three min_three max_four min_four
set_option linter.unusedVariables false
set_option linter.unusedSimpArgs false
def tbAt (fx l : List S103) (n : Int) : ByteArray × ByteArray × Bool :=
  if n < 1 then (⟨#[]⟩, ⟨#[]⟩, false) else if n > fx.length + l.length then (⟨#[]⟩, ⟨#[]⟩, false) else if n ≤ fx.length then ((rd_T103 fx (n - 1)).f0, (rd_T103 fx (n - 1)).f1, true) else ((rd_T103 l (l.length - (n - fx.length))).f0, (rd_T103 l (l.length - (n - fx.length))).f1, true)
set_option maxHeartbeats 4000000 in
set_option maxRecDepth 100000 in
theorem tb_at14 (g : Nat) (most size n : Int) (l fx : List S103) (w0 w : World) (hI : IsT w0 w g most size l fx) (hl : l.length < 4398046511104) (hf : fx.length < 4398046511104) (hn : n ≤ 9223372036854775807) :
    Calls Tryd.prog 33 #[.pointer (some ⟨g, 0, none⟩), .int .i64 n] w fun en w' => en = .returned (.tuple #[.string (tbAt fx l n).1, .string (tbAt fx l n).2.1, .bool (tbAt fx l n).2.2]) ∧ Below w.heap.size w w' := by
  have HI := Aside0.mk hI
  have HL := Aside0.mk hl
  have HF := Aside0.mk hf
  have HN := Aside0.mk hn
  have hu_57_ := Tryd.underlying77
  have hu_62_ := Tryd.underlying103
  clear hI hl hf hn
  obtain ⟨A, c, B, d, k1, k2, k3, k4, k5, k6⟩ := HI.out
  have z2 : w.cell? ⟨g, 2, none⟩ = some (.slice A l.length c) := (blk_cell k1 2).trans rfl
  have z3 : w.cell? ⟨g, 3, none⟩ = some (.slice B fx.length d) := (blk_cell k1 3).trans rfl
  have K5 := Aside0.mk k5
  have K6 := Aside0.mk k6
  have K1 := Aside0.mk k1
  clear k1 k2 k3 k4 k5 k6
  have hw1 : wrap64 ((fx.length : Int) + (l.length : Int)) = (fx.length : Int) + l.length := tb_wrap _ (by omega) (by have := HL.out; have := HF.out; omega)
  go_enter Tryd.func33, Tryd.ntmps33
  by_cases h1 : n < 1
  · have HT := Aside0.mk (show tbAt fx l n = (⟨#[]⟩, ⟨#[]⟩, false) by unfold tbAt; rw [if_pos h1])
    have q1 : decide (n < 1) = true := decide_eq_true h1
    rw [HT.out]
    go_wp2
    go_quiet (fail)
    go_wp2
    go_ret3
    exact ⟨rfl, pw_below_drewN (Below.refl _ _) _⟩
  · have q1 : decide (n < 1) = false := decide_eq_false h1
    by_cases h2 : n > fx.length + l.length
    · have HT := Aside0.mk (show tbAt fx l n = (⟨#[]⟩, ⟨#[]⟩, false) by unfold tbAt; rw [if_neg h1, if_pos h2])
      have q2 : decide ((fx.length : Int) + l.length < n) = true := decide_eq_true h2
      rw [HT.out]
      go_wp2
      go_quiet (fail)
      go_wp2
      go_ret3
      exact ⟨rfl, pw_below_drewN (Below.refl _ _) _⟩
    · have q2 : decide ((fx.length : Int) + l.length < n) = false := decide_eq_false h2
      by_cases h3 : n ≤ fx.length
      · obtain ⟨m, hm⟩ : ∃ m : Nat, n - 1 = m := ⟨(n - 1).toNat, by omega⟩
        obtain ⟨XX, hXX⟩ : ∃ x, rd_T103 fx (m : Int) = x := ⟨_, rfl⟩
        have HT := Aside0.mk (show tbAt fx l n = (XX.f0, XX.f1, true) by unfold tbAt; rw [if_neg h1, if_neg h2, if_pos h3, hm, hXX])
        have HM := Aside0.mk hm
        have HX := Aside0.mk hXX
        have p1 : m < fx.length := by omega
        clear hm hXX
        have q3 : decide (n ≤ (fx.length : Int)) = true := decide_eq_true h3
        rw [HT.out]
        go_wp2
        go_quiet (fail)
        go_upto_region 4 with fail
        have HD := Aside0.mk (below_alloc (pw_below_drewN (Below.refl w.heap.size w) nq) (.cells #[.string ⟨#[]⟩, .string ⟨#[]⟩] 103))
        have BE := Aside0.mk (blk_new (w.drewN nq) (.cells #[.string ⟨#[]⟩, .string ⟨#[]⟩] 103))
        generalize (w.drewN nq).alloc (.cells #[.string ⟨#[]⟩, .string ⟨#[]⟩] 103) = wA at HD BE ⊢
        have BE := Aside0.mk (show wA.heap[w.heap.size]? = some (.cells #[.string ⟨#[]⟩, .string ⟨#[]⟩] 103 (0, 0)) from BE.out)
        obtain ⟨ge, hge⟩ : ∃ x, w.heap.size = x := ⟨_, rfl⟩
        rw [hge] at BE ⊢
        have HG := Aside0.mk (show w.heap.size ≤ ge by omega)
        clear hge
        replace z2 : wA.cell? ⟨g, 2, none⟩ = some (.slice A l.length c) := (HD.out.cell (World.block_lt_of_cell? _ _ z2)).trans z2
        replace z3 : wA.cell? ⟨g, 3, none⟩ = some (.slice B fx.length d) := (HD.out.cell (World.block_lt_of_cell? _ _ z3)).trans z3
        have y0 : wA.cell? ⟨ge, 0, none⟩ = some (.string ⟨#[]⟩) := (blk_cell BE.out 0).trans rfl
        have y1 : wA.cell? ⟨ge, 1, none⟩ = some (.string ⟨#[]⟩) := (blk_cell BE.out 1).trans rfl
        have f0 := blk_frozen BE.out 0
        have f1 := blk_frozen BE.out 1
        have hw2 : wrap64 (n - 1) = (m : Int) := by rw [HM.out]; exact tb_wrap _ (by omega) (by have := HF.out; omega)
        obtain ⟨ad, e1_, x0, x1⟩ := at_T103 K6.out (m : Int) (by omega) (by omega)
        subst e1_
        rw [HX.out, Int.toNat_natCast] at x0 x1
        replace x0 := (HD.out.cell (World.block_lt_of_cell? _ _ x0)).trans x0
        replace x1 := (HD.out.cell (World.block_lt_of_cell? _ _ x1)).trans x1
        go_upto_region 7 with fail
        have HD2 := Aside0.mk (below_set (g := ge) (j := 1) (v := .string XX.f1) (below_set (g := ge) (j := 0) (v := .string XX.f0) HD.out HG.out) HG.out)
        have BE2 := Aside0.mk (blk_put (blk_put BE.out 0 (.string XX.f0) rfl) 1 (.string XX.f1) rfl)
        clear y0 y1 f0 f1 z2 z3 x0 x1
        generalize (wA.setCell ⟨ge, 0, none⟩ (.string XX.f0)).setCell ⟨ge, 1, none⟩ (.string XX.f1) = wB at HD2 BE2 ⊢
        have y0 : wB.cell? ⟨ge, 0, none⟩ = some (.string XX.f0) := (blk_cell BE2.out 0).trans rfl
        have y1 : wB.cell? ⟨ge, 1, none⟩ = some (.string XX.f1) := (blk_cell BE2.out 1).trans rfl
        go_quiet (fail)
        go_wp2
        go_ret3
        exact ⟨rfl, pw_below_drewN HD2.out _⟩
      · obtain ⟨m, hm⟩ : ∃ m : Nat, (l.length : Int) - (n - fx.length) = m := ⟨((l.length : Int) - (n - fx.length)).toNat, by omega⟩
        obtain ⟨XX, hXX⟩ : ∃ x, rd_T103 l (m : Int) = x := ⟨_, rfl⟩
        have HT := Aside0.mk (show tbAt fx l n = (XX.f0, XX.f1, true) by unfold tbAt; rw [if_neg h1, if_neg h2, if_neg h3, hm, hXX])
        have HM := Aside0.mk hm
        have HX := Aside0.mk hXX
        have p1 : m < l.length := by omega
        clear hm hXX
        have q3 : decide (n ≤ (fx.length : Int)) = false := decide_eq_false h3
        rw [HT.out]
        go_wp2
        go_quiet (fail)
        go_upto_region 4 with fail
        have HD := Aside0.mk (below_alloc (pw_below_drewN (Below.refl w.heap.size w) nq) (.cells #[.string ⟨#[]⟩, .string ⟨#[]⟩] 103))
        have BE := Aside0.mk (blk_new (w.drewN nq) (.cells #[.string ⟨#[]⟩, .string ⟨#[]⟩] 103))
        generalize (w.drewN nq).alloc (.cells #[.string ⟨#[]⟩, .string ⟨#[]⟩] 103) = wA at HD BE ⊢
        have BE := Aside0.mk (show wA.heap[w.heap.size]? = some (.cells #[.string ⟨#[]⟩, .string ⟨#[]⟩] 103 (0, 0)) from BE.out)
        obtain ⟨ge, hge⟩ : ∃ x, w.heap.size = x := ⟨_, rfl⟩
        rw [hge] at BE ⊢
        have HG := Aside0.mk (show w.heap.size ≤ ge by omega)
        clear hge
        replace z2 : wA.cell? ⟨g, 2, none⟩ = some (.slice A l.length c) := (HD.out.cell (World.block_lt_of_cell? _ _ z2)).trans z2
        replace z3 : wA.cell? ⟨g, 3, none⟩ = some (.slice B fx.length d) := (HD.out.cell (World.block_lt_of_cell? _ _ z3)).trans z3
        have y0 : wA.cell? ⟨ge, 0, none⟩ = some (.string ⟨#[]⟩) := (blk_cell BE.out 0).trans rfl
        have y1 : wA.cell? ⟨ge, 1, none⟩ = some (.string ⟨#[]⟩) := (blk_cell BE.out 1).trans rfl
        have f0 := blk_frozen BE.out 0
        have f1 := blk_frozen BE.out 1
        have hw2 : wrap64 (n - fx.length) = n - fx.length := tb_wrap _ (by omega) (by have := HL.out; omega)
        have hw3 : wrap64 ((l.length : Int) - (n - fx.length)) = m := by rw [HM.out]; exact tb_wrap _ (by omega) (by have := HL.out; omega)
        obtain ⟨ad, e1_, x0, x1⟩ := at_T103 K5.out (m : Int) (by omega) (by omega)
        subst e1_
        rw [HX.out, Int.toNat_natCast] at x0 x1
        replace x0 := (HD.out.cell (World.block_lt_of_cell? _ _ x0)).trans x0
        replace x1 := (HD.out.cell (World.block_lt_of_cell? _ _ x1)).trans x1
        go_wp2
        go_region
        all_goals
          have HD2 := Aside0.mk (below_drew1 (below_set (g := ge) (j := 1) (v := .string XX.f1) (below_set (g := ge) (j := 0) (v := .string XX.f0) HD.out HG.out) HG.out))
          have BE2 := Aside0.mk (show ((wA.setCell ⟨ge, 0, none⟩ (.string XX.f0)).setCell ⟨ge, 1, none⟩ (.string XX.f1)).drew.heap[ge]? = _ from blk_put (blk_put BE.out 0 (.string XX.f0) rfl) 1 (.string XX.f1) rfl)
          clear y0 y1 f0 f1 z2 z3 x0 x1
          generalize ((wA.setCell ⟨ge, 0, none⟩ (.string XX.f0)).setCell ⟨ge, 1, none⟩ (.string XX.f1)).drew = wB at HD2 BE2 ⊢
          have y0 : wB.cell? ⟨ge, 0, none⟩ = some (.string XX.f0) := (blk_cell BE2.out 0).trans rfl
          have y1 : wB.cell? ⟨ge, 1, none⟩ = some (.string XX.f1) := (blk_cell BE2.out 1).trans rfl
          go_wp2
          go_quiet (fail)
          go_wp2
          go_ret3
          exact ⟨rfl, pw_below_drewN HD2.out _⟩
end Go.Proofs.YtfkdocmhbmameaaDoor.Mine
namespace Go.Proofs.YtfkdocmhbmameaaDoor.Mine
open Go.RowKit Go.Proofs Go.Proofs.YtfkdocmhbmameaaDoorW.PrintWords Go.Proofs.YtfkdocmhbmameaaDoorW.PrintLast Go.Proofs.YtfkdocmhbmameaaDoorW.PrintMore
attribute [local go_sem] max2_int min2_int max_two min_two max_three min_three max_four min_four
set_option linter.unusedVariables false
set_option linter.unusedSimpArgs false
set_option maxHeartbeats 2000000 in
set_option maxRecDepth 100000 in
theorem tb_resize (g : Nat) (most size n : Int) (l fx : List S103) (w0 w : World) (hI : IsT w0 w g most size l fx) (hB : Below w0.heap.size w0 w) (hl : l.length < 4398046511104) :
    Calls Tryd.prog 39 #[.pointer (some ⟨g, 0, none⟩), .int .i64 n] w fun en w' => en = .returned (.tuple #[]) ∧ IsT w0 w' g (mx n 0) (tbFit (wrap64 (mx n 0 - 0)) size l).1 (tbFit (wrap64 (mx n 0 - 0)) size l).2 fx ∧ Below w0.heap.size w0 w' ∧ KeepBut w w' g none ∧ w'.cell? ⟨g, 3, none⟩ = w.cell? ⟨g, 3, none⟩ ∧ ∃ v, w'.cell? ⟨g, 2, none⟩ = some v ∧ TyV w' v := by
  have HI := Aside0.mk hI
  have HB := Aside0.mk hB
  have HL := Aside0.mk hl
  have hu_57_ := Tryd.underlying77
  clear hI hB hl
  obtain ⟨M, hM⟩ : ∃ x, mx n 0 = x := ⟨_, rfl⟩
  have hM_ : (if n < 0 then 0 else n) = M := hM
  rw [hM]
  clear hM
  obtain ⟨A, c, B, d, k1, k2, k3, k4, k5, k6⟩ := HI.out
  have z0 : w.cell? ⟨g, 0, none⟩ = some (.int .i64 most) := (blk_cell k1 0).trans rfl
  have f0 := blk_frozen k1 0
  go_enter Tryd.func39, Tryd.ntmps39
  go_upto_region 1 with fail
  have HI2 := Aside0.mk (HI.out.set0 M)
  have HB2 := Aside0.mk (below_set (g := g) (j := 0) (v := .int .i64 M) HB.out k2)
  have HK2 := Aside0.mk (tb_keeps (j := 0) (v := .int .i64 M) (KeepBut.refl w g none))
  have H3 := Aside0.mk (show (w.setCell ⟨g, 0, none⟩ (.int .i64 M)).cell? ⟨g, 3, none⟩ = w.cell? ⟨g, 3, none⟩ from (blk_cell (blk_put k1 0 (.int .i64 M) rfl) 3).trans (blk_cell k1 3).symm)
  clear z0 f0 k1 k2 k3 k4 k5 k6 HI HB
  generalize w.setCell ⟨g, 0, none⟩ (.int .i64 M) = w1 at HI2 HB2 HK2 H3 ⊢
  go_wp2_with (first | (go_at_call 57; (with_reducible refine (tb_fit g M size 0 l fx w0 _ HI2.out HB2.out HL.out).mono ?_); rintro en w2 ⟨rfl, hi, hb, hk, h3, v, hv, hr⟩; have HI3 := Aside0.mk hi; have HB3 := Aside0.mk hb; have HK3 := Aside0.mk (tb_keep2 HK2.out hk); have H33 := Aside0.mk (h3.trans H3.out); have HV3 := Aside0.mk hv; have HT3 := Aside0.mk (TyV.ofR hr); clear hi hb hk h3 hv hr))
  go_end0
  exact ⟨rfl, HI3.out, HB3.out, HK3.out, H33.out, v, HV3.out, HT3.out⟩
end Go.Proofs.YtfkdocmhbmameaaDoor.Mine
namespace Go.Proofs.YtfkdocmhbmameaaDoor.Mine
open Go.RowKit Go.Proofs Go.Proofs.YtfkdocmhbmameaaDoorW.PrintWords Go.Proofs.YtfkdocmhbmameaaDoorW.PrintLast Go.Proofs.YtfkdocmhbmameaaDoorW.PrintMore
attribute [local go_sem] max2_int min2_int max_two min_two max_three min_three max_four min_four
set_option linter.unusedVariables false
set_option linter.unusedSimpArgs false
def tbFind (fx l : List S103) (nm vl : ByteArray) : Nat → Int → Int → Int × Bool
  | 0, _, n => (n, false)
  | k + 1, i, n => if (tbAt fx l i).1.toList = nm.toList then (if (tbAt fx l i).2.1.toList = vl.toList then (i, true) else if n = 0 then tbFind fx l nm vl k (i + 1) i else tbFind fx l nm vl k (i + 1) n) else tbFind fx l nm vl k (i + 1) n
set_option maxHeartbeats 4000000 in
set_option maxRecDepth 100000 in
theorem tb_find (g : Nat) (most size : Int) (nm vl : ByteArray) (l fx : List S103) (w0 w : World) (hI : IsT w0 w g most size l fx) (hl : l.length < 4398046511104) (hf : fx.length < 4398046511104) :
    Calls Tryd.prog 53 #[.pointer (some ⟨g, 0, none⟩), .string nm, .string vl] w fun en w' => en = .returned (.tuple #[.int .i64 (tbFind fx l nm vl (fx.length + l.length) 1 0).1, .bool (tbFind fx l nm vl (fx.length + l.length) 1 0).2]) ∧ Below w.heap.size w w' := by
  have HI := Aside0.mk hI
  have HL := Aside0.mk hl
  have HF := Aside0.mk hf
  have HB := Aside0.mk (Below.refl w.heap.size w)
  have hu_57_ := Tryd.underlying77
  have hu_62_ := Tryd.underlying103
  clear hI hl hf
  obtain ⟨T, hT⟩ : ∃ x, tbFind fx l nm vl (fx.length + l.length) 1 0 = x := ⟨_, rfl⟩
  rw [hT]
  have HT := Aside0.mk hT
  clear hT
  have hw1 : wrap64 ((fx.length : Int) + (l.length : Int)) = (fx.length : Int) + l.length := tb_wrap _ (by omega) (by have := HL.out; have := HF.out; omega)
  go_enter Tryd.func53, Tryd.ntmps53
  go_wp2_with fail
  go_loopw [6, 8] (fun v6 v8 wr => ∃ (k : Nat) (i n : Int), v6 = .int .i64 n ∧ v8 = .int .i64 i ∧ Aside0 (i + k = fx.length + l.length + 1) ∧ Aside0 (1 ≤ i) ∧ Aside0 (tbFind fx l nm vl k i n = T) ∧ Aside0 (Below w.heap.size w wr)) (fun _ v8 _ => (fx.length + l.length + 1 - intOf v8).toNat)
  case atStart => exact ⟨fx.length + l.length, 1, 0, rfl, rfl, ⟨by omega⟩, ⟨by omega⟩, HT, HB⟩
  case round =>
    clear HB HT
    obtain ⟨k, i, n, rfl, rfl, HK, H1, HT, HB⟩ := hrel
    have HI1 := Aside0.mk (HI.out.below HB.out)
    obtain ⟨A, c, B, d, k1, k2, k3, k4, k5, k6⟩ := HI1.out
    have z2 : wr.cell? ⟨g, 2, none⟩ = some (.slice A l.length c) := (blk_cell k1 2).trans rfl
    have z3 : wr.cell? ⟨g, 3, none⟩ = some (.slice B fx.length d) := (blk_cell k1 3).trans rfl
    clear k1 k2 k3 k4 k5 k6
    cases k with
    | zero =>
      have q1 : decide (i ≤ (fx.length : Int) + l.length) = false := decide_eq_false (by have := HK.out; omega)
      have hT2 : (n, false) = T := HT.out
      clear HT
      subst hT2
      go_wp2
      go_quiet (fail)
      go_wp2
      go_ret2
      exact ⟨rfl, pw_below_drewN HB.out _⟩
    | succ k =>
      have q1 : decide (i ≤ (fx.length : Int) + l.length) = true := decide_eq_true (by have := HK.out; omega)
      have hw2 : wrap64 (i + 1) = i + 1 := tb_wrap _ (by have := H1.out; omega) (by have := HK.out; have := HL.out; have := HF.out; omega)
      have hT := HT.out
      obtain ⟨⟨a, b, e⟩, hR⟩ : ∃ R, tbAt fx l i = R := ⟨_, rfl⟩
      rw [tbFind, hR] at hT
      have HR := Aside0.mk hR
      clear hR HT
      by_cases ha : a.toList = nm.toList
      · rw [if_pos ha] at hT
        have q2 : (a.toList == nm.toList) = true := beq_iff_eq.mpr ha
        by_cases hb : b.toList = vl.toList
        · rw [if_pos hb] at hT
          have q3 : (b.toList == vl.toList) = true := beq_iff_eq.mpr hb
          subst hT
          clear ha hb
          go_wp2
          go_quiet (fail)
          go_wp2_with (first | (go_at_call 33; (with_reducible refine (tb_at14 g most size i l fx w0 _ (HI1.out.drewN nq) HL.out HF.out (by have := HK.out; have := HL.out; have := HF.out; omega)).mono ?_); rintro en w1 ⟨rfl, hb⟩; rw [HR.out]; have HB2 := Aside0.mk (below_step (pw_below_drewN HB.out nq) hb); clear hb))
          go_ret2
          exact ⟨rfl, HB2.out⟩
        · rw [if_neg hb] at hT
          have q3 : (b.toList == vl.toList) = false := beq_eq_false_iff_ne.mpr hb
          clear ha hb
          by_cases hn : n = 0
          · rw [if_pos hn] at hT
            subst hn
            have HT := Aside0.mk hT
            clear hT
            go_wp2
            go_quiet (fail)
            go_wp2_with (first | (go_at_call 33; (with_reducible refine (tb_at14 g most size i l fx w0 _ (HI1.out.drewN nq) HL.out HF.out (by have := HK.out; have := HL.out; have := HF.out; omega)).mono ?_); rintro en w1 ⟨rfl, hb⟩; rw [HR.out]; have HB2 := Aside0.mk (below_step (pw_below_drewN HB.out nq) hb); clear hb))
            go_roundw
            case rel => exact ⟨k, i + 1, i, rfl, by rw [hw2], ⟨by have := HK.out; omega⟩, ⟨by have := H1.out; omega⟩, HT, HB2⟩
            case measure => rw [hw2]; simp only [intOf]; have := HK.out; omega
          · rw [if_neg hn] at hT
            have q4 : (n == 0) = false := beq_eq_false_iff_ne.mpr hn
            have HT := Aside0.mk hT
            clear hT hn
            go_wp2
            go_quiet (fail)
            go_wp2_with (first | (go_at_call 33; (with_reducible refine (tb_at14 g most size i l fx w0 _ (HI1.out.drewN nq) HL.out HF.out (by have := HK.out; have := HL.out; have := HF.out; omega)).mono ?_); rintro en w1 ⟨rfl, hb⟩; rw [HR.out]; have HB2 := Aside0.mk (below_step (pw_below_drewN HB.out nq) hb); clear hb))
            go_roundw
            case rel => exact ⟨k, i + 1, n, rfl, by rw [hw2], ⟨by have := HK.out; omega⟩, ⟨by have := H1.out; omega⟩, HT, HB2⟩
            case measure => rw [hw2]; simp only [intOf]; have := HK.out; omega
      · rw [if_neg ha] at hT
        have q2 : (a.toList == nm.toList) = false := beq_eq_false_iff_ne.mpr ha
        have HT := Aside0.mk hT
        clear hT ha
        go_wp2
        go_quiet (fail)
        go_wp2_with (first | (go_at_call 33; (with_reducible refine (tb_at14 g most size i l fx w0 _ (HI1.out.drewN nq) HL.out HF.out (by have := HK.out; have := HL.out; have := HF.out; omega)).mono ?_); rintro en w1 ⟨rfl, hb⟩; rw [HR.out]; have HB2 := Aside0.mk (below_step (pw_below_drewN HB.out nq) hb); clear hb))
        go_roundw
        case rel => exact ⟨k, i + 1, n, rfl, by rw [hw2], ⟨by have := HK.out; omega⟩, ⟨by have := H1.out; omega⟩, HT, HB2⟩
        case measure => rw [hw2]; simp only [intOf]; have := HK.out; omega
end Go.Proofs.YtfkdocmhbmameaaDoor.Mine
