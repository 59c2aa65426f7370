import Derived.Test.YtjdnimgkfkpaeaaDoorMinex0
import Derived.Test.YtjdnimgkfkpaeaaDoorShelf
import Derived.Test.YtjdnimgkfkpaeaaDoorTbT
import Derived.Test.YtjdnimgkfkpaeaaDoorTbA
import Derived.Test.YtjdnimgkfkpaeaaDoorTbB
import Derived.Test.YtjdnimgkfkpaeaaDoorTbC
import Derived.Test.YtjdnimgkfkpaeaaDoorTbD
import Derived.Test.YtjdnimgkfkpaeaaDoorTbS
namespace Go.Proofs.YtjdnimgkfkpaeaaDoor.Mine
open Go.RowKit Go.Proofs Go.Proofs.YtjdnimgkfkpaeaaDoorW.PrintWords Go.Proofs.YtjdnimgkfkpaeaaDoorW.PrintLast Go.Proofs.YtjdnimgkfkpaeaaDoorW.PrintMore
attribute [local go_sem] max2_int min2_int max_two min_two max_three min_three max_four min_four
set_option linter.unusedVariables false
set_option linter.unusedSimpArgs false
def tbSz (x : S62) : Int := wrap64 ((wrap64 ((x.f0.size : Int) + (x.f1.size : Int))) + 32)
def tbFit (top : Int) : Int → List S62 → Int × List S62
  | z, [] => (z, [])
  | z, x :: r => if z > top then tbFit top (wrap64 (z - tbSz x)) r else (z, x :: r)
theorem tb_keep {w W w1 : World} {g : Nat} (h : KeepBut w W g none) (hb : Below W.heap.size W w1) : KeepBut w w1 g none := ⟨Nat.le_trans h.1 hb.size, fun i hi hg hr => (hb.block i (Nat.lt_of_lt_of_le hi h.1)).trans (h.2 i hi hg hr)⟩
theorem tb_keep2 {w W w1 : World} {g : Nat} (h : KeepBut w W g none) (h2 : KeepBut W w1 g none) : KeepBut w w1 g none := ⟨Nat.le_trans h.1 h2.1, fun i hi hg hr => (h2.2 i (Nat.lt_of_lt_of_le hi h.1) hg hr).trans (h.2 i hi hg hr)⟩
theorem tb_keeps {w W : World} {g j : Nat} {v : Value} (h : KeepBut w W g none) : KeepBut w (W.setCell ⟨g, j, none⟩ v) g none := ⟨by simpa [World.setCell] using h.1, fun i hi hg hr => (Below.heap_setCell W ⟨g, j, none⟩ v i hg).trans (h.2 i hi hg hr)⟩
theorem tb_wrap (n : Int) (h : -9223372036854775808 ≤ n) (h2 : n ≤ 9223372036854775807) : wrap64 n = n := by unfold wrap64; omega
theorem tb_R2 {w wr w1 : World} {g : Nat} {v : Value} {l : List S62} {m s : Int} {P1 P2 : Option Addr} {n1 n2 c1 c2 : Nat} (h : Kd.R k62 62 w1 wr.heap.size (fun _ => True) v l) (hs : w.heap.size ≤ wr.heap.size) (hg : w1.heap[g]? = some (.cells #[.int .i64 m, .int .i64 s, .slice P1 n1 c1, .slice P2 n2 c2] 57 (0, 0))) {j : Nat} {u : Value} : Kd.R k62 62 (w1.setCell ⟨g, j, none⟩ u) w.heap.size (fun _ => True) v l :=
  Kd.R_lower (Kd.R_mono (Kd.R_far (p := ⟨g, j, none⟩) (Kd.R_types h hg (by decide)) (fun _ hk => hk.2) u) (fun _ _ => trivial)) hs
set_option maxHeartbeats 2000000 in
set_option maxRecDepth 100000 in
theorem tb_fit (g : Nat) (most size room : Int) (l fx : List S62) (w0 w : World) (hI : IsT w0 w g most size l fx) (hB : Below w0.heap.size w0 w) (hl : l.length < 4398046511104) :
    Calls Tryd.prog 30 #[.pointer (some ⟨g, 0, none⟩), .int .i64 room] w fun e w' => e = .returned (.tuple #[]) ∧ IsT w0 w' g most (tbFit (wrap64 (most - room)) size l).1 (tbFit (wrap64 (most - room)) size l).2 fx ∧ Below w0.heap.size w0 w' ∧ KeepBut w w' g none ∧ w'.cell? ⟨g, 3, none⟩ = w.cell? ⟨g, 3, none⟩ ∧ ∃ v, w'.cell? ⟨g, 2, none⟩ = some v ∧ Kd.R k62 62 w' w.heap.size (fun _ => True) v (tbFit (wrap64 (most - room)) size l).2 := by
  have HI := Aside0.mk hI
  have HB := Aside0.mk hB
  have HK := Aside0.mk (KeepBut.refl w g none)
  have HL := Aside0.mk hl
  have hu57 := Tryd.underlying57
  have hu62 := Tryd.underlying62
  clear hI hB hl
  obtain ⟨T, hT⟩ : ∃ x, x = tbFit (wrap64 (most - room)) size l := ⟨_, rfl⟩
  rw [← hT]
  have HT := Aside0.mk hT
  clear hT
  go_enter Tryd.func30, Tryd.ntmps30
  go_wp2_with fail
  go_loopw [4] (fun v4 wr => ∃ (j : Nat) (z : Int), j ≤ l.length ∧ v4 = .int .i64 j ∧ Aside0 (tbFit (wrap64 (most - room)) z (l.drop j) = T) ∧ Aside0 (IsT w0 wr g most z l fx) ∧ Aside0 (Below w0.heap.size w0 wr) ∧ Aside0 (KeepBut w wr g none) ∧ Aside0 (wr.cell? ⟨g, 3, none⟩ = w.cell? ⟨g, 3, none⟩)) (fun v4 _ => l.length - (intOf v4).toNat)
  case atStart => exact ⟨0, size, by omega, rfl, ⟨by rw [List.drop_zero]; exact HT.out.symm⟩, HI, HB, HK, ⟨rfl⟩⟩
  case round =>
    clear HI HB HK HT
    obtain ⟨j, z, hj, rfl, HT, HI, HB, HK, H3⟩ := hrel
    obtain ⟨A, c, B, d, hI1, hI2, hI3, hI4, hI5, hI6⟩ := HI.out
    have BG := Aside0.mk hI1
    have LC := Aside0.mk hI3
    have RL := Aside0.mk hI5
    clear hI1 hI2 hI3 hI4 hI5 hI6
    have z0 : wr.cell? ⟨g, 0, none⟩ = some (.int .i64 most) := (blk_cell BG.out 0).trans rfl
    have z1 : wr.cell? ⟨g, 1, none⟩ = some (.int .i64 z) := (blk_cell BG.out 1).trans rfl
    have z2 : wr.cell? ⟨g, 2, none⟩ = some (.slice A l.length c) := (blk_cell BG.out 2).trans rfl
    have f1 := blk_frozen BG.out 1
    have f2 := blk_frozen BG.out 2
    have i0 : (0 : Int) ≤ j := by omega
    by_cases hlt : j < l.length
    · have hw : wrap64 ((j : Int) + 1) = ((j + 1 : Nat) : Int) := by have := HL.out; rw [tb_wrap _ (by omega) (by omega)]; omega
      have hd : l.drop j = l[j] :: l.drop (j + 1) := List.drop_eq_getElem_cons hlt
      have h1 := HT.out
      rw [hd, tbFit] at h1
      have q1 : decide ((j : Int) < (l.length : Int)) = true := decide_eq_true (by omega)
      have q2 : decide (j < l.length) = true := decide_eq_true hlt
      by_cases hz : z > wrap64 (most - room)
      · rw [if_pos hz] at h1
        have H1 := Aside0.mk h1
        clear h1 hd HT
        have q3 : decide (wrap64 (most - room) < z) = true := decide_eq_true hz
        go_wp2
        go_quiet (fail)
        go_wp2
        obtain ⟨ad, rfl, x0_, x1_⟩ := at_T62 RL.out (j : Int) (by omega) (by omega)
        have hrd : rd_T62 l (j : Int) = l[j] := by simp [rd_T62, List.getD_eq_getElem?_getD, List.getElem?_eq_getElem hlt]
        rw [hrd, Int.toNat_natCast] at x0_ x1_
        obtain ⟨xx, hxx⟩ : ∃ x, l[j] = x := ⟨_, rfl⟩
        rw [hxx] at x0_ x1_ H1
        go_region_with (first | (go_at_call 31; (with_reducible refine (tb_entry_size.calls xx.f0 xx.f1 _ _ rfl).mono ?_); rintro e w1 ⟨rfl, hb⟩; have HD := Aside0.mk (below_step (below_drew1 (pw_below_drewN (Below.refl wr.heap.size wr) nq)) hb); have HJ := Aside0.mk (HI.out.below HD.out); clear hb; have z1' := (blk_cell (blk_below BG.out HD.out) 1).trans rfl; have f1' := blk_frozen (blk_below BG.out HD.out) 1))
        all_goals
          have HI2 := Aside0.mk (HJ.out.set1 (wrap64 (z - wrap64 (wrap64 ((xx.f0.size : Int) + (xx.f1.size : Int)) + 32))))
          have HB2 := Aside0.mk (below_set (g := g) (j := 1) (v := .int .i64 (wrap64 (z - wrap64 (wrap64 ((xx.f0.size : Int) + (xx.f1.size : Int)) + 32)))) (below_then HB.out (below_size HB.out) HD.out) (IsT.ge HI.out))
          have HK2 := Aside0.mk (tb_keeps (j := 1) (v := .int .i64 (wrap64 (z - wrap64 (wrap64 ((xx.f0.size : Int) + (xx.f1.size : Int)) + 32)))) (tb_keep HK.out HD.out))
          have H32 := Aside0.mk (((blk_cell (blk_put (blk_below BG.out HD.out) 1 (.int .i64 (wrap64 (z - wrap64 (wrap64 ((xx.f0.size : Int) + (xx.f1.size : Int)) + 32)))) rfl) 3).trans (blk_cell BG.out 3).symm).trans H3.out)
          clear HI HB HK HJ HD H3
          go_wp2
          go_roundw
          case rel => exact ⟨j + 1, _, hlt, by rw [hw], H1, HI2, HB2, HK2, H32⟩
          case measure => rw [hw]; simp [intOf]; omega
      · rw [if_neg hz] at h1
        have q3 : decide (wrap64 (most - room) < z) = false := decide_eq_false hz
        have HT2 := Aside0.mk (show T = (z, l.drop j) by rw [← h1, hd])
        clear h1 hd HT
        have hjc : j ≤ c := by have := LC.out; omega
        have HD := Aside0.mk (Kd.C_drop (m := j) (c := c) RL.out hj LC.out)
        go_wp2
        go_quiet (fail)
        by_cases hcj : c = j
        · rw [if_pos hcj] at HD
          go_wp2_with (first | (go_at_call 32; rw [show l.length - j = (l.drop j).length from List.length_drop.symm]; refine (tb_Clone.calls (A) (0) (l.drop j) (l.drop j) _ (Kd.C_below HD.out (pw_below_drewN (Below.refl wr.heap.size wr) nq)) (by rw [List.length_drop]; have := LC.out; omega) (by unfold tb_Clone.f; rw [if_pos (by rw [List.length_drop]; have := HL.out; omega)])).mono ?_; rintro e w1 ⟨v, rfl, ho, hb⟩; obtain ⟨A9, c9, rfl⟩ := Kd.R_slice ho; have HO := Aside0.mk ho; have HD9 := Aside0.mk (below_step (pw_below_drewN (Below.refl wr.heap.size wr) nq) hb); clear ho hb; have HJ := Aside0.mk (HI.out.below HD9.out); have f2' := blk_frozen (blk_below BG.out HD9.out) 2; have z2' := (blk_cell (blk_below BG.out HD9.out) 2).trans rfl))
          go_end0
          obtain rfl := HT2.out
          obtain ⟨A8, c8, B8, d8, k1, k2, k3, k4, k5, k6⟩ := HJ.out
          have hR := Kd.R_reads' HO.out
          rw [show l.length - j = (l.drop j).length from List.length_drop.symm]
          refine ⟨rfl, HJ.out.set2 hR.2.1 hR.2.2, below_set (below_then HB.out (below_size HB.out) HD9.out) (IsT.ge HI.out), tb_keeps (tb_keep HK.out HD9.out), ((blk_cell (blk_put (blk_below BG.out HD9.out) 2 (.slice A9 (l.drop j).length c9) rfl) 3).trans (blk_cell BG.out 3).symm).trans H3.out, .slice A9 (l.drop j).length c9, (blk_cell (blk_set k1 2 _) 2).trans rfl, ?_⟩
          exact tb_R2 (HO.out) HK.out.1 k1
        · rw [if_neg hcj] at HD
          go_wp2_with (first | (go_at_call 32; rw [show l.length - j = (l.drop j).length from List.length_drop.symm]; refine (tb_Clone.calls (A.map (fun x => x.add (j * 2))) (c - j) (l.drop j) (l.drop j) _ (Kd.C_below HD.out (pw_below_drewN (Below.refl wr.heap.size wr) nq)) (by rw [List.length_drop]; have := LC.out; omega) (by unfold tb_Clone.f; rw [if_pos (by rw [List.length_drop]; have := HL.out; omega)])).mono ?_; rintro e w1 ⟨v, rfl, ho, hb⟩; obtain ⟨A9, c9, rfl⟩ := Kd.R_slice ho; have HO := Aside0.mk ho; have HD9 := Aside0.mk (below_step (pw_below_drewN (Below.refl wr.heap.size wr) nq) hb); clear ho hb; have HJ := Aside0.mk (HI.out.below HD9.out); have f2' := blk_frozen (blk_below BG.out HD9.out) 2; have z2' := (blk_cell (blk_below BG.out HD9.out) 2).trans rfl))
          go_end0
          obtain rfl := HT2.out
          obtain ⟨A8, c8, B8, d8, k1, k2, k3, k4, k5, k6⟩ := HJ.out
          have hR := Kd.R_reads' HO.out
          rw [show l.length - j = (l.drop j).length from List.length_drop.symm]
          refine ⟨rfl, HJ.out.set2 hR.2.1 hR.2.2, below_set (below_then HB.out (below_size HB.out) HD9.out) (IsT.ge HI.out), tb_keeps (tb_keep HK.out HD9.out), ((blk_cell (blk_put (blk_below BG.out HD9.out) 2 (.slice A9 (l.drop j).length c9) rfl) 3).trans (blk_cell BG.out 3).symm).trans H3.out, .slice A9 (l.drop j).length c9, (blk_cell (blk_set k1 2 _) 2).trans rfl, ?_⟩
          exact tb_R2 (HO.out) HK.out.1 k1
    · have q1 : decide ((j : Int) < (l.length : Int)) = false := decide_eq_false (by omega)
      have q2 : decide (j < l.length) = false := decide_eq_false hlt
      have HT2 := Aside0.mk (show T = (z, l.drop j) by rw [← HT.out, List.drop_of_length_le (by omega)]; rfl)
      have hjc : j ≤ c := by have := LC.out; omega
      have HD := Aside0.mk (Kd.C_drop (m := j) (c := c) RL.out hj LC.out)
      go_wp2
      go_quiet (fail)
      by_cases hcj : c = j
      · rw [if_pos hcj] at HD
        go_wp2_with (first | (go_at_call 32; rw [show l.length - j = (l.drop j).length from List.length_drop.symm]; refine (tb_Clone.calls (A) (0) (l.drop j) (l.drop j) _ (Kd.C_below HD.out (pw_below_drewN (Below.refl wr.heap.size wr) nq)) (by rw [List.length_drop]; have := LC.out; omega) (by unfold tb_Clone.f; rw [if_pos (by rw [List.length_drop]; have := HL.out; omega)])).mono ?_; rintro e w1 ⟨v, rfl, ho, hb⟩; obtain ⟨A9, c9, rfl⟩ := Kd.R_slice ho; have HO := Aside0.mk ho; have HD9 := Aside0.mk (below_step (pw_below_drewN (Below.refl wr.heap.size wr) nq) hb); clear ho hb; have HJ := Aside0.mk (HI.out.below HD9.out); have f2' := blk_frozen (blk_below BG.out HD9.out) 2; have z2' := (blk_cell (blk_below BG.out HD9.out) 2).trans rfl))
        go_end0
        obtain rfl := HT2.out
        obtain ⟨A8, c8, B8, d8, k1, k2, k3, k4, k5, k6⟩ := HJ.out
        have hR := Kd.R_reads' HO.out
        rw [show l.length - j = (l.drop j).length from List.length_drop.symm]
        refine ⟨rfl, HJ.out.set2 hR.2.1 hR.2.2, below_set (below_then HB.out (below_size HB.out) HD9.out) (IsT.ge HI.out), tb_keeps (tb_keep HK.out HD9.out), ((blk_cell (blk_put (blk_below BG.out HD9.out) 2 (.slice A9 (l.drop j).length c9) rfl) 3).trans (blk_cell BG.out 3).symm).trans H3.out, .slice A9 (l.drop j).length c9, (blk_cell (blk_set k1 2 _) 2).trans rfl, ?_⟩
        exact tb_R2 (HO.out) HK.out.1 k1
      · rw [if_neg hcj] at HD
        go_wp2_with (first | (go_at_call 32; rw [show l.length - j = (l.drop j).length from List.length_drop.symm]; refine (tb_Clone.calls (A.map (fun x => x.add (j * 2))) (c - j) (l.drop j) (l.drop j) _ (Kd.C_below HD.out (pw_below_drewN (Below.refl wr.heap.size wr) nq)) (by rw [List.length_drop]; have := LC.out; omega) (by unfold tb_Clone.f; rw [if_pos (by rw [List.length_drop]; have := HL.out; omega)])).mono ?_; rintro e w1 ⟨v, rfl, ho, hb⟩; obtain ⟨A9, c9, rfl⟩ := Kd.R_slice ho; have HO := Aside0.mk ho; have HD9 := Aside0.mk (below_step (pw_below_drewN (Below.refl wr.heap.size wr) nq) hb); clear ho hb; have HJ := Aside0.mk (HI.out.below HD9.out); have f2' := blk_frozen (blk_below BG.out HD9.out) 2; have z2' := (blk_cell (blk_below BG.out HD9.out) 2).trans rfl))
        go_end0
        obtain rfl := HT2.out
        obtain ⟨A8, c8, B8, d8, k1, k2, k3, k4, k5, k6⟩ := HJ.out
        have hR := Kd.R_reads' HO.out
        rw [show l.length - j = (l.drop j).length from List.length_drop.symm]
        refine ⟨rfl, HJ.out.set2 hR.2.1 hR.2.2, below_set (below_then HB.out (below_size HB.out) HD9.out) (IsT.ge HI.out), tb_keeps (tb_keep HK.out HD9.out), ((blk_cell (blk_put (blk_below BG.out HD9.out) 2 (.slice A9 (l.drop j).length c9) rfl) 3).trans (blk_cell BG.out 3).symm).trans H3.out, .slice A9 (l.drop j).length c9, (blk_cell (blk_set k1 2 _) 2).trans rfl, ?_⟩
        exact tb_R2 (HO.out) HK.out.1 k1

end Go.Proofs.YtjdnimgkfkpaeaaDoor.Mine
