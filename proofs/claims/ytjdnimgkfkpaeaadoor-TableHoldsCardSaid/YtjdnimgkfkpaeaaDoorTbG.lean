import Derived.Test.YtjdnimgkfkpaeaaDoorMinex0
import Derived.Test.YtjdnimgkfkpaeaaDoorShelf
import Derived.Test.YtjdnimgkfkpaeaaDoorTbT
import Derived.Test.YtjdnimgkfkpaeaaDoorTbA
import Derived.Test.YtjdnimgkfkpaeaaDoorTbB
import Derived.Test.YtjdnimgkfkpaeaaDoorTbC
import Derived.Test.YtjdnimgkfkpaeaaDoorTbD
import Derived.Test.YtjdnimgkfkpaeaaDoorTbS
import Derived.Test.YtjdnimgkfkpaeaaDoorTbE
import Derived.Test.YtjdnimgkfkpaeaaDoorTbK
namespace Go.Proofs.YtjdnimgkfkpaeaaDoor.Mine
open Go.RowKit Go.Proofs Go.Proofs.YtjdnimgkfkpaeaaDoorW.PrintWords Go.Proofs.YtjdnimgkfkpaeaaDoorW.PrintLast Go.Proofs.YtjdnimgkfkpaeaaDoorW.PrintMore
attribute [local go_sem] max2_int min2_int max_two min_two max_three min_three max_four min_four
set_option linter.unusedVariables false
set_option linter.unusedSimpArgs false
def tbAt (fx l : List S62) (n : Int) : ByteArray × ByteArray × Bool :=
  if n < 1 then (⟨#[]⟩, ⟨#[]⟩, false) else if n > fx.length + l.length then (⟨#[]⟩, ⟨#[]⟩, false) else if n ≤ fx.length then ((rd_T62 fx (n - 1)).f0, (rd_T62 fx (n - 1)).f1, true) else ((rd_T62 l (l.length - (n - fx.length))).f0, (rd_T62 l (l.length - (n - fx.length))).f1, true)
set_option maxHeartbeats 4000000 in
set_option maxRecDepth 100000 in
theorem tb_at14 (g : Nat) (most size n : Int) (l fx : List S62) (w0 w : World) (hI : IsT w0 w g most size l fx) (hl : l.length < 4398046511104) (hf : fx.length < 4398046511104) (hn : n ≤ 9223372036854775807) :
    Calls Tryd.prog 14 #[.pointer (some ⟨g, 0, none⟩), .int .i64 n] w fun en w' => en = .returned (.tuple #[.string (tbAt fx l n).1, .string (tbAt fx l n).2.1, .bool (tbAt fx l n).2.2]) ∧ Below w.heap.size w w' := by
  have HI := Aside0.mk hI
  have HL := Aside0.mk hl
  have HF := Aside0.mk hf
  have HN := Aside0.mk hn
  have hu57 := Tryd.underlying57
  have hu62 := Tryd.underlying62
  clear hI hl hf hn
  obtain ⟨A, c, B, d, k1, k2, k3, k4, k5, k6⟩ := HI.out
  have z2 : w.cell? ⟨g, 2, none⟩ = some (.slice A l.length c) := (blk_cell k1 2).trans rfl
  have z3 : w.cell? ⟨g, 3, none⟩ = some (.slice B fx.length d) := (blk_cell k1 3).trans rfl
  have K5 := Aside0.mk k5
  have K6 := Aside0.mk k6
  have K1 := Aside0.mk k1
  clear k1 k2 k3 k4 k5 k6
  have hw1 : wrap64 ((fx.length : Int) + (l.length : Int)) = (fx.length : Int) + l.length := tb_wrap _ (by omega) (by have := HL.out; have := HF.out; omega)
  go_enter Tryd.func14, Tryd.ntmps14
  by_cases h1 : n < 1
  · have HT := Aside0.mk (show tbAt fx l n = (⟨#[]⟩, ⟨#[]⟩, false) by unfold tbAt; rw [if_pos h1])
    have q1 : decide (n < 1) = true := decide_eq_true h1
    rw [HT.out]
    go_wp2
    go_quiet (fail)
    go_wp2
    go_ret3
    exact ⟨rfl, pw_below_drewN (Below.refl _ _) _⟩
  · have q1 : decide (n < 1) = false := decide_eq_false h1
    by_cases h2 : n > fx.length + l.length
    · have HT := Aside0.mk (show tbAt fx l n = (⟨#[]⟩, ⟨#[]⟩, false) by unfold tbAt; rw [if_neg h1, if_pos h2])
      have q2 : decide ((fx.length : Int) + l.length < n) = true := decide_eq_true h2
      rw [HT.out]
      go_wp2
      go_quiet (fail)
      go_wp2
      go_ret3
      exact ⟨rfl, pw_below_drewN (Below.refl _ _) _⟩
    · have q2 : decide ((fx.length : Int) + l.length < n) = false := decide_eq_false h2
      by_cases h3 : n ≤ fx.length
      · obtain ⟨m, hm⟩ : ∃ m : Nat, n - 1 = m := ⟨(n - 1).toNat, by omega⟩
        obtain ⟨XX, hXX⟩ : ∃ x, rd_T62 fx (m : Int) = x := ⟨_, rfl⟩
        have HT := Aside0.mk (show tbAt fx l n = (XX.f0, XX.f1, true) by unfold tbAt; rw [if_neg h1, if_neg h2, if_pos h3, hm, hXX])
        have HM := Aside0.mk hm
        have HX := Aside0.mk hXX
        have p1 : m < fx.length := by omega
        clear hm hXX
        have q3 : decide (n ≤ (fx.length : Int)) = true := decide_eq_true h3
        rw [HT.out]
        go_wp2
        go_quiet (fail)
        go_upto_region 4 with fail
        have HD := Aside0.mk (below_alloc (pw_below_drewN (Below.refl w.heap.size w) nq) (.cells #[.string ⟨#[]⟩, .string ⟨#[]⟩] 62))
        have BE := Aside0.mk (blk_new (w.drewN nq) (.cells #[.string ⟨#[]⟩, .string ⟨#[]⟩] 62))
        generalize (w.drewN nq).alloc (.cells #[.string ⟨#[]⟩, .string ⟨#[]⟩] 62) = wA at HD BE ⊢
        have BE := Aside0.mk (show wA.heap[w.heap.size]? = some (.cells #[.string ⟨#[]⟩, .string ⟨#[]⟩] 62 (0, 0)) from BE.out)
        obtain ⟨ge, hge⟩ : ∃ x, w.heap.size = x := ⟨_, rfl⟩
        rw [hge] at BE ⊢
        have HG := Aside0.mk (show w.heap.size ≤ ge by omega)
        clear hge
        replace z2 : wA.cell? ⟨g, 2, none⟩ = some (.slice A l.length c) := (HD.out.cell (World.block_lt_of_cell? _ _ z2)).trans z2
        replace z3 : wA.cell? ⟨g, 3, none⟩ = some (.slice B fx.length d) := (HD.out.cell (World.block_lt_of_cell? _ _ z3)).trans z3
        have y0 : wA.cell? ⟨ge, 0, none⟩ = some (.string ⟨#[]⟩) := (blk_cell BE.out 0).trans rfl
        have y1 : wA.cell? ⟨ge, 1, none⟩ = some (.string ⟨#[]⟩) := (blk_cell BE.out 1).trans rfl
        have f0 := blk_frozen BE.out 0
        have f1 := blk_frozen BE.out 1
        have hw2 : wrap64 (n - 1) = (m : Int) := by rw [HM.out]; exact tb_wrap _ (by omega) (by have := HF.out; omega)
        obtain ⟨ad, e1_, x0, x1⟩ := at_T62 K6.out (m : Int) (by omega) (by omega)
        subst e1_
        rw [HX.out, Int.toNat_natCast] at x0 x1
        replace x0 := (HD.out.cell (World.block_lt_of_cell? _ _ x0)).trans x0
        replace x1 := (HD.out.cell (World.block_lt_of_cell? _ _ x1)).trans x1
        go_upto_region 7 with fail
        have HD2 := Aside0.mk (below_set (g := ge) (j := 1) (v := .string XX.f1) (below_set (g := ge) (j := 0) (v := .string XX.f0) HD.out HG.out) HG.out)
        have BE2 := Aside0.mk (blk_put (blk_put BE.out 0 (.string XX.f0) rfl) 1 (.string XX.f1) rfl)
        clear y0 y1 f0 f1 z2 z3 x0 x1
        generalize (wA.setCell ⟨ge, 0, none⟩ (.string XX.f0)).setCell ⟨ge, 1, none⟩ (.string XX.f1) = wB at HD2 BE2 ⊢
        have y0 : wB.cell? ⟨ge, 0, none⟩ = some (.string XX.f0) := (blk_cell BE2.out 0).trans rfl
        have y1 : wB.cell? ⟨ge, 1, none⟩ = some (.string XX.f1) := (blk_cell BE2.out 1).trans rfl
        go_quiet (fail)
        go_wp2
        go_ret3
        exact ⟨rfl, pw_below_drewN HD2.out _⟩
      · obtain ⟨m, hm⟩ : ∃ m : Nat, (l.length : Int) - (n - fx.length) = m := ⟨((l.length : Int) - (n - fx.length)).toNat, by omega⟩
        obtain ⟨XX, hXX⟩ : ∃ x, rd_T62 l (m : Int) = x := ⟨_, rfl⟩
        have HT := Aside0.mk (show tbAt fx l n = (XX.f0, XX.f1, true) by unfold tbAt; rw [if_neg h1, if_neg h2, if_neg h3, hm, hXX])
        have HM := Aside0.mk hm
        have HX := Aside0.mk hXX
        have p1 : m < l.length := by omega
        clear hm hXX
        have q3 : decide (n ≤ (fx.length : Int)) = false := decide_eq_false h3
        rw [HT.out]
        go_wp2
        go_quiet (fail)
        go_upto_region 4 with fail
        have HD := Aside0.mk (below_alloc (pw_below_drewN (Below.refl w.heap.size w) nq) (.cells #[.string ⟨#[]⟩, .string ⟨#[]⟩] 62))
        have BE := Aside0.mk (blk_new (w.drewN nq) (.cells #[.string ⟨#[]⟩, .string ⟨#[]⟩] 62))
        generalize (w.drewN nq).alloc (.cells #[.string ⟨#[]⟩, .string ⟨#[]⟩] 62) = wA at HD BE ⊢
        have BE := Aside0.mk (show wA.heap[w.heap.size]? = some (.cells #[.string ⟨#[]⟩, .string ⟨#[]⟩] 62 (0, 0)) from BE.out)
        obtain ⟨ge, hge⟩ : ∃ x, w.heap.size = x := ⟨_, rfl⟩
        rw [hge] at BE ⊢
        have HG := Aside0.mk (show w.heap.size ≤ ge by omega)
        clear hge
        replace z2 : wA.cell? ⟨g, 2, none⟩ = some (.slice A l.length c) := (HD.out.cell (World.block_lt_of_cell? _ _ z2)).trans z2
        replace z3 : wA.cell? ⟨g, 3, none⟩ = some (.slice B fx.length d) := (HD.out.cell (World.block_lt_of_cell? _ _ z3)).trans z3
        have y0 : wA.cell? ⟨ge, 0, none⟩ = some (.string ⟨#[]⟩) := (blk_cell BE.out 0).trans rfl
        have y1 : wA.cell? ⟨ge, 1, none⟩ = some (.string ⟨#[]⟩) := (blk_cell BE.out 1).trans rfl
        have f0 := blk_frozen BE.out 0
        have f1 := blk_frozen BE.out 1
        have hw2 : wrap64 (n - fx.length) = n - fx.length := tb_wrap _ (by omega) (by have := HL.out; omega)
        have hw3 : wrap64 ((l.length : Int) - (n - fx.length)) = m := by rw [HM.out]; exact tb_wrap _ (by omega) (by have := HL.out; omega)
        obtain ⟨ad, e1_, x0, x1⟩ := at_T62 K5.out (m : Int) (by omega) (by omega)
        subst e1_
        rw [HX.out, Int.toNat_natCast] at x0 x1
        replace x0 := (HD.out.cell (World.block_lt_of_cell? _ _ x0)).trans x0
        replace x1 := (HD.out.cell (World.block_lt_of_cell? _ _ x1)).trans x1
        go_wp2
        go_region
        all_goals
          have HD2 := Aside0.mk (below_drew1 (below_set (g := ge) (j := 1) (v := .string XX.f1) (below_set (g := ge) (j := 0) (v := .string XX.f0) HD.out HG.out) HG.out))
          have BE2 := Aside0.mk (show ((wA.setCell ⟨ge, 0, none⟩ (.string XX.f0)).setCell ⟨ge, 1, none⟩ (.string XX.f1)).drew.heap[ge]? = _ from blk_put (blk_put BE.out 0 (.string XX.f0) rfl) 1 (.string XX.f1) rfl)
          clear y0 y1 f0 f1 z2 z3 x0 x1
          generalize ((wA.setCell ⟨ge, 0, none⟩ (.string XX.f0)).setCell ⟨ge, 1, none⟩ (.string XX.f1)).drew = wB at HD2 BE2 ⊢
          have y0 : wB.cell? ⟨ge, 0, none⟩ = some (.string XX.f0) := (blk_cell BE2.out 0).trans rfl
          have y1 : wB.cell? ⟨ge, 1, none⟩ = some (.string XX.f1) := (blk_cell BE2.out 1).trans rfl
          go_wp2
          go_quiet (fail)
          go_wp2
          go_ret3
          exact ⟨rfl, pw_below_drewN HD2.out _⟩

end Go.Proofs.YtjdnimgkfkpaeaaDoor.Mine
