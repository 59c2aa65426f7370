import Derived.Test.YtjdnimgkfkpaeaaDoorMinex0
import Derived.Test.YtjdnimgkfkpaeaaDoorShelf
import Derived.Test.YtjdnimgkfkpaeaaDoorTbT
import Derived.Test.YtjdnimgkfkpaeaaDoorTbA
import Derived.Test.YtjdnimgkfkpaeaaDoorTbB
import Derived.Test.YtjdnimgkfkpaeaaDoorTbC
import Derived.Test.YtjdnimgkfkpaeaaDoorTbD
import Derived.Test.YtjdnimgkfkpaeaaDoorTbS
import Derived.Test.YtjdnimgkfkpaeaaDoorTbE
import Derived.Test.YtjdnimgkfkpaeaaDoorTbK
import Derived.Test.YtjdnimgkfkpaeaaDoorTbG
namespace Go.Proofs.YtjdnimgkfkpaeaaDoor.Mine
open Go.RowKit Go.Proofs Go.Proofs.YtjdnimgkfkpaeaaDoorW.PrintWords Go.Proofs.YtjdnimgkfkpaeaaDoorW.PrintLast Go.Proofs.YtjdnimgkfkpaeaaDoorW.PrintMore
attribute [local go_sem] max2_int min2_int max_two min_two max_three min_three max_four min_four
set_option linter.unusedVariables false
set_option linter.unusedSimpArgs false
def tbFind (fx l : List S62) (nm vl : ByteArray) : Nat → Int → Int → Int × Bool
  | 0, _, n => (n, false)
  | k + 1, i, n => if (tbAt fx l i).1.toList = nm.toList then (if (tbAt fx l i).2.1.toList = vl.toList then (i, true) else if n = 0 then tbFind fx l nm vl k (i + 1) i else tbFind fx l nm vl k (i + 1) n) else tbFind fx l nm vl k (i + 1) n
set_option maxHeartbeats 4000000 in
set_option maxRecDepth 100000 in
theorem tb_find (g : Nat) (most size : Int) (nm vl : ByteArray) (l fx : List S62) (w0 w : World) (hI : IsT w0 w g most size l fx) (hl : l.length < 4398046511104) (hf : fx.length < 4398046511104) :
    Calls Tryd.prog 17 #[.pointer (some ⟨g, 0, none⟩), .string nm, .string vl] w fun en w' => en = .returned (.tuple #[.int .i64 (tbFind fx l nm vl (fx.length + l.length) 1 0).1, .bool (tbFind fx l nm vl (fx.length + l.length) 1 0).2]) ∧ Below w.heap.size w w' := by
  have HI := Aside0.mk hI
  have HL := Aside0.mk hl
  have HF := Aside0.mk hf
  have HB := Aside0.mk (Below.refl w.heap.size w)
  have hu57 := Tryd.underlying57
  have hu62 := Tryd.underlying62
  clear hI hl hf
  obtain ⟨T, hT⟩ : ∃ x, tbFind fx l nm vl (fx.length + l.length) 1 0 = x := ⟨_, rfl⟩
  rw [hT]
  have HT := Aside0.mk hT
  clear hT
  have hw1 : wrap64 ((fx.length : Int) + (l.length : Int)) = (fx.length : Int) + l.length := tb_wrap _ (by omega) (by have := HL.out; have := HF.out; omega)
  go_enter Tryd.func17, Tryd.ntmps17
  go_wp2_with fail
  go_loopw [6, 8] (fun v6 v8 wr => ∃ (k : Nat) (i n : Int), v6 = .int .i64 n ∧ v8 = .int .i64 i ∧ Aside0 (i + k = fx.length + l.length + 1) ∧ Aside0 (1 ≤ i) ∧ Aside0 (tbFind fx l nm vl k i n = T) ∧ Aside0 (Below w.heap.size w wr)) (fun _ v8 _ => (fx.length + l.length + 1 - intOf v8).toNat)
  case atStart => exact ⟨fx.length + l.length, 1, 0, rfl, rfl, ⟨by omega⟩, ⟨by omega⟩, HT, HB⟩
  case round =>
    clear HB HT
    obtain ⟨k, i, n, rfl, rfl, HK, H1, HT, HB⟩ := hrel
    have HI1 := Aside0.mk (HI.out.below HB.out)
    obtain ⟨A, c, B, d, k1, k2, k3, k4, k5, k6⟩ := HI1.out
    have z2 : wr.cell? ⟨g, 2, none⟩ = some (.slice A l.length c) := (blk_cell k1 2).trans rfl
    have z3 : wr.cell? ⟨g, 3, none⟩ = some (.slice B fx.length d) := (blk_cell k1 3).trans rfl
    clear k1 k2 k3 k4 k5 k6
    cases k with
    | zero =>
      have q1 : decide (i ≤ (fx.length : Int) + l.length) = false := decide_eq_false (by have := HK.out; omega)
      have hT2 : (n, false) = T := HT.out
      clear HT
      subst hT2
      go_wp2
      go_quiet (fail)
      go_wp2
      go_ret2
      exact ⟨rfl, pw_below_drewN HB.out _⟩
    | succ k =>
      have q1 : decide (i ≤ (fx.length : Int) + l.length) = true := decide_eq_true (by have := HK.out; omega)
      have hw2 : wrap64 (i + 1) = i + 1 := tb_wrap _ (by have := H1.out; omega) (by have := HK.out; have := HL.out; have := HF.out; omega)
      have hT := HT.out
      obtain ⟨⟨a, b, e⟩, hR⟩ : ∃ R, tbAt fx l i = R := ⟨_, rfl⟩
      rw [tbFind, hR] at hT
      have HR := Aside0.mk hR
      clear hR HT
      by_cases ha : a.toList = nm.toList
      · rw [if_pos ha] at hT
        have q2 : (a.toList == nm.toList) = true := beq_iff_eq.mpr ha
        by_cases hb : b.toList = vl.toList
        · rw [if_pos hb] at hT
          have q3 : (b.toList == vl.toList) = true := beq_iff_eq.mpr hb
          subst hT
          clear ha hb
          go_wp2
          go_quiet (fail)
          go_wp2_with (first | (go_at_call 14; (with_reducible refine (tb_at14 g most size i l fx w0 _ (HI1.out.drewN nq) HL.out HF.out (by have := HK.out; have := HL.out; have := HF.out; omega)).mono ?_); rintro en w1 ⟨rfl, hb⟩; rw [HR.out]; have HB2 := Aside0.mk (below_step (pw_below_drewN HB.out nq) hb); clear hb))
          go_ret2
          exact ⟨rfl, HB2.out⟩
        · rw [if_neg hb] at hT
          have q3 : (b.toList == vl.toList) = false := beq_eq_false_iff_ne.mpr hb
          clear ha hb
          by_cases hn : n = 0
          · rw [if_pos hn] at hT
            subst hn
            have HT := Aside0.mk hT
            clear hT
            go_wp2
            go_quiet (fail)
            go_wp2_with (first | (go_at_call 14; (with_reducible refine (tb_at14 g most size i l fx w0 _ (HI1.out.drewN nq) HL.out HF.out (by have := HK.out; have := HL.out; have := HF.out; omega)).mono ?_); rintro en w1 ⟨rfl, hb⟩; rw [HR.out]; have HB2 := Aside0.mk (below_step (pw_below_drewN HB.out nq) hb); clear hb))
            go_roundw
            case rel => exact ⟨k, i + 1, i, rfl, by rw [hw2], ⟨by have := HK.out; omega⟩, ⟨by have := H1.out; omega⟩, HT, HB2⟩
            case measure => rw [hw2]; simp only [intOf]; have := HK.out; omega
          · rw [if_neg hn] at hT
            have q4 : (n == 0) = false := beq_eq_false_iff_ne.mpr hn
            have HT := Aside0.mk hT
            clear hT hn
            go_wp2
            go_quiet (fail)
            go_wp2_with (first | (go_at_call 14; (with_reducible refine (tb_at14 g most size i l fx w0 _ (HI1.out.drewN nq) HL.out HF.out (by have := HK.out; have := HL.out; have := HF.out; omega)).mono ?_); rintro en w1 ⟨rfl, hb⟩; rw [HR.out]; have HB2 := Aside0.mk (below_step (pw_below_drewN HB.out nq) hb); clear hb))
            go_roundw
            case rel => exact ⟨k, i + 1, n, rfl, by rw [hw2], ⟨by have := HK.out; omega⟩, ⟨by have := H1.out; omega⟩, HT, HB2⟩
            case measure => rw [hw2]; simp only [intOf]; have := HK.out; omega
      · rw [if_neg ha] at hT
        have q2 : (a.toList == nm.toList) = false := beq_eq_false_iff_ne.mpr ha
        have HT := Aside0.mk hT
        clear hT ha
        go_wp2
        go_quiet (fail)
        go_wp2_with (first | (go_at_call 14; (with_reducible refine (tb_at14 g most size i l fx w0 _ (HI1.out.drewN nq) HL.out HF.out (by have := HK.out; have := HL.out; have := HF.out; omega)).mono ?_); rintro en w1 ⟨rfl, hb⟩; rw [HR.out]; have HB2 := Aside0.mk (below_step (pw_below_drewN HB.out nq) hb); clear hb))
        go_roundw
        case rel => exact ⟨k, i + 1, n, rfl, by rw [hw2], ⟨by have := HK.out; omega⟩, ⟨by have := H1.out; omega⟩, HT, HB2⟩
        case measure => rw [hw2]; simp only [intOf]; have := HK.out; omega

end Go.Proofs.YtjdnimgkfkpaeaaDoor.Mine
