/- The walks and the plain laws that the rows come to: merged out of this repo's texts. -/
import Derived.Test.YtfkdocmhbmameaaDoorProg
import Derived.Below
import Derived.Deep.Draws
import Derived.Deep.AppendLies
import Derived.Maps.AppendAt
import Derived.OwnWalk
import Derived.Laws.BytesArg
import Derived.Laws.MakeOwn
import Derived.Laws.OwnMore
import Derived.Deep.OwnRows
import Derived.Tactics
import Derived.Lib.ConvBytes
import Derived.Laws.Slices
import Derived.WalkKit
import Derived.KernelRfl
import Derived.RowKit3
import Derived.Deep.LoopGhost
import Derived.Deep.QuietTactic
import Derived.BigQuiet
import Derived.WideLaws
import Derived.Deep.DeepCutAuto
import Derived.Deep.CutBlock
import Derived.Deep.RegionHeld3
import Derived.Laws.Rows
import Derived.Lib.AppendStr
import Derived.ArgAppend
import Derived.Laws.IdiomCopy
import Derived.RowKit
import Derived.OrdersHeld
import Derived.Laws.BitsLemmas
import Derived.Laws.StructEq
import Derived.Laws.CopyOwn
import Derived.SizedLaws
import Derived.ChangeSlices
import Derived.Deep.Slices
import Derived.Lib.SmallJoins
import Derived.Lib.OthersKept
import Derived.Lib.AppendZerosOnto
import Derived.WalkSpells
import Derived.Shelf.Utf8.RuneCount
import Derived.Shelf.Strings.Search1
import Derived.Shelf.Strings.Search2
import Derived.Shelf.Strings.Search3
import Derived.Shelf.Strings.Cut
import Derived.Shelf.Strings.Count
import Derived.Shelf.LaysM
import Derived.Shelf.Strings.Shaped
import Derived.Shelf.Strings.Split
import Derived.Shelf.Strings.SplitShaped
import Derived.Shelf.Unicode.Decode
import Derived.Shelf.Strings.RuneCount
import Derived.Shelf.Strings.Explode
import Derived.Shelf.Unicode.DecodeSlow
import Derived.Shelf.Unicode.DecodeAny
import Derived.Test.YtfkdocmhbmameaaDoorCA1
import Derived.Test.YtfkdocmhbmameaaDoorCA2
import Derived.Test.YtfkdocmhbmameaaDoorCA3
namespace Go.Proofs.YtfkdocmhbmameaaDoor.Mine
open Go.RowKit Go.Proofs Go.Proofs.YtfkdocmhbmameaaDoorW.PrintWords Go.Proofs.YtfkdocmhbmameaaDoorW.PrintLast Go.Proofs.YtfkdocmhbmameaaDoorW.PrintMore
attribute [local go_sem] max2_int min2_int max_two min_two max_three min_three max_four min_four
set_option linter.unusedVariables false
set_option linter.unusedSimpArgs false
def tbFind (fx l : List S103) (nm vl : ByteArray) : Nat → Int → Int → Int × Bool
  | 0, _, n => (n, false)
  | k + 1, i, n => if (tbAt fx l i).1.toList = nm.toList then (if (tbAt fx l i).2.1.toList = vl.toList then (i, true) else if n = 0 then tbFind fx l nm vl k (i + 1) i else tbFind fx l nm vl k (i + 1) n) else tbFind fx l nm vl k (i + 1) n
set_option maxHeartbeats 4000000 in
set_option maxRecDepth 100000 in
theorem tb_find (g : Nat) (most size : Int) (nm vl : ByteArray) (l fx : List S103) (w0 w : World) (hI : IsT w0 w g most size l fx) (hl : l.length < 4398046511104) (hf : fx.length < 4398046511104) :
    Calls Tryd.prog 53 #[.pointer (some ⟨g, 0, none⟩), .string nm, .string vl] w fun en w' => en = .returned (.tuple #[.int .i64 (tbFind fx l nm vl (fx.length + l.length) 1 0).1, .bool (tbFind fx l nm vl (fx.length + l.length) 1 0).2]) ∧ Below w.heap.size w w' := by
  have HI := Aside0.mk hI
  have HL := Aside0.mk hl
  have HF := Aside0.mk hf
  have HB := Aside0.mk (Below.refl w.heap.size w)
  have hu_57_ := Tryd.underlying77
  have hu_62_ := Tryd.underlying103
  clear hI hl hf
  obtain ⟨T, hT⟩ : ∃ x, tbFind fx l nm vl (fx.length + l.length) 1 0 = x := ⟨_, rfl⟩
  rw [hT]
  have HT := Aside0.mk hT
  clear hT
  have hw1 : wrap64 ((fx.length : Int) + (l.length : Int)) = (fx.length : Int) + l.length := tb_wrap _ (by omega) (by have := HL.out; have := HF.out; omega)
  go_enter Tryd.func53, Tryd.ntmps53
  go_wp2_with fail
  go_loopw [6, 8] (fun v6 v8 wr => ∃ (k : Nat) (i n : Int), v6 = .int .i64 n ∧ v8 = .int .i64 i ∧ Aside0 (i + k = fx.length + l.length + 1) ∧ Aside0 (1 ≤ i) ∧ Aside0 (tbFind fx l nm vl k i n = T) ∧ Aside0 (Below w.heap.size w wr)) (fun _ v8 _ => (fx.length + l.length + 1 - intOf v8).toNat)
  case atStart => exact ⟨fx.length + l.length, 1, 0, rfl, rfl, ⟨by omega⟩, ⟨by omega⟩, HT, HB⟩
  case round =>
    clear HB HT
    obtain ⟨k, i, n, rfl, rfl, HK, H1, HT, HB⟩ := hrel
    have HI1 := Aside0.mk (HI.out.below HB.out)
    obtain ⟨A, c, B, d, k1, k2, k3, k4, k5, k6⟩ := HI1.out
    have z2 : wr.cell? ⟨g, 2, none⟩ = some (.slice A l.length c) := (blk_cell k1 2).trans rfl
    have z3 : wr.cell? ⟨g, 3, none⟩ = some (.slice B fx.length d) := (blk_cell k1 3).trans rfl
    clear k1 k2 k3 k4 k5 k6
    cases k with
    | zero =>
      have q1 : decide (i ≤ (fx.length : Int) + l.length) = false := decide_eq_false (by have := HK.out; omega)
      have hT2 : (n, false) = T := HT.out
      clear HT
      subst hT2
      go_wp2
      go_quiet (fail)
      go_wp2
      go_ret2
      exact ⟨rfl, pw_below_drewN HB.out _⟩
    | succ k =>
      have q1 : decide (i ≤ (fx.length : Int) + l.length) = true := decide_eq_true (by have := HK.out; omega)
      have hw2 : wrap64 (i + 1) = i + 1 := tb_wrap _ (by have := H1.out; omega) (by have := HK.out; have := HL.out; have := HF.out; omega)
      have hT := HT.out
      obtain ⟨⟨a, b, e⟩, hR⟩ : ∃ R, tbAt fx l i = R := ⟨_, rfl⟩
      rw [tbFind, hR] at hT
      have HR := Aside0.mk hR
      clear hR HT
      by_cases ha : a.toList = nm.toList
      · rw [if_pos ha] at hT
        have q2 : (a.toList == nm.toList) = true := beq_iff_eq.mpr ha
        by_cases hb : b.toList = vl.toList
        · rw [if_pos hb] at hT
          have q3 : (b.toList == vl.toList) = true := beq_iff_eq.mpr hb
          subst hT
          clear ha hb
          go_wp2
          go_quiet (fail)
          go_wp2_with (first | (go_at_call 33; (with_reducible refine (tb_at14 g most size i l fx w0 _ (HI1.out.drewN nq) HL.out HF.out (by have := HK.out; have := HL.out; have := HF.out; omega)).mono ?_); rintro en w1 ⟨rfl, hb⟩; rw [HR.out]; have HB2 := Aside0.mk (below_step (pw_below_drewN HB.out nq) hb); clear hb))
          go_ret2
          exact ⟨rfl, HB2.out⟩
        · rw [if_neg hb] at hT
          have q3 : (b.toList == vl.toList) = false := beq_eq_false_iff_ne.mpr hb
          clear ha hb
          by_cases hn : n = 0
          · rw [if_pos hn] at hT
            subst hn
            have HT := Aside0.mk hT
            clear hT
            go_wp2
            go_quiet (fail)
            go_wp2_with (first | (go_at_call 33; (with_reducible refine (tb_at14 g most size i l fx w0 _ (HI1.out.drewN nq) HL.out HF.out (by have := HK.out; have := HL.out; have := HF.out; omega)).mono ?_); rintro en w1 ⟨rfl, hb⟩; rw [HR.out]; have HB2 := Aside0.mk (below_step (pw_below_drewN HB.out nq) hb); clear hb))
            go_roundw
            case rel => exact ⟨k, i + 1, i, rfl, by rw [hw2], ⟨by have := HK.out; omega⟩, ⟨by have := H1.out; omega⟩, HT, HB2⟩
            case measure => rw [hw2]; simp only [intOf]; have := HK.out; omega
          · rw [if_neg hn] at hT
            have q4 : (n == 0) = false := beq_eq_false_iff_ne.mpr hn
            have HT := Aside0.mk hT
            clear hT hn
            go_wp2
            go_quiet (fail)
            go_wp2_with (first | (go_at_call 33; (with_reducible refine (tb_at14 g most size i l fx w0 _ (HI1.out.drewN nq) HL.out HF.out (by have := HK.out; have := HL.out; have := HF.out; omega)).mono ?_); rintro en w1 ⟨rfl, hb⟩; rw [HR.out]; have HB2 := Aside0.mk (below_step (pw_below_drewN HB.out nq) hb); clear hb))
            go_roundw
            case rel => exact ⟨k, i + 1, n, rfl, by rw [hw2], ⟨by have := HK.out; omega⟩, ⟨by have := H1.out; omega⟩, HT, HB2⟩
            case measure => rw [hw2]; simp only [intOf]; have := HK.out; omega
      · rw [if_neg ha] at hT
        have q2 : (a.toList == nm.toList) = false := beq_eq_false_iff_ne.mpr ha
        have HT := Aside0.mk hT
        clear hT ha
        go_wp2
        go_quiet (fail)
        go_wp2_with (first | (go_at_call 33; (with_reducible refine (tb_at14 g most size i l fx w0 _ (HI1.out.drewN nq) HL.out HF.out (by have := HK.out; have := HL.out; have := HF.out; omega)).mono ?_); rintro en w1 ⟨rfl, hb⟩; rw [HR.out]; have HB2 := Aside0.mk (below_step (pw_below_drewN HB.out nq) hb); clear hb))
        go_roundw
        case rel => exact ⟨k, i + 1, n, rfl, by rw [hw2], ⟨by have := HK.out; omega⟩, ⟨by have := H1.out; omega⟩, HT, HB2⟩
        case measure => rw [hw2]; simp only [intOf]; have := HK.out; omega
end Go.Proofs.YtfkdocmhbmameaaDoor.Mine
namespace Go.Proofs.YtfkdocmhbmameaaDoor.Mine
open Go.RowKit Go.Proofs.YtfkdocmhbmameaaDoorW.PrintWords Go.Proofs.YtfkdocmhbmameaaDoorW.PrintLast Go.Proofs.YtfkdocmhbmameaaDoorW.PrintMore
attribute [local go_sem] max2_int min2_int max_two min_two max_three min_three max_four min_four
set_option linter.unusedVariables false
set_option linter.unusedSimpArgs false
def nunciolaw13_FewFields.l0 : Nat → List (S26) → Int → Int → Option (Bool)
 | 0, _, _, _ => none
 | k + 1, x0, x3, x4 => if x4 < (x0.length : Int) then (if x3 < 3000 then (if 0 ≤ x4 then (nunciolaw13_FewFields.l0 k x0 (wrap64 ((wrap64 (x3 + (mn (((rd_T26 x0 x4).f0).size : Int) 3000))) + (mn (((rd_T26 x0 x4).f1).size : Int) 3000))) (wrap64 (x4 + 1))) else (none)) else (some (decide (x3 < 3000)))) else (some (decide (x3 < 3000)))
def nunciolaw13_FewFields.f (k : Nat) (l0 : List (S26)) : Option (Bool) := nunciolaw13_FewFields.l0 k l0 (mn (l0.length : Int) 3000) 0
theorem nunciolaw13_FewFields.mono_l : ∀ k, (∀ y0 y1 y2, LeO (nunciolaw13_FewFields.l0 k y0 y1 y2) (nunciolaw13_FewFields.l0 (k + 1) y0 y1 y2))
 | 0 => fun _ _ _ r h => by simp [nunciolaw13_FewFields.l0] at h
 | k + 1 => by
  have ih0 := nunciolaw13_FewFields.mono_l k
  ·
   intro y0 y1 y2
   unfold nunciolaw13_FewFields.l0
   repeat' first
   | (with_reducible exact ih0 _ _ _)
   | (with_reducible exact LeO.refl _)
   | (with_reducible exact LeO.none _)
   | (with_reducible refine LeO.ite ?_ ?_)
   | (with_reducible refine LeO.bind ?_ (fun _ => ?_))
   | exact ih0 _ _ _
   | exact LeO.none _
   | refine LeO.ite ?_ ?_
   | refine LeO.bind ?_ (fun _ => ?_)
theorem nunciolaw13_FewFields.mono : ∀ a0 k, LeO (nunciolaw13_FewFields.f k a0) (nunciolaw13_FewFields.f (k + 1) a0) := by
 intro a0 k
 have ih0 := nunciolaw13_FewFields.mono_l k
 unfold nunciolaw13_FewFields.f
 repeat' first
   | (with_reducible exact ih0 _ _ _)
   | (with_reducible exact LeO.refl _)
   | (with_reducible exact LeO.none _)
   | (with_reducible refine LeO.ite ?_ ?_)
   | (with_reducible refine LeO.bind ?_ (fun _ => ?_))
   | exact ih0 _ _ _
   | exact LeO.none _
   | refine LeO.ite ?_ ?_
   | refine LeO.bind ?_ (fun _ => ?_)
set_option maxHeartbeats 8000000 in
set_option maxRecDepth 100000 in
theorem nunciolaw13_FewFields.calls (k : Nat) (A0 : Option Addr) (c0 : Nat) (l0 : List (S26)) (r : Bool) (w : World) (hr0 : Kd.C k26 w A0 l0.length l0) (hc0 : l0.length ≤ c0) (h : nunciolaw13_FewFields.f k l0 = some r) :
  Calls Tryd.prog 10 #[.slice A0 l0.length c0] w fun e w' => e = .returned (.bool r) ∧ Below w.heap.size w w' := by
 have HR0 := Aside0.mk hr0
 have HC0 := Aside0.mk hc0
 clear hr0 hc0
 have HB := Aside0.mk (Below.refl w.heap.size w)
 have H : (nunciolaw13_FewFields.l0 k l0 (mn (l0.length : Int) 3000) 0) = some r := h
 clear h
 obtain ⟨ji2, hji2⟩ : ∃ j_ : Int, (mn (l0.length : Int) 3000) = j_ := ⟨_, rfl⟩
 replace H : (nunciolaw13_FewFields.l0 k l0 ji2 0) = some r := by first | (rw [hji2] at H; exact H) | (simp only [hji2] at H ⊢; exact H)
 (try (have hji2h : ji2 ≤ 3000 := by (rw [← hji2]; unfold mn; (repeat' split) <;> omega)))
 (try (have hji2g : ji2 ≤ 64 := by omega))
 (try (have hji2l : 0 ≤ ji2 := by (rw [← hji2]; unfold mn; (repeat' split) <;> omega)))
 (try (have hji2m : 0 ≤ ji2 := by omega))
 have hji2_ : (if 3000 < (l0.length : Int) then 3000 else (l0.length : Int)) = ji2 := hji2
 have H' := Aside0.mk H
 clear H
 go_enter Tryd.func10, Tryd.ntmps10
 go_wp2
 repeat (go_quiet (fail); try go_wp2)
 go_loopg [3, 4] k (fun kq v3 v4 w' => ∃ (x3_1 : Int) (x4_1 : Int), v3 = .int .i64 x3_1 ∧ v4 = .int .i64 x4_1 ∧ Aside0 (nunciolaw13_FewFields.l0 kq l0 x3_1 x4_1 = some r) ∧ Aside0 (kq ≤ k) ∧ Aside0 (Below w.heap.size w w'))
 case atStart => exact ⟨(ji2), (0), (by first | rfl | (simp; done) | (simp only [← hji2] <;> (first | rfl | simp)) | (simp [*]; done)), (by first | rfl | (simp; done) | (simp [*]; done)), H', ⟨Nat.le_refl _⟩, ⟨by repeat (first | (with_reducible first | exact HB.out | apply below_alloc | apply pw_below_drewN | apply below_drew1) | exact HB.out)⟩⟩
 case round =>
  clear H'
  try clear c1
  try clear p2
  obtain ⟨x3_1, x4_1, rfl, rfl, HA, HK1, HB⟩ := hrel
  cases gk with
  | zero => exact absurd HA.out (by simp [nunciolaw13_FewFields.l0])
  | succ k1 =>
   have H := HA.out
   clear HA
   simp only [nunciolaw13_FewFields.l0] at H
   by_cases c3 : x4_1 < (l0.length : Int)
   ·
    rw [if_pos c3] at H
    have c3b0 : decide (x4_1 < (l0.length : Int)) = true := decide_eq_true c3
    clear c3
    by_cases c4 : x3_1 < 3000
    ·
     rw [if_pos c4] at H
     have c4b0 : decide (x3_1 < 3000) = true := decide_eq_true c4
     clear c4
     by_cases c5 : 0 ≤ x4_1
     ·
      rw [if_pos c5] at H
      have c5b0 : decide (0 ≤ x4_1) = true := decide_eq_true c5
      clear c5
      obtain ⟨ji6, hji6⟩ : ∃ j_ : Int, (mn (((rd_T26 l0 x4_1).f0).size : Int) 3000) = j_ := ⟨_, rfl⟩
      replace H : (nunciolaw13_FewFields.l0 k1 l0 (wrap64 ((wrap64 (x3_1 + (ji6))) + (mn (((rd_T26 l0 x4_1).f1).size : Int) 3000))) (wrap64 (x4_1 + 1))) = some r := by first | (rw [hji6] at H; exact H) | (simp only [hji6] at H ⊢; exact H)
      have hji6_ : (if 3000 < (((rd_T26 l0 x4_1).f0).size : Int) then 3000 else (((rd_T26 l0 x4_1).f0).size : Int)) = ji6 := hji6
      obtain ⟨ji7, hji7⟩ : ∃ j_ : Int, (mn (((rd_T26 l0 x4_1).f1).size : Int) 3000) = j_ := ⟨_, rfl⟩
      replace H : (nunciolaw13_FewFields.l0 k1 l0 (wrap64 ((wrap64 (x3_1 + (ji6))) + (ji7))) (wrap64 (x4_1 + 1))) = some r := by first | (rw [hji7] at H; exact H) | (simp only [hji7] at H ⊢; exact H)
      have hji7_ : (if 3000 < (((rd_T26 l0 x4_1).f1).size : Int) then 3000 else (((rd_T26 l0 x4_1).f1).size : Int)) = ji7 := hji7
      have H' := Aside0.mk H
      clear H
      have p179 : 0 ≤ (x4_1 : Int) := of_decide_eq_true (by first | (with_reducible assumption) | assumption)
      have q179 : x4_1 < (l0.length : Int) := of_decide_eq_true (by first | (with_reducible assumption) | assumption)
      obtain ⟨ad179, e179, hx179_0, hx179_1, hx179_2⟩ := at_T26 HR0.out x4_1 p179 q179
      cases e179
      replace hx179_0 := (HB.out.cell (World.block_lt_of_cell? w _ hx179_0)).trans hx179_0
      replace hx179_1 := (HB.out.cell (World.block_lt_of_cell? w _ hx179_1)).trans hx179_1
      replace hx179_2 := (HB.out.cell (World.block_lt_of_cell? w _ hx179_2)).trans hx179_2
      replace p179 := eq_true p179
      replace q179 := eq_true q179
      have p180 : 0 ≤ (x4_1 : Int) := of_decide_eq_true (by first | (with_reducible assumption) | assumption)
      have q180 : x4_1 < (l0.length : Int) := of_decide_eq_true (by first | (with_reducible assumption) | assumption)
      obtain ⟨ad180, e180, hx180_0, hx180_1, hx180_2⟩ := at_T26 HR0.out x4_1 p180 q180
      obtain rfl : ad179 = ad180 := (by injection e180)
      replace hx180_0 := (HB.out.cell (World.block_lt_of_cell? w _ hx180_0)).trans hx180_0
      replace hx180_1 := (HB.out.cell (World.block_lt_of_cell? w _ hx180_1)).trans hx180_1
      replace hx180_2 := (HB.out.cell (World.block_lt_of_cell? w _ hx180_2)).trans hx180_2
      replace p180 := eq_true p180
      replace q180 := eq_true q180
      go_wp2
      repeat (go_quiet (fail); try go_wp2)
      go_roundg k1
      case measure => have := HK1.out; omega
      case rel => exact ⟨(wrap64 ((wrap64 (x3_1 + (ji6))) + (ji7))), (wrap64 (x4_1 + 1)), (by first | rfl | (simp; done) | (simp only [← hji6, ← hji7] <;> (first | rfl | simp)) | (simp [*]; done)), (by first | rfl | (simp; done) | (simp [*]; done)), H', ⟨by have := HK1.out; omega⟩, ⟨by repeat (first | (with_reducible first | exact HB.out | apply below_alloc | apply pw_below_drewN | apply below_drew1) | exact HB.out)⟩⟩
     ·
      rw [if_neg c5] at H
      exact absurd H (by simp)
    ·
     rw [if_neg c4] at H
     have c4b0 : decide (x3_1 < 3000) = false := decide_eq_false c4
     clear c4
     obtain rfl := Option.some.inj H
     go_wp2
     repeat (go_quiet (fail); try go_wp2)
     go_ret
     exact ⟨by first | rfl | (simp [errW_none, errW_some] <;> rfl) | (simp only [← hji2]; first | rfl | (simp [errW_none, errW_some] <;> rfl)) | (simp [*, errW_none, errW_some] <;> rfl), by repeat (first | (with_reducible first | exact HB.out | apply below_alloc | apply pw_below_drewN | apply below_drew1) | exact HB.out)⟩
   ·
    rw [if_neg c3] at H
    have c3b0 : decide (x4_1 < (l0.length : Int)) = false := decide_eq_false c3
    clear c3
    obtain rfl := Option.some.inj H
    go_wp2
    repeat (go_quiet (fail); try go_wp2)
    go_ret
    exact ⟨by first | rfl | (simp [errW_none, errW_some] <;> rfl) | (simp only [← hji2]; first | rfl | (simp [errW_none, errW_some] <;> rfl)) | (simp [*, errW_none, errW_some] <;> rfl), by repeat (first | (with_reducible first | exact HB.out | apply below_alloc | apply pw_below_drewN | apply below_drew1) | exact HB.out)⟩
end Go.Proofs.YtfkdocmhbmameaaDoor.Mine
