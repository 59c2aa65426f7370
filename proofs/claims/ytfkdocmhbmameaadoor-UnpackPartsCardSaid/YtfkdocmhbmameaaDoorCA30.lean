/- The walks and the plain laws that the rows come to: merged out of this repo's texts. -/
import Derived.Test.YtfkdocmhbmameaaDoorProg
import Derived.Below
import Derived.Deep.Draws
import Derived.Deep.AppendLies
import Derived.Maps.AppendAt
import Derived.OwnWalk
import Derived.Laws.BytesArg
import Derived.Laws.MakeOwn
import Derived.Laws.OwnMore
import Derived.Deep.OwnRows
import Derived.Tactics
import Derived.Lib.ConvBytes
import Derived.Laws.Slices
import Derived.WalkKit
import Derived.KernelRfl
import Derived.RowKit3
import Derived.Deep.LoopGhost
import Derived.Deep.QuietTactic
import Derived.BigQuiet
import Derived.WideLaws
import Derived.Deep.DeepCutAuto
import Derived.Deep.CutBlock
import Derived.Deep.RegionHeld3
import Derived.Laws.Rows
import Derived.Lib.AppendStr
import Derived.ArgAppend
import Derived.Laws.IdiomCopy
import Derived.RowKit
import Derived.OrdersHeld
import Derived.Laws.BitsLemmas
import Derived.Laws.StructEq
import Derived.Laws.CopyOwn
import Derived.SizedLaws
import Derived.ChangeSlices
import Derived.Deep.Slices
import Derived.Lib.SmallJoins
import Derived.Lib.OthersKept
import Derived.Lib.AppendZerosOnto
import Derived.WalkSpells
import Derived.Shelf.Utf8.RuneCount
import Derived.Shelf.Strings.Search1
import Derived.Shelf.Strings.Search2
import Derived.Shelf.Strings.Search3
import Derived.Shelf.Strings.Cut
import Derived.Shelf.Strings.Count
import Derived.Shelf.LaysM
import Derived.Shelf.Strings.Shaped
import Derived.Shelf.Strings.Split
import Derived.Shelf.Strings.SplitShaped
import Derived.Shelf.Unicode.Decode
import Derived.Shelf.Strings.RuneCount
import Derived.Shelf.Strings.Explode
import Derived.Shelf.Unicode.DecodeSlow
import Derived.Shelf.Unicode.DecodeAny
import Derived.Test.YtfkdocmhbmameaaDoorCA1
import Derived.Test.YtfkdocmhbmameaaDoorCA2
import Derived.Test.YtfkdocmhbmameaaDoorCA3
import Derived.Test.YtfkdocmhbmameaaDoorCA7
import Derived.Test.YtfkdocmhbmameaaDoorCA8
import Derived.Test.YtfkdocmhbmameaaDoorCA9
import Derived.Test.YtfkdocmhbmameaaDoorCA11
namespace Go.Proofs.YtfkdocmhbmameaaDoor.Mine
open Go.RowKit Go.Proofs Go.Proofs.YtfkdocmhbmameaaDoorW.PrintWords Go.Proofs.YtfkdocmhbmameaaDoorW.PrintLast Go.Proofs.YtfkdocmhbmameaaDoorW.PrintMore
attribute [local go_sem] max2_int min2_int max_two min_two max_three min_three max_four min_four
set_option linter.unusedVariables false
set_option linter.unusedSimpArgs false
def tbSameL (t u : TB) : Nat → Int → Bool
  | 0, _ => true
  | n + 1, i => decide ((tbAt t.fx t.l (62 + i)).1 = (tbAt u.fx u.l (62 + i)).1) && (decide ((tbAt t.fx t.l (62 + i)).2.1 = (tbAt u.fx u.l (62 + i)).2.1) && tbSameL t u n (i + 1))
def nunciolaw12_same.f (t u : TB) : Option Bool := if t.l.length = u.l.length ∧ t.most = u.most ∧ t.size = u.size ∧ t.l.length < 4398046511104 ∧ t.fx.length < 4398046511104 ∧ u.fx.length < 4398046511104 ∧ tbSameL t u t.l.length 0 = true then some true else none
set_option maxHeartbeats 4000000 in
set_option maxRecDepth 100000 in
theorem nunciolaw12_same.calls {w1 : World} (g : Nat) (t : TB) (g2 : Nat) (u : TB) (r : Bool) (w : World) (hI : IsS77 w1 w g t) (hI2 : IsS77 w1 w g2 u) (h : nunciolaw12_same.f t u = some r) :
    Calls Tryd.prog 32 #[.pointer (some ⟨g, 0, none⟩), .pointer (some ⟨g2, 0, none⟩)] w fun e w' => e = .returned (.bool r) ∧ Below w.heap.size w w' := by
  unfold nunciolaw12_same.f at h
  split at h
  · rename_i hc
    obtain rfl := Option.some.inj h
    obtain ⟨h1, h2, h3, h4, h5, h6, h7⟩ := hc
    have HT := Aside0.mk hI.1
    have HU := Aside0.mk hI2.1
    have HL := Aside0.mk h4
    have HF := Aside0.mk h5
    have HG := Aside0.mk h6
    have HS := Aside0.mk h7
    have HE := Aside0.mk h1
    have H2 := Aside0.mk h2
    have H3 := Aside0.mk h3
    have HB := Aside0.mk (Below.refl w.heap.size w)
    clear h h1 h2 h3 h4 h5 h6 h7 hI hI2
    go_enter Tryd.func32, Tryd.ntmps32
    have q1 : ((t.l.length : Int) != (u.l.length : Int)) = false := by rw [HE.out]; exact bne_self_eq_false _
    have q2 : (t.most != u.most) = false := by rw [H2.out]; exact bne_self_eq_false _
    have q3 : (t.size != u.size) = false := by rw [H3.out]; exact bne_self_eq_false _
    go_upto_region 3 with (first | (go_at_call 31; (with_reducible refine (tb_getlen g _ _ _ _ w1 _ HT.out).mono ?_); rintro e w9 ⟨rfl, hb⟩; have n1_ := Aside0.mk (HT.out.below hb); have n2_ := Aside0.mk (HU.out.below hb); have n3_ := Aside0.mk (below_step HB.out hb); clear HT HU HB hb; have HT := n1_; have HU := n2_; have HB := n3_; clear n1_ n2_ n3_) | (go_at_call 31; (with_reducible refine (tb_getlen g2 _ _ _ _ w1 _ HU.out).mono ?_); rintro e w9 ⟨rfl, hb⟩; have n1_ := Aside0.mk (HT.out.below hb); have n2_ := Aside0.mk (HU.out.below hb); have n3_ := Aside0.mk (below_step HB.out hb); clear HT HU HB hb; have HT := n1_; have HU := n2_; have HB := n3_; clear n1_ n2_ n3_) | (go_at_call 30; (with_reducible refine (tb_most g _ _ _ _ w1 _ HT.out).mono ?_); rintro e w9 ⟨rfl, hb⟩; have n1_ := Aside0.mk (HT.out.below hb); have n2_ := Aside0.mk (HU.out.below hb); have n3_ := Aside0.mk (below_step HB.out hb); clear HT HU HB hb; have HT := n1_; have HU := n2_; have HB := n3_; clear n1_ n2_ n3_) | (go_at_call 30; (with_reducible refine (tb_most g2 _ _ _ _ w1 _ HU.out).mono ?_); rintro e w9 ⟨rfl, hb⟩; have n1_ := Aside0.mk (HT.out.below hb); have n2_ := Aside0.mk (HU.out.below hb); have n3_ := Aside0.mk (below_step HB.out hb); clear HT HU HB hb; have HT := n1_; have HU := n2_; have HB := n3_; clear n1_ n2_ n3_) | (go_at_call 14; (with_reducible refine (tb_getsize g _ _ _ _ w1 _ HT.out).mono ?_); rintro e w9 ⟨rfl, hb⟩; have n1_ := Aside0.mk (HT.out.below hb); have n2_ := Aside0.mk (HU.out.below hb); have n3_ := Aside0.mk (below_step HB.out hb); clear HT HU HB hb; have HT := n1_; have HU := n2_; have HB := n3_; clear n1_ n2_ n3_) | (go_at_call 14; (with_reducible refine (tb_getsize g2 _ _ _ _ w1 _ HU.out).mono ?_); rintro e w9 ⟨rfl, hb⟩; have n1_ := Aside0.mk (HT.out.below hb); have n2_ := Aside0.mk (HU.out.below hb); have n3_ := Aside0.mk (below_step HB.out hb); clear HT HU HB hb; have HT := n1_; have HU := n2_; have HB := n3_; clear n1_ n2_ n3_))
    have HL2 := Aside0.mk (show u.l.length < 4398046511104 by have := HL.out; have := HE.out; omega)
    go_wp2
    go_loopw [5] (fun v5 wr => ∃ j : Nat, j ≤ t.l.length ∧ v5 = .int .i64 j ∧ Aside0 (tbSameL t u (t.l.length - j) (j : Int) = true) ∧ Aside0 (IsT w1 wr g t.most t.size t.l t.fx) ∧ Aside0 (IsT w1 wr g2 u.most u.size u.l u.fx) ∧ Aside0 (Below w.heap.size w wr)) (fun v5 _ => t.l.length - (intOf v5).toNat)
    case atStart => exact ⟨0, by omega, rfl, ⟨HS.out⟩, HT, HU, HB⟩
    case round =>
      clear HT HU HB HS
      obtain ⟨j, hj, rfl, HS, HT, HU, HB⟩ := hrel
      by_cases hlt : j < t.l.length
      · have hs := HS.out
        obtain ⟨n, hn⟩ : ∃ n, t.l.length - j = n + 1 := ⟨t.l.length - j - 1, by omega⟩
        rw [hn, tbSameL, Bool.and_eq_true, Bool.and_eq_true, decide_eq_true_eq, decide_eq_true_eq] at hs
        obtain ⟨h1, h2, h3⟩ := hs
        obtain ⟨⟨a, b, ok⟩, hR⟩ : ∃ R, tbAt t.fx t.l (62 + (j : Int)) = R := ⟨_, rfl⟩
        obtain ⟨⟨a2, b2, ok2⟩, hR2⟩ : ∃ R, tbAt u.fx u.l (62 + (j : Int)) = R := ⟨_, rfl⟩
        rw [hR, hR2] at h1 h2
        simp only at h1 h2
        subst h1 h2
        have R1 := Aside0.mk hR
        have R2 := Aside0.mk hR2
        have HN9 := Aside0.mk (show 62 + (j : Int) ≤ 9223372036854775807 by have := HL.out; omega)
        have H3 := Aside0.mk (show tbSameL t u (t.l.length - (j + 1)) ((j + 1 : Nat) : Int) = true by rw [show t.l.length - (j + 1) = n by omega, show ((j + 1 : Nat) : Int) = (j : Int) + 1 by omega]; exact h3)
        have hw1 : wrap64 (62 + (j : Int)) = 62 + (j : Int) := tb_wrap _ (by omega) HN9.out
        have hw2 : wrap64 ((j : Int) + 1) = ((j + 1 : Nat) : Int) := by rw [tb_wrap _ (by omega) (by have := HN9.out; omega)]; omega
        have q1 : decide ((j : Int) < (t.l.length : Int)) = true := decide_eq_true (by omega)
        have q2 : decide (j < t.l.length) = true := decide_eq_true hlt
        have HJ := Aside0.mk hlt
        clear hn h3 hR hR2 HS hlt
        go_wp2_with (first | (go_at_call 31; (with_reducible refine (tb_getlen g _ _ _ _ w1 _ HT.out).mono ?_); rintro e w9 ⟨rfl, hb⟩; have n1_ := Aside0.mk (HT.out.below hb); have n2_ := Aside0.mk (HU.out.below hb); have n3_ := Aside0.mk (below_step HB.out hb); clear HT HU HB hb; have HT := n1_; have HU := n2_; have HB := n3_; clear n1_ n2_ n3_) | (go_at_call 33; (with_reducible refine (tb_at14 g _ _ (62 + (j : Int)) _ _ w1 _ HT.out HL.out HF.out HN9.out).mono ?_); rintro e w9 ⟨rfl, hb⟩; rw [R1.out]; have n1_ := Aside0.mk (HT.out.below hb); have n2_ := Aside0.mk (HU.out.below hb); have n3_ := Aside0.mk (below_step HB.out hb); clear HT HU HB hb; have HT := n1_; have HU := n2_; have HB := n3_; clear n1_ n2_ n3_) | (go_at_call 33; (with_reducible refine (tb_at14 g2 _ _ (62 + (j : Int)) _ _ w1 _ HU.out HL2.out HG.out HN9.out).mono ?_); rintro e w9 ⟨rfl, hb⟩; rw [R2.out]; have n1_ := Aside0.mk (HT.out.below hb); have n2_ := Aside0.mk (HU.out.below hb); have n3_ := Aside0.mk (below_step HB.out hb); clear HT HU HB hb; have HT := n1_; have HU := n2_; have HB := n3_; clear n1_ n2_ n3_))
        repeat (go_quiet (fail); try go_wp2_with (first | (go_at_call 31; (with_reducible refine (tb_getlen g _ _ _ _ w1 _ HT.out).mono ?_); rintro e w9 ⟨rfl, hb⟩; have n1_ := Aside0.mk (HT.out.below hb); have n2_ := Aside0.mk (HU.out.below hb); have n3_ := Aside0.mk (below_step HB.out hb); clear HT HU HB hb; have HT := n1_; have HU := n2_; have HB := n3_; clear n1_ n2_ n3_) | (go_at_call 33; (with_reducible refine (tb_at14 g _ _ (62 + (j : Int)) _ _ w1 _ HT.out HL.out HF.out HN9.out).mono ?_); rintro e w9 ⟨rfl, hb⟩; rw [R1.out]; have n1_ := Aside0.mk (HT.out.below hb); have n2_ := Aside0.mk (HU.out.below hb); have n3_ := Aside0.mk (below_step HB.out hb); clear HT HU HB hb; have HT := n1_; have HU := n2_; have HB := n3_; clear n1_ n2_ n3_) | (go_at_call 33; (with_reducible refine (tb_at14 g2 _ _ (62 + (j : Int)) _ _ w1 _ HU.out HL2.out HG.out HN9.out).mono ?_); rintro e w9 ⟨rfl, hb⟩; rw [R2.out]; have n1_ := Aside0.mk (HT.out.below hb); have n2_ := Aside0.mk (HU.out.below hb); have n3_ := Aside0.mk (below_step HB.out hb); clear HT HU HB hb; have HT := n1_; have HU := n2_; have HB := n3_; clear n1_ n2_ n3_)))
        go_roundw
        case rel => exact ⟨j + 1, HJ.out, by rw [hw2], H3, HT, HU, HB⟩
        case measure => rw [hw2]; simp only [intOf]; have := HJ.out; omega
      · have q1 : decide ((j : Int) < (t.l.length : Int)) = false := decide_eq_false (by omega)
        have q2 : decide (j < t.l.length) = false := decide_eq_false hlt
        go_wp2_with (first | (go_at_call 31; (with_reducible refine (tb_getlen g _ _ _ _ w1 _ HT.out).mono ?_); rintro e w9 ⟨rfl, hb⟩; have n1_ := Aside0.mk (HT.out.below hb); have n2_ := Aside0.mk (HU.out.below hb); have n3_ := Aside0.mk (below_step HB.out hb); clear HT HU HB hb; have HT := n1_; have HU := n2_; have HB := n3_; clear n1_ n2_ n3_))
        go_ret
        exact ⟨rfl, HB.out⟩
  · exact absurd h (by simp)
end Go.Proofs.YtfkdocmhbmameaaDoor.Mine
