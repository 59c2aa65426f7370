/- The walks and the plain laws that the rows come to: merged out of this repo's texts. -/
import Derived.Test.YtfkdocmhbmameaaDoorProg
import Derived.Below
import Derived.Deep.Draws
import Derived.Deep.AppendLies
import Derived.Maps.AppendAt
import Derived.OwnWalk
import Derived.Laws.BytesArg
import Derived.Laws.MakeOwn
import Derived.Laws.OwnMore
import Derived.Deep.OwnRows
import Derived.Tactics
import Derived.Lib.ConvBytes
import Derived.Laws.Slices
import Derived.WalkKit
import Derived.KernelRfl
import Derived.RowKit3
import Derived.Deep.LoopGhost
import Derived.Deep.QuietTactic
import Derived.BigQuiet
import Derived.WideLaws
import Derived.Deep.DeepCutAuto
import Derived.Deep.CutBlock
import Derived.Deep.RegionHeld3
import Derived.Laws.Rows
import Derived.Lib.AppendStr
import Derived.ArgAppend
import Derived.Laws.IdiomCopy
import Derived.RowKit
import Derived.OrdersHeld
import Derived.Laws.BitsLemmas
import Derived.Laws.StructEq
import Derived.Laws.CopyOwn
import Derived.SizedLaws
import Derived.ChangeSlices
import Derived.Deep.Slices
import Derived.Lib.SmallJoins
import Derived.Lib.OthersKept
import Derived.Lib.AppendZerosOnto
import Derived.WalkSpells
import Derived.Shelf.Utf8.RuneCount
import Derived.Shelf.Strings.Search1
import Derived.Shelf.Strings.Search2
import Derived.Shelf.Strings.Search3
import Derived.Shelf.Strings.Cut
import Derived.Shelf.Strings.Count
import Derived.Shelf.LaysM
import Derived.Shelf.Strings.Shaped
import Derived.Shelf.Strings.Split
import Derived.Shelf.Strings.SplitShaped
import Derived.Shelf.Unicode.Decode
import Derived.Shelf.Strings.RuneCount
import Derived.Shelf.Strings.Explode
import Derived.Shelf.Unicode.DecodeSlow
import Derived.Shelf.Unicode.DecodeAny
import Derived.Recover
import Derived.WalkLawsBesides
import Derived.Test.YtfkdocmhbmameaaDoorCA1
import Derived.Test.YtfkdocmhbmameaaDoorCA2
import Derived.Test.YtfkdocmhbmameaaDoorCA3
import Derived.Test.YtfkdocmhbmameaaDoorCA5
import Derived.Test.YtfkdocmhbmameaaDoorCA8
import Derived.Test.YtfkdocmhbmameaaDoorCA9
import Derived.Test.YtfkdocmhbmameaaDoorCA10
import Derived.Test.YtfkdocmhbmameaaDoorCA11
import Derived.Test.YtfkdocmhbmameaaDoorCA16
import Derived.Test.YtfkdocmhbmameaaDoorCA25
import Derived.Test.YtfkdocmhbmameaaDoorCA34
import Derived.Test.YtfkdocmhbmameaaDoorCA35
import Derived.Test.YtfkdocmhbmameaaDoorCA36
import Derived.Test.YtfkdocmhbmameaaDoorCA37
namespace Go.Proofs.YtfkdocmhbmameaaDoor.Mine
open Go.RowKit Go.Proofs.YtfkdocmhbmameaaDoorW.PrintWords Go.Proofs.YtfkdocmhbmameaaDoorW.PrintLast Go.Proofs.YtfkdocmhbmameaaDoorW.PrintMore
attribute [local go_sem] max2_int min2_int max_two min_two max_three min_three max_four min_four
set_option linter.unusedVariables false
set_option linter.unusedSimpArgs false
mutual
def nunciolaw13_PackShort.j0 : Nat → List (S26) → Bool → Option (Bool)
 | 0, _, _ => none
 | k + 1, x0, x19 => if x19 = true then (some true) else (nunciolaw13_PackShort.l0 k x0 ([] : List (S26)) 0 0)
def nunciolaw13_PackShort.l0 : Nat → List (S26) → List (S26) → Int → Int → Option (Bool)
 | 0, _, _, _, _ => none
 | k + 1, x0, x3, x4, x5 => if x5 < (x0.length : Int) then (if 0 ≤ x5 then (if ((rd_T26 x0 x5).f2 = true) then (nunciolaw13_PackShort.l0 k x0 x3 x4 (wrap64 (x5 + 1))) else (if x3.length < 3518437208883 then (nunciolaw13_PackShort.l0 k x0 (x3 ++ [(⟨(rd_T26 x0 x5).f0, (rd_T26 x0 x5).f1, (rd_T26 x0 x5).f2⟩ : S26)]) (wrap64 ((wrap64 ((wrap64 (x4 + (((rd_T26 x0 x5).f0).size : Int))) + (((rd_T26 x0 x5).f1).size : Int))) + 32)) (wrap64 (x5 + 1))) else (none))) else (none)) else (if x4 > 4096 then (some true) else ((pack_New.f).bind fun t190 => ((pack_Encoder_Write.f k t190 x3).bind fun bt192 => ((pack_Encoder_Table.f bt192.2).bind fun t194 => ((pack_Encoder_Write.f k bt192.2 x3).bind fun bt196 => ((pack_Encoder_Table.f bt196.2).bind fun t198 => (if (bt196.1.size : Int) = (x3.length : Int) then ((table_Table_Size.f t194).bind fun t200 => ((table_Table_Size.f t198).bind fun t201 => (some (t200 == t201)))) else (some false))))))))
end
def nunciolaw13_PackShort.f (k : Nat) (l0 : List (S26)) : Option (Bool) := (nunciolaw13_awake.f k).bind fun t181 => (if t181 = true then ((nunciolaw13_FewFields.f k l0).bind fun t182 => (if t182 = true then (nunciolaw13_PackShort.j0 k l0 (decide ((l0.length : Int) > 40))) else (nunciolaw13_PackShort.j0 k l0 true))) else (some false))
set_option maxHeartbeats 8000000 in
set_option maxRecDepth 100000 in
theorem nunciolaw13_PackShort.calls (k : Nat) (A0 : Option Addr) (c0 : Nat) (l0 : List (S26)) (r : Bool) (w : World) (hE : EnvW w) (hr0 : Kd.C k26 w A0 l0.length l0) (hc0 : l0.length ≤ c0) (h : nunciolaw13_PackShort.f k l0 = some r) (hT : r = true) :
  Calls Tryd.prog 3 #[.slice A0 l0.length c0] w fun e w' => e = .returned (.bool r) ∧ Below w.heap.size w w' := by
 have hu26 := Tryd.underlying26
 have HR0 := Aside0.mk hr0
 have HC0 := Aside0.mk hc0
 clear hr0 hc0
 have HB := Aside0.mk (Below.refl w.heap.size w)
 have HEnv := Aside0.mk hE
 clear hE
 have HT := Aside0.mk hT
 clear hT
 have H : ((nunciolaw13_awake.f k).bind fun t181 => (if t181 = true then ((nunciolaw13_FewFields.f k l0).bind fun t182 => (if t182 = true then (nunciolaw13_PackShort.j0 k l0 (decide ((l0.length : Int) > 40))) else (nunciolaw13_PackShort.j0 k l0 true))) else (some false))) = some r := h
 clear h
 replace H := Option.bind_eq_some_iff.mp H
 obtain ⟨t181, A20, H⟩ := H
 replace H : (if t181 = true then ((nunciolaw13_FewFields.f k l0).bind fun t182 => (if t182 = true then (nunciolaw13_PackShort.j0 k l0 (decide ((l0.length : Int) > 40))) else (nunciolaw13_PackShort.j0 k l0 true))) else (some false)) = some r := H
 have A2 := Aside0.mk A20
 clear A20
 by_cases c3 : t181 = true
 ·
  subst c3
  have H1 : ((nunciolaw13_FewFields.f k l0).bind fun t182 => (if t182 = true then (nunciolaw13_PackShort.j0 k l0 (decide ((l0.length : Int) > 40))) else (nunciolaw13_PackShort.j0 k l0 true))) = some r := by rw [if_pos rfl] at H; exact H
  clear H
  have H := H1
  clear H1
  have HC4 := Aside0.mk H
  clear H
  go_enter Tryd.func3, Tryd.ntmps3
  go_upto_region 3 with (first | (go_at_call 9; (with_reducible refine (nunciolaw13_awake.calls k  true _ ?side1 A2.out).mono ?_); (case side1 => exact EnvW.below HEnv.out rfl (by repeat (first | (with_reducible first | exact HB.out | apply below_alloc | apply pw_below_drewN | apply below_drew1) | exact HB.out))); rintro e w5 ⟨rfl, hb⟩; have n0_ := Aside0.mk (below_step (by repeat (first | (with_reducible first | exact HB.out | apply below_alloc | apply pw_below_drewN | apply below_drew1) | exact HB.out)) hb); clear HB; have HB := n0_; clear n0_; (try clear hb); (try clear hb2); (try clear hk); (try clear hi)))
  repeat (go_quiet (first | (go_at_call 9; (with_reducible refine (nunciolaw13_awake.calls k  true _ ?side1 A2.out).mono ?_); (case side1 => exact EnvW.below HEnv.out rfl (by repeat (first | (with_reducible first | exact HB.out | apply below_alloc | apply pw_below_drewN | apply below_drew1) | exact HB.out))); rintro e w5 ⟨rfl, hb⟩; have n0_ := Aside0.mk (below_step (by repeat (first | (with_reducible first | exact HB.out | apply below_alloc | apply pw_below_drewN | apply below_drew1) | exact HB.out)) hb); clear HB; have HB := n0_; clear n0_; (try clear hb); (try clear hb2); (try clear hk); (try clear hi))); go_upto_region 3 with (first | (go_at_call 9; (with_reducible refine (nunciolaw13_awake.calls k  true _ ?side1 A2.out).mono ?_); (case side1 => exact EnvW.below HEnv.out rfl (by repeat (first | (with_reducible first | exact HB.out | apply below_alloc | apply pw_below_drewN | apply below_drew1) | exact HB.out))); rintro e w5 ⟨rfl, hb⟩; have n0_ := Aside0.mk (below_step (by repeat (first | (with_reducible first | exact HB.out | apply below_alloc | apply pw_below_drewN | apply below_drew1) | exact HB.out)) hb); clear HB; have HB := n0_; clear n0_; (try clear hb); (try clear hb2); (try clear hk); (try clear hi))))
  (try simp only [Act.put, List.setIfInBounds_toArray, List.set_cons_zero, List.set_cons_succ])
  go_cut [19] (fun v19 wc => ∃ (kq : Nat) (x19_3 : Bool), v19 = .bool x19_3 ∧ Aside0 (nunciolaw13_PackShort.j0 kq l0 x19_3 = some r) ∧ Aside0 (kq ≤ k) ∧ Aside0 (Below w.heap.size w wc))
  case first =>
   have H := HC4.out
   clear HC4
   replace H := Option.bind_eq_some_iff.mp H
   obtain ⟨t182, A60, H⟩ := H
   replace H : (if t182 = true then (nunciolaw13_PackShort.j0 k l0 (decide ((l0.length : Int) > 40))) else (nunciolaw13_PackShort.j0 k l0 true)) = some r := H
   have A6 := Aside0.mk A60
   clear A60
   by_cases c7 : t182 = true
   ·
    subst c7
    have H1 : (nunciolaw13_PackShort.j0 k l0 (decide ((l0.length : Int) > 40))) = some r := by rw [if_pos rfl] at H; exact H
    clear H
    have H := H1
    clear H1
    have H' := Aside0.mk H
    clear H
    go_wp2_with (first | (go_at_call 10; (with_reducible refine (nunciolaw13_FewFields.calls k _ _ l0 true _ ?side1 ?side2 A6.out).mono ?_); (case side1 => repeat (first | exact (Kd.C_below HR0.out HB.out) | (with_reducible refine Kd.C_alloc ?_ _) | (with_reducible refine Kd.C_drewN ?_ _) | (with_reducible refine Kd.C_drew ?_))); (case side2 => exact HC0.out); rintro e w8 ⟨rfl, hb⟩; have n0_ := Aside0.mk (below_step (by repeat (first | (with_reducible first | exact HB.out | apply below_alloc | apply pw_below_drewN | apply below_drew1) | exact HB.out)) hb); clear HB; have HB := n0_; clear n0_; (try clear hb); (try clear hb2); (try clear hk); (try clear hi)))
    repeat (go_quiet (first | (go_at_call 10; (with_reducible refine (nunciolaw13_FewFields.calls k _ _ l0 true _ ?side1 ?side2 A6.out).mono ?_); (case side1 => repeat (first | exact (Kd.C_below HR0.out HB.out) | (with_reducible refine Kd.C_alloc ?_ _) | (with_reducible refine Kd.C_drewN ?_ _) | (with_reducible refine Kd.C_drew ?_))); (case side2 => exact HC0.out); rintro e w8 ⟨rfl, hb⟩; have n0_ := Aside0.mk (below_step (by repeat (first | (with_reducible first | exact HB.out | apply below_alloc | apply pw_below_drewN | apply below_drew1) | exact HB.out)) hb); clear HB; have HB := n0_; clear n0_; (try clear hb); (try clear hb2); (try clear hk); (try clear hi))); try go_wp2_with (first | (go_at_call 10; (with_reducible refine (nunciolaw13_FewFields.calls k _ _ l0 true _ ?side1 ?side2 A6.out).mono ?_); (case side1 => repeat (first | exact (Kd.C_below HR0.out HB.out) | (with_reducible refine Kd.C_alloc ?_ _) | (with_reducible refine Kd.C_drewN ?_ _) | (with_reducible refine Kd.C_drew ?_))); (case side2 => exact HC0.out); rintro e w8 ⟨rfl, hb⟩; have n0_ := Aside0.mk (below_step (by repeat (first | (with_reducible first | exact HB.out | apply below_alloc | apply pw_below_drewN | apply below_drew1) | exact HB.out)) hb); clear HB; have HB := n0_; clear n0_; (try clear hb); (try clear hb2); (try clear hk); (try clear hi))))
    go_meet
    case rel => exact ⟨_, (decide ((l0.length : Int) > 40)), (by first | rfl | (simp; done) | (simp [*]; done)), H', ⟨by first | omega | exact Nat.le_refl _⟩, ⟨by repeat (first | (with_reducible first | exact HB.out | apply below_alloc | apply pw_below_drewN | apply below_drew1) | exact HB.out)⟩⟩
   ·
    replace c7 := Bool.eq_false_iff.mpr c7
    subst c7
    have H1 : (nunciolaw13_PackShort.j0 k l0 true) = some r := by rw [if_neg (show ¬ (false = true) by decide)] at H; exact H
    clear H
    have H := H1
    clear H1
    have H' := Aside0.mk H
    clear H
    go_wp2_with (first | (go_at_call 10; (with_reducible refine (nunciolaw13_FewFields.calls k _ _ l0 false _ ?side1 ?side2 A6.out).mono ?_); (case side1 => repeat (first | exact (Kd.C_below HR0.out HB.out) | (with_reducible refine Kd.C_alloc ?_ _) | (with_reducible refine Kd.C_drewN ?_ _) | (with_reducible refine Kd.C_drew ?_))); (case side2 => exact HC0.out); rintro e w9 ⟨rfl, hb⟩; have n0_ := Aside0.mk (below_step (by repeat (first | (with_reducible first | exact HB.out | apply below_alloc | apply pw_below_drewN | apply below_drew1) | exact HB.out)) hb); clear HB; have HB := n0_; clear n0_; (try clear hb); (try clear hb2); (try clear hk); (try clear hi)))
    repeat (go_quiet (first | (go_at_call 10; (with_reducible refine (nunciolaw13_FewFields.calls k _ _ l0 false _ ?side1 ?side2 A6.out).mono ?_); (case side1 => repeat (first | exact (Kd.C_below HR0.out HB.out) | (with_reducible refine Kd.C_alloc ?_ _) | (with_reducible refine Kd.C_drewN ?_ _) | (with_reducible refine Kd.C_drew ?_))); (case side2 => exact HC0.out); rintro e w9 ⟨rfl, hb⟩; have n0_ := Aside0.mk (below_step (by repeat (first | (with_reducible first | exact HB.out | apply below_alloc | apply pw_below_drewN | apply below_drew1) | exact HB.out)) hb); clear HB; have HB := n0_; clear n0_; (try clear hb); (try clear hb2); (try clear hk); (try clear hi))); try go_wp2_with (first | (go_at_call 10; (with_reducible refine (nunciolaw13_FewFields.calls k _ _ l0 false _ ?side1 ?side2 A6.out).mono ?_); (case side1 => repeat (first | exact (Kd.C_below HR0.out HB.out) | (with_reducible refine Kd.C_alloc ?_ _) | (with_reducible refine Kd.C_drewN ?_ _) | (with_reducible refine Kd.C_drew ?_))); (case side2 => exact HC0.out); rintro e w9 ⟨rfl, hb⟩; have n0_ := Aside0.mk (below_step (by repeat (first | (with_reducible first | exact HB.out | apply below_alloc | apply pw_below_drewN | apply below_drew1) | exact HB.out)) hb); clear HB; have HB := n0_; clear n0_; (try clear hb); (try clear hb2); (try clear hk); (try clear hi))))
    go_meet
    case rel => exact ⟨_, (true), (by first | rfl | (simp; done) | (simp [*]; done)), H', ⟨by first | omega | exact Nat.le_refl _⟩, ⟨by repeat (first | (with_reducible first | exact HB.out | apply below_alloc | apply pw_below_drewN | apply below_drew1) | exact HB.out)⟩⟩
  case rest =>
   clear HC4
   try clear p2
   try clear c3
   try clear c7
   obtain ⟨kq, x19_3, rfl, HA, HJ3, HB⟩ := hcut
   cases kq with
   | zero => exact absurd HA.out (by simp [nunciolaw13_PackShort.j0])
   | succ kj3 =>
    have H := HA.out
    clear HA
    simp only [nunciolaw13_PackShort.j0] at H
    by_cases c10 : x19_3 = true
    ·
     subst c10
     have H1 : (some true) = some r := by rw [if_pos rfl] at H; exact H
     clear H
     have H := H1
     clear H1
     obtain rfl := Option.some.inj H
     go_wp2
     repeat (go_quiet (fail); try go_wp2)
     go_ret
     exact ⟨by first | rfl | (simp [errW_none, errW_some] <;> rfl) | (simp [*, errW_none, errW_some] <;> rfl), by repeat (first | (with_reducible first | exact HB.out | apply below_alloc | apply pw_below_drewN | apply below_drew1) | exact HB.out)⟩
    ·
     replace c10 := Bool.eq_false_iff.mpr c10
     subst c10
     have H1 : (nunciolaw13_PackShort.l0 kj3 l0 ([] : List (S26)) 0 0) = some r := by rw [if_neg (show ¬ (false = true) by decide)] at H; exact H
     clear H
     have H := H1
     clear H1
     have H' := Aside0.mk H
     clear H
     go_wp2
     repeat (go_quiet (fail); try go_wp2)
     go_loopg [3, 4, 5] kj3 (fun kq v3 v4 v5 w' => ∃ (x3_2 : List (S26)) (x4_2 : Int) (x5_2 : Int), v4 = .int .i64 x4_2 ∧ v5 = .int .i64 x5_2 ∧ Aside0 (nunciolaw13_PackShort.l0 kq l0 x3_2 x4_2 x5_2 = some r) ∧ Aside0 (kq ≤ kj3) ∧ Aside0 (Kd.R k26 26 w' w.heap.size (fun _ => True) v3 x3_2) ∧ Aside0 (Below w.heap.size w w'))
     case atStart => exact ⟨(([] : List (S26))), (0), (0), (by first | rfl | (simp; done) | (simp [*]; done)), (by first | rfl | (simp; done) | (simp [*]; done)), H', ⟨Nat.le_refl _⟩, ⟨by first | exact Kd.R_nil _ _ _ _ _ | exact Kd.N_nil _ _ _ _ _ | exact Kd.V_nil _ _ _ _ _ | exact Kd.Q_nil _ _ _ _ _ | exact Kd.S_nil _ _ _ _ _⟩, ⟨by repeat (first | (with_reducible first | exact HB.out | apply below_alloc | apply pw_below_drewN | apply below_drew1) | exact HB.out)⟩⟩
     case round =>
      clear H'
      try clear c1
      try clear p2
      try clear c3
      try clear c7
      try clear c10
      try clear p2
      obtain ⟨x3_2, x4_2, x5_2, rfl, rfl, HA, HK2, HO_3, HB⟩ := hrel
      cases gk with
      | zero => exact absurd HA.out (by simp [nunciolaw13_PackShort.l0])
      | succ k2 =>
       have H := HA.out
       clear HA
       simp only [nunciolaw13_PackShort.l0] at H
       by_cases c11 : x5_2 < (l0.length : Int)
       ·
        rw [if_pos c11] at H
        have c11b0 : decide (x5_2 < (l0.length : Int)) = true := decide_eq_true c11
        clear c11
        by_cases c12 : 0 ≤ x5_2
        ·
         rw [if_pos c12] at H
         have c12b0 : decide (0 ≤ x5_2) = true := decide_eq_true c12
         clear c12
         obtain ⟨bq13, hbq13⟩ : ∃ b_ : Bool, b_ = ((rd_T26 l0 x5_2).f2) := ⟨_, rfl⟩
         replace H : (if (bq13 = true) then (nunciolaw13_PackShort.l0 k2 l0 x3_2 x4_2 (wrap64 (x5_2 + 1))) else (if x3_2.length < 3518437208883 then (nunciolaw13_PackShort.l0 k2 l0 (x3_2 ++ [(⟨(rd_T26 l0 x5_2).f0, (rd_T26 l0 x5_2).f1, bq13⟩ : S26)]) (wrap64 ((wrap64 ((wrap64 (x4_2 + (((rd_T26 l0 x5_2).f0).size : Int))) + (((rd_T26 l0 x5_2).f1).size : Int))) + 32)) (wrap64 (x5_2 + 1))) else (none))) = some r := by rw [← hbq13] at H; exact H
         have Nbq13 := Aside0.mk hbq13
         clear hbq13
         by_cases c14 : (bq13 = true)
         ·
          subst c14
          have H1 : (nunciolaw13_PackShort.l0 k2 l0 x3_2 x4_2 (wrap64 (x5_2 + 1))) = some r := by rw [if_pos rfl] at H; exact H
          clear H
          have H := H1
          clear H1
          have H' := Aside0.mk H
          clear H
          have p183 : 0 ≤ (x5_2 : Int) := of_decide_eq_true (by first | (with_reducible assumption) | assumption)
          have q183 : x5_2 < (l0.length : Int) := of_decide_eq_true (by first | (with_reducible assumption) | assumption)
          obtain ⟨ad183, e183, hx183_0, hx183_1, hx183_2⟩ := at_T26 HR0.out x5_2 p183 q183
          (try rw [← Nbq13.out] at hx183_2)
          cases e183
          replace hx183_0 := (HB.out.cell (World.block_lt_of_cell? w _ hx183_0)).trans hx183_0
          replace hx183_1 := (HB.out.cell (World.block_lt_of_cell? w _ hx183_1)).trans hx183_1
          replace hx183_2 := (HB.out.cell (World.block_lt_of_cell? w _ hx183_2)).trans hx183_2
          replace p183 := eq_true p183
          replace q183 := eq_true q183
          go_wp2
          repeat (go_quiet (fail); try go_wp2)
          go_roundg k2
          case measure => have := HJ3.out; have := HK2.out; omega
          case rel => exact ⟨(x3_2), (x4_2), (wrap64 (x5_2 + 1)), (by first | rfl | (simp; done) | (simp [*]; done)), (by first | rfl | (simp; done) | (simp [*]; done)), H', ⟨by have := HJ3.out; have := HK2.out; omega⟩, ⟨by (with_reducible repeat (first | apply Kd.R_alloc | apply Kd.R_drewN | apply Kd.R_drew)); exact HO_3.out⟩, ⟨by repeat (first | (with_reducible first | exact HB.out | apply below_alloc | apply pw_below_drewN | apply below_drew1) | exact HB.out)⟩⟩
         ·
          replace c14 := Bool.eq_false_iff.mpr c14
          subst c14
          have H1 : (if x3_2.length < 3518437208883 then (nunciolaw13_PackShort.l0 k2 l0 (x3_2 ++ [(⟨(rd_T26 l0 x5_2).f0, (rd_T26 l0 x5_2).f1, false⟩ : S26)]) (wrap64 ((wrap64 ((wrap64 (x4_2 + (((rd_T26 l0 x5_2).f0).size : Int))) + (((rd_T26 l0 x5_2).f1).size : Int))) + 32)) (wrap64 (x5_2 + 1))) else (none)) = some r := by rw [if_neg (show ¬ (false = true) by decide)] at H; exact H
          clear H
          have H := H1
          clear H1
          by_cases c15 : x3_2.length < 3518437208883
          ·
           rw [if_pos c15] at H
           have LMc15 := Aside0.mk c15
           clear c15
           obtain ⟨y185, hy185⟩ : ∃ y_ : List (S26), y_ = (x3_2 ++ [(⟨(rd_T26 l0 x5_2).f0, (rd_T26 l0 x5_2).f1, false⟩ : S26)]) := ⟨_, rfl⟩
           replace H : (nunciolaw13_PackShort.l0 k2 l0 y185 (wrap64 ((wrap64 ((wrap64 (x4_2 + (((rd_T26 l0 x5_2).f0).size : Int))) + (((rd_T26 l0 x5_2).f1).size : Int))) + 32)) (wrap64 (x5_2 + 1))) = some r := by first | (rw [hy185]; with_reducible exact H) | (have H2_ := (Option.bind_some _ _).symm.trans H; rw [hy185]; with_reducible exact H2_) | (have H2_ := (Option.bind_some _ _).symm.trans H; with_reducible exact H2_) | with_reducible exact H | (rw [hy185]; exact H) | exact H
           have Ny185 := Aside0.mk hy185
           clear hy185
           have H' := Aside0.mk H
           clear H
           have p183 : 0 ≤ (x5_2 : Int) := of_decide_eq_true (by first | (with_reducible assumption) | assumption)
           have q183 : x5_2 < (l0.length : Int) := of_decide_eq_true (by first | (with_reducible assumption) | assumption)
           obtain ⟨ad183, e183, hx183_0, hx183_1, hx183_2⟩ := at_T26 HR0.out x5_2 p183 q183
           (try rw [← Nbq13.out] at hx183_2)
           cases e183
           replace hx183_0 := (HB.out.cell (World.block_lt_of_cell? w _ hx183_0)).trans hx183_0
           replace hx183_1 := (HB.out.cell (World.block_lt_of_cell? w _ hx183_1)).trans hx183_1
           replace hx183_2 := (HB.out.cell (World.block_lt_of_cell? w _ hx183_2)).trans hx183_2
           replace p183 := eq_true p183
           replace q183 := eq_true q183
           have p184 : 0 ≤ (x5_2 : Int) := of_decide_eq_true (by first | (with_reducible assumption) | assumption)
           have q184 : x5_2 < (l0.length : Int) := of_decide_eq_true (by first | (with_reducible assumption) | assumption)
           obtain ⟨ad184, e184, hx184_0, hx184_1, hx184_2⟩ := at_T26 HR0.out x5_2 p184 q184
           (try rw [← Nbq13.out] at hx184_2)
           obtain rfl : ad183 = ad184 := (by injection e184)
           replace hx184_0 := (HB.out.cell (World.block_lt_of_cell? w _ hx184_0)).trans hx184_0
           replace hx184_1 := (HB.out.cell (World.block_lt_of_cell? w _ hx184_1)).trans hx184_1
           replace hx184_2 := (HB.out.cell (World.block_lt_of_cell? w _ hx184_2)).trans hx184_2
           replace p184 := eq_true p184
           replace q184 := eq_true q184
           go_wp2_with (first | ((with_reducible refine gate_builtin (b := .append) (xs := #[.tmp 32, .tmp 37]) rfl ?_); (try (refine gate_guard (by rfl) ?_; dsimp only)); at_builtin; refine Kd.R_append k26 (w0 := w) w.heap.size rfl (.tmp 32) (.tmp 37) 22 26 (.agg #[(.string ⟨#[]⟩), (.string ⟨#[]⟩), (.bool false)]) 40 rfl Tryd.underlying22 info26 rfl (by decide) (by omega) u3 x3_2 (⟨(rd_T26 l0 x5_2).f0, (rd_T26 l0 x5_2).f1, false⟩ : S26) [.string ((rd_T26 l0 x5_2).f0), .string ((rd_T26 l0 x5_2).f1), .bool false] (fun _ => True) (fun _ => False) rfl rfl ?aP (fun _ hk => hk.elim) ?aF ?aO ?aB ?aS ?aL ?_; (case aP => exact k26_mkM _ _ _ (⟨(rd_T26 l0 x5_2).f0, (rd_T26 l0 x5_2).f1, false⟩ : S26)); (case aB => exact (by repeat (first | (with_reducible first | exact HB.out | apply below_alloc | apply pw_below_drewN | apply below_drew1) | exact HB.out))); (case aF => exact (fun _ _ => trivial)); (case aO => exact (by (with_reducible repeat (first | apply Kd.R_alloc | apply Kd.R_drewN | apply Kd.R_drew)); exact HO_3.out)); (case aS => exact (below_size (by repeat (first | (with_reducible first | exact HB.out | apply below_alloc | apply pw_below_drewN | apply below_drew1) | exact HB.out)))); (case aL => have := LMc15.out; omega); intro v186 w16 ho hb hg hat; rw [← Ny185.out] at ho; have n0_ := Aside0.mk (hb); have n1_ := Aside0.mk (ho); clear HB; clear HO_3; have HB := n0_; have HO187 := n1_; clear n0_ n1_; clear ho hb hg hat; have p188 : 0 ≤ (x5_2 : Int) := of_decide_eq_true (by first | (with_reducible assumption) | assumption); have q188 : x5_2 < (l0.length : Int) := of_decide_eq_true (by first | (with_reducible assumption) | assumption); obtain ⟨ad188, e188, hx188_0, hx188_1, hx188_2⟩ := at_T26 HR0.out x5_2 p188 q188; (try rw [← Nbq13.out] at hx188_2); obtain rfl : ad183 = ad188 := (by injection e188); replace hx188_0 := (HB.out.cell (World.block_lt_of_cell? w _ hx188_0)).trans hx188_0; replace hx188_1 := (HB.out.cell (World.block_lt_of_cell? w _ hx188_1)).trans hx188_1; replace hx188_2 := (HB.out.cell (World.block_lt_of_cell? w _ hx188_2)).trans hx188_2; replace p188 := eq_true p188; replace q188 := eq_true q188; have p189 : 0 ≤ (x5_2 : Int) := of_decide_eq_true (by first | (with_reducible assumption) | assumption); have q189 : x5_2 < (l0.length : Int) := of_decide_eq_true (by first | (with_reducible assumption) | assumption); obtain ⟨ad189, e189, hx189_0, hx189_1, hx189_2⟩ := at_T26 HR0.out x5_2 p189 q189; (try rw [← Nbq13.out] at hx189_2); obtain rfl : ad183 = ad189 := (by injection e189); replace hx189_0 := (HB.out.cell (World.block_lt_of_cell? w _ hx189_0)).trans hx189_0; replace hx189_1 := (HB.out.cell (World.block_lt_of_cell? w _ hx189_1)).trans hx189_1; replace hx189_2 := (HB.out.cell (World.block_lt_of_cell? w _ hx189_2)).trans hx189_2; replace p189 := eq_true p189; replace q189 := eq_true q189))
           repeat (go_quiet (first | ((with_reducible refine gate_builtin (b := .append) (xs := #[.tmp 32, .tmp 37]) rfl ?_); (try (refine gate_guard (by rfl) ?_; dsimp only)); at_builtin; refine Kd.R_append k26 (w0 := w) w.heap.size rfl (.tmp 32) (.tmp 37) 22 26 (.agg #[(.string ⟨#[]⟩), (.string ⟨#[]⟩), (.bool false)]) 40 rfl Tryd.underlying22 info26 rfl (by decide) (by omega) u3 x3_2 (⟨(rd_T26 l0 x5_2).f0, (rd_T26 l0 x5_2).f1, false⟩ : S26) [.string ((rd_T26 l0 x5_2).f0), .string ((rd_T26 l0 x5_2).f1), .bool false] (fun _ => True) (fun _ => False) rfl rfl ?aP (fun _ hk => hk.elim) ?aF ?aO ?aB ?aS ?aL ?_; (case aP => exact k26_mkM _ _ _ (⟨(rd_T26 l0 x5_2).f0, (rd_T26 l0 x5_2).f1, false⟩ : S26)); (case aB => exact (by repeat (first | (with_reducible first | exact HB.out | apply below_alloc | apply pw_below_drewN | apply below_drew1) | exact HB.out))); (case aF => exact (fun _ _ => trivial)); (case aO => exact (by (with_reducible repeat (first | apply Kd.R_alloc | apply Kd.R_drewN | apply Kd.R_drew)); exact HO_3.out)); (case aS => exact (below_size (by repeat (first | (with_reducible first | exact HB.out | apply below_alloc | apply pw_below_drewN | apply below_drew1) | exact HB.out)))); (case aL => have := LMc15.out; omega); intro v186 w16 ho hb hg hat; rw [← Ny185.out] at ho; have n0_ := Aside0.mk (hb); have n1_ := Aside0.mk (ho); clear HB; clear HO_3; have HB := n0_; have HO187 := n1_; clear n0_ n1_; clear ho hb hg hat; have p188 : 0 ≤ (x5_2 : Int) := of_decide_eq_true (by first | (with_reducible assumption) | assumption); have q188 : x5_2 < (l0.length : Int) := of_decide_eq_true (by first | (with_reducible assumption) | assumption); obtain ⟨ad188, e188, hx188_0, hx188_1, hx188_2⟩ := at_T26 HR0.out x5_2 p188 q188; (try rw [← Nbq13.out] at hx188_2); obtain rfl : ad183 = ad188 := (by injection e188); replace hx188_0 := (HB.out.cell (World.block_lt_of_cell? w _ hx188_0)).trans hx188_0; replace hx188_1 := (HB.out.cell (World.block_lt_of_cell? w _ hx188_1)).trans hx188_1; replace hx188_2 := (HB.out.cell (World.block_lt_of_cell? w _ hx188_2)).trans hx188_2; replace p188 := eq_true p188; replace q188 := eq_true q188; have p189 : 0 ≤ (x5_2 : Int) := of_decide_eq_true (by first | (with_reducible assumption) | assumption); have q189 : x5_2 < (l0.length : Int) := of_decide_eq_true (by first | (with_reducible assumption) | assumption); obtain ⟨ad189, e189, hx189_0, hx189_1, hx189_2⟩ := at_T26 HR0.out x5_2 p189 q189; (try rw [← Nbq13.out] at hx189_2); obtain rfl : ad183 = ad189 := (by injection e189); replace hx189_0 := (HB.out.cell (World.block_lt_of_cell? w _ hx189_0)).trans hx189_0; replace hx189_1 := (HB.out.cell (World.block_lt_of_cell? w _ hx189_1)).trans hx189_1; replace hx189_2 := (HB.out.cell (World.block_lt_of_cell? w _ hx189_2)).trans hx189_2; replace p189 := eq_true p189; replace q189 := eq_true q189)); try go_wp2_with (first | ((with_reducible refine gate_builtin (b := .append) (xs := #[.tmp 32, .tmp 37]) rfl ?_); (try (refine gate_guard (by rfl) ?_; dsimp only)); at_builtin; refine Kd.R_append k26 (w0 := w) w.heap.size rfl (.tmp 32) (.tmp 37) 22 26 (.agg #[(.string ⟨#[]⟩), (.string ⟨#[]⟩), (.bool false)]) 40 rfl Tryd.underlying22 info26 rfl (by decide) (by omega) u3 x3_2 (⟨(rd_T26 l0 x5_2).f0, (rd_T26 l0 x5_2).f1, false⟩ : S26) [.string ((rd_T26 l0 x5_2).f0), .string ((rd_T26 l0 x5_2).f1), .bool false] (fun _ => True) (fun _ => False) rfl rfl ?aP (fun _ hk => hk.elim) ?aF ?aO ?aB ?aS ?aL ?_; (case aP => exact k26_mkM _ _ _ (⟨(rd_T26 l0 x5_2).f0, (rd_T26 l0 x5_2).f1, false⟩ : S26)); (case aB => exact (by repeat (first | (with_reducible first | exact HB.out | apply below_alloc | apply pw_below_drewN | apply below_drew1) | exact HB.out))); (case aF => exact (fun _ _ => trivial)); (case aO => exact (by (with_reducible repeat (first | apply Kd.R_alloc | apply Kd.R_drewN | apply Kd.R_drew)); exact HO_3.out)); (case aS => exact (below_size (by repeat (first | (with_reducible first | exact HB.out | apply below_alloc | apply pw_below_drewN | apply below_drew1) | exact HB.out)))); (case aL => have := LMc15.out; omega); intro v186 w16 ho hb hg hat; rw [← Ny185.out] at ho; have n0_ := Aside0.mk (hb); have n1_ := Aside0.mk (ho); clear HB; clear HO_3; have HB := n0_; have HO187 := n1_; clear n0_ n1_; clear ho hb hg hat; have p188 : 0 ≤ (x5_2 : Int) := of_decide_eq_true (by first | (with_reducible assumption) | assumption); have q188 : x5_2 < (l0.length : Int) := of_decide_eq_true (by first | (with_reducible assumption) | assumption); obtain ⟨ad188, e188, hx188_0, hx188_1, hx188_2⟩ := at_T26 HR0.out x5_2 p188 q188; (try rw [← Nbq13.out] at hx188_2); obtain rfl : ad183 = ad188 := (by injection e188); replace hx188_0 := (HB.out.cell (World.block_lt_of_cell? w _ hx188_0)).trans hx188_0; replace hx188_1 := (HB.out.cell (World.block_lt_of_cell? w _ hx188_1)).trans hx188_1; replace hx188_2 := (HB.out.cell (World.block_lt_of_cell? w _ hx188_2)).trans hx188_2; replace p188 := eq_true p188; replace q188 := eq_true q188; have p189 : 0 ≤ (x5_2 : Int) := of_decide_eq_true (by first | (with_reducible assumption) | assumption); have q189 : x5_2 < (l0.length : Int) := of_decide_eq_true (by first | (with_reducible assumption) | assumption); obtain ⟨ad189, e189, hx189_0, hx189_1, hx189_2⟩ := at_T26 HR0.out x5_2 p189 q189; (try rw [← Nbq13.out] at hx189_2); obtain rfl : ad183 = ad189 := (by injection e189); replace hx189_0 := (HB.out.cell (World.block_lt_of_cell? w _ hx189_0)).trans hx189_0; replace hx189_1 := (HB.out.cell (World.block_lt_of_cell? w _ hx189_1)).trans hx189_1; replace hx189_2 := (HB.out.cell (World.block_lt_of_cell? w _ hx189_2)).trans hx189_2; replace p189 := eq_true p189; replace q189 := eq_true q189)))
           go_roundg k2
           case measure => have := HJ3.out; have := HK2.out; omega
           case rel => exact ⟨(y185), (wrap64 ((wrap64 ((wrap64 (x4_2 + (((rd_T26 l0 x5_2).f0).size : Int))) + (((rd_T26 l0 x5_2).f1).size : Int))) + 32)), (wrap64 (x5_2 + 1)), (by first | rfl | (simp; done) | (simp [*]; done)), (by first | rfl | (simp; done) | (simp [*]; done)), H', ⟨by have := HJ3.out; have := HK2.out; omega⟩, ⟨by (with_reducible repeat (first | apply Kd.R_alloc | apply Kd.R_drewN | apply Kd.R_drew)); exact HO187.out⟩, ⟨by repeat (first | (with_reducible first | exact HB.out | apply below_alloc | apply pw_below_drewN | apply below_drew1) | exact HB.out)⟩⟩
          ·
           rw [if_neg c15] at H
           exact absurd H (by simp)
        ·
         rw [if_neg c12] at H
         exact absurd H (by simp)
       ·
        rw [if_neg c11] at H
        have c11b0 : decide (x5_2 < (l0.length : Int)) = false := decide_eq_false c11
        clear c11
        by_cases c17 : x4_2 > 4096
        ·
         rw [if_pos c17] at H
         have c17b0 : decide (4096 < x4_2) = true := decide_eq_true c17
         clear c17
         obtain rfl := Option.some.inj H
         go_wp2
         repeat (go_quiet (fail); try go_wp2)
         go_ret
         exact ⟨by first | rfl | (simp [errW_none, errW_some] <;> rfl) | (simp [*, errW_none, errW_some] <;> rfl), by repeat (first | (with_reducible first | exact HB.out | apply below_alloc | apply pw_below_drewN | apply below_drew1) | exact HB.out)⟩
        ·
         rw [if_neg c17] at H
         have c17b0 : decide (4096 < x4_2) = false := decide_eq_false c17
         clear c17
         replace H := Option.bind_eq_some_iff.mp H
         obtain ⟨t190, A180, H⟩ := H
         replace H : ((pack_Encoder_Write.f k2 t190 x3_2).bind fun bt192 => ((pack_Encoder_Table.f bt192.2).bind fun t194 => ((pack_Encoder_Write.f k2 bt192.2 x3_2).bind fun bt196 => ((pack_Encoder_Table.f bt196.2).bind fun t198 => (if (bt196.1.size : Int) = (x3_2.length : Int) then ((table_Table_Size.f t194).bind fun t200 => ((table_Table_Size.f t198).bind fun t201 => (some (t200 == t201)))) else (some false)))))) = some r := H
         have A18 := Aside0.mk A180
         clear A180
         replace H := Option.bind_eq_some_iff.mp H
         obtain ⟨⟨t192, t193⟩, A190, H⟩ := H
         replace H : ((pack_Encoder_Table.f t193).bind fun t194 => ((pack_Encoder_Write.f k2 t193 x3_2).bind fun bt196 => ((pack_Encoder_Table.f bt196.2).bind fun t198 => (if (bt196.1.size : Int) = (x3_2.length : Int) then ((table_Table_Size.f t194).bind fun t200 => ((table_Table_Size.f t198).bind fun t201 => (some (t200 == t201)))) else (some false))))) = some r := H
         have A19 := Aside0.mk A190
         clear A190
         replace H := Option.bind_eq_some_iff.mp H
         obtain ⟨t194, A200, H⟩ := H
         replace H : ((pack_Encoder_Write.f k2 t193 x3_2).bind fun bt196 => ((pack_Encoder_Table.f bt196.2).bind fun t198 => (if (bt196.1.size : Int) = (x3_2.length : Int) then ((table_Table_Size.f t194).bind fun t200 => ((table_Table_Size.f t198).bind fun t201 => (some (t200 == t201)))) else (some false)))) = some r := H
         have A20 := Aside0.mk A200
         clear A200
         replace H := Option.bind_eq_some_iff.mp H
         obtain ⟨⟨t196, t197⟩, A210, H⟩ := H
         replace H : ((pack_Encoder_Table.f t197).bind fun t198 => (if (t196.size : Int) = (x3_2.length : Int) then ((table_Table_Size.f t194).bind fun t200 => ((table_Table_Size.f t198).bind fun t201 => (some (t200 == t201)))) else (some false))) = some r := H
         have A21 := Aside0.mk A210
         clear A210
         replace H := Option.bind_eq_some_iff.mp H
         obtain ⟨t198, A220, H⟩ := H
         replace H : (if (t196.size : Int) = (x3_2.length : Int) then ((table_Table_Size.f t194).bind fun t200 => ((table_Table_Size.f t198).bind fun t201 => (some (t200 == t201)))) else (some false)) = some r := H
         have A22 := Aside0.mk A220
         clear A220
         by_cases c23 : (t196.size : Int) = (x3_2.length : Int)
         ·
          rw [if_pos c23] at H
          have c23b0 : ((t196.size : Int) == (x3_2.length : Int)) = true := beq_iff_eq.mpr c23
          have c23b1 : ((t196.size : Int) != (x3_2.length : Int)) = false := bne_eq_false_iff_eq.mpr c23
          have c23b2 : (t196.size == x3_2.length) = true := by first | simpa using c23 | (simp at c23 ⊢; omega)
          clear c23
          replace H := Option.bind_eq_some_iff.mp H
          obtain ⟨t200, A240, H⟩ := H
          replace H : ((table_Table_Size.f t198).bind fun t201 => (some (t200 == t201))) = some r := H
          have A24 := Aside0.mk A240
          clear A240
          replace H := Option.bind_eq_some_iff.mp H
          obtain ⟨t201, A250, H⟩ := H
          replace H : (some (t200 == t201)) = some r := H
          have A25 := Aside0.mk A250
          clear A250
          obtain rfl := Option.some.inj H
          go_wp2_with (first | (go_at_call 11; (with_reducible refine (pack_New.calls  t190 _ _ (Below.refl _ _) ?side1 A18.out).mono ?_); (case side1 => exact EnvW.below HEnv.out rfl (by repeat (first | (with_reducible first | exact HB.out | apply below_alloc | apply pw_below_drewN | apply below_drew1) | exact HB.out))); rintro e w26 ⟨g191, rfl, hi, hb, hb2⟩; have n0_ := Aside0.mk (Kd.R_below (by (with_reducible repeat (first | apply Kd.R_alloc | apply Kd.R_drewN | apply Kd.R_drew)); exact HO_3.out) hb2); have n1_ := Aside0.mk (below_step (by repeat (first | (with_reducible first | exact HB.out | apply below_alloc | apply pw_below_drewN | apply below_drew1) | exact HB.out)) hb2); have n2_ := Aside0.mk ((show IsS70 w w26 g191 t190 from IsS70.rebase hi (below_size (by repeat (first | (with_reducible first | exact HB.out | apply below_alloc | apply pw_below_drewN | apply below_drew1) | exact HB.out))))); clear HO_3; clear HB; have HO_3 := n0_; have HB := n1_; have HI191 := n2_; clear n0_ n1_ n2_; (try clear hb); (try clear hb2); (try clear hk); (try clear hi); obtain ⟨Ao27, co27, eo27⟩ := Kd.R_slice HO_3.out; subst eo27) | (go_at_call 12; (with_reducible refine (pack_Encoder_Write.calls k2 g191 t190 _ _ x3_2 t192 t193 w _ ?side1 ?side2 ?side3 ?side4 A19.out).mono ?_); (case side1 => repeat (first | (with_reducible first | exact HI191.out | apply IsS70.alloc | apply IsS70.drewN | apply IsS70.drew) | exact HI191.out)); (case side2 => repeat (first | (with_reducible first | exact HB.out | apply below_alloc | apply pw_below_drewN | apply below_drew1 | refine below_set ?_ (IsS70.ge HI191.out)) | exact HB.out)); (case side3 => repeat (first | exact (Kd.R_reads' HO_3.out).2.2 | (with_reducible refine Kd.C_alloc ?_ _) | (with_reducible refine Kd.C_drewN ?_ _) | (with_reducible refine Kd.C_drew ?_))); (case side4 => exact (Kd.R_reads' HO_3.out).2.1); rintro e w28 ⟨rfl, hi, hb, hk⟩; have n0_ := Aside0.mk (Kd.R_mono (Kd.R_keep2 (IsS70.apart (show IsS70 w _ g191 t190 from by repeat (first | (with_reducible first | exact HI191.out | apply IsS70.alloc | apply IsS70.drewN | apply IsS70.drew) | exact HI191.out)) (by (with_reducible repeat (first | apply Kd.R_alloc | apply Kd.R_drewN | apply Kd.R_drew)); exact HO_3.out) (by decide)) hk (fun _ h => h.2)) (fun _ h => h.1)); have n1_ := Aside0.mk (hb); have n2_ := Aside0.mk (hi); clear HO_3; clear HB; clear HI191; have HO_3 := n0_; have HB := n1_; have HI191 := n2_; clear n0_ n1_ n2_; (try clear hb); (try clear hb2); (try clear hk); (try clear hi)) | (go_at_call 13; (with_reducible refine (pack_Encoder_Table.calls (w1 := w) g191 t193 t194 _ _ ?side1 (Below.refl _ _) A20.out).mono ?_); (case side1 => repeat (first | (with_reducible first | exact HI191.out | apply IsS70.alloc | apply IsS70.drewN | apply IsS70.drew) | exact HI191.out)); rintro e w29 ⟨g195, rfl, hi, hb, hb2⟩; have n0_ := Aside0.mk (Kd.R_below (by (with_reducible repeat (first | apply Kd.R_alloc | apply Kd.R_drewN | apply Kd.R_drew)); exact HO_3.out) hb2); have n1_ := Aside0.mk (IsS70.below (by repeat (first | (with_reducible first | exact HI191.out | apply IsS70.alloc | apply IsS70.drewN | apply IsS70.drew) | exact HI191.out)) hb2); have n2_ := Aside0.mk (below_step (by repeat (first | (with_reducible first | exact HB.out | apply below_alloc | apply pw_below_drewN | apply below_drew1 | refine below_set ?_ (IsS70.ge HI191.out)) | exact HB.out)) hb2); have n3_ := Aside0.mk ((show IsS77 w w29 g195 t194 from IsS77.rebase hi (below_size (by repeat (first | (with_reducible first | exact HB.out | apply below_alloc | apply pw_below_drewN | apply below_drew1 | refine below_set ?_ (IsS70.ge HI191.out)) | exact HB.out))))); have n4_ := Aside0.mk ((Nat.ne_of_gt (Nat.lt_of_le_of_lt (Nat.sub_le _ _) (Nat.lt_of_lt_of_le (IsS70.lt (show IsS70 w _ g191 t193 from by repeat (first | (with_reducible first | exact HI191.out | apply IsS70.alloc | apply IsS70.drewN | apply IsS70.drew) | exact HI191.out))) (IsS77.ge hi))) : g195 ≠ g191 - 1)); have n5_ := Aside0.mk ((Nat.ne_of_lt (Nat.lt_of_lt_of_le (IsS70.lt (show IsS70 w _ g191 t193 from by repeat (first | (with_reducible first | exact HI191.out | apply IsS70.alloc | apply IsS70.drewN | apply IsS70.drew) | exact HI191.out))) (IsS77.ge hi)) : g191 ≠ g195)); have n6_ := Aside0.mk ((Nat.ne_of_gt (Nat.lt_of_lt_of_le (IsS70.lt (show IsS70 w _ g191 t193 from by repeat (first | (with_reducible first | exact HI191.out | apply IsS70.alloc | apply IsS70.drewN | apply IsS70.drew) | exact HI191.out))) (IsS77.ge hi)) : g195 ≠ g191)); clear HO_3; clear HI191; clear HB; have HO_3 := n0_; have HI191 := n1_; have HB := n2_; have HI195 := n3_; have NC195_191 := n4_; have NB191_195 := n5_; have NB195_191 := n6_; clear n0_ n1_ n2_ n3_ n4_ n5_ n6_; (try clear hb); (try clear hb2); (try clear hk); (try clear hi)) | (go_at_call 12; (with_reducible refine (pack_Encoder_Write.calls k2 g191 t193 _ _ x3_2 t196 t197 w _ ?side1 ?side2 ?side3 ?side4 A21.out).mono ?_); (case side1 => repeat (first | (with_reducible first | exact HI191.out | apply IsS70.alloc | apply IsS70.drewN | apply IsS70.drew) | exact HI191.out)); (case side2 => repeat (first | (with_reducible first | exact HB.out | apply below_alloc | apply pw_below_drewN | apply below_drew1 | refine below_set ?_ (IsS70.ge HI191.out) | refine below_set ?_ (IsS77.ge HI195.out)) | exact HB.out)); (case side3 => repeat (first | exact (Kd.R_reads' HO_3.out).2.2 | (with_reducible refine Kd.C_alloc ?_ _) | (with_reducible refine Kd.C_drewN ?_ _) | (with_reducible refine Kd.C_drew ?_))); (case side4 => exact (Kd.R_reads' HO_3.out).2.1); rintro e w30 ⟨rfl, hi, hb, hk⟩; have n0_ := Aside0.mk (Kd.R_mono (Kd.R_keep2 (IsS70.apart (show IsS70 w _ g191 t193 from by repeat (first | (with_reducible first | exact HI191.out | apply IsS70.alloc | apply IsS70.drewN | apply IsS70.drew) | exact HI191.out)) (by (with_reducible repeat (first | apply Kd.R_alloc | apply Kd.R_drewN | apply Kd.R_drew)); exact HO_3.out) (by decide)) hk (fun _ h => h.2)) (fun _ h => h.1)); have n1_ := Aside0.mk (IsS70.tabOther (show IsS70 w _ g191 t193 from by repeat (first | (with_reducible first | exact HI191.out | apply IsS70.alloc | apply IsS70.drewN | apply IsS70.drew) | exact HI191.out)) (show IsS77 w _ g195 t194 from by repeat (first | (with_reducible first | exact HI195.out | apply IsS77.alloc | apply IsS77.drewN | apply IsS77.drew) | exact HI195.out)) hk NC195_191.out); have n2_ := Aside0.mk (hb); have n3_ := Aside0.mk (hi); clear HO_3; clear HI195; clear HB; clear HI191; have HO_3 := n0_; have HI195 := n1_; have HB := n2_; have HI191 := n3_; clear n0_ n1_ n2_ n3_; (try clear hb); (try clear hb2); (try clear hk); (try clear hi)) | (go_at_call 13; (with_reducible refine (pack_Encoder_Table.calls (w1 := w) g191 t197 t198 _ _ ?side1 (Below.refl _ _) A22.out).mono ?_); (case side1 => repeat (first | (with_reducible first | exact HI191.out | apply IsS70.alloc | apply IsS70.drewN | apply IsS70.drew) | exact HI191.out)); rintro e w31 ⟨g199, rfl, hi, hb, hb2⟩; have n0_ := Aside0.mk (Kd.R_below (by (with_reducible repeat (first | apply Kd.R_alloc | apply Kd.R_drewN | apply Kd.R_drew)); exact HO_3.out) hb2); have n1_ := Aside0.mk (IsS70.below (by repeat (first | (with_reducible first | exact HI191.out | apply IsS70.alloc | apply IsS70.drewN | apply IsS70.drew) | exact HI191.out)) hb2); have n2_ := Aside0.mk (IsS77.below (by repeat (first | (with_reducible first | exact HI195.out | apply IsS77.alloc | apply IsS77.drewN | apply IsS77.drew) | exact HI195.out)) hb2); have n3_ := Aside0.mk (below_step (by repeat (first | (with_reducible first | exact HB.out | apply below_alloc | apply pw_below_drewN | apply below_drew1 | refine below_set ?_ (IsS70.ge HI191.out) | refine below_set ?_ (IsS77.ge HI195.out)) | exact HB.out)) hb2); have n4_ := Aside0.mk ((show IsS77 w w31 g199 t198 from IsS77.rebase hi (below_size (by repeat (first | (with_reducible first | exact HB.out | apply below_alloc | apply pw_below_drewN | apply below_drew1 | refine below_set ?_ (IsS70.ge HI191.out) | refine below_set ?_ (IsS77.ge HI195.out)) | exact HB.out))))); have n5_ := Aside0.mk ((Nat.ne_of_gt (Nat.lt_of_le_of_lt (Nat.sub_le _ _) (Nat.lt_of_lt_of_le (IsS70.lt (show IsS70 w _ g191 t197 from by repeat (first | (with_reducible first | exact HI191.out | apply IsS70.alloc | apply IsS70.drewN | apply IsS70.drew) | exact HI191.out))) (IsS77.ge hi))) : g199 ≠ g191 - 1)); have n6_ := Aside0.mk ((Nat.ne_of_lt (Nat.lt_of_lt_of_le (IsS70.lt (show IsS70 w _ g191 t197 from by repeat (first | (with_reducible first | exact HI191.out | apply IsS70.alloc | apply IsS70.drewN | apply IsS70.drew) | exact HI191.out))) (IsS77.ge hi)) : g191 ≠ g199)); have n7_ := Aside0.mk ((Nat.ne_of_gt (Nat.lt_of_lt_of_le (IsS70.lt (show IsS70 w _ g191 t197 from by repeat (first | (with_reducible first | exact HI191.out | apply IsS70.alloc | apply IsS70.drewN | apply IsS70.drew) | exact HI191.out))) (IsS77.ge hi)) : g199 ≠ g191)); have n8_ := Aside0.mk ((Nat.ne_of_lt (Nat.lt_of_lt_of_le (IsS77.lt (show IsS77 w _ g195 t194 from by repeat (first | (with_reducible first | exact HI195.out | apply IsS77.alloc | apply IsS77.drewN | apply IsS77.drew) | exact HI195.out))) (IsS77.ge hi)) : g195 ≠ g199)); have n9_ := Aside0.mk ((Nat.ne_of_gt (Nat.lt_of_lt_of_le (IsS77.lt (show IsS77 w _ g195 t194 from by repeat (first | (with_reducible first | exact HI195.out | apply IsS77.alloc | apply IsS77.drewN | apply IsS77.drew) | exact HI195.out))) (IsS77.ge hi)) : g199 ≠ g195)); clear HO_3; clear HI191; clear HI195; clear HB; have HO_3 := n0_; have HI191 := n1_; have HI195 := n2_; have HB := n3_; have HI199 := n4_; have NC199_191 := n5_; have NB191_199 := n6_; have NB199_191 := n7_; have NB195_199 := n8_; have NB199_195 := n9_; clear n0_ n1_ n2_ n3_ n4_ n5_ n6_ n7_ n8_ n9_; (try clear hb); (try clear hb2); (try clear hk); (try clear hi)) | (go_at_call 14; (with_reducible refine (table_Table_Size.calls (w1 := w) g195 t194 t200 _ ?side1 A24.out).mono ?_); (case side1 => repeat (first | (with_reducible first | exact HI195.out | apply IsS77.alloc | apply IsS77.drewN | apply IsS77.drew) | exact HI195.out)); rintro e w32 ⟨rfl, hb⟩; have n0_ := Aside0.mk (Kd.R_below (by (with_reducible repeat (first | apply Kd.R_alloc | apply Kd.R_drewN | apply Kd.R_drew)); exact HO_3.out) hb); have n1_ := Aside0.mk (IsS70.below (by repeat (first | (with_reducible first | exact HI191.out | apply IsS70.alloc | apply IsS70.drewN | apply IsS70.drew) | exact HI191.out)) hb); have n2_ := Aside0.mk (IsS77.below (by repeat (first | (with_reducible first | exact HI195.out | apply IsS77.alloc | apply IsS77.drewN | apply IsS77.drew) | exact HI195.out)) hb); have n3_ := Aside0.mk (IsS77.below (by repeat (first | (with_reducible first | exact HI199.out | apply IsS77.alloc | apply IsS77.drewN | apply IsS77.drew) | exact HI199.out)) hb); have n4_ := Aside0.mk (below_step (by repeat (first | (with_reducible first | exact HB.out | apply below_alloc | apply pw_below_drewN | apply below_drew1 | refine below_set ?_ (IsS70.ge HI191.out) | refine below_set ?_ (IsS77.ge HI195.out) | refine below_set ?_ (IsS77.ge HI199.out)) | exact HB.out)) hb); clear HO_3; clear HI191; clear HI195; clear HI199; clear HB; have HO_3 := n0_; have HI191 := n1_; have HI195 := n2_; have HI199 := n3_; have HB := n4_; clear n0_ n1_ n2_ n3_ n4_; (try clear hb); (try clear hb2); (try clear hk); (try clear hi)) | (go_at_call 14; (with_reducible refine (table_Table_Size.calls (w1 := w) g199 t198 t201 _ ?side1 A25.out).mono ?_); (case side1 => repeat (first | (with_reducible first | exact HI199.out | apply IsS77.alloc | apply IsS77.drewN | apply IsS77.drew) | exact HI199.out)); rintro e w33 ⟨rfl, hb⟩; have n0_ := Aside0.mk (Kd.R_below (by (with_reducible repeat (first | apply Kd.R_alloc | apply Kd.R_drewN | apply Kd.R_drew)); exact HO_3.out) hb); have n1_ := Aside0.mk (IsS70.below (by repeat (first | (with_reducible first | exact HI191.out | apply IsS70.alloc | apply IsS70.drewN | apply IsS70.drew) | exact HI191.out)) hb); have n2_ := Aside0.mk (IsS77.below (by repeat (first | (with_reducible first | exact HI195.out | apply IsS77.alloc | apply IsS77.drewN | apply IsS77.drew) | exact HI195.out)) hb); have n3_ := Aside0.mk (IsS77.below (by repeat (first | (with_reducible first | exact HI199.out | apply IsS77.alloc | apply IsS77.drewN | apply IsS77.drew) | exact HI199.out)) hb); have n4_ := Aside0.mk (below_step (by repeat (first | (with_reducible first | exact HB.out | apply below_alloc | apply pw_below_drewN | apply below_drew1 | refine below_set ?_ (IsS70.ge HI191.out) | refine below_set ?_ (IsS77.ge HI195.out) | refine below_set ?_ (IsS77.ge HI199.out)) | exact HB.out)) hb); clear HO_3; clear HI191; clear HI195; clear HI199; clear HB; have HO_3 := n0_; have HI191 := n1_; have HI195 := n2_; have HI199 := n3_; have HB := n4_; clear n0_ n1_ n2_ n3_ n4_; (try clear hb); (try clear hb2); (try clear hk); (try clear hi)))
          repeat (go_quiet (first | (go_at_call 11; (with_reducible refine (pack_New.calls  t190 _ _ (Below.refl _ _) ?side1 A18.out).mono ?_); (case side1 => exact EnvW.below HEnv.out rfl (by repeat (first | (with_reducible first | exact HB.out | apply below_alloc | apply pw_below_drewN | apply below_drew1) | exact HB.out))); rintro e w26 ⟨g191, rfl, hi, hb, hb2⟩; have n0_ := Aside0.mk (Kd.R_below (by (with_reducible repeat (first | apply Kd.R_alloc | apply Kd.R_drewN | apply Kd.R_drew)); exact HO_3.out) hb2); have n1_ := Aside0.mk (below_step (by repeat (first | (with_reducible first | exact HB.out | apply below_alloc | apply pw_below_drewN | apply below_drew1) | exact HB.out)) hb2); have n2_ := Aside0.mk ((show IsS70 w w26 g191 t190 from IsS70.rebase hi (below_size (by repeat (first | (with_reducible first | exact HB.out | apply below_alloc | apply pw_below_drewN | apply below_drew1) | exact HB.out))))); clear HO_3; clear HB; have HO_3 := n0_; have HB := n1_; have HI191 := n2_; clear n0_ n1_ n2_; (try clear hb); (try clear hb2); (try clear hk); (try clear hi); obtain ⟨Ao27, co27, eo27⟩ := Kd.R_slice HO_3.out; subst eo27) | (go_at_call 12; (with_reducible refine (pack_Encoder_Write.calls k2 g191 t190 _ _ x3_2 t192 t193 w _ ?side1 ?side2 ?side3 ?side4 A19.out).mono ?_); (case side1 => repeat (first | (with_reducible first | exact HI191.out | apply IsS70.alloc | apply IsS70.drewN | apply IsS70.drew) | exact HI191.out)); (case side2 => repeat (first | (with_reducible first | exact HB.out | apply below_alloc | apply pw_below_drewN | apply below_drew1 | refine below_set ?_ (IsS70.ge HI191.out)) | exact HB.out)); (case side3 => repeat (first | exact (Kd.R_reads' HO_3.out).2.2 | (with_reducible refine Kd.C_alloc ?_ _) | (with_reducible refine Kd.C_drewN ?_ _) | (with_reducible refine Kd.C_drew ?_))); (case side4 => exact (Kd.R_reads' HO_3.out).2.1); rintro e w28 ⟨rfl, hi, hb, hk⟩; have n0_ := Aside0.mk (Kd.R_mono (Kd.R_keep2 (IsS70.apart (show IsS70 w _ g191 t190 from by repeat (first | (with_reducible first | exact HI191.out | apply IsS70.alloc | apply IsS70.drewN | apply IsS70.drew) | exact HI191.out)) (by (with_reducible repeat (first | apply Kd.R_alloc | apply Kd.R_drewN | apply Kd.R_drew)); exact HO_3.out) (by decide)) hk (fun _ h => h.2)) (fun _ h => h.1)); have n1_ := Aside0.mk (hb); have n2_ := Aside0.mk (hi); clear HO_3; clear HB; clear HI191; have HO_3 := n0_; have HB := n1_; have HI191 := n2_; clear n0_ n1_ n2_; (try clear hb); (try clear hb2); (try clear hk); (try clear hi)) | (go_at_call 13; (with_reducible refine (pack_Encoder_Table.calls (w1 := w) g191 t193 t194 _ _ ?side1 (Below.refl _ _) A20.out).mono ?_); (case side1 => repeat (first | (with_reducible first | exact HI191.out | apply IsS70.alloc | apply IsS70.drewN | apply IsS70.drew) | exact HI191.out)); rintro e w29 ⟨g195, rfl, hi, hb, hb2⟩; have n0_ := Aside0.mk (Kd.R_below (by (with_reducible repeat (first | apply Kd.R_alloc | apply Kd.R_drewN | apply Kd.R_drew)); exact HO_3.out) hb2); have n1_ := Aside0.mk (IsS70.below (by repeat (first | (with_reducible first | exact HI191.out | apply IsS70.alloc | apply IsS70.drewN | apply IsS70.drew) | exact HI191.out)) hb2); have n2_ := Aside0.mk (below_step (by repeat (first | (with_reducible first | exact HB.out | apply below_alloc | apply pw_below_drewN | apply below_drew1 | refine below_set ?_ (IsS70.ge HI191.out)) | exact HB.out)) hb2); have n3_ := Aside0.mk ((show IsS77 w w29 g195 t194 from IsS77.rebase hi (below_size (by repeat (first | (with_reducible first | exact HB.out | apply below_alloc | apply pw_below_drewN | apply below_drew1 | refine below_set ?_ (IsS70.ge HI191.out)) | exact HB.out))))); have n4_ := Aside0.mk ((Nat.ne_of_gt (Nat.lt_of_le_of_lt (Nat.sub_le _ _) (Nat.lt_of_lt_of_le (IsS70.lt (show IsS70 w _ g191 t193 from by repeat (first | (with_reducible first | exact HI191.out | apply IsS70.alloc | apply IsS70.drewN | apply IsS70.drew) | exact HI191.out))) (IsS77.ge hi))) : g195 ≠ g191 - 1)); have n5_ := Aside0.mk ((Nat.ne_of_lt (Nat.lt_of_lt_of_le (IsS70.lt (show IsS70 w _ g191 t193 from by repeat (first | (with_reducible first | exact HI191.out | apply IsS70.alloc | apply IsS70.drewN | apply IsS70.drew) | exact HI191.out))) (IsS77.ge hi)) : g191 ≠ g195)); have n6_ := Aside0.mk ((Nat.ne_of_gt (Nat.lt_of_lt_of_le (IsS70.lt (show IsS70 w _ g191 t193 from by repeat (first | (with_reducible first | exact HI191.out | apply IsS70.alloc | apply IsS70.drewN | apply IsS70.drew) | exact HI191.out))) (IsS77.ge hi)) : g195 ≠ g191)); clear HO_3; clear HI191; clear HB; have HO_3 := n0_; have HI191 := n1_; have HB := n2_; have HI195 := n3_; have NC195_191 := n4_; have NB191_195 := n5_; have NB195_191 := n6_; clear n0_ n1_ n2_ n3_ n4_ n5_ n6_; (try clear hb); (try clear hb2); (try clear hk); (try clear hi)) | (go_at_call 12; (with_reducible refine (pack_Encoder_Write.calls k2 g191 t193 _ _ x3_2 t196 t197 w _ ?side1 ?side2 ?side3 ?side4 A21.out).mono ?_); (case side1 => repeat (first | (with_reducible first | exact HI191.out | apply IsS70.alloc | apply IsS70.drewN | apply IsS70.drew) | exact HI191.out)); (case side2 => repeat (first | (with_reducible first | exact HB.out | apply below_alloc | apply pw_below_drewN | apply below_drew1 | refine below_set ?_ (IsS70.ge HI191.out) | refine below_set ?_ (IsS77.ge HI195.out)) | exact HB.out)); (case side3 => repeat (first | exact (Kd.R_reads' HO_3.out).2.2 | (with_reducible refine Kd.C_alloc ?_ _) | (with_reducible refine Kd.C_drewN ?_ _) | (with_reducible refine Kd.C_drew ?_))); (case side4 => exact (Kd.R_reads' HO_3.out).2.1); rintro e w30 ⟨rfl, hi, hb, hk⟩; have n0_ := Aside0.mk (Kd.R_mono (Kd.R_keep2 (IsS70.apart (show IsS70 w _ g191 t193 from by repeat (first | (with_reducible first | exact HI191.out | apply IsS70.alloc | apply IsS70.drewN | apply IsS70.drew) | exact HI191.out)) (by (with_reducible repeat (first | apply Kd.R_alloc | apply Kd.R_drewN | apply Kd.R_drew)); exact HO_3.out) (by decide)) hk (fun _ h => h.2)) (fun _ h => h.1)); have n1_ := Aside0.mk (IsS70.tabOther (show IsS70 w _ g191 t193 from by repeat (first | (with_reducible first | exact HI191.out | apply IsS70.alloc | apply IsS70.drewN | apply IsS70.drew) | exact HI191.out)) (show IsS77 w _ g195 t194 from by repeat (first | (with_reducible first | exact HI195.out | apply IsS77.alloc | apply IsS77.drewN | apply IsS77.drew) | exact HI195.out)) hk NC195_191.out); have n2_ := Aside0.mk (hb); have n3_ := Aside0.mk (hi); clear HO_3; clear HI195; clear HB; clear HI191; have HO_3 := n0_; have HI195 := n1_; have HB := n2_; have HI191 := n3_; clear n0_ n1_ n2_ n3_; (try clear hb); (try clear hb2); (try clear hk); (try clear hi)) | (go_at_call 13; (with_reducible refine (pack_Encoder_Table.calls (w1 := w) g191 t197 t198 _ _ ?side1 (Below.refl _ _) A22.out).mono ?_); (case side1 => repeat (first | (with_reducible first | exact HI191.out | apply IsS70.alloc | apply IsS70.drewN | apply IsS70.drew) | exact HI191.out)); rintro e w31 ⟨g199, rfl, hi, hb, hb2⟩; have n0_ := Aside0.mk (Kd.R_below (by (with_reducible repeat (first | apply Kd.R_alloc | apply Kd.R_drewN | apply Kd.R_drew)); exact HO_3.out) hb2); have n1_ := Aside0.mk (IsS70.below (by repeat (first | (with_reducible first | exact HI191.out | apply IsS70.alloc | apply IsS70.drewN | apply IsS70.drew) | exact HI191.out)) hb2); have n2_ := Aside0.mk (IsS77.below (by repeat (first | (with_reducible first | exact HI195.out | apply IsS77.alloc | apply IsS77.drewN | apply IsS77.drew) | exact HI195.out)) hb2); have n3_ := Aside0.mk (below_step (by repeat (first | (with_reducible first | exact HB.out | apply below_alloc | apply pw_below_drewN | apply below_drew1 | refine below_set ?_ (IsS70.ge HI191.out) | refine below_set ?_ (IsS77.ge HI195.out)) | exact HB.out)) hb2); have n4_ := Aside0.mk ((show IsS77 w w31 g199 t198 from IsS77.rebase hi (below_size (by repeat (first | (with_reducible first | exact HB.out | apply below_alloc | apply pw_below_drewN | apply below_drew1 | refine below_set ?_ (IsS70.ge HI191.out) | refine below_set ?_ (IsS77.ge HI195.out)) | exact HB.out))))); have n5_ := Aside0.mk ((Nat.ne_of_gt (Nat.lt_of_le_of_lt (Nat.sub_le _ _) (Nat.lt_of_lt_of_le (IsS70.lt (show IsS70 w _ g191 t197 from by repeat (first | (with_reducible first | exact HI191.out | apply IsS70.alloc | apply IsS70.drewN | apply IsS70.drew) | exact HI191.out))) (IsS77.ge hi))) : g199 ≠ g191 - 1)); have n6_ := Aside0.mk ((Nat.ne_of_lt (Nat.lt_of_lt_of_le (IsS70.lt (show IsS70 w _ g191 t197 from by repeat (first | (with_reducible first | exact HI191.out | apply IsS70.alloc | apply IsS70.drewN | apply IsS70.drew) | exact HI191.out))) (IsS77.ge hi)) : g191 ≠ g199)); have n7_ := Aside0.mk ((Nat.ne_of_gt (Nat.lt_of_lt_of_le (IsS70.lt (show IsS70 w _ g191 t197 from by repeat (first | (with_reducible first | exact HI191.out | apply IsS70.alloc | apply IsS70.drewN | apply IsS70.drew) | exact HI191.out))) (IsS77.ge hi)) : g199 ≠ g191)); have n8_ := Aside0.mk ((Nat.ne_of_lt (Nat.lt_of_lt_of_le (IsS77.lt (show IsS77 w _ g195 t194 from by repeat (first | (with_reducible first | exact HI195.out | apply IsS77.alloc | apply IsS77.drewN | apply IsS77.drew) | exact HI195.out))) (IsS77.ge hi)) : g195 ≠ g199)); have n9_ := Aside0.mk ((Nat.ne_of_gt (Nat.lt_of_lt_of_le (IsS77.lt (show IsS77 w _ g195 t194 from by repeat (first | (with_reducible first | exact HI195.out | apply IsS77.alloc | apply IsS77.drewN | apply IsS77.drew) | exact HI195.out))) (IsS77.ge hi)) : g199 ≠ g195)); clear HO_3; clear HI191; clear HI195; clear HB; have HO_3 := n0_; have HI191 := n1_; have HI195 := n2_; have HB := n3_; have HI199 := n4_; have NC199_191 := n5_; have NB191_199 := n6_; have NB199_191 := n7_; have NB195_199 := n8_; have NB199_195 := n9_; clear n0_ n1_ n2_ n3_ n4_ n5_ n6_ n7_ n8_ n9_; (try clear hb); (try clear hb2); (try clear hk); (try clear hi)) | (go_at_call 14; (with_reducible refine (table_Table_Size.calls (w1 := w) g195 t194 t200 _ ?side1 A24.out).mono ?_); (case side1 => repeat (first | (with_reducible first | exact HI195.out | apply IsS77.alloc | apply IsS77.drewN | apply IsS77.drew) | exact HI195.out)); rintro e w32 ⟨rfl, hb⟩; have n0_ := Aside0.mk (Kd.R_below (by (with_reducible repeat (first | apply Kd.R_alloc | apply Kd.R_drewN | apply Kd.R_drew)); exact HO_3.out) hb); have n1_ := Aside0.mk (IsS70.below (by repeat (first | (with_reducible first | exact HI191.out | apply IsS70.alloc | apply IsS70.drewN | apply IsS70.drew) | exact HI191.out)) hb); have n2_ := Aside0.mk (IsS77.below (by repeat (first | (with_reducible first | exact HI195.out | apply IsS77.alloc | apply IsS77.drewN | apply IsS77.drew) | exact HI195.out)) hb); have n3_ := Aside0.mk (IsS77.below (by repeat (first | (with_reducible first | exact HI199.out | apply IsS77.alloc | apply IsS77.drewN | apply IsS77.drew) | exact HI199.out)) hb); have n4_ := Aside0.mk (below_step (by repeat (first | (with_reducible first | exact HB.out | apply below_alloc | apply pw_below_drewN | apply below_drew1 | refine below_set ?_ (IsS70.ge HI191.out) | refine below_set ?_ (IsS77.ge HI195.out) | refine below_set ?_ (IsS77.ge HI199.out)) | exact HB.out)) hb); clear HO_3; clear HI191; clear HI195; clear HI199; clear HB; have HO_3 := n0_; have HI191 := n1_; have HI195 := n2_; have HI199 := n3_; have HB := n4_; clear n0_ n1_ n2_ n3_ n4_; (try clear hb); (try clear hb2); (try clear hk); (try clear hi)) | (go_at_call 14; (with_reducible refine (table_Table_Size.calls (w1 := w) g199 t198 t201 _ ?side1 A25.out).mono ?_); (case side1 => repeat (first | (with_reducible first | exact HI199.out | apply IsS77.alloc | apply IsS77.drewN | apply IsS77.drew) | exact HI199.out)); rintro e w33 ⟨rfl, hb⟩; have n0_ := Aside0.mk (Kd.R_below (by (with_reducible repeat (first | apply Kd.R_alloc | apply Kd.R_drewN | apply Kd.R_drew)); exact HO_3.out) hb); have n1_ := Aside0.mk (IsS70.below (by repeat (first | (with_reducible first | exact HI191.out | apply IsS70.alloc | apply IsS70.drewN | apply IsS70.drew) | exact HI191.out)) hb); have n2_ := Aside0.mk (IsS77.below (by repeat (first | (with_reducible first | exact HI195.out | apply IsS77.alloc | apply IsS77.drewN | apply IsS77.drew) | exact HI195.out)) hb); have n3_ := Aside0.mk (IsS77.below (by repeat (first | (with_reducible first | exact HI199.out | apply IsS77.alloc | apply IsS77.drewN | apply IsS77.drew) | exact HI199.out)) hb); have n4_ := Aside0.mk (below_step (by repeat (first | (with_reducible first | exact HB.out | apply below_alloc | apply pw_below_drewN | apply below_drew1 | refine below_set ?_ (IsS70.ge HI191.out) | refine below_set ?_ (IsS77.ge HI195.out) | refine below_set ?_ (IsS77.ge HI199.out)) | exact HB.out)) hb); clear HO_3; clear HI191; clear HI195; clear HI199; clear HB; have HO_3 := n0_; have HI191 := n1_; have HI195 := n2_; have HI199 := n3_; have HB := n4_; clear n0_ n1_ n2_ n3_ n4_; (try clear hb); (try clear hb2); (try clear hk); (try clear hi))); try go_wp2_with (first | (go_at_call 11; (with_reducible refine (pack_New.calls  t190 _ _ (Below.refl _ _) ?side1 A18.out).mono ?_); (case side1 => exact EnvW.below HEnv.out rfl (by repeat (first | (with_reducible first | exact HB.out | apply below_alloc | apply pw_below_drewN | apply below_drew1) | exact HB.out))); rintro e w26 ⟨g191, rfl, hi, hb, hb2⟩; have n0_ := Aside0.mk (Kd.R_below (by (with_reducible repeat (first | apply Kd.R_alloc | apply Kd.R_drewN | apply Kd.R_drew)); exact HO_3.out) hb2); have n1_ := Aside0.mk (below_step (by repeat (first | (with_reducible first | exact HB.out | apply below_alloc | apply pw_below_drewN | apply below_drew1) | exact HB.out)) hb2); have n2_ := Aside0.mk ((show IsS70 w w26 g191 t190 from IsS70.rebase hi (below_size (by repeat (first | (with_reducible first | exact HB.out | apply below_alloc | apply pw_below_drewN | apply below_drew1) | exact HB.out))))); clear HO_3; clear HB; have HO_3 := n0_; have HB := n1_; have HI191 := n2_; clear n0_ n1_ n2_; (try clear hb); (try clear hb2); (try clear hk); (try clear hi); obtain ⟨Ao27, co27, eo27⟩ := Kd.R_slice HO_3.out; subst eo27) | (go_at_call 12; (with_reducible refine (pack_Encoder_Write.calls k2 g191 t190 _ _ x3_2 t192 t193 w _ ?side1 ?side2 ?side3 ?side4 A19.out).mono ?_); (case side1 => repeat (first | (with_reducible first | exact HI191.out | apply IsS70.alloc | apply IsS70.drewN | apply IsS70.drew) | exact HI191.out)); (case side2 => repeat (first | (with_reducible first | exact HB.out | apply below_alloc | apply pw_below_drewN | apply below_drew1 | refine below_set ?_ (IsS70.ge HI191.out)) | exact HB.out)); (case side3 => repeat (first | exact (Kd.R_reads' HO_3.out).2.2 | (with_reducible refine Kd.C_alloc ?_ _) | (with_reducible refine Kd.C_drewN ?_ _) | (with_reducible refine Kd.C_drew ?_))); (case side4 => exact (Kd.R_reads' HO_3.out).2.1); rintro e w28 ⟨rfl, hi, hb, hk⟩; have n0_ := Aside0.mk (Kd.R_mono (Kd.R_keep2 (IsS70.apart (show IsS70 w _ g191 t190 from by repeat (first | (with_reducible first | exact HI191.out | apply IsS70.alloc | apply IsS70.drewN | apply IsS70.drew) | exact HI191.out)) (by (with_reducible repeat (first | apply Kd.R_alloc | apply Kd.R_drewN | apply Kd.R_drew)); exact HO_3.out) (by decide)) hk (fun _ h => h.2)) (fun _ h => h.1)); have n1_ := Aside0.mk (hb); have n2_ := Aside0.mk (hi); clear HO_3; clear HB; clear HI191; have HO_3 := n0_; have HB := n1_; have HI191 := n2_; clear n0_ n1_ n2_; (try clear hb); (try clear hb2); (try clear hk); (try clear hi)) | (go_at_call 13; (with_reducible refine (pack_Encoder_Table.calls (w1 := w) g191 t193 t194 _ _ ?side1 (Below.refl _ _) A20.out).mono ?_); (case side1 => repeat (first | (with_reducible first | exact HI191.out | apply IsS70.alloc | apply IsS70.drewN | apply IsS70.drew) | exact HI191.out)); rintro e w29 ⟨g195, rfl, hi, hb, hb2⟩; have n0_ := Aside0.mk (Kd.R_below (by (with_reducible repeat (first | apply Kd.R_alloc | apply Kd.R_drewN | apply Kd.R_drew)); exact HO_3.out) hb2); have n1_ := Aside0.mk (IsS70.below (by repeat (first | (with_reducible first | exact HI191.out | apply IsS70.alloc | apply IsS70.drewN | apply IsS70.drew) | exact HI191.out)) hb2); have n2_ := Aside0.mk (below_step (by repeat (first | (with_reducible first | exact HB.out | apply below_alloc | apply pw_below_drewN | apply below_drew1 | refine below_set ?_ (IsS70.ge HI191.out)) | exact HB.out)) hb2); have n3_ := Aside0.mk ((show IsS77 w w29 g195 t194 from IsS77.rebase hi (below_size (by repeat (first | (with_reducible first | exact HB.out | apply below_alloc | apply pw_below_drewN | apply below_drew1 | refine below_set ?_ (IsS70.ge HI191.out)) | exact HB.out))))); have n4_ := Aside0.mk ((Nat.ne_of_gt (Nat.lt_of_le_of_lt (Nat.sub_le _ _) (Nat.lt_of_lt_of_le (IsS70.lt (show IsS70 w _ g191 t193 from by repeat (first | (with_reducible first | exact HI191.out | apply IsS70.alloc | apply IsS70.drewN | apply IsS70.drew) | exact HI191.out))) (IsS77.ge hi))) : g195 ≠ g191 - 1)); have n5_ := Aside0.mk ((Nat.ne_of_lt (Nat.lt_of_lt_of_le (IsS70.lt (show IsS70 w _ g191 t193 from by repeat (first | (with_reducible first | exact HI191.out | apply IsS70.alloc | apply IsS70.drewN | apply IsS70.drew) | exact HI191.out))) (IsS77.ge hi)) : g191 ≠ g195)); have n6_ := Aside0.mk ((Nat.ne_of_gt (Nat.lt_of_lt_of_le (IsS70.lt (show IsS70 w _ g191 t193 from by repeat (first | (with_reducible first | exact HI191.out | apply IsS70.alloc | apply IsS70.drewN | apply IsS70.drew) | exact HI191.out))) (IsS77.ge hi)) : g195 ≠ g191)); clear HO_3; clear HI191; clear HB; have HO_3 := n0_; have HI191 := n1_; have HB := n2_; have HI195 := n3_; have NC195_191 := n4_; have NB191_195 := n5_; have NB195_191 := n6_; clear n0_ n1_ n2_ n3_ n4_ n5_ n6_; (try clear hb); (try clear hb2); (try clear hk); (try clear hi)) | (go_at_call 12; (with_reducible refine (pack_Encoder_Write.calls k2 g191 t193 _ _ x3_2 t196 t197 w _ ?side1 ?side2 ?side3 ?side4 A21.out).mono ?_); (case side1 => repeat (first | (with_reducible first | exact HI191.out | apply IsS70.alloc | apply IsS70.drewN | apply IsS70.drew) | exact HI191.out)); (case side2 => repeat (first | (with_reducible first | exact HB.out | apply below_alloc | apply pw_below_drewN | apply below_drew1 | refine below_set ?_ (IsS70.ge HI191.out) | refine below_set ?_ (IsS77.ge HI195.out)) | exact HB.out)); (case side3 => repeat (first | exact (Kd.R_reads' HO_3.out).2.2 | (with_reducible refine Kd.C_alloc ?_ _) | (with_reducible refine Kd.C_drewN ?_ _) | (with_reducible refine Kd.C_drew ?_))); (case side4 => exact (Kd.R_reads' HO_3.out).2.1); rintro e w30 ⟨rfl, hi, hb, hk⟩; have n0_ := Aside0.mk (Kd.R_mono (Kd.R_keep2 (IsS70.apart (show IsS70 w _ g191 t193 from by repeat (first | (with_reducible first | exact HI191.out | apply IsS70.alloc | apply IsS70.drewN | apply IsS70.drew) | exact HI191.out)) (by (with_reducible repeat (first | apply Kd.R_alloc | apply Kd.R_drewN | apply Kd.R_drew)); exact HO_3.out) (by decide)) hk (fun _ h => h.2)) (fun _ h => h.1)); have n1_ := Aside0.mk (IsS70.tabOther (show IsS70 w _ g191 t193 from by repeat (first | (with_reducible first | exact HI191.out | apply IsS70.alloc | apply IsS70.drewN | apply IsS70.drew) | exact HI191.out)) (show IsS77 w _ g195 t194 from by repeat (first | (with_reducible first | exact HI195.out | apply IsS77.alloc | apply IsS77.drewN | apply IsS77.drew) | exact HI195.out)) hk NC195_191.out); have n2_ := Aside0.mk (hb); have n3_ := Aside0.mk (hi); clear HO_3; clear HI195; clear HB; clear HI191; have HO_3 := n0_; have HI195 := n1_; have HB := n2_; have HI191 := n3_; clear n0_ n1_ n2_ n3_; (try clear hb); (try clear hb2); (try clear hk); (try clear hi)) | (go_at_call 13; (with_reducible refine (pack_Encoder_Table.calls (w1 := w) g191 t197 t198 _ _ ?side1 (Below.refl _ _) A22.out).mono ?_); (case side1 => repeat (first | (with_reducible first | exact HI191.out | apply IsS70.alloc | apply IsS70.drewN | apply IsS70.drew) | exact HI191.out)); rintro e w31 ⟨g199, rfl, hi, hb, hb2⟩; have n0_ := Aside0.mk (Kd.R_below (by (with_reducible repeat (first | apply Kd.R_alloc | apply Kd.R_drewN | apply Kd.R_drew)); exact HO_3.out) hb2); have n1_ := Aside0.mk (IsS70.below (by repeat (first | (with_reducible first | exact HI191.out | apply IsS70.alloc | apply IsS70.drewN | apply IsS70.drew) | exact HI191.out)) hb2); have n2_ := Aside0.mk (IsS77.below (by repeat (first | (with_reducible first | exact HI195.out | apply IsS77.alloc | apply IsS77.drewN | apply IsS77.drew) | exact HI195.out)) hb2); have n3_ := Aside0.mk (below_step (by repeat (first | (with_reducible first | exact HB.out | apply below_alloc | apply pw_below_drewN | apply below_drew1 | refine below_set ?_ (IsS70.ge HI191.out) | refine below_set ?_ (IsS77.ge HI195.out)) | exact HB.out)) hb2); have n4_ := Aside0.mk ((show IsS77 w w31 g199 t198 from IsS77.rebase hi (below_size (by repeat (first | (with_reducible first | exact HB.out | apply below_alloc | apply pw_below_drewN | apply below_drew1 | refine below_set ?_ (IsS70.ge HI191.out) | refine below_set ?_ (IsS77.ge HI195.out)) | exact HB.out))))); have n5_ := Aside0.mk ((Nat.ne_of_gt (Nat.lt_of_le_of_lt (Nat.sub_le _ _) (Nat.lt_of_lt_of_le (IsS70.lt (show IsS70 w _ g191 t197 from by repeat (first | (with_reducible first | exact HI191.out | apply IsS70.alloc | apply IsS70.drewN | apply IsS70.drew) | exact HI191.out))) (IsS77.ge hi))) : g199 ≠ g191 - 1)); have n6_ := Aside0.mk ((Nat.ne_of_lt (Nat.lt_of_lt_of_le (IsS70.lt (show IsS70 w _ g191 t197 from by repeat (first | (with_reducible first | exact HI191.out | apply IsS70.alloc | apply IsS70.drewN | apply IsS70.drew) | exact HI191.out))) (IsS77.ge hi)) : g191 ≠ g199)); have n7_ := Aside0.mk ((Nat.ne_of_gt (Nat.lt_of_lt_of_le (IsS70.lt (show IsS70 w _ g191 t197 from by repeat (first | (with_reducible first | exact HI191.out | apply IsS70.alloc | apply IsS70.drewN | apply IsS70.drew) | exact HI191.out))) (IsS77.ge hi)) : g199 ≠ g191)); have n8_ := Aside0.mk ((Nat.ne_of_lt (Nat.lt_of_lt_of_le (IsS77.lt (show IsS77 w _ g195 t194 from by repeat (first | (with_reducible first | exact HI195.out | apply IsS77.alloc | apply IsS77.drewN | apply IsS77.drew) | exact HI195.out))) (IsS77.ge hi)) : g195 ≠ g199)); have n9_ := Aside0.mk ((Nat.ne_of_gt (Nat.lt_of_lt_of_le (IsS77.lt (show IsS77 w _ g195 t194 from by repeat (first | (with_reducible first | exact HI195.out | apply IsS77.alloc | apply IsS77.drewN | apply IsS77.drew) | exact HI195.out))) (IsS77.ge hi)) : g199 ≠ g195)); clear HO_3; clear HI191; clear HI195; clear HB; have HO_3 := n0_; have HI191 := n1_; have HI195 := n2_; have HB := n3_; have HI199 := n4_; have NC199_191 := n5_; have NB191_199 := n6_; have NB199_191 := n7_; have NB195_199 := n8_; have NB199_195 := n9_; clear n0_ n1_ n2_ n3_ n4_ n5_ n6_ n7_ n8_ n9_; (try clear hb); (try clear hb2); (try clear hk); (try clear hi)) | (go_at_call 14; (with_reducible refine (table_Table_Size.calls (w1 := w) g195 t194 t200 _ ?side1 A24.out).mono ?_); (case side1 => repeat (first | (with_reducible first | exact HI195.out | apply IsS77.alloc | apply IsS77.drewN | apply IsS77.drew) | exact HI195.out)); rintro e w32 ⟨rfl, hb⟩; have n0_ := Aside0.mk (Kd.R_below (by (with_reducible repeat (first | apply Kd.R_alloc | apply Kd.R_drewN | apply Kd.R_drew)); exact HO_3.out) hb); have n1_ := Aside0.mk (IsS70.below (by repeat (first | (with_reducible first | exact HI191.out | apply IsS70.alloc | apply IsS70.drewN | apply IsS70.drew) | exact HI191.out)) hb); have n2_ := Aside0.mk (IsS77.below (by repeat (first | (with_reducible first | exact HI195.out | apply IsS77.alloc | apply IsS77.drewN | apply IsS77.drew) | exact HI195.out)) hb); have n3_ := Aside0.mk (IsS77.below (by repeat (first | (with_reducible first | exact HI199.out | apply IsS77.alloc | apply IsS77.drewN | apply IsS77.drew) | exact HI199.out)) hb); have n4_ := Aside0.mk (below_step (by repeat (first | (with_reducible first | exact HB.out | apply below_alloc | apply pw_below_drewN | apply below_drew1 | refine below_set ?_ (IsS70.ge HI191.out) | refine below_set ?_ (IsS77.ge HI195.out) | refine below_set ?_ (IsS77.ge HI199.out)) | exact HB.out)) hb); clear HO_3; clear HI191; clear HI195; clear HI199; clear HB; have HO_3 := n0_; have HI191 := n1_; have HI195 := n2_; have HI199 := n3_; have HB := n4_; clear n0_ n1_ n2_ n3_ n4_; (try clear hb); (try clear hb2); (try clear hk); (try clear hi)) | (go_at_call 14; (with_reducible refine (table_Table_Size.calls (w1 := w) g199 t198 t201 _ ?side1 A25.out).mono ?_); (case side1 => repeat (first | (with_reducible first | exact HI199.out | apply IsS77.alloc | apply IsS77.drewN | apply IsS77.drew) | exact HI199.out)); rintro e w33 ⟨rfl, hb⟩; have n0_ := Aside0.mk (Kd.R_below (by (with_reducible repeat (first | apply Kd.R_alloc | apply Kd.R_drewN | apply Kd.R_drew)); exact HO_3.out) hb); have n1_ := Aside0.mk (IsS70.below (by repeat (first | (with_reducible first | exact HI191.out | apply IsS70.alloc | apply IsS70.drewN | apply IsS70.drew) | exact HI191.out)) hb); have n2_ := Aside0.mk (IsS77.below (by repeat (first | (with_reducible first | exact HI195.out | apply IsS77.alloc | apply IsS77.drewN | apply IsS77.drew) | exact HI195.out)) hb); have n3_ := Aside0.mk (IsS77.below (by repeat (first | (with_reducible first | exact HI199.out | apply IsS77.alloc | apply IsS77.drewN | apply IsS77.drew) | exact HI199.out)) hb); have n4_ := Aside0.mk (below_step (by repeat (first | (with_reducible first | exact HB.out | apply below_alloc | apply pw_below_drewN | apply below_drew1 | refine below_set ?_ (IsS70.ge HI191.out) | refine below_set ?_ (IsS77.ge HI195.out) | refine below_set ?_ (IsS77.ge HI199.out)) | exact HB.out)) hb); clear HO_3; clear HI191; clear HI195; clear HI199; clear HB; have HO_3 := n0_; have HI191 := n1_; have HI195 := n2_; have HI199 := n3_; have HB := n4_; clear n0_ n1_ n2_ n3_ n4_; (try clear hb); (try clear hb2); (try clear hk); (try clear hi))))
          go_ret
          exact ⟨by first | rfl | (simp [errW_none, errW_some] <;> rfl) | (simp [*, errW_none, errW_some] <;> rfl), by repeat (first | (with_reducible first | exact HB.out | apply below_alloc | apply pw_below_drewN | apply below_drew1 | refine below_set ?_ (IsS70.ge HI191.out) | refine below_set ?_ (IsS77.ge HI195.out) | refine below_set ?_ (IsS77.ge HI199.out)) | exact HB.out)⟩
         ·
          rw [if_neg c23] at H
          have c23b0 : ((t196.size : Int) == (x3_2.length : Int)) = false := beq_eq_false_iff_ne.mpr c23
          have c23b1 : ((t196.size : Int) != (x3_2.length : Int)) = true := bne_iff_ne.mpr c23
          have c23b2 : (t196.size == x3_2.length) = false := by first | simpa using c23 | (simp at c23 ⊢; omega)
          exact absurd ((Option.some.inj H).trans HT.out) (by decide)
 ·
  replace c3 := Bool.eq_false_iff.mpr c3
  subst c3
  have H1 : (some false) = some r := by rw [if_neg (show ¬ (false = true) by decide)] at H; exact H
  clear H
  have H := H1
  clear H1
  exact absurd ((Option.some.inj H).trans HT.out) (by decide)
def nunciolaw13_PackShort.Pure : Prop := ∀ (l0 : List (S26)), (l0.length ≤ 9223372036854775807 ∧ l0.length * 40 ≤ 140737488351232 ∧ ∀ x_ ∈ l0, k26_wf x_) → ∃ k, nunciolaw13_PackShort.f k l0 = some true
theorem nunciolaw13_PackShort.walk (P : nunciolaw13_PackShort.Pure) (A0 : Option Addr) (c0 : Nat) (l0 : List (S26)) (w : World) (hE : EnvW w) (hr0 : Kd.C k26 w A0 l0.length l0) (hc0 : l0.length ≤ c0) (w0 : l0.length ≤ 9223372036854775807 ∧ l0.length * 40 ≤ 140737488351232 ∧ ∀ x_ ∈ l0, k26_wf x_) :
  Calls Tryd.prog 3 #[.slice A0 l0.length c0] w fun e w' => e = .returned (.bool true) ∧ Below w.heap.size w w' := by
 obtain ⟨k, h⟩ := P l0 w0
 refine (nunciolaw13_PackShort.calls k _ _ l0 true w hE hr0 hc0 h rfl).mono ?_
 rintro e w' ⟨rfl, hd⟩
 exact ⟨rfl, hd⟩
end Go.Proofs.YtfkdocmhbmameaaDoor.Mine
