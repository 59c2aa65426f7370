/- The walks and the plain laws that the rows come to: merged out of this repo's texts. -/
import Derived.Test.YtfkdocmhbmameaaDoorProg
import Derived.Below
import Derived.Deep.Draws
import Derived.Deep.AppendLies
import Derived.Maps.AppendAt
import Derived.OwnWalk
import Derived.Laws.BytesArg
import Derived.Laws.MakeOwn
import Derived.Laws.OwnMore
import Derived.Deep.OwnRows
import Derived.Tactics
import Derived.Lib.ConvBytes
import Derived.Laws.Slices
import Derived.WalkKit
import Derived.KernelRfl
import Derived.RowKit3
import Derived.Deep.LoopGhost
import Derived.Deep.QuietTactic
import Derived.BigQuiet
import Derived.WideLaws
import Derived.Deep.DeepCutAuto
import Derived.Deep.CutBlock
import Derived.Deep.RegionHeld3
import Derived.Laws.Rows
import Derived.Lib.AppendStr
import Derived.ArgAppend
import Derived.Laws.IdiomCopy
import Derived.RowKit
import Derived.OrdersHeld
import Derived.Laws.BitsLemmas
import Derived.Laws.StructEq
import Derived.Laws.CopyOwn
import Derived.SizedLaws
import Derived.ChangeSlices
import Derived.Deep.Slices
import Derived.Lib.SmallJoins
import Derived.Lib.OthersKept
import Derived.Lib.AppendZerosOnto
import Derived.WalkSpells
import Derived.Shelf.Utf8.RuneCount
import Derived.Shelf.Strings.Search1
import Derived.Shelf.Strings.Search2
import Derived.Shelf.Strings.Search3
import Derived.Shelf.Strings.Cut
import Derived.Shelf.Strings.Count
import Derived.Shelf.LaysM
import Derived.Shelf.Strings.Shaped
import Derived.Shelf.Strings.Split
import Derived.Shelf.Strings.SplitShaped
import Derived.Shelf.Unicode.Decode
import Derived.Shelf.Strings.RuneCount
import Derived.Shelf.Strings.Explode
import Derived.Shelf.Unicode.DecodeSlow
import Derived.Shelf.Unicode.DecodeAny
import Derived.Recover
import Derived.WalkLawsBesides
import Derived.Test.YtfkdocmhbmameaaDoorCA1
import Derived.Test.YtfkdocmhbmameaaDoorCA2
import Derived.Test.YtfkdocmhbmameaaDoorCA3
import Derived.Test.YtfkdocmhbmameaaDoorCA4
import Derived.Test.YtfkdocmhbmameaaDoorCA5
import Derived.Test.YtfkdocmhbmameaaDoorCA6
import Derived.Test.YtfkdocmhbmameaaDoorCA7
import Derived.Test.YtfkdocmhbmameaaDoorCA8
import Derived.Test.YtfkdocmhbmameaaDoorCA9
import Derived.Test.YtfkdocmhbmameaaDoorCA11
import Derived.Test.YtfkdocmhbmameaaDoorCA12
import Derived.Test.YtfkdocmhbmameaaDoorCA14
import Derived.Test.YtfkdocmhbmameaaDoorCA15
import Derived.Test.YtfkdocmhbmameaaDoorCA16
import Derived.Test.YtfkdocmhbmameaaDoorCA17
import Derived.Test.YtfkdocmhbmameaaDoorCA18
import Derived.Test.YtfkdocmhbmameaaDoorCA19
import Derived.Test.YtfkdocmhbmameaaDoorCA21
namespace Go.Proofs.YtfkdocmhbmameaaDoor.Mine
open Go.RowKit Go.Proofs.YtfkdocmhbmameaaDoorW.PrintWords Go.Proofs.YtfkdocmhbmameaaDoorW.PrintLast Go.Proofs.YtfkdocmhbmameaaDoorW.PrintMore
attribute [local go_sem] max2_int min2_int max_two min_two max_three min_three max_four min_four
set_option linter.unusedVariables false
set_option linter.unusedSimpArgs false
mutual
def nunciolaw12_UnpackHolds.j0 : Nat → List ByteArray → Bool → Option (Bool)
 | 0, _, _ => none
 | k + 1, x0, x19 => if x19 = true then (some true) else ((unpack_New.f).bind fun t486 => (nunciolaw12_UnpackHolds.l0 k x0 0 t486))
def nunciolaw12_UnpackHolds.l0 : Nat → List ByteArray → Int → TD → Option (Bool)
 | 0, _, _, _ => none
 | k + 1, x0, x4, x488000 => if x4 < (x0.length : Int) then ((unpack_Decoder_Down.f x488000).bind fun bt488 => ((unpack_Decoder_Table.f bt488.2).bind fun t490 => (if 0 ≤ x4 then ((unpack_Decoder_Read.f k bt488.2 (rdOf ByteArray.empty x0 x4)).bind fun bt493 => ((unpack_Decoder_Table.f bt493.2.2).bind fun t498 => ((table_Table_Size.f t498).bind fun t500 => ((table_Table_Most.f t498).bind fun t501 => (if t500 > t501 then (nunciolaw12_UnpackHolds.j2 k x0 x4 bt488.1 bt493.1 bt493.2.1 true bt493.2.2 t490 t498) else ((table_Table_Most.f t498).bind fun t502 => (if t502 > 4096 then (nunciolaw12_UnpackHolds.j2 k x0 x4 bt488.1 bt493.1 bt493.2.1 true bt493.2.2 t490 t498) else (nunciolaw12_UnpackHolds.j2 k x0 x4 bt488.1 bt493.1 bt493.2.1 (decide ((bt493.1.length : Int) > 64)) bt493.2.2 t490 t498)))))))) else (none)))) else (some true)
def nunciolaw12_UnpackHolds.j2 : Nat → List ByteArray → Int → Bool → List (S26) → Int → Bool → TD → TB → TB → Option (Bool)
 | 0, _, _, _, _, _, _, _, _, _ => none
 | k + 1, x0, x4, x5, x7, x8, x64, x488000, x492000, x500000 => if x64 = true then (some false) else (if x5 = true then (if x8 = 8 then (if (x7.length : Int) = 0 then ((table_Table_Size.f x500000).bind fun t503 => ((table_Table_Size.f x492000).bind fun t504 => (if t503 = t504 then ((table_Table_Len.f x500000).bind fun t505 => ((table_Table_Len.f x492000).bind fun t506 => (nunciolaw12_UnpackHolds.j3 k x0 x4 x5 x7 x8 (t505 != t506) x488000))) else (nunciolaw12_UnpackHolds.j3 k x0 x4 x5 x7 x8 true x488000)))) else (nunciolaw12_UnpackHolds.j3 k x0 x4 x5 x7 x8 true x488000)) else (nunciolaw12_UnpackHolds.j3 k x0 x4 x5 x7 x8 true x488000)) else (nunciolaw12_UnpackHolds.j3 k x0 x4 x5 x7 x8 false x488000))
def nunciolaw12_UnpackHolds.j3 : Nat → List ByteArray → Int → Bool → List (S26) → Int → Bool → TD → Option (Bool)
 | 0, _, _, _, _, _, _, _ => none
 | k + 1, x0, x4, x5, x7, x8, x88, x488000 => if x88 = true then (some false) else ((unpack_Decoder_Down.f x488000).bind fun bt507 => (if x5 = true then (if (bt507.1 != true) = true then (some false) else (if x8 = 0 then (nunciolaw12_UnpackHolds.l0 k x0 (wrap64 (x4 + 1)) bt507.2) else (if (x7.length : Int) = 0 then (nunciolaw12_UnpackHolds.l0 k x0 (wrap64 (x4 + 1)) bt507.2) else (some false)))) else (if (bt507.1 != (x8 != 0)) = true then (some false) else (if x8 = 0 then (nunciolaw12_UnpackHolds.l0 k x0 (wrap64 (x4 + 1)) bt507.2) else (if (x7.length : Int) = 0 then (nunciolaw12_UnpackHolds.l0 k x0 (wrap64 (x4 + 1)) bt507.2) else (some false))))))
end
def nunciolaw12_UnpackHolds.f (k : Nat) (l0 : List ByteArray) : Option (Bool) := (nunciolaw12_awake.f k).bind fun t484 => (if t484 = true then ((nunciolaw12_Few.f k l0).bind fun t485 => (if t485 = true then (nunciolaw12_UnpackHolds.j0 k l0 (decide ((l0.length : Int) > 40))) else (nunciolaw12_UnpackHolds.j0 k l0 true))) else (some false))
set_option maxHeartbeats 8000000 in
set_option maxRecDepth 100000 in
theorem nunciolaw12_UnpackHolds.calls (k : Nat) (A0 : Option Addr) (c0 : Nat) (l0 : List ByteArray) (r : Bool) (w : World) (hE : EnvW w) (hr0 : Kd.C Kd.string w A0 l0.length l0) (hc0 : l0.length ≤ c0) (h : nunciolaw12_UnpackHolds.f k l0 = some r) (hT : r = true) :
  Calls Tryd.prog 6 #[.slice A0 l0.length c0] w fun e w' => e = .returned (.bool r) ∧ Below w.heap.size w w' := by
 have HR0 := Aside0.mk hr0
 have HC0 := Aside0.mk hc0
 clear hr0 hc0
 have HB := Aside0.mk (Below.refl w.heap.size w)
 have HEnv := Aside0.mk hE
 clear hE
 have HT := Aside0.mk hT
 clear hT
 have H : ((nunciolaw12_awake.f k).bind fun t484 => (if t484 = true then ((nunciolaw12_Few.f k l0).bind fun t485 => (if t485 = true then (nunciolaw12_UnpackHolds.j0 k l0 (decide ((l0.length : Int) > 40))) else (nunciolaw12_UnpackHolds.j0 k l0 true))) else (some false))) = some r := h
 clear h
 replace H := Option.bind_eq_some_iff.mp H
 obtain ⟨t484, A20, H⟩ := H
 replace H : (if t484 = true then ((nunciolaw12_Few.f k l0).bind fun t485 => (if t485 = true then (nunciolaw12_UnpackHolds.j0 k l0 (decide ((l0.length : Int) > 40))) else (nunciolaw12_UnpackHolds.j0 k l0 true))) else (some false)) = some r := H
 have A2 := Aside0.mk A20
 clear A20
 by_cases c3 : t484 = true
 ·
  subst c3
  have H1 : ((nunciolaw12_Few.f k l0).bind fun t485 => (if t485 = true then (nunciolaw12_UnpackHolds.j0 k l0 (decide ((l0.length : Int) > 40))) else (nunciolaw12_UnpackHolds.j0 k l0 true))) = some r := by rw [if_pos rfl] at H; exact H
  clear H
  have H := H1
  clear H1
  have HC4 := Aside0.mk H
  clear H
  go_enter Tryd.func6, Tryd.ntmps6
  go_upto_region 3 with (first | ((with_reducible refine gate_callee (f := 21) rfl ?_); refine goesL_ (some 10) rfl rfl Tryd.func21 (by kernel_rfl) rfl #[] rfl (by (try simp only [List.map_toArray, List.map_cons, List.map_nil]); first | done | rfl | (simp only [List.length_drop, List.length_take]; rfl)) ?_; (with_reducible refine (nunciolaw12_awake.calls k  true _ ?side1 A2.out).mono ?_); (case side1 => exact EnvW.below HEnv.out rfl (by repeat (first | (with_reducible first | exact HB.out | apply below_alloc | apply pw_below_drewN | apply below_drew1) | exact HB.out))); rintro e w5 ⟨rfl, hb⟩; refine ⟨_, rfl, ?_⟩; have n0_ := Aside0.mk (below_step (by repeat (first | (with_reducible first | exact HB.out | apply below_alloc | apply pw_below_drewN | apply below_drew1) | exact HB.out)) hb); clear HB; have HB := n0_; clear n0_; (try clear hb); (try clear hb2); (try clear hk); (try clear hi)))
  (try simp only [Act.put, List.setIfInBounds_toArray, List.set_cons_zero, List.set_cons_succ])
  go_cut [19] (fun v19 wc => ∃ (kq : Nat) (x19_3 : Bool), v19 = .bool x19_3 ∧ Aside0 (nunciolaw12_UnpackHolds.j0 kq l0 x19_3 = some r) ∧ Aside0 (kq ≤ k) ∧ Aside0 (Below w.heap.size w wc))
  case first =>
   have H := HC4.out
   clear HC4
   replace H := Option.bind_eq_some_iff.mp H
   obtain ⟨t485, A60, H⟩ := H
   replace H : (if t485 = true then (nunciolaw12_UnpackHolds.j0 k l0 (decide ((l0.length : Int) > 40))) else (nunciolaw12_UnpackHolds.j0 k l0 true)) = some r := H
   have A6 := Aside0.mk A60
   clear A60
   by_cases c7 : t485 = true
   ·
    subst c7
    have H1 : (nunciolaw12_UnpackHolds.j0 k l0 (decide ((l0.length : Int) > 40))) = some r := by rw [if_pos rfl] at H; exact H
    clear H
    have H := H1
    clear H1
    have H' := Aside0.mk H
    clear H
    go_wp2_with (first | ((with_reducible refine gate_callee (f := 22) rfl ?_); refine goesL_ (some 13) rfl rfl Tryd.func22 (by kernel_rfl) rfl #[.slice A0 l0.length c0] rfl (by (try simp only [List.map_toArray, List.map_cons, List.map_nil]); first | done | rfl | (simp only [List.length_drop, List.length_take]; rfl)) ?_; (with_reducible refine (nunciolaw12_Few.calls k _ _ l0 true _ ?side1 ?side2 A6.out).mono ?_); (case side1 => repeat (first | exact (Kd.C_below HR0.out HB.out) | (with_reducible refine Kd.C_alloc ?_ _) | (with_reducible refine Kd.C_drewN ?_ _) | (with_reducible refine Kd.C_drew ?_))); (case side2 => exact HC0.out); rintro e w8 ⟨rfl, hb⟩; refine ⟨_, rfl, ?_⟩; have n0_ := Aside0.mk (below_step (by repeat (first | (with_reducible first | exact HB.out | apply below_alloc | apply pw_below_drewN | apply below_drew1) | exact HB.out)) hb); clear HB; have HB := n0_; clear n0_; (try clear hb); (try clear hb2); (try clear hk); (try clear hi)))
    go_meet
    case rel => exact ⟨_, (decide ((l0.length : Int) > 40)), (by first | rfl | (simp; done) | (simp [*]; done)), H', ⟨by first | omega | exact Nat.le_refl _⟩, ⟨by repeat (first | (with_reducible first | exact HB.out | apply below_alloc | apply pw_below_drewN | apply below_drew1) | exact HB.out)⟩⟩
   ·
    replace c7 := Bool.eq_false_iff.mpr c7
    subst c7
    have H1 : (nunciolaw12_UnpackHolds.j0 k l0 true) = some r := by rw [if_neg (show ¬ (false = true) by decide)] at H; exact H
    clear H
    have H := H1
    clear H1
    have H' := Aside0.mk H
    clear H
    go_wp2_with (first | ((with_reducible refine gate_callee (f := 22) rfl ?_); refine goesL_ (some 13) rfl rfl Tryd.func22 (by kernel_rfl) rfl #[.slice A0 l0.length c0] rfl (by (try simp only [List.map_toArray, List.map_cons, List.map_nil]); first | done | rfl | (simp only [List.length_drop, List.length_take]; rfl)) ?_; (with_reducible refine (nunciolaw12_Few.calls k _ _ l0 false _ ?side1 ?side2 A6.out).mono ?_); (case side1 => repeat (first | exact (Kd.C_below HR0.out HB.out) | (with_reducible refine Kd.C_alloc ?_ _) | (with_reducible refine Kd.C_drewN ?_ _) | (with_reducible refine Kd.C_drew ?_))); (case side2 => exact HC0.out); rintro e w9 ⟨rfl, hb⟩; refine ⟨_, rfl, ?_⟩; have n0_ := Aside0.mk (below_step (by repeat (first | (with_reducible first | exact HB.out | apply below_alloc | apply pw_below_drewN | apply below_drew1) | exact HB.out)) hb); clear HB; have HB := n0_; clear n0_; (try clear hb); (try clear hb2); (try clear hk); (try clear hi)))
    go_meet
    case rel => exact ⟨_, (true), (by first | rfl | (simp; done) | (simp [*]; done)), H', ⟨by first | omega | exact Nat.le_refl _⟩, ⟨by repeat (first | (with_reducible first | exact HB.out | apply below_alloc | apply pw_below_drewN | apply below_drew1) | exact HB.out)⟩⟩
  case rest =>
   clear HC4
   try clear c2
   try clear p2
   try clear c3
   try clear c6
   try clear c7
   obtain ⟨kq, x19_3, rfl, HA, HJ3, HB⟩ := hcut
   cases kq with
   | zero => exact absurd HA.out (by simp [nunciolaw12_UnpackHolds.j0])
   | succ kj3 =>
    have H := HA.out
    clear HA
    simp only [nunciolaw12_UnpackHolds.j0] at H
    by_cases c10 : x19_3 = true
    ·
     subst c10
     have H1 : (some true) = some r := by rw [if_pos rfl] at H; exact H
     clear H
     have H := H1
     clear H1
     obtain rfl := Option.some.inj H
     go_wp2
     go_ret
     exact ⟨by first | rfl | (simp [errW_none, errW_some] <;> rfl) | (simp [*, errW_none, errW_some] <;> rfl), by repeat (first | (with_reducible first | exact HB.out | apply below_alloc | apply pw_below_drewN | apply below_drew1) | exact HB.out)⟩
    ·
     replace c10 := Bool.eq_false_iff.mpr c10
     subst c10
     have H1 : ((unpack_New.f).bind fun t486 => (nunciolaw12_UnpackHolds.l0 kj3 l0 0 t486)) = some r := by rw [if_neg (show ¬ (false = true) by decide)] at H; exact H
     clear H
     have H := H1
     clear H1
     replace H := Option.bind_eq_some_iff.mp H
     obtain ⟨t486, A110, H⟩ := H
     replace H : (nunciolaw12_UnpackHolds.l0 kj3 l0 0 t486) = some r := H
     have A11 := Aside0.mk A110
     clear A110
     have H' := Aside0.mk H
     clear H
     go_wp2_with (first | ((with_reducible refine gate_callee (f := 23) rfl ?_); refine goesL_ (some 20) rfl rfl Tryd.func23 (by kernel_rfl) rfl #[] rfl (by (try simp only [List.map_toArray, List.map_cons, List.map_nil]); first | done | rfl | (simp only [List.length_drop, List.length_take]; rfl)) ?_; (with_reducible refine (unpack_New.calls  t486 _ _ (Below.refl _ _) ?side1 A11.out).mono ?_); (case side1 => exact EnvW.below HEnv.out rfl (by repeat (first | (with_reducible first | exact HB.out | apply below_alloc | apply pw_below_drewN | apply below_drew1) | exact HB.out))); rintro e w12 ⟨g487, rfl, hi, hb, hb2⟩; refine ⟨_, rfl, ?_⟩; have n0_ := Aside0.mk (below_step (by repeat (first | (with_reducible first | exact HB.out | apply below_alloc | apply pw_below_drewN | apply below_drew1) | exact HB.out)) hb2); have n1_ := Aside0.mk ((show IsS90 w w12 g487 t486 from IsS90.rebase hi (below_size (by repeat (first | (with_reducible first | exact HB.out | apply below_alloc | apply pw_below_drewN | apply below_drew1) | exact HB.out))))); clear HB; have HB := n0_; have HI487 := n1_; clear n0_ n1_; (try clear hb); (try clear hb2); (try clear hk); (try clear hi)))
     go_loopg [4] kj3 (fun kq v4 w' => ∃ (x4_2 : Int) (x488000_2 : TD), v4 = .int .i64 x4_2 ∧ Aside0 (nunciolaw12_UnpackHolds.l0 kq l0 x4_2 x488000_2 = some r) ∧ Aside0 (kq ≤ kj3) ∧ Aside0 (IsS90 w w' g487 x488000_2) ∧ Aside0 (Below w.heap.size w w'))
     case atStart => exact ⟨(0), (t486), (by first | rfl | (simp; done) | (simp [*]; done)), H', ⟨Nat.le_refl _⟩, ⟨by repeat (first | (with_reducible first | exact HI487.out | apply IsS90.alloc | apply IsS90.drewN | apply IsS90.drew) | exact HI487.out)⟩, ⟨by repeat (first | (with_reducible first | exact HB.out | apply below_alloc | apply pw_below_drewN | apply below_drew1 | refine below_set ?_ (IsS90.ge HI487.out)) | exact HB.out)⟩⟩
     case round =>
      clear H'
      try clear c1
      try clear c2
      try clear p2
      try clear c3
      try clear c6
      try clear c7
      try clear c10
      try clear p2
      obtain ⟨x4_2, x488000_2, rfl, HA, HK2, HI487, HB⟩ := hrel
      cases gk with
      | zero => exact absurd HA.out (by simp [nunciolaw12_UnpackHolds.l0])
      | succ k2 =>
       have H := HA.out
       clear HA
       simp only [nunciolaw12_UnpackHolds.l0] at H
       by_cases c13 : x4_2 < (l0.length : Int)
       ·
        rw [if_pos c13] at H
        have c13b0 : decide (x4_2 < (l0.length : Int)) = true := decide_eq_true c13
        clear c13
        replace H := Option.bind_eq_some_iff.mp H
        obtain ⟨⟨t488, t489⟩, A140, H⟩ := H
        replace H : ((unpack_Decoder_Table.f t489).bind fun t490 => (if 0 ≤ x4_2 then ((unpack_Decoder_Read.f k2 t489 (rdOf ByteArray.empty l0 x4_2)).bind fun bt493 => ((unpack_Decoder_Table.f bt493.2.2).bind fun t498 => ((table_Table_Size.f t498).bind fun t500 => ((table_Table_Most.f t498).bind fun t501 => (if t500 > t501 then (nunciolaw12_UnpackHolds.j2 k2 l0 x4_2 t488 bt493.1 bt493.2.1 true bt493.2.2 t490 t498) else ((table_Table_Most.f t498).bind fun t502 => (if t502 > 4096 then (nunciolaw12_UnpackHolds.j2 k2 l0 x4_2 t488 bt493.1 bt493.2.1 true bt493.2.2 t490 t498) else (nunciolaw12_UnpackHolds.j2 k2 l0 x4_2 t488 bt493.1 bt493.2.1 (decide ((bt493.1.length : Int) > 64)) bt493.2.2 t490 t498)))))))) else (none))) = some r := H
        have A14 := Aside0.mk A140
        clear A140
        replace H := Option.bind_eq_some_iff.mp H
        obtain ⟨t490, A150, H⟩ := H
        replace H : (if 0 ≤ x4_2 then ((unpack_Decoder_Read.f k2 t489 (rdOf ByteArray.empty l0 x4_2)).bind fun bt493 => ((unpack_Decoder_Table.f bt493.2.2).bind fun t498 => ((table_Table_Size.f t498).bind fun t500 => ((table_Table_Most.f t498).bind fun t501 => (if t500 > t501 then (nunciolaw12_UnpackHolds.j2 k2 l0 x4_2 t488 bt493.1 bt493.2.1 true bt493.2.2 t490 t498) else ((table_Table_Most.f t498).bind fun t502 => (if t502 > 4096 then (nunciolaw12_UnpackHolds.j2 k2 l0 x4_2 t488 bt493.1 bt493.2.1 true bt493.2.2 t490 t498) else (nunciolaw12_UnpackHolds.j2 k2 l0 x4_2 t488 bt493.1 bt493.2.1 (decide ((bt493.1.length : Int) > 64)) bt493.2.2 t490 t498)))))))) else (none)) = some r := H
        have A15 := Aside0.mk A150
        clear A150
        by_cases c16 : 0 ≤ x4_2
        ·
         rw [if_pos c16] at H
         have c16b0 : decide (0 ≤ x4_2) = true := decide_eq_true c16
         clear c16
         replace H := Option.bind_eq_some_iff.mp H
         obtain ⟨⟨t493, t496, t497⟩, A170, H⟩ := H
         replace H : ((unpack_Decoder_Table.f t497).bind fun t498 => ((table_Table_Size.f t498).bind fun t500 => ((table_Table_Most.f t498).bind fun t501 => (if t500 > t501 then (nunciolaw12_UnpackHolds.j2 k2 l0 x4_2 t488 t493 t496 true t497 t490 t498) else ((table_Table_Most.f t498).bind fun t502 => (if t502 > 4096 then (nunciolaw12_UnpackHolds.j2 k2 l0 x4_2 t488 t493 t496 true t497 t490 t498) else (nunciolaw12_UnpackHolds.j2 k2 l0 x4_2 t488 t493 t496 (decide ((t493.length : Int) > 64)) t497 t490 t498))))))) = some r := H
         have A17 := Aside0.mk A170
         clear A170
         replace H := Option.bind_eq_some_iff.mp H
         obtain ⟨t498, A180, H⟩ := H
         replace H : ((table_Table_Size.f t498).bind fun t500 => ((table_Table_Most.f t498).bind fun t501 => (if t500 > t501 then (nunciolaw12_UnpackHolds.j2 k2 l0 x4_2 t488 t493 t496 true t497 t490 t498) else ((table_Table_Most.f t498).bind fun t502 => (if t502 > 4096 then (nunciolaw12_UnpackHolds.j2 k2 l0 x4_2 t488 t493 t496 true t497 t490 t498) else (nunciolaw12_UnpackHolds.j2 k2 l0 x4_2 t488 t493 t496 (decide ((t493.length : Int) > 64)) t497 t490 t498)))))) = some r := H
         have A18 := Aside0.mk A180
         clear A180
         have HC19 := Aside0.mk H
         clear H
         go_upto_region 13 with (first | ((with_reducible refine gate_callee (f := 28) rfl ?_); refine goesL_ (some 28) rfl rfl Tryd.func28 (by kernel_rfl) rfl #[.pointer (some ⟨g487, 0, none⟩)] rfl (by (try simp only [List.map_toArray, List.map_cons, List.map_nil]); first | done | rfl | (simp only [List.length_drop, List.length_take]; rfl)) ?_; (with_reducible refine (unpack_Decoder_Down.calls g487 x488000_2 t488 t489 w _ ?side1 ?side2 A14.out).mono ?_); (case side1 => repeat (first | (with_reducible first | exact HI487.out | apply IsS90.alloc | apply IsS90.drewN | apply IsS90.drew) | exact HI487.out)); (case side2 => repeat (first | (with_reducible first | exact HB.out | apply below_alloc | apply pw_below_drewN | apply below_drew1 | refine below_set ?_ (IsS90.ge HI487.out)) | exact HB.out)); rintro e w20 ⟨rfl, hi, hb, hk⟩; refine ⟨_, rfl, ?_⟩; have n0_ := Aside0.mk (hb); have n1_ := Aside0.mk (hi); clear HB; clear HI487; have HB := n0_; have HI487 := n1_; clear n0_ n1_; (try clear hb); (try clear hb2); (try clear hk); (try clear hi)) | ((with_reducible refine gate_callee (f := 29) rfl ?_); refine goesL_ (some 30) rfl rfl Tryd.func29 (by kernel_rfl) rfl #[.pointer (some ⟨g487, 0, none⟩)] rfl (by (try simp only [List.map_toArray, List.map_cons, List.map_nil]); first | done | rfl | (simp only [List.length_drop, List.length_take]; rfl)) ?_; (with_reducible refine (unpack_Decoder_Table.calls (w1 := w) g487 t489 t490 _ _ ?side1 (Below.refl _ _) A15.out).mono ?_); (case side1 => repeat (first | (with_reducible first | exact HI487.out | apply IsS90.alloc | apply IsS90.drewN | apply IsS90.drew) | exact HI487.out)); rintro e w21 ⟨g491, rfl, hi, hb, hb2⟩; refine ⟨_, rfl, ?_⟩; have n0_ := Aside0.mk (IsS90.below (by repeat (first | (with_reducible first | exact HI487.out | apply IsS90.alloc | apply IsS90.drewN | apply IsS90.drew) | exact HI487.out)) hb2); have n1_ := Aside0.mk (below_step (by repeat (first | (with_reducible first | exact HB.out | apply below_alloc | apply pw_below_drewN | apply below_drew1 | refine below_set ?_ (IsS90.ge HI487.out)) | exact HB.out)) hb2); have n2_ := Aside0.mk ((show IsS77 w w21 g491 t490 from IsS77.rebase hi (below_size (by repeat (first | (with_reducible first | exact HB.out | apply below_alloc | apply pw_below_drewN | apply below_drew1 | refine below_set ?_ (IsS90.ge HI487.out)) | exact HB.out))))); have n3_ := Aside0.mk ((Nat.ne_of_gt (Nat.lt_of_le_of_lt (Nat.sub_le _ _) (Nat.lt_of_lt_of_le (IsS90.lt (show IsS90 w _ g487 t489 from by repeat (first | (with_reducible first | exact HI487.out | apply IsS90.alloc | apply IsS90.drewN | apply IsS90.drew) | exact HI487.out))) (IsS77.ge hi))) : g491 ≠ g487 - 1)); have n4_ := Aside0.mk ((Nat.ne_of_lt (Nat.lt_of_lt_of_le (IsS90.lt (show IsS90 w _ g487 t489 from by repeat (first | (with_reducible first | exact HI487.out | apply IsS90.alloc | apply IsS90.drewN | apply IsS90.drew) | exact HI487.out))) (IsS77.ge hi)) : g487 ≠ g491)); have n5_ := Aside0.mk ((Nat.ne_of_gt (Nat.lt_of_lt_of_le (IsS90.lt (show IsS90 w _ g487 t489 from by repeat (first | (with_reducible first | exact HI487.out | apply IsS90.alloc | apply IsS90.drewN | apply IsS90.drew) | exact HI487.out))) (IsS77.ge hi)) : g491 ≠ g487)); clear HI487; clear HB; have HI487 := n0_; have HB := n1_; have HI491 := n2_; have NC491_487 := n3_; have NB487_491 := n4_; have NB491_487 := n5_; clear n0_ n1_ n2_ n3_ n4_ n5_; (try clear hb); (try clear hb2); (try clear hk); (try clear hi); have p492 : 0 ≤ (x4_2 : Int) := of_decide_eq_true (by first | (with_reducible assumption) | assumption); have q492 : x4_2 < (l0.length : Int) := of_decide_eq_true (by first | (with_reducible assumption) | assumption); obtain ⟨ad492, e492, hx492_0⟩ := Kd.at_string HR0.out x4_2 p492 q492; cases e492; replace hx492_0 := (HB.out.cell (World.block_lt_of_cell? w _ hx492_0)).trans hx492_0; replace p492 := eq_true p492; replace q492 := eq_true q492) | ((with_reducible refine gate_callee (f := 25) rfl ?_); refine goesL_ (some 37) rfl rfl Tryd.func25 (by kernel_rfl) rfl #[.pointer (some ⟨g487, 0, none⟩), .string (rdOf ByteArray.empty l0 x4_2)] rfl (by (try simp only [List.map_toArray, List.map_cons, List.map_nil]); first | done | rfl | (simp only [List.length_drop, List.length_take]; rfl)) ?_; (with_reducible refine (unpack_Decoder_Read.calls k2 g487 t489 (rdOf ByteArray.empty l0 x4_2) t493 t496 t497 w _ ?side1 ?side2 A17.out).mono ?_); (case side1 => repeat (first | (with_reducible first | exact HI487.out | apply IsS90.alloc | apply IsS90.drewN | apply IsS90.drew) | exact HI487.out)); (case side2 => repeat (first | (with_reducible first | exact HB.out | apply below_alloc | apply pw_below_drewN | apply below_drew1 | refine below_set ?_ (IsS90.ge HI487.out) | refine below_set ?_ (IsS77.ge HI491.out)) | exact HB.out)); rintro e w22 ⟨v494, rfl, ho0, hi, hb, hk⟩; refine ⟨_, rfl, ?_⟩; have n0_ := Aside0.mk (IsS90.tabOther (show IsS90 w _ g487 t489 from by repeat (first | (with_reducible first | exact HI487.out | apply IsS90.alloc | apply IsS90.drewN | apply IsS90.drew) | exact HI487.out)) (show IsS77 w _ g491 t490 from by repeat (first | (with_reducible first | exact HI491.out | apply IsS77.alloc | apply IsS77.drewN | apply IsS77.drew) | exact HI491.out)) hk NC491_487.out); have n1_ := Aside0.mk (Kd.R_lower ho0 (below_size (by repeat (first | (with_reducible first | exact HB.out | apply below_alloc | apply pw_below_drewN | apply below_drew1 | refine below_set ?_ (IsS90.ge HI487.out) | refine below_set ?_ (IsS77.ge HI491.out)) | exact HB.out)))); have n2_ := Aside0.mk (hb); have n3_ := Aside0.mk (hi); clear HI491; clear HB; clear HI487; have HI491 := n0_; have HO495 := n1_; have HB := n2_; have HI487 := n3_; clear n0_ n1_ n2_ n3_; (try clear hb); (try clear hb2); (try clear hk); (try clear hi); (try clear ho0)) | ((with_reducible refine gate_callee (f := 29) rfl ?_); refine goesL_ (some 41) rfl rfl Tryd.func29 (by kernel_rfl) rfl #[.pointer (some ⟨g487, 0, none⟩)] rfl (by (try simp only [List.map_toArray, List.map_cons, List.map_nil]); first | done | rfl | (simp only [List.length_drop, List.length_take]; rfl)) ?_; (with_reducible refine (unpack_Decoder_Table.calls (w1 := w) g487 t497 t498 _ _ ?side1 (Below.refl _ _) A18.out).mono ?_); (case side1 => repeat (first | (with_reducible first | exact HI487.out | apply IsS90.alloc | apply IsS90.drewN | apply IsS90.drew) | exact HI487.out)); rintro e w23 ⟨g499, rfl, hi, hb, hb2⟩; refine ⟨_, rfl, ?_⟩; have n0_ := Aside0.mk (Kd.R_below (by (with_reducible repeat (first | apply Kd.R_alloc | apply Kd.R_drewN | apply Kd.R_drew)); exact HO495.out) hb2); have n1_ := Aside0.mk (IsS90.below (by repeat (first | (with_reducible first | exact HI487.out | apply IsS90.alloc | apply IsS90.drewN | apply IsS90.drew) | exact HI487.out)) hb2); have n2_ := Aside0.mk (IsS77.below (by repeat (first | (with_reducible first | exact HI491.out | apply IsS77.alloc | apply IsS77.drewN | apply IsS77.drew) | exact HI491.out)) hb2); have n3_ := Aside0.mk (below_step (by repeat (first | (with_reducible first | exact HB.out | apply below_alloc | apply pw_below_drewN | apply below_drew1 | refine below_set ?_ (IsS90.ge HI487.out) | refine below_set ?_ (IsS77.ge HI491.out)) | exact HB.out)) hb2); have n4_ := Aside0.mk ((show IsS77 w w23 g499 t498 from IsS77.rebase hi (below_size (by repeat (first | (with_reducible first | exact HB.out | apply below_alloc | apply pw_below_drewN | apply below_drew1 | refine below_set ?_ (IsS90.ge HI487.out) | refine below_set ?_ (IsS77.ge HI491.out)) | exact HB.out))))); have n5_ := Aside0.mk ((Nat.ne_of_gt (Nat.lt_of_le_of_lt (Nat.sub_le _ _) (Nat.lt_of_lt_of_le (IsS90.lt (show IsS90 w _ g487 t497 from by repeat (first | (with_reducible first | exact HI487.out | apply IsS90.alloc | apply IsS90.drewN | apply IsS90.drew) | exact HI487.out))) (IsS77.ge hi))) : g499 ≠ g487 - 1)); have n6_ := Aside0.mk ((Nat.ne_of_lt (Nat.lt_of_lt_of_le (IsS90.lt (show IsS90 w _ g487 t497 from by repeat (first | (with_reducible first | exact HI487.out | apply IsS90.alloc | apply IsS90.drewN | apply IsS90.drew) | exact HI487.out))) (IsS77.ge hi)) : g487 ≠ g499)); have n7_ := Aside0.mk ((Nat.ne_of_gt (Nat.lt_of_lt_of_le (IsS90.lt (show IsS90 w _ g487 t497 from by repeat (first | (with_reducible first | exact HI487.out | apply IsS90.alloc | apply IsS90.drewN | apply IsS90.drew) | exact HI487.out))) (IsS77.ge hi)) : g499 ≠ g487)); have n8_ := Aside0.mk ((Nat.ne_of_lt (Nat.lt_of_lt_of_le (IsS77.lt (show IsS77 w _ g491 t490 from by repeat (first | (with_reducible first | exact HI491.out | apply IsS77.alloc | apply IsS77.drewN | apply IsS77.drew) | exact HI491.out))) (IsS77.ge hi)) : g491 ≠ g499)); have n9_ := Aside0.mk ((Nat.ne_of_gt (Nat.lt_of_lt_of_le (IsS77.lt (show IsS77 w _ g491 t490 from by repeat (first | (with_reducible first | exact HI491.out | apply IsS77.alloc | apply IsS77.drewN | apply IsS77.drew) | exact HI491.out))) (IsS77.ge hi)) : g499 ≠ g491)); clear HO495; clear HI487; clear HI491; clear HB; have HO495 := n0_; have HI487 := n1_; have HI491 := n2_; have HB := n3_; have HI499 := n4_; have NC499_487 := n5_; have NB487_499 := n6_; have NB499_487 := n7_; have NB491_499 := n8_; have NB499_491 := n9_; clear n0_ n1_ n2_ n3_ n4_ n5_ n6_ n7_ n8_ n9_; (try clear hb); (try clear hb2); (try clear hk); (try clear hi)))
         (try simp only [Act.put, List.setIfInBounds_toArray, List.set_cons_zero, List.set_cons_succ])
         go_cut [64] (fun v64 wc => ∃ (kq : Nat) (x64_18 : Bool) (x500000_18 : TB), v64 = .bool x64_18 ∧ Aside0 (nunciolaw12_UnpackHolds.j2 kq l0 x4_2 t488 t493 t496 x64_18 t497 t490 x500000_18 = some r) ∧ Aside0 (kq ≤ k2) ∧ Aside0 (Kd.R k26 26 wc w.heap.size (fun _ => True) v494 t493) ∧ Aside0 (IsS90 w wc g487 t497) ∧ Aside0 (IsS77 w wc g491 t490) ∧ Aside0 (IsS77 w wc g499 x500000_18) ∧ Aside0 (Below w.heap.size w wc))
         case first =>
          have H := HC19.out
          clear HC19
          replace H := Option.bind_eq_some_iff.mp H
          obtain ⟨t500, A240, H⟩ := H
          replace H : ((table_Table_Most.f t498).bind fun t501 => (if t500 > t501 then (nunciolaw12_UnpackHolds.j2 k2 l0 x4_2 t488 t493 t496 true t497 t490 t498) else ((table_Table_Most.f t498).bind fun t502 => (if t502 > 4096 then (nunciolaw12_UnpackHolds.j2 k2 l0 x4_2 t488 t493 t496 true t497 t490 t498) else (nunciolaw12_UnpackHolds.j2 k2 l0 x4_2 t488 t493 t496 (decide ((t493.length : Int) > 64)) t497 t490 t498))))) = some r := H
          have A24 := Aside0.mk A240
          clear A240
          replace H := Option.bind_eq_some_iff.mp H
          obtain ⟨t501, A250, H⟩ := H
          replace H : (if t500 > t501 then (nunciolaw12_UnpackHolds.j2 k2 l0 x4_2 t488 t493 t496 true t497 t490 t498) else ((table_Table_Most.f t498).bind fun t502 => (if t502 > 4096 then (nunciolaw12_UnpackHolds.j2 k2 l0 x4_2 t488 t493 t496 true t497 t490 t498) else (nunciolaw12_UnpackHolds.j2 k2 l0 x4_2 t488 t493 t496 (decide ((t493.length : Int) > 64)) t497 t490 t498)))) = some r := H
          have A25 := Aside0.mk A250
          clear A250
          by_cases c26 : t500 > t501
          ·
           rw [if_pos c26] at H
           have c26b0 : decide (t501 < t500) = true := decide_eq_true c26
           clear c26
           (first | rw [c26b0] | rw [c26b1] | (simp only [i64_w, i32_w]; rw [c26b0]) | skip)
           have H' := Aside0.mk H
           clear H
           go_wp2_with (first | (go_at_call 14; (with_reducible refine (table_Table_Size.calls (w1 := w) g499 t498 t500 _ ?side1 A24.out).mono ?_); (case side1 => repeat (first | (with_reducible first | exact HI499.out | apply IsS77.alloc | apply IsS77.drewN | apply IsS77.drew) | exact HI499.out)); rintro e w27 ⟨rfl, hb⟩; have n0_ := Aside0.mk (Kd.R_below (by (with_reducible repeat (first | apply Kd.R_alloc | apply Kd.R_drewN | apply Kd.R_drew)); exact HO495.out) hb); have n1_ := Aside0.mk (IsS90.below (by repeat (first | (with_reducible first | exact HI487.out | apply IsS90.alloc | apply IsS90.drewN | apply IsS90.drew) | exact HI487.out)) hb); have n2_ := Aside0.mk (IsS77.below (by repeat (first | (with_reducible first | exact HI491.out | apply IsS77.alloc | apply IsS77.drewN | apply IsS77.drew) | exact HI491.out)) hb); have n3_ := Aside0.mk (IsS77.below (by repeat (first | (with_reducible first | exact HI499.out | apply IsS77.alloc | apply IsS77.drewN | apply IsS77.drew) | exact HI499.out)) hb); have n4_ := Aside0.mk (below_step (by repeat (first | (with_reducible first | exact HB.out | apply below_alloc | apply pw_below_drewN | apply below_drew1 | refine below_set ?_ (IsS90.ge HI487.out) | refine below_set ?_ (IsS77.ge HI491.out) | refine below_set ?_ (IsS77.ge HI499.out)) | exact HB.out)) hb); clear HO495; clear HI487; clear HI491; clear HI499; clear HB; have HO495 := n0_; have HI487 := n1_; have HI491 := n2_; have HI499 := n3_; have HB := n4_; clear n0_ n1_ n2_ n3_ n4_; (try clear hb); (try clear hb2); (try clear hk); (try clear hi)) | (go_at_call 30; (with_reducible refine (table_Table_Most.calls (w1 := w) g499 t498 t501 _ ?side1 A25.out).mono ?_); (case side1 => repeat (first | (with_reducible first | exact HI499.out | apply IsS77.alloc | apply IsS77.drewN | apply IsS77.drew) | exact HI499.out)); rintro e w28 ⟨rfl, hb⟩; have n0_ := Aside0.mk (Kd.R_below (by (with_reducible repeat (first | apply Kd.R_alloc | apply Kd.R_drewN | apply Kd.R_drew)); exact HO495.out) hb); have n1_ := Aside0.mk (IsS90.below (by repeat (first | (with_reducible first | exact HI487.out | apply IsS90.alloc | apply IsS90.drewN | apply IsS90.drew) | exact HI487.out)) hb); have n2_ := Aside0.mk (IsS77.below (by repeat (first | (with_reducible first | exact HI491.out | apply IsS77.alloc | apply IsS77.drewN | apply IsS77.drew) | exact HI491.out)) hb); have n3_ := Aside0.mk (IsS77.below (by repeat (first | (with_reducible first | exact HI499.out | apply IsS77.alloc | apply IsS77.drewN | apply IsS77.drew) | exact HI499.out)) hb); have n4_ := Aside0.mk (below_step (by repeat (first | (with_reducible first | exact HB.out | apply below_alloc | apply pw_below_drewN | apply below_drew1 | refine below_set ?_ (IsS90.ge HI487.out) | refine below_set ?_ (IsS77.ge HI491.out) | refine below_set ?_ (IsS77.ge HI499.out)) | exact HB.out)) hb); clear HO495; clear HI487; clear HI491; clear HI499; clear HB; have HO495 := n0_; have HI487 := n1_; have HI491 := n2_; have HI499 := n3_; have HB := n4_; clear n0_ n1_ n2_ n3_ n4_; (try clear hb); (try clear hb2); (try clear hk); (try clear hi)))
           go_meet
           case rel => exact ⟨_, (true), (t498), (by first | rfl | (simp; done) | (simp [*]; done)), H', ⟨by have := HJ3.out; have := HK2.out; first | omega | exact Nat.le_refl _⟩, ⟨by (with_reducible repeat (first | apply Kd.R_alloc | apply Kd.R_drewN | apply Kd.R_drew)); exact HO495.out⟩, ⟨by repeat (first | (with_reducible first | exact HI487.out | apply IsS90.alloc | apply IsS90.drewN | apply IsS90.drew) | exact HI487.out)⟩, ⟨by repeat (first | (with_reducible first | exact HI491.out | apply IsS77.alloc | apply IsS77.drewN | apply IsS77.drew) | exact HI491.out)⟩, ⟨by repeat (first | (with_reducible first | exact HI499.out | apply IsS77.alloc | apply IsS77.drewN | apply IsS77.drew) | exact HI499.out)⟩, ⟨by repeat (first | (with_reducible first | exact HB.out | apply below_alloc | apply pw_below_drewN | apply below_drew1 | refine below_set ?_ (IsS90.ge HI487.out) | refine below_set ?_ (IsS77.ge HI491.out) | refine below_set ?_ (IsS77.ge HI499.out)) | exact HB.out)⟩⟩
          ·
           rw [if_neg c26] at H
           have c26b0 : decide (t501 < t500) = false := decide_eq_false c26
           clear c26
           (first | rw [c26b0] | rw [c26b1] | (simp only [i64_w, i32_w]; rw [c26b0]) | skip)
           replace H := Option.bind_eq_some_iff.mp H
           obtain ⟨t502, A290, H⟩ := H
           replace H : (if t502 > 4096 then (nunciolaw12_UnpackHolds.j2 k2 l0 x4_2 t488 t493 t496 true t497 t490 t498) else (nunciolaw12_UnpackHolds.j2 k2 l0 x4_2 t488 t493 t496 (decide ((t493.length : Int) > 64)) t497 t490 t498)) = some r := H
           have A29 := Aside0.mk A290
           clear A290
           (try (have EA29 := Aside0.mk (Option.some.inj (A25.out.symm.trans A29.out))))
           by_cases c30 : t502 > 4096
           ·
            rw [if_pos c30] at H
            have c30b0 : decide (4096 < t502) = true := decide_eq_true c30
            clear c30
            have H' := Aside0.mk H
            clear H
            have tk34 : True := trivial
            have tk35 : True := trivial
            go_wp2_with (first | (go_at_call 14; (with_reducible refine (table_Table_Size.calls (w1 := w) g499 t498 t500 _ ?side1 A24.out).mono ?_); (case side1 => repeat (first | (with_reducible first | exact HI499.out | apply IsS77.alloc | apply IsS77.drewN | apply IsS77.drew) | exact HI499.out)); rintro e w31 ⟨rfl, hb⟩; have n0_ := Aside0.mk (Kd.R_below (by (with_reducible repeat (first | apply Kd.R_alloc | apply Kd.R_drewN | apply Kd.R_drew)); exact HO495.out) hb); have n1_ := Aside0.mk (IsS90.below (by repeat (first | (with_reducible first | exact HI487.out | apply IsS90.alloc | apply IsS90.drewN | apply IsS90.drew) | exact HI487.out)) hb); have n2_ := Aside0.mk (IsS77.below (by repeat (first | (with_reducible first | exact HI491.out | apply IsS77.alloc | apply IsS77.drewN | apply IsS77.drew) | exact HI491.out)) hb); have n3_ := Aside0.mk (IsS77.below (by repeat (first | (with_reducible first | exact HI499.out | apply IsS77.alloc | apply IsS77.drewN | apply IsS77.drew) | exact HI499.out)) hb); have n4_ := Aside0.mk (below_step (by repeat (first | (with_reducible first | exact HB.out | apply below_alloc | apply pw_below_drewN | apply below_drew1 | refine below_set ?_ (IsS90.ge HI487.out) | refine below_set ?_ (IsS77.ge HI491.out) | refine below_set ?_ (IsS77.ge HI499.out)) | exact HB.out)) hb); clear HO495; clear HI487; clear HI491; clear HI499; clear HB; have HO495 := n0_; have HI487 := n1_; have HI491 := n2_; have HI499 := n3_; have HB := n4_; clear n0_ n1_ n2_ n3_ n4_; (try clear hb); (try clear hb2); (try clear hk); (try clear hi)) | (have _t : True := tk34; clear tk34 _t; go_at_call 30; (with_reducible refine (table_Table_Most.calls (w1 := w) g499 t498 t501 _ ?side1 A25.out).mono ?_); (case side1 => repeat (first | (with_reducible first | exact HI499.out | apply IsS77.alloc | apply IsS77.drewN | apply IsS77.drew) | exact HI499.out)); rintro e w32 ⟨rfl, hb⟩; have n0_ := Aside0.mk (Kd.R_below (by (with_reducible repeat (first | apply Kd.R_alloc | apply Kd.R_drewN | apply Kd.R_drew)); exact HO495.out) hb); have n1_ := Aside0.mk (IsS90.below (by repeat (first | (with_reducible first | exact HI487.out | apply IsS90.alloc | apply IsS90.drewN | apply IsS90.drew) | exact HI487.out)) hb); have n2_ := Aside0.mk (IsS77.below (by repeat (first | (with_reducible first | exact HI491.out | apply IsS77.alloc | apply IsS77.drewN | apply IsS77.drew) | exact HI491.out)) hb); have n3_ := Aside0.mk (IsS77.below (by repeat (first | (with_reducible first | exact HI499.out | apply IsS77.alloc | apply IsS77.drewN | apply IsS77.drew) | exact HI499.out)) hb); have n4_ := Aside0.mk (below_step (by repeat (first | (with_reducible first | exact HB.out | apply below_alloc | apply pw_below_drewN | apply below_drew1 | refine below_set ?_ (IsS90.ge HI487.out) | refine below_set ?_ (IsS77.ge HI491.out) | refine below_set ?_ (IsS77.ge HI499.out)) | exact HB.out)) hb); clear HO495; clear HI487; clear HI491; clear HI499; clear HB; have HO495 := n0_; have HI487 := n1_; have HI491 := n2_; have HI499 := n3_; have HB := n4_; clear n0_ n1_ n2_ n3_ n4_; (try clear hb); (try clear hb2); (try clear hk); (try clear hi)) | (have _t : True := tk35; clear tk35 _t; go_at_call 30; (with_reducible refine (table_Table_Most.calls (w1 := w) g499 t498 t502 _ ?side1 A29.out).mono ?_); (case side1 => repeat (first | (with_reducible first | exact HI499.out | apply IsS77.alloc | apply IsS77.drewN | apply IsS77.drew) | exact HI499.out)); rintro e w33 ⟨rfl, hb⟩; have n0_ := Aside0.mk (Kd.R_below (by (with_reducible repeat (first | apply Kd.R_alloc | apply Kd.R_drewN | apply Kd.R_drew)); exact HO495.out) hb); have n1_ := Aside0.mk (IsS90.below (by repeat (first | (with_reducible first | exact HI487.out | apply IsS90.alloc | apply IsS90.drewN | apply IsS90.drew) | exact HI487.out)) hb); have n2_ := Aside0.mk (IsS77.below (by repeat (first | (with_reducible first | exact HI491.out | apply IsS77.alloc | apply IsS77.drewN | apply IsS77.drew) | exact HI491.out)) hb); have n3_ := Aside0.mk (IsS77.below (by repeat (first | (with_reducible first | exact HI499.out | apply IsS77.alloc | apply IsS77.drewN | apply IsS77.drew) | exact HI499.out)) hb); have n4_ := Aside0.mk (below_step (by repeat (first | (with_reducible first | exact HB.out | apply below_alloc | apply pw_below_drewN | apply below_drew1 | refine below_set ?_ (IsS90.ge HI487.out) | refine below_set ?_ (IsS77.ge HI491.out) | refine below_set ?_ (IsS77.ge HI499.out)) | exact HB.out)) hb); clear HO495; clear HI487; clear HI491; clear HI499; clear HB; have HO495 := n0_; have HI487 := n1_; have HI491 := n2_; have HI499 := n3_; have HB := n4_; clear n0_ n1_ n2_ n3_ n4_; (try clear hb); (try clear hb2); (try clear hk); (try clear hi)))
            go_meet
            case rel => exact ⟨_, (true), (t498), (by first | rfl | (simp; done) | (simp [*]; done) | (have e_ := EA29.out; subst e_; rfl)), H', ⟨by have := HJ3.out; have := HK2.out; first | omega | exact Nat.le_refl _⟩, ⟨by (with_reducible repeat (first | apply Kd.R_alloc | apply Kd.R_drewN | apply Kd.R_drew)); exact HO495.out⟩, ⟨by repeat (first | (with_reducible first | exact HI487.out | apply IsS90.alloc | apply IsS90.drewN | apply IsS90.drew) | exact HI487.out)⟩, ⟨by repeat (first | (with_reducible first | exact HI491.out | apply IsS77.alloc | apply IsS77.drewN | apply IsS77.drew) | exact HI491.out)⟩, ⟨by repeat (first | (with_reducible first | exact HI499.out | apply IsS77.alloc | apply IsS77.drewN | apply IsS77.drew) | exact HI499.out)⟩, ⟨by repeat (first | (with_reducible first | exact HB.out | apply below_alloc | apply pw_below_drewN | apply below_drew1 | refine below_set ?_ (IsS90.ge HI487.out) | refine below_set ?_ (IsS77.ge HI491.out) | refine below_set ?_ (IsS77.ge HI499.out)) | exact HB.out)⟩⟩
           ·
            rw [if_neg c30] at H
            have c30b0 : decide (4096 < t502) = false := decide_eq_false c30
            clear c30
            have H' := Aside0.mk H
            clear H
            have tk40 : True := trivial
            have tk41 : True := trivial
            go_wp2_with (first | (go_at_call 14; (with_reducible refine (table_Table_Size.calls (w1 := w) g499 t498 t500 _ ?side1 A24.out).mono ?_); (case side1 => repeat (first | (with_reducible first | exact HI499.out | apply IsS77.alloc | apply IsS77.drewN | apply IsS77.drew) | exact HI499.out)); rintro e w36 ⟨rfl, hb⟩; have n0_ := Aside0.mk (Kd.R_below (by (with_reducible repeat (first | apply Kd.R_alloc | apply Kd.R_drewN | apply Kd.R_drew)); exact HO495.out) hb); have n1_ := Aside0.mk (IsS90.below (by repeat (first | (with_reducible first | exact HI487.out | apply IsS90.alloc | apply IsS90.drewN | apply IsS90.drew) | exact HI487.out)) hb); have n2_ := Aside0.mk (IsS77.below (by repeat (first | (with_reducible first | exact HI491.out | apply IsS77.alloc | apply IsS77.drewN | apply IsS77.drew) | exact HI491.out)) hb); have n3_ := Aside0.mk (IsS77.below (by repeat (first | (with_reducible first | exact HI499.out | apply IsS77.alloc | apply IsS77.drewN | apply IsS77.drew) | exact HI499.out)) hb); have n4_ := Aside0.mk (below_step (by repeat (first | (with_reducible first | exact HB.out | apply below_alloc | apply pw_below_drewN | apply below_drew1 | refine below_set ?_ (IsS90.ge HI487.out) | refine below_set ?_ (IsS77.ge HI491.out) | refine below_set ?_ (IsS77.ge HI499.out)) | exact HB.out)) hb); clear HO495; clear HI487; clear HI491; clear HI499; clear HB; have HO495 := n0_; have HI487 := n1_; have HI491 := n2_; have HI499 := n3_; have HB := n4_; clear n0_ n1_ n2_ n3_ n4_; (try clear hb); (try clear hb2); (try clear hk); (try clear hi)) | (have _t : True := tk40; clear tk40 _t; go_at_call 30; (with_reducible refine (table_Table_Most.calls (w1 := w) g499 t498 t501 _ ?side1 A25.out).mono ?_); (case side1 => repeat (first | (with_reducible first | exact HI499.out | apply IsS77.alloc | apply IsS77.drewN | apply IsS77.drew) | exact HI499.out)); rintro e w37 ⟨rfl, hb⟩; have n0_ := Aside0.mk (Kd.R_below (by (with_reducible repeat (first | apply Kd.R_alloc | apply Kd.R_drewN | apply Kd.R_drew)); exact HO495.out) hb); have n1_ := Aside0.mk (IsS90.below (by repeat (first | (with_reducible first | exact HI487.out | apply IsS90.alloc | apply IsS90.drewN | apply IsS90.drew) | exact HI487.out)) hb); have n2_ := Aside0.mk (IsS77.below (by repeat (first | (with_reducible first | exact HI491.out | apply IsS77.alloc | apply IsS77.drewN | apply IsS77.drew) | exact HI491.out)) hb); have n3_ := Aside0.mk (IsS77.below (by repeat (first | (with_reducible first | exact HI499.out | apply IsS77.alloc | apply IsS77.drewN | apply IsS77.drew) | exact HI499.out)) hb); have n4_ := Aside0.mk (below_step (by repeat (first | (with_reducible first | exact HB.out | apply below_alloc | apply pw_below_drewN | apply below_drew1 | refine below_set ?_ (IsS90.ge HI487.out) | refine below_set ?_ (IsS77.ge HI491.out) | refine below_set ?_ (IsS77.ge HI499.out)) | exact HB.out)) hb); clear HO495; clear HI487; clear HI491; clear HI499; clear HB; have HO495 := n0_; have HI487 := n1_; have HI491 := n2_; have HI499 := n3_; have HB := n4_; clear n0_ n1_ n2_ n3_ n4_; (try clear hb); (try clear hb2); (try clear hk); (try clear hi)) | (have _t : True := tk41; clear tk41 _t; go_at_call 30; (with_reducible refine (table_Table_Most.calls (w1 := w) g499 t498 t502 _ ?side1 A29.out).mono ?_); (case side1 => repeat (first | (with_reducible first | exact HI499.out | apply IsS77.alloc | apply IsS77.drewN | apply IsS77.drew) | exact HI499.out)); rintro e w38 ⟨rfl, hb⟩; have n0_ := Aside0.mk (Kd.R_below (by (with_reducible repeat (first | apply Kd.R_alloc | apply Kd.R_drewN | apply Kd.R_drew)); exact HO495.out) hb); have n1_ := Aside0.mk (IsS90.below (by repeat (first | (with_reducible first | exact HI487.out | apply IsS90.alloc | apply IsS90.drewN | apply IsS90.drew) | exact HI487.out)) hb); have n2_ := Aside0.mk (IsS77.below (by repeat (first | (with_reducible first | exact HI491.out | apply IsS77.alloc | apply IsS77.drewN | apply IsS77.drew) | exact HI491.out)) hb); have n3_ := Aside0.mk (IsS77.below (by repeat (first | (with_reducible first | exact HI499.out | apply IsS77.alloc | apply IsS77.drewN | apply IsS77.drew) | exact HI499.out)) hb); have n4_ := Aside0.mk (below_step (by repeat (first | (with_reducible first | exact HB.out | apply below_alloc | apply pw_below_drewN | apply below_drew1 | refine below_set ?_ (IsS90.ge HI487.out) | refine below_set ?_ (IsS77.ge HI491.out) | refine below_set ?_ (IsS77.ge HI499.out)) | exact HB.out)) hb); clear HO495; clear HI487; clear HI491; clear HI499; clear HB; have HO495 := n0_; have HI487 := n1_; have HI491 := n2_; have HI499 := n3_; have HB := n4_; clear n0_ n1_ n2_ n3_ n4_; (try clear hb); (try clear hb2); (try clear hk); (try clear hi); obtain ⟨Ao39, co39, eo39⟩ := Kd.R_slice HO495.out; subst eo39))
            go_meet
            case rel => exact ⟨_, (decide ((t493.length : Int) > 64)), (t498), (by first | rfl | (simp; done) | (simp [*]; done) | (have e_ := EA29.out; subst e_; rfl)), H', ⟨by have := HJ3.out; have := HK2.out; first | omega | exact Nat.le_refl _⟩, ⟨by (with_reducible repeat (first | apply Kd.R_alloc | apply Kd.R_drewN | apply Kd.R_drew)); exact HO495.out⟩, ⟨by repeat (first | (with_reducible first | exact HI487.out | apply IsS90.alloc | apply IsS90.drewN | apply IsS90.drew) | exact HI487.out)⟩, ⟨by repeat (first | (with_reducible first | exact HI491.out | apply IsS77.alloc | apply IsS77.drewN | apply IsS77.drew) | exact HI491.out)⟩, ⟨by repeat (first | (with_reducible first | exact HI499.out | apply IsS77.alloc | apply IsS77.drewN | apply IsS77.drew) | exact HI499.out)⟩, ⟨by repeat (first | (with_reducible first | exact HB.out | apply below_alloc | apply pw_below_drewN | apply below_drew1 | refine below_set ?_ (IsS90.ge HI487.out) | refine below_set ?_ (IsS77.ge HI491.out) | refine below_set ?_ (IsS77.ge HI499.out)) | exact HB.out)⟩⟩
         case rest =>
          clear HC19
          try clear c1
          try clear c2
          try clear p2
          try clear c3
          try clear p4
          try clear q4
          try clear hx4
          try clear c6
          try clear c7
          try clear c10
          try clear c13
          try clear c13b0
          try clear c16
          try clear c16b0
          try clear c21
          try clear c22
          try clear c23
          try clear c25
          try clear c26
          try clear c26b0
          try clear c26b1
          try clear c28
          try clear c29
          try clear c30
          try clear c30b0
          try clear hx492_0
          try clear p2
          try clear p492
          try clear q492
          obtain ⟨kq, x64_18, x500000_18, rfl, HA, HJ18, HO_7, HI487, HI491, HI499, HB⟩ := hcut
          cases kq with
          | zero => exact absurd HA.out (by simp [nunciolaw12_UnpackHolds.j2])
          | succ kj18 =>
           have H := HA.out
           clear HA
           simp only [nunciolaw12_UnpackHolds.j2] at H
           by_cases c42 : x64_18 = true
           ·
            subst c42
            have H1 : (some false) = some r := by rw [if_pos rfl] at H; exact H
            clear H
            have H := H1
            clear H1
            exact absurd ((Option.some.inj H).trans HT.out) (by decide)
           ·
            replace c42 := Bool.eq_false_iff.mpr c42
            subst c42
            have H1 : (if t488 = true then (if t496 = 8 then (if (t493.length : Int) = 0 then ((table_Table_Size.f x500000_18).bind fun t503 => ((table_Table_Size.f t490).bind fun t504 => (if t503 = t504 then ((table_Table_Len.f x500000_18).bind fun t505 => ((table_Table_Len.f t490).bind fun t506 => (nunciolaw12_UnpackHolds.j3 kj18 l0 x4_2 t488 t493 t496 (t505 != t506) t497))) else (nunciolaw12_UnpackHolds.j3 kj18 l0 x4_2 t488 t493 t496 true t497)))) else (nunciolaw12_UnpackHolds.j3 kj18 l0 x4_2 t488 t493 t496 true t497)) else (nunciolaw12_UnpackHolds.j3 kj18 l0 x4_2 t488 t493 t496 true t497)) else (nunciolaw12_UnpackHolds.j3 kj18 l0 x4_2 t488 t493 t496 false t497)) = some r := by rw [if_neg (show ¬ (false = true) by decide)] at H; exact H
            clear H
            have H := H1
            clear H1
            have HC43 := Aside0.mk H
            clear H
            go_upto_region 15 with (fail)
            go_cut [88] (fun v88 wc => ∃ (kq : Nat) (x88_42 : Bool), v88 = .bool x88_42 ∧ Aside0 (nunciolaw12_UnpackHolds.j3 kq l0 x4_2 t488 t493 t496 x88_42 t497 = some r) ∧ Aside0 (kq ≤ kj18) ∧ Aside0 (Kd.R k26 26 wc w.heap.size (fun _ => True) v494 t493) ∧ Aside0 (IsS90 w wc g487 t497) ∧ Aside0 (IsS77 w wc g491 t490) ∧ Aside0 (IsS77 w wc g499 x500000_18) ∧ Aside0 (Below w.heap.size w wc))
            case first =>
             have H := HC43.out
             clear HC43
             by_cases c44 : t488 = true
             ·
              subst c44
              have H1 : (if t496 = 8 then (if (t493.length : Int) = 0 then ((table_Table_Size.f x500000_18).bind fun t503 => ((table_Table_Size.f t490).bind fun t504 => (if t503 = t504 then ((table_Table_Len.f x500000_18).bind fun t505 => ((table_Table_Len.f t490).bind fun t506 => (nunciolaw12_UnpackHolds.j3 kj18 l0 x4_2 true t493 t496 (t505 != t506) t497))) else (nunciolaw12_UnpackHolds.j3 kj18 l0 x4_2 true t493 t496 true t497)))) else (nunciolaw12_UnpackHolds.j3 kj18 l0 x4_2 true t493 t496 true t497)) else (nunciolaw12_UnpackHolds.j3 kj18 l0 x4_2 true t493 t496 true t497)) = some r := by rw [if_pos rfl] at H; exact H
              clear H
              have H := H1
              clear H1
              by_cases c45 : t496 = 8
              ·
               rw [if_pos c45] at H
               have c45b0 : (t496 == 8) = true := beq_iff_eq.mpr c45
               have c45b1 : (t496 != 8) = false := bne_eq_false_iff_eq.mpr c45
               clear c45
               (first | rw [c45b0] | rw [c45b1] | (simp only [i64_w, i32_w]; rw [c45b0]) | skip)
               by_cases c46 : (t493.length : Int) = 0
               ·
                rw [if_pos c46] at H
                have c46b0 : ((t493.length : Int) == 0) = true := beq_iff_eq.mpr c46
                have c46b1 : ((t493.length : Int) != 0) = false := bne_eq_false_iff_eq.mpr c46
                clear c46
                replace H := Option.bind_eq_some_iff.mp H
                obtain ⟨t503, A470, H⟩ := H
                replace H : ((table_Table_Size.f t490).bind fun t504 => (if t503 = t504 then ((table_Table_Len.f x500000_18).bind fun t505 => ((table_Table_Len.f t490).bind fun t506 => (nunciolaw12_UnpackHolds.j3 kj18 l0 x4_2 true t493 t496 (t505 != t506) t497))) else (nunciolaw12_UnpackHolds.j3 kj18 l0 x4_2 true t493 t496 true t497))) = some r := H
                have A47 := Aside0.mk A470
                clear A470
                replace H := Option.bind_eq_some_iff.mp H
                obtain ⟨t504, A480, H⟩ := H
                replace H : (if t503 = t504 then ((table_Table_Len.f x500000_18).bind fun t505 => ((table_Table_Len.f t490).bind fun t506 => (nunciolaw12_UnpackHolds.j3 kj18 l0 x4_2 true t493 t496 (t505 != t506) t497))) else (nunciolaw12_UnpackHolds.j3 kj18 l0 x4_2 true t493 t496 true t497)) = some r := H
                have A48 := Aside0.mk A480
                clear A480
                by_cases c49 : t503 = t504
                ·
                 rw [if_pos c49] at H
                 have c49b0 : (t503 == t504) = true := beq_iff_eq.mpr c49
                 have c49b1 : (t503 != t504) = false := bne_eq_false_iff_eq.mpr c49
                 clear c49
                 replace H := Option.bind_eq_some_iff.mp H
                 obtain ⟨t505, A500, H⟩ := H
                 replace H : ((table_Table_Len.f t490).bind fun t506 => (nunciolaw12_UnpackHolds.j3 kj18 l0 x4_2 true t493 t496 (t505 != t506) t497)) = some r := H
                 have A50 := Aside0.mk A500
                 clear A500
                 replace H := Option.bind_eq_some_iff.mp H
                 obtain ⟨t506, A510, H⟩ := H
                 replace H : (nunciolaw12_UnpackHolds.j3 kj18 l0 x4_2 true t493 t496 (t505 != t506) t497) = some r := H
                 have A51 := Aside0.mk A510
                 clear A510
                 have H' := Aside0.mk H
                 clear H
                 obtain ⟨Ao52, co52, eo52⟩ := Kd.R_slice HO_7.out
                 subst eo52
                 have tk57 : True := trivial
                 have tk58 : True := trivial
                 have tk59 : True := trivial
                 have tk60 : True := trivial
                 go_wp2_with (first | (have _t : True := tk57; clear tk57 _t; go_at_call 14; (with_reducible refine (table_Table_Size.calls (w1 := w) g499 x500000_18 t503 _ ?side1 A47.out).mono ?_); (case side1 => repeat (first | (with_reducible first | exact HI499.out | apply IsS77.alloc | apply IsS77.drewN | apply IsS77.drew) | exact HI499.out)); rintro e w53 ⟨rfl, hb⟩; have n0_ := Aside0.mk (Kd.R_below (by (with_reducible repeat (first | apply Kd.R_alloc | apply Kd.R_drewN | apply Kd.R_drew)); exact HO_7.out) hb); have n1_ := Aside0.mk (IsS90.below (by repeat (first | (with_reducible first | exact HI487.out | apply IsS90.alloc | apply IsS90.drewN | apply IsS90.drew) | exact HI487.out)) hb); have n2_ := Aside0.mk (IsS77.below (by repeat (first | (with_reducible first | exact HI491.out | apply IsS77.alloc | apply IsS77.drewN | apply IsS77.drew) | exact HI491.out)) hb); have n3_ := Aside0.mk (IsS77.below (by repeat (first | (with_reducible first | exact HI499.out | apply IsS77.alloc | apply IsS77.drewN | apply IsS77.drew) | exact HI499.out)) hb); have n4_ := Aside0.mk (below_step (by repeat (first | (with_reducible first | exact HB.out | apply below_alloc | apply pw_below_drewN | apply below_drew1 | refine below_set ?_ (IsS90.ge HI487.out) | refine below_set ?_ (IsS77.ge HI491.out) | refine below_set ?_ (IsS77.ge HI499.out)) | exact HB.out)) hb); clear HO_7; clear HI487; clear HI491; clear HI499; clear HB; have HO_7 := n0_; have HI487 := n1_; have HI491 := n2_; have HI499 := n3_; have HB := n4_; clear n0_ n1_ n2_ n3_ n4_; (try clear hb); (try clear hb2); (try clear hk); (try clear hi)) | (have _t : True := tk58; clear tk58 _t; go_at_call 14; (with_reducible refine (table_Table_Size.calls (w1 := w) g491 t490 t504 _ ?side1 A48.out).mono ?_); (case side1 => repeat (first | (with_reducible first | exact HI491.out | apply IsS77.alloc | apply IsS77.drewN | apply IsS77.drew) | exact HI491.out)); rintro e w54 ⟨rfl, hb⟩; have n0_ := Aside0.mk (Kd.R_below (by (with_reducible repeat (first | apply Kd.R_alloc | apply Kd.R_drewN | apply Kd.R_drew)); exact HO_7.out) hb); have n1_ := Aside0.mk (IsS90.below (by repeat (first | (with_reducible first | exact HI487.out | apply IsS90.alloc | apply IsS90.drewN | apply IsS90.drew) | exact HI487.out)) hb); have n2_ := Aside0.mk (IsS77.below (by repeat (first | (with_reducible first | exact HI491.out | apply IsS77.alloc | apply IsS77.drewN | apply IsS77.drew) | exact HI491.out)) hb); have n3_ := Aside0.mk (IsS77.below (by repeat (first | (with_reducible first | exact HI499.out | apply IsS77.alloc | apply IsS77.drewN | apply IsS77.drew) | exact HI499.out)) hb); have n4_ := Aside0.mk (below_step (by repeat (first | (with_reducible first | exact HB.out | apply below_alloc | apply pw_below_drewN | apply below_drew1 | refine below_set ?_ (IsS90.ge HI487.out) | refine below_set ?_ (IsS77.ge HI491.out) | refine below_set ?_ (IsS77.ge HI499.out)) | exact HB.out)) hb); clear HO_7; clear HI487; clear HI491; clear HI499; clear HB; have HO_7 := n0_; have HI487 := n1_; have HI491 := n2_; have HI499 := n3_; have HB := n4_; clear n0_ n1_ n2_ n3_ n4_; (try clear hb); (try clear hb2); (try clear hk); (try clear hi)) | (have _t : True := tk59; clear tk59 _t; go_at_call 31; (with_reducible refine (table_Table_Len.calls (w1 := w) g499 x500000_18 t505 _ ?side1 A50.out).mono ?_); (case side1 => repeat (first | (with_reducible first | exact HI499.out | apply IsS77.alloc | apply IsS77.drewN | apply IsS77.drew) | exact HI499.out)); rintro e w55 ⟨rfl, hb⟩; have n0_ := Aside0.mk (Kd.R_below (by (with_reducible repeat (first | apply Kd.R_alloc | apply Kd.R_drewN | apply Kd.R_drew)); exact HO_7.out) hb); have n1_ := Aside0.mk (IsS90.below (by repeat (first | (with_reducible first | exact HI487.out | apply IsS90.alloc | apply IsS90.drewN | apply IsS90.drew) | exact HI487.out)) hb); have n2_ := Aside0.mk (IsS77.below (by repeat (first | (with_reducible first | exact HI491.out | apply IsS77.alloc | apply IsS77.drewN | apply IsS77.drew) | exact HI491.out)) hb); have n3_ := Aside0.mk (IsS77.below (by repeat (first | (with_reducible first | exact HI499.out | apply IsS77.alloc | apply IsS77.drewN | apply IsS77.drew) | exact HI499.out)) hb); have n4_ := Aside0.mk (below_step (by repeat (first | (with_reducible first | exact HB.out | apply below_alloc | apply pw_below_drewN | apply below_drew1 | refine below_set ?_ (IsS90.ge HI487.out) | refine below_set ?_ (IsS77.ge HI491.out) | refine below_set ?_ (IsS77.ge HI499.out)) | exact HB.out)) hb); clear HO_7; clear HI487; clear HI491; clear HI499; clear HB; have HO_7 := n0_; have HI487 := n1_; have HI491 := n2_; have HI499 := n3_; have HB := n4_; clear n0_ n1_ n2_ n3_ n4_; (try clear hb); (try clear hb2); (try clear hk); (try clear hi)) | (have _t : True := tk60; clear tk60 _t; go_at_call 31; (with_reducible refine (table_Table_Len.calls (w1 := w) g491 t490 t506 _ ?side1 A51.out).mono ?_); (case side1 => repeat (first | (with_reducible first | exact HI491.out | apply IsS77.alloc | apply IsS77.drewN | apply IsS77.drew) | exact HI491.out)); rintro e w56 ⟨rfl, hb⟩; have n0_ := Aside0.mk (Kd.R_below (by (with_reducible repeat (first | apply Kd.R_alloc | apply Kd.R_drewN | apply Kd.R_drew)); exact HO_7.out) hb); have n1_ := Aside0.mk (IsS90.below (by repeat (first | (with_reducible first | exact HI487.out | apply IsS90.alloc | apply IsS90.drewN | apply IsS90.drew) | exact HI487.out)) hb); have n2_ := Aside0.mk (IsS77.below (by repeat (first | (with_reducible first | exact HI491.out | apply IsS77.alloc | apply IsS77.drewN | apply IsS77.drew) | exact HI491.out)) hb); have n3_ := Aside0.mk (IsS77.below (by repeat (first | (with_reducible first | exact HI499.out | apply IsS77.alloc | apply IsS77.drewN | apply IsS77.drew) | exact HI499.out)) hb); have n4_ := Aside0.mk (below_step (by repeat (first | (with_reducible first | exact HB.out | apply below_alloc | apply pw_below_drewN | apply below_drew1 | refine below_set ?_ (IsS90.ge HI487.out) | refine below_set ?_ (IsS77.ge HI491.out) | refine below_set ?_ (IsS77.ge HI499.out)) | exact HB.out)) hb); clear HO_7; clear HI487; clear HI491; clear HI499; clear HB; have HO_7 := n0_; have HI487 := n1_; have HI491 := n2_; have HI499 := n3_; have HB := n4_; clear n0_ n1_ n2_ n3_ n4_; (try clear hb); (try clear hb2); (try clear hk); (try clear hi)))
                 go_meet
                 case rel => exact ⟨_, ((t505 != t506)), (by first | rfl | (simp; done) | (simp [*]; done)), H', ⟨by have := HJ3.out; have := HK2.out; have := HJ18.out; first | omega | exact Nat.le_refl _⟩, ⟨by (with_reducible repeat (first | apply Kd.R_alloc | apply Kd.R_drewN | apply Kd.R_drew)); exact HO_7.out⟩, ⟨by repeat (first | (with_reducible first | exact HI487.out | apply IsS90.alloc | apply IsS90.drewN | apply IsS90.drew) | exact HI487.out)⟩, ⟨by repeat (first | (with_reducible first | exact HI491.out | apply IsS77.alloc | apply IsS77.drewN | apply IsS77.drew) | exact HI491.out)⟩, ⟨by repeat (first | (with_reducible first | exact HI499.out | apply IsS77.alloc | apply IsS77.drewN | apply IsS77.drew) | exact HI499.out)⟩, ⟨by repeat (first | (with_reducible first | exact HB.out | apply below_alloc | apply pw_below_drewN | apply below_drew1 | refine below_set ?_ (IsS90.ge HI487.out) | refine below_set ?_ (IsS77.ge HI491.out) | refine below_set ?_ (IsS77.ge HI499.out)) | exact HB.out)⟩⟩
                ·
                 rw [if_neg c49] at H
                 have c49b0 : (t503 == t504) = false := beq_eq_false_iff_ne.mpr c49
                 have c49b1 : (t503 != t504) = true := bne_iff_ne.mpr c49
                 have H' := Aside0.mk H
                 clear H
                 obtain ⟨Ao61, co61, eo61⟩ := Kd.R_slice HO_7.out
                 subst eo61
                 have tk64 : True := trivial
                 have tk65 : True := trivial
                 go_wp2_with (first | (have _t : True := tk64; clear tk64 _t; go_at_call 14; (with_reducible refine (table_Table_Size.calls (w1 := w) g499 x500000_18 t503 _ ?side1 A47.out).mono ?_); (case side1 => repeat (first | (with_reducible first | exact HI499.out | apply IsS77.alloc | apply IsS77.drewN | apply IsS77.drew) | exact HI499.out)); rintro e w62 ⟨rfl, hb⟩; have n0_ := Aside0.mk (Kd.R_below (by (with_reducible repeat (first | apply Kd.R_alloc | apply Kd.R_drewN | apply Kd.R_drew)); exact HO_7.out) hb); have n1_ := Aside0.mk (IsS90.below (by repeat (first | (with_reducible first | exact HI487.out | apply IsS90.alloc | apply IsS90.drewN | apply IsS90.drew) | exact HI487.out)) hb); have n2_ := Aside0.mk (IsS77.below (by repeat (first | (with_reducible first | exact HI491.out | apply IsS77.alloc | apply IsS77.drewN | apply IsS77.drew) | exact HI491.out)) hb); have n3_ := Aside0.mk (IsS77.below (by repeat (first | (with_reducible first | exact HI499.out | apply IsS77.alloc | apply IsS77.drewN | apply IsS77.drew) | exact HI499.out)) hb); have n4_ := Aside0.mk (below_step (by repeat (first | (with_reducible first | exact HB.out | apply below_alloc | apply pw_below_drewN | apply below_drew1 | refine below_set ?_ (IsS90.ge HI487.out) | refine below_set ?_ (IsS77.ge HI491.out) | refine below_set ?_ (IsS77.ge HI499.out)) | exact HB.out)) hb); clear HO_7; clear HI487; clear HI491; clear HI499; clear HB; have HO_7 := n0_; have HI487 := n1_; have HI491 := n2_; have HI499 := n3_; have HB := n4_; clear n0_ n1_ n2_ n3_ n4_; (try clear hb); (try clear hb2); (try clear hk); (try clear hi)) | (have _t : True := tk65; clear tk65 _t; go_at_call 14; (with_reducible refine (table_Table_Size.calls (w1 := w) g491 t490 t504 _ ?side1 A48.out).mono ?_); (case side1 => repeat (first | (with_reducible first | exact HI491.out | apply IsS77.alloc | apply IsS77.drewN | apply IsS77.drew) | exact HI491.out)); rintro e w63 ⟨rfl, hb⟩; have n0_ := Aside0.mk (Kd.R_below (by (with_reducible repeat (first | apply Kd.R_alloc | apply Kd.R_drewN | apply Kd.R_drew)); exact HO_7.out) hb); have n1_ := Aside0.mk (IsS90.below (by repeat (first | (with_reducible first | exact HI487.out | apply IsS90.alloc | apply IsS90.drewN | apply IsS90.drew) | exact HI487.out)) hb); have n2_ := Aside0.mk (IsS77.below (by repeat (first | (with_reducible first | exact HI491.out | apply IsS77.alloc | apply IsS77.drewN | apply IsS77.drew) | exact HI491.out)) hb); have n3_ := Aside0.mk (IsS77.below (by repeat (first | (with_reducible first | exact HI499.out | apply IsS77.alloc | apply IsS77.drewN | apply IsS77.drew) | exact HI499.out)) hb); have n4_ := Aside0.mk (below_step (by repeat (first | (with_reducible first | exact HB.out | apply below_alloc | apply pw_below_drewN | apply below_drew1 | refine below_set ?_ (IsS90.ge HI487.out) | refine below_set ?_ (IsS77.ge HI491.out) | refine below_set ?_ (IsS77.ge HI499.out)) | exact HB.out)) hb); clear HO_7; clear HI487; clear HI491; clear HI499; clear HB; have HO_7 := n0_; have HI487 := n1_; have HI491 := n2_; have HI499 := n3_; have HB := n4_; clear n0_ n1_ n2_ n3_ n4_; (try clear hb); (try clear hb2); (try clear hk); (try clear hi)))
                 go_meet
                 case rel => exact ⟨_, (true), (by first | rfl | (simp; done) | (simp [*]; done)), H', ⟨by have := HJ3.out; have := HK2.out; have := HJ18.out; first | omega | exact Nat.le_refl _⟩, ⟨by (with_reducible repeat (first | apply Kd.R_alloc | apply Kd.R_drewN | apply Kd.R_drew)); exact HO_7.out⟩, ⟨by repeat (first | (with_reducible first | exact HI487.out | apply IsS90.alloc | apply IsS90.drewN | apply IsS90.drew) | exact HI487.out)⟩, ⟨by repeat (first | (with_reducible first | exact HI491.out | apply IsS77.alloc | apply IsS77.drewN | apply IsS77.drew) | exact HI491.out)⟩, ⟨by repeat (first | (with_reducible first | exact HI499.out | apply IsS77.alloc | apply IsS77.drewN | apply IsS77.drew) | exact HI499.out)⟩, ⟨by repeat (first | (with_reducible first | exact HB.out | apply below_alloc | apply pw_below_drewN | apply below_drew1 | refine below_set ?_ (IsS90.ge HI487.out) | refine below_set ?_ (IsS77.ge HI491.out) | refine below_set ?_ (IsS77.ge HI499.out)) | exact HB.out)⟩⟩
               ·
                rw [if_neg c46] at H
                have c46b0 : ((t493.length : Int) == 0) = false := beq_eq_false_iff_ne.mpr c46
                have c46b1 : ((t493.length : Int) != 0) = true := bne_iff_ne.mpr c46
                have c46b2 : ¬ (t493 = []) := fun h_ => c46 (by rw [h_]; rfl)
                have H' := Aside0.mk H
                clear H
                obtain ⟨Ao66, co66, eo66⟩ := Kd.R_slice HO_7.out
                subst eo66
                go_wp2
                go_meet
                case rel => exact ⟨_, (true), (by first | rfl | (simp; done) | (simp [*]; done)), H', ⟨by have := HJ3.out; have := HK2.out; have := HJ18.out; first | omega | exact Nat.le_refl _⟩, ⟨by (with_reducible repeat (first | apply Kd.R_alloc | apply Kd.R_drewN | apply Kd.R_drew)); exact HO_7.out⟩, ⟨by repeat (first | (with_reducible first | exact HI487.out | apply IsS90.alloc | apply IsS90.drewN | apply IsS90.drew) | exact HI487.out)⟩, ⟨by repeat (first | (with_reducible first | exact HI491.out | apply IsS77.alloc | apply IsS77.drewN | apply IsS77.drew) | exact HI491.out)⟩, ⟨by repeat (first | (with_reducible first | exact HI499.out | apply IsS77.alloc | apply IsS77.drewN | apply IsS77.drew) | exact HI499.out)⟩, ⟨by repeat (first | (with_reducible first | exact HB.out | apply below_alloc | apply pw_below_drewN | apply below_drew1 | refine below_set ?_ (IsS90.ge HI487.out) | refine below_set ?_ (IsS77.ge HI491.out) | refine below_set ?_ (IsS77.ge HI499.out)) | exact HB.out)⟩⟩
              ·
               rw [if_neg c45] at H
               have c45b0 : (t496 == 8) = false := beq_eq_false_iff_ne.mpr c45
               have c45b1 : (t496 != 8) = true := bne_iff_ne.mpr c45
               (first | rw [c45b0] | rw [c45b1] | (simp only [i64_w, i32_w]; rw [c45b0]) | skip)
               have H' := Aside0.mk H
               clear H
               go_wp2
               go_meet
               case rel => exact ⟨_, (true), (by first | rfl | (simp; done) | (simp [*]; done)), H', ⟨by have := HJ3.out; have := HK2.out; have := HJ18.out; first | omega | exact Nat.le_refl _⟩, ⟨by (with_reducible repeat (first | apply Kd.R_alloc | apply Kd.R_drewN | apply Kd.R_drew)); exact HO_7.out⟩, ⟨by repeat (first | (with_reducible first | exact HI487.out | apply IsS90.alloc | apply IsS90.drewN | apply IsS90.drew) | exact HI487.out)⟩, ⟨by repeat (first | (with_reducible first | exact HI491.out | apply IsS77.alloc | apply IsS77.drewN | apply IsS77.drew) | exact HI491.out)⟩, ⟨by repeat (first | (with_reducible first | exact HI499.out | apply IsS77.alloc | apply IsS77.drewN | apply IsS77.drew) | exact HI499.out)⟩, ⟨by repeat (first | (with_reducible first | exact HB.out | apply below_alloc | apply pw_below_drewN | apply below_drew1 | refine below_set ?_ (IsS90.ge HI487.out) | refine below_set ?_ (IsS77.ge HI491.out) | refine below_set ?_ (IsS77.ge HI499.out)) | exact HB.out)⟩⟩
             ·
              replace c44 := Bool.eq_false_iff.mpr c44
              subst c44
              have H1 : (nunciolaw12_UnpackHolds.j3 kj18 l0 x4_2 false t493 t496 false t497) = some r := by rw [if_neg (show ¬ (false = true) by decide)] at H; exact H
              clear H
              have H := H1
              clear H1
              have H' := Aside0.mk H
              clear H
              go_wp2
              go_meet
              case rel => exact ⟨_, (false), (by first | rfl | (simp; done) | (simp [*]; done)), H', ⟨by have := HJ3.out; have := HK2.out; have := HJ18.out; first | omega | exact Nat.le_refl _⟩, ⟨by (with_reducible repeat (first | apply Kd.R_alloc | apply Kd.R_drewN | apply Kd.R_drew)); exact HO_7.out⟩, ⟨by repeat (first | (with_reducible first | exact HI487.out | apply IsS90.alloc | apply IsS90.drewN | apply IsS90.drew) | exact HI487.out)⟩, ⟨by repeat (first | (with_reducible first | exact HI491.out | apply IsS77.alloc | apply IsS77.drewN | apply IsS77.drew) | exact HI491.out)⟩, ⟨by repeat (first | (with_reducible first | exact HI499.out | apply IsS77.alloc | apply IsS77.drewN | apply IsS77.drew) | exact HI499.out)⟩, ⟨by repeat (first | (with_reducible first | exact HB.out | apply below_alloc | apply pw_below_drewN | apply below_drew1 | refine below_set ?_ (IsS90.ge HI487.out) | refine below_set ?_ (IsS77.ge HI491.out) | refine below_set ?_ (IsS77.ge HI499.out)) | exact HB.out)⟩⟩
            case rest =>
             clear HC43
             try clear c1
             try clear c2
             try clear p2
             try clear c3
             try clear c4
             try clear p4
             try clear q4
             try clear hx4
             try clear c6
             try clear c7
             try clear c10
             try clear c13
             try clear c13b0
             try clear c16
             try clear c16b0
             try clear c21
             try clear c22
             try clear c23
             try clear c25
             try clear c26
             try clear c26b0
             try clear c26b1
             try clear c28
             try clear c29
             try clear c30
             try clear c30b0
             try clear c42
             try clear c44
             try clear c45
             try clear c45b0
             try clear c45b1
             try clear c46
             try clear c46b0
             try clear c46b1
             try clear c46b2
             try clear c49
             try clear c49b0
             try clear c49b1
             try clear p49
             try clear q49
             try clear hx49
             try clear hx492_0
             try clear p2
             try clear p4
             try clear p492
             try clear q4
             try clear q492
             obtain ⟨kq, x88_42, rfl, HA, HJ42, HO_7, HI487, HI491, HI499, HB⟩ := hcut
             cases kq with
             | zero => exact absurd HA.out (by simp [nunciolaw12_UnpackHolds.j3])
             | succ kj42 =>
              have H := HA.out
              clear HA
              simp only [nunciolaw12_UnpackHolds.j3] at H
              by_cases c67 : x88_42 = true
              ·
               subst c67
               have H1 : (some false) = some r := by rw [if_pos rfl] at H; exact H
               clear H
               have H := H1
               clear H1
               exact absurd ((Option.some.inj H).trans HT.out) (by decide)
              ·
               replace c67 := Bool.eq_false_iff.mpr c67
               subst c67
               have H1 : ((unpack_Decoder_Down.f t497).bind fun bt507 => (if t488 = true then (if (bt507.1 != true) = true then (some false) else (if t496 = 0 then (nunciolaw12_UnpackHolds.l0 kj42 l0 (wrap64 (x4_2 + 1)) bt507.2) else (if (t493.length : Int) = 0 then (nunciolaw12_UnpackHolds.l0 kj42 l0 (wrap64 (x4_2 + 1)) bt507.2) else (some false)))) else (if (bt507.1 != (t496 != 0)) = true then (some false) else (if t496 = 0 then (nunciolaw12_UnpackHolds.l0 kj42 l0 (wrap64 (x4_2 + 1)) bt507.2) else (if (t493.length : Int) = 0 then (nunciolaw12_UnpackHolds.l0 kj42 l0 (wrap64 (x4_2 + 1)) bt507.2) else (some false)))))) = some r := by rw [if_neg (show ¬ (false = true) by decide)] at H; exact H
               clear H
               have H := H1
               clear H1
               replace H := Option.bind_eq_some_iff.mp H
               obtain ⟨⟨t507, t508⟩, A680, H⟩ := H
               replace H : (if t488 = true then (if (t507 != true) = true then (some false) else (if t496 = 0 then (nunciolaw12_UnpackHolds.l0 kj42 l0 (wrap64 (x4_2 + 1)) t508) else (if (t493.length : Int) = 0 then (nunciolaw12_UnpackHolds.l0 kj42 l0 (wrap64 (x4_2 + 1)) t508) else (some false)))) else (if (t507 != (t496 != 0)) = true then (some false) else (if t496 = 0 then (nunciolaw12_UnpackHolds.l0 kj42 l0 (wrap64 (x4_2 + 1)) t508) else (if (t493.length : Int) = 0 then (nunciolaw12_UnpackHolds.l0 kj42 l0 (wrap64 (x4_2 + 1)) t508) else (some false))))) = some r := H
               have A68 := Aside0.mk A680
               clear A680
               by_cases c69 : t488 = true
               ·
                subst c69
                have H1 : (if (t507 != true) = true then (some false) else (if t496 = 0 then (nunciolaw12_UnpackHolds.l0 kj42 l0 (wrap64 (x4_2 + 1)) t508) else (if (t493.length : Int) = 0 then (nunciolaw12_UnpackHolds.l0 kj42 l0 (wrap64 (x4_2 + 1)) t508) else (some false)))) = some r := by rw [if_pos rfl] at H; exact H
                clear H
                have H := H1
                clear H1
                by_cases c70 : (t507 != true) = true
                ·
                 rw [if_pos c70] at H
                 have c70b0 : (t507 != true) = true := c70
                 (try (have c70b1 : decide (t507 = true) = false := by simpa using c70))
                 (try (have c70b2 : (t507 == true) = false := by simpa using c70))
                 (try (have c70b3 : ¬ (t507 = true) := by simpa using c70))
                 clear c70
                 exact absurd ((Option.some.inj H).trans HT.out) (by decide)
                ·
                 rw [if_neg c70] at H
                 have c70b0 : (t507 != true) = false := by simpa using c70
                 (try (have c70b1 : decide (t507 = true) = true := by simpa using c70))
                 (try (have c70b2 : (t507 == true) = true := by simpa using c70))
                 clear c70
                 by_cases c71 : t496 = 0
                 ·
                  rw [if_pos c71] at H
                  have c71b0 : (t496 == 0) = true := beq_iff_eq.mpr c71
                  have c71b1 : (t496 != 0) = false := bne_eq_false_iff_eq.mpr c71
                  (try (have c71x_c76b0 : t507 = false := by have q_ := c76b0; rw [c71b1] at q_; simpa using q_))
                  clear c71
                  have H' := Aside0.mk H
                  clear H
                  go_wp2_with (first | ((with_reducible refine gate_callee (f := 28) rfl ?_); refine goesL_ (some 90) rfl rfl Tryd.func28 (by kernel_rfl) rfl #[.pointer (some ⟨g487, 0, none⟩)] rfl (by (try simp only [List.map_toArray, List.map_cons, List.map_nil]); first | done | rfl | (simp only [List.length_drop, List.length_take]; rfl)) ?_; (with_reducible refine (unpack_Decoder_Down.calls g487 t497 t507 t508 w _ ?side1 ?side2 A68.out).mono ?_); (case side1 => repeat (first | (with_reducible first | exact HI487.out | apply IsS90.alloc | apply IsS90.drewN | apply IsS90.drew) | exact HI487.out)); (case side2 => repeat (first | (with_reducible first | exact HB.out | apply below_alloc | apply pw_below_drewN | apply below_drew1 | refine below_set ?_ (IsS90.ge HI487.out) | refine below_set ?_ (IsS77.ge HI491.out) | refine below_set ?_ (IsS77.ge HI499.out)) | exact HB.out)); rintro e w72 ⟨rfl, hi, hb, hk⟩; refine ⟨_, rfl, ?_⟩; have n0_ := Aside0.mk (Kd.R_mono (Kd.R_keep2 (IsS90.apart (show IsS90 w _ g487 t497 from by repeat (first | (with_reducible first | exact HI487.out | apply IsS90.alloc | apply IsS90.drewN | apply IsS90.drew) | exact HI487.out)) (by (with_reducible repeat (first | apply Kd.R_alloc | apply Kd.R_drewN | apply Kd.R_drew)); exact HO_7.out) (by decide)) hk (fun _ h => h.2)) (fun _ h => h.1)); have n1_ := Aside0.mk (IsS90.tabOther (show IsS90 w _ g487 t497 from by repeat (first | (with_reducible first | exact HI487.out | apply IsS90.alloc | apply IsS90.drewN | apply IsS90.drew) | exact HI487.out)) (show IsS77 w _ g491 t490 from by repeat (first | (with_reducible first | exact HI491.out | apply IsS77.alloc | apply IsS77.drewN | apply IsS77.drew) | exact HI491.out)) hk NC491_487.out); have n2_ := Aside0.mk (IsS90.tabOther (show IsS90 w _ g487 t497 from by repeat (first | (with_reducible first | exact HI487.out | apply IsS90.alloc | apply IsS90.drewN | apply IsS90.drew) | exact HI487.out)) (show IsS77 w _ g499 x500000_18 from by repeat (first | (with_reducible first | exact HI499.out | apply IsS77.alloc | apply IsS77.drewN | apply IsS77.drew) | exact HI499.out)) hk NC499_487.out); have n3_ := Aside0.mk (hb); have n4_ := Aside0.mk (hi); clear HO_7; clear HI491; clear HI499; clear HB; clear HI487; have HO_7 := n0_; have HI491 := n1_; have HI499 := n2_; have HB := n3_; have HI487 := n4_; clear n0_ n1_ n2_ n3_ n4_; (try clear hb); (try clear hb2); (try clear hk); (try clear hi)))
                  go_roundg kj42
                  case measure => have := HJ3.out; have := HK2.out; have := HJ18.out; have := HJ42.out; omega
                  case rel => exact ⟨(wrap64 (x4_2 + 1)), (t508), (by first | rfl | (simp; done) | (simp [*]; done)), H', ⟨by have := HJ3.out; have := HK2.out; have := HJ18.out; have := HJ42.out; omega⟩, ⟨by repeat (first | (with_reducible first | exact HI487.out | apply IsS90.alloc | apply IsS90.drewN | apply IsS90.drew) | exact HI487.out)⟩, ⟨by repeat (first | (with_reducible first | exact HB.out | apply below_alloc | apply pw_below_drewN | apply below_drew1 | refine below_set ?_ (IsS90.ge HI487.out) | refine below_set ?_ (IsS77.ge HI491.out) | refine below_set ?_ (IsS77.ge HI499.out)) | exact HB.out)⟩⟩
                 ·
                  rw [if_neg c71] at H
                  have c71b0 : (t496 == 0) = false := beq_eq_false_iff_ne.mpr c71
                  have c71b1 : (t496 != 0) = true := bne_iff_ne.mpr c71
                  (try (have c71x_c76b0 : t507 = true := by have q_ := c76b0; rw [c71b1] at q_; simpa using q_))
                  by_cases c73 : (t493.length : Int) = 0
                  ·
                   rw [if_pos c73] at H
                   have c73b0 : ((t493.length : Int) == 0) = true := beq_iff_eq.mpr c73
                   have c73b1 : ((t493.length : Int) != 0) = false := bne_eq_false_iff_eq.mpr c73
                   clear c73
                   have H' := Aside0.mk H
                   clear H
                   go_wp2_with (first | ((with_reducible refine gate_callee (f := 28) rfl ?_); refine goesL_ (some 90) rfl rfl Tryd.func28 (by kernel_rfl) rfl #[.pointer (some ⟨g487, 0, none⟩)] rfl (by (try simp only [List.map_toArray, List.map_cons, List.map_nil]); first | done | rfl | (simp only [List.length_drop, List.length_take]; rfl)) ?_; (with_reducible refine (unpack_Decoder_Down.calls g487 t497 t507 t508 w _ ?side1 ?side2 A68.out).mono ?_); (case side1 => repeat (first | (with_reducible first | exact HI487.out | apply IsS90.alloc | apply IsS90.drewN | apply IsS90.drew) | exact HI487.out)); (case side2 => repeat (first | (with_reducible first | exact HB.out | apply below_alloc | apply pw_below_drewN | apply below_drew1 | refine below_set ?_ (IsS90.ge HI487.out) | refine below_set ?_ (IsS77.ge HI491.out) | refine below_set ?_ (IsS77.ge HI499.out)) | exact HB.out)); rintro e w74 ⟨rfl, hi, hb, hk⟩; refine ⟨_, rfl, ?_⟩; have n0_ := Aside0.mk (Kd.R_mono (Kd.R_keep2 (IsS90.apart (show IsS90 w _ g487 t497 from by repeat (first | (with_reducible first | exact HI487.out | apply IsS90.alloc | apply IsS90.drewN | apply IsS90.drew) | exact HI487.out)) (by (with_reducible repeat (first | apply Kd.R_alloc | apply Kd.R_drewN | apply Kd.R_drew)); exact HO_7.out) (by decide)) hk (fun _ h => h.2)) (fun _ h => h.1)); have n1_ := Aside0.mk (IsS90.tabOther (show IsS90 w _ g487 t497 from by repeat (first | (with_reducible first | exact HI487.out | apply IsS90.alloc | apply IsS90.drewN | apply IsS90.drew) | exact HI487.out)) (show IsS77 w _ g491 t490 from by repeat (first | (with_reducible first | exact HI491.out | apply IsS77.alloc | apply IsS77.drewN | apply IsS77.drew) | exact HI491.out)) hk NC491_487.out); have n2_ := Aside0.mk (IsS90.tabOther (show IsS90 w _ g487 t497 from by repeat (first | (with_reducible first | exact HI487.out | apply IsS90.alloc | apply IsS90.drewN | apply IsS90.drew) | exact HI487.out)) (show IsS77 w _ g499 x500000_18 from by repeat (first | (with_reducible first | exact HI499.out | apply IsS77.alloc | apply IsS77.drewN | apply IsS77.drew) | exact HI499.out)) hk NC499_487.out); have n3_ := Aside0.mk (hb); have n4_ := Aside0.mk (hi); clear HO_7; clear HI491; clear HI499; clear HB; clear HI487; have HO_7 := n0_; have HI491 := n1_; have HI499 := n2_; have HB := n3_; have HI487 := n4_; clear n0_ n1_ n2_ n3_ n4_; (try clear hb); (try clear hb2); (try clear hk); (try clear hi); obtain ⟨Ao75, co75, eo75⟩ := Kd.R_slice HO_7.out; subst eo75))
                   go_roundg kj42
                   case measure => have := HJ3.out; have := HK2.out; have := HJ18.out; have := HJ42.out; omega
                   case rel => exact ⟨(wrap64 (x4_2 + 1)), (t508), (by first | rfl | (simp; done) | (simp [*]; done)), H', ⟨by have := HJ3.out; have := HK2.out; have := HJ18.out; have := HJ42.out; omega⟩, ⟨by repeat (first | (with_reducible first | exact HI487.out | apply IsS90.alloc | apply IsS90.drewN | apply IsS90.drew) | exact HI487.out)⟩, ⟨by repeat (first | (with_reducible first | exact HB.out | apply below_alloc | apply pw_below_drewN | apply below_drew1 | refine below_set ?_ (IsS90.ge HI487.out) | refine below_set ?_ (IsS77.ge HI491.out) | refine below_set ?_ (IsS77.ge HI499.out)) | exact HB.out)⟩⟩
                  ·
                   rw [if_neg c73] at H
                   have c73b0 : ((t493.length : Int) == 0) = false := beq_eq_false_iff_ne.mpr c73
                   have c73b1 : ((t493.length : Int) != 0) = true := bne_iff_ne.mpr c73
                   have c73b2 : ¬ (t493 = []) := fun h_ => c73 (by rw [h_]; rfl)
                   exact absurd ((Option.some.inj H).trans HT.out) (by decide)
               ·
                replace c69 := Bool.eq_false_iff.mpr c69
                subst c69
                have H1 : (if (t507 != (t496 != 0)) = true then (some false) else (if t496 = 0 then (nunciolaw12_UnpackHolds.l0 kj42 l0 (wrap64 (x4_2 + 1)) t508) else (if (t493.length : Int) = 0 then (nunciolaw12_UnpackHolds.l0 kj42 l0 (wrap64 (x4_2 + 1)) t508) else (some false)))) = some r := by rw [if_neg (show ¬ (false = true) by decide)] at H; exact H
                clear H
                have H := H1
                clear H1
                by_cases c76 : (t507 != (t496 != 0)) = true
                ·
                 rw [if_pos c76] at H
                 have c76b0 : (t507 != (t496 != 0)) = true := c76
                 (try (have c76b1 : decide (t507 = (t496 != 0)) = false := by simpa using c76))
                 (try (have c76b2 : (t507 == (t496 != 0)) = false := by simpa using c76))
                 (try (have c76b3 : ¬ (t507 = (t496 != 0)) := by simpa using c76))
                 clear c76
                 exact absurd ((Option.some.inj H).trans HT.out) (by decide)
                ·
                 rw [if_neg c76] at H
                 have c76b0 : (t507 != (t496 != 0)) = false := by simpa using c76
                 (try (have c76b1 : decide (t507 = (t496 != 0)) = true := by simpa using c76))
                 (try (have c76b2 : (t507 == (t496 != 0)) = true := by simpa using c76))
                 clear c76
                 by_cases c77 : t496 = 0
                 ·
                  rw [if_pos c77] at H
                  have c77b0 : (t496 == 0) = true := beq_iff_eq.mpr c77
                  have c77b1 : (t496 != 0) = false := bne_eq_false_iff_eq.mpr c77
                  (try (have c77x_c76b0 : t507 = false := by have q_ := c76b0; rw [c77b1] at q_; simpa using q_))
                  clear c77
                  have H' := Aside0.mk H
                  clear H
                  go_wp2_with (first | ((with_reducible refine gate_callee (f := 28) rfl ?_); refine goesL_ (some 90) rfl rfl Tryd.func28 (by kernel_rfl) rfl #[.pointer (some ⟨g487, 0, none⟩)] rfl (by (try simp only [List.map_toArray, List.map_cons, List.map_nil]); first | done | rfl | (simp only [List.length_drop, List.length_take]; rfl)) ?_; (with_reducible refine (unpack_Decoder_Down.calls g487 t497 t507 t508 w _ ?side1 ?side2 A68.out).mono ?_); (case side1 => repeat (first | (with_reducible first | exact HI487.out | apply IsS90.alloc | apply IsS90.drewN | apply IsS90.drew) | exact HI487.out)); (case side2 => repeat (first | (with_reducible first | exact HB.out | apply below_alloc | apply pw_below_drewN | apply below_drew1 | refine below_set ?_ (IsS90.ge HI487.out) | refine below_set ?_ (IsS77.ge HI491.out) | refine below_set ?_ (IsS77.ge HI499.out)) | exact HB.out)); rintro e w78 ⟨rfl, hi, hb, hk⟩; refine ⟨_, rfl, ?_⟩; have n0_ := Aside0.mk (Kd.R_mono (Kd.R_keep2 (IsS90.apart (show IsS90 w _ g487 t497 from by repeat (first | (with_reducible first | exact HI487.out | apply IsS90.alloc | apply IsS90.drewN | apply IsS90.drew) | exact HI487.out)) (by (with_reducible repeat (first | apply Kd.R_alloc | apply Kd.R_drewN | apply Kd.R_drew)); exact HO_7.out) (by decide)) hk (fun _ h => h.2)) (fun _ h => h.1)); have n1_ := Aside0.mk (IsS90.tabOther (show IsS90 w _ g487 t497 from by repeat (first | (with_reducible first | exact HI487.out | apply IsS90.alloc | apply IsS90.drewN | apply IsS90.drew) | exact HI487.out)) (show IsS77 w _ g491 t490 from by repeat (first | (with_reducible first | exact HI491.out | apply IsS77.alloc | apply IsS77.drewN | apply IsS77.drew) | exact HI491.out)) hk NC491_487.out); have n2_ := Aside0.mk (IsS90.tabOther (show IsS90 w _ g487 t497 from by repeat (first | (with_reducible first | exact HI487.out | apply IsS90.alloc | apply IsS90.drewN | apply IsS90.drew) | exact HI487.out)) (show IsS77 w _ g499 x500000_18 from by repeat (first | (with_reducible first | exact HI499.out | apply IsS77.alloc | apply IsS77.drewN | apply IsS77.drew) | exact HI499.out)) hk NC499_487.out); have n3_ := Aside0.mk (hb); have n4_ := Aside0.mk (hi); clear HO_7; clear HI491; clear HI499; clear HB; clear HI487; have HO_7 := n0_; have HI491 := n1_; have HI499 := n2_; have HB := n3_; have HI487 := n4_; clear n0_ n1_ n2_ n3_ n4_; (try clear hb); (try clear hb2); (try clear hk); (try clear hi)))
                  go_roundg kj42
                  case measure => have := HJ3.out; have := HK2.out; have := HJ18.out; have := HJ42.out; omega
                  case rel => exact ⟨(wrap64 (x4_2 + 1)), (t508), (by first | rfl | (simp; done) | (simp [*]; done)), H', ⟨by have := HJ3.out; have := HK2.out; have := HJ18.out; have := HJ42.out; omega⟩, ⟨by repeat (first | (with_reducible first | exact HI487.out | apply IsS90.alloc | apply IsS90.drewN | apply IsS90.drew) | exact HI487.out)⟩, ⟨by repeat (first | (with_reducible first | exact HB.out | apply below_alloc | apply pw_below_drewN | apply below_drew1 | refine below_set ?_ (IsS90.ge HI487.out) | refine below_set ?_ (IsS77.ge HI491.out) | refine below_set ?_ (IsS77.ge HI499.out)) | exact HB.out)⟩⟩
                 ·
                  rw [if_neg c77] at H
                  have c77b0 : (t496 == 0) = false := beq_eq_false_iff_ne.mpr c77
                  have c77b1 : (t496 != 0) = true := bne_iff_ne.mpr c77
                  (try (have c77x_c76b0 : t507 = true := by have q_ := c76b0; rw [c77b1] at q_; simpa using q_))
                  by_cases c79 : (t493.length : Int) = 0
                  ·
                   rw [if_pos c79] at H
                   have c79b0 : ((t493.length : Int) == 0) = true := beq_iff_eq.mpr c79
                   have c79b1 : ((t493.length : Int) != 0) = false := bne_eq_false_iff_eq.mpr c79
                   clear c79
                   have H' := Aside0.mk H
                   clear H
                   go_wp2_with (first | ((with_reducible refine gate_callee (f := 28) rfl ?_); refine goesL_ (some 90) rfl rfl Tryd.func28 (by kernel_rfl) rfl #[.pointer (some ⟨g487, 0, none⟩)] rfl (by (try simp only [List.map_toArray, List.map_cons, List.map_nil]); first | done | rfl | (simp only [List.length_drop, List.length_take]; rfl)) ?_; (with_reducible refine (unpack_Decoder_Down.calls g487 t497 t507 t508 w _ ?side1 ?side2 A68.out).mono ?_); (case side1 => repeat (first | (with_reducible first | exact HI487.out | apply IsS90.alloc | apply IsS90.drewN | apply IsS90.drew) | exact HI487.out)); (case side2 => repeat (first | (with_reducible first | exact HB.out | apply below_alloc | apply pw_below_drewN | apply below_drew1 | refine below_set ?_ (IsS90.ge HI487.out) | refine below_set ?_ (IsS77.ge HI491.out) | refine below_set ?_ (IsS77.ge HI499.out)) | exact HB.out)); rintro e w80 ⟨rfl, hi, hb, hk⟩; refine ⟨_, rfl, ?_⟩; have n0_ := Aside0.mk (Kd.R_mono (Kd.R_keep2 (IsS90.apart (show IsS90 w _ g487 t497 from by repeat (first | (with_reducible first | exact HI487.out | apply IsS90.alloc | apply IsS90.drewN | apply IsS90.drew) | exact HI487.out)) (by (with_reducible repeat (first | apply Kd.R_alloc | apply Kd.R_drewN | apply Kd.R_drew)); exact HO_7.out) (by decide)) hk (fun _ h => h.2)) (fun _ h => h.1)); have n1_ := Aside0.mk (IsS90.tabOther (show IsS90 w _ g487 t497 from by repeat (first | (with_reducible first | exact HI487.out | apply IsS90.alloc | apply IsS90.drewN | apply IsS90.drew) | exact HI487.out)) (show IsS77 w _ g491 t490 from by repeat (first | (with_reducible first | exact HI491.out | apply IsS77.alloc | apply IsS77.drewN | apply IsS77.drew) | exact HI491.out)) hk NC491_487.out); have n2_ := Aside0.mk (IsS90.tabOther (show IsS90 w _ g487 t497 from by repeat (first | (with_reducible first | exact HI487.out | apply IsS90.alloc | apply IsS90.drewN | apply IsS90.drew) | exact HI487.out)) (show IsS77 w _ g499 x500000_18 from by repeat (first | (with_reducible first | exact HI499.out | apply IsS77.alloc | apply IsS77.drewN | apply IsS77.drew) | exact HI499.out)) hk NC499_487.out); have n3_ := Aside0.mk (hb); have n4_ := Aside0.mk (hi); clear HO_7; clear HI491; clear HI499; clear HB; clear HI487; have HO_7 := n0_; have HI491 := n1_; have HI499 := n2_; have HB := n3_; have HI487 := n4_; clear n0_ n1_ n2_ n3_ n4_; (try clear hb); (try clear hb2); (try clear hk); (try clear hi); obtain ⟨Ao81, co81, eo81⟩ := Kd.R_slice HO_7.out; subst eo81))
                   go_roundg kj42
                   case measure => have := HJ3.out; have := HK2.out; have := HJ18.out; have := HJ42.out; omega
                   case rel => exact ⟨(wrap64 (x4_2 + 1)), (t508), (by first | rfl | (simp; done) | (simp [*]; done)), H', ⟨by have := HJ3.out; have := HK2.out; have := HJ18.out; have := HJ42.out; omega⟩, ⟨by repeat (first | (with_reducible first | exact HI487.out | apply IsS90.alloc | apply IsS90.drewN | apply IsS90.drew) | exact HI487.out)⟩, ⟨by repeat (first | (with_reducible first | exact HB.out | apply below_alloc | apply pw_below_drewN | apply below_drew1 | refine below_set ?_ (IsS90.ge HI487.out) | refine below_set ?_ (IsS77.ge HI491.out) | refine below_set ?_ (IsS77.ge HI499.out)) | exact HB.out)⟩⟩
                  ·
                   rw [if_neg c79] at H
                   have c79b0 : ((t493.length : Int) == 0) = false := beq_eq_false_iff_ne.mpr c79
                   have c79b1 : ((t493.length : Int) != 0) = true := bne_iff_ne.mpr c79
                   have c79b2 : ¬ (t493 = []) := fun h_ => c79 (by rw [h_]; rfl)
                   exact absurd ((Option.some.inj H).trans HT.out) (by decide)
        ·
         rw [if_neg c16] at H
         exact absurd H (by simp)
       ·
        rw [if_neg c13] at H
        have c13b0 : decide (x4_2 < (l0.length : Int)) = false := decide_eq_false c13
        clear c13
        obtain rfl := Option.some.inj H
        go_wp2
        go_ret
        exact ⟨by first | rfl | (simp [errW_none, errW_some] <;> rfl) | (simp [*, errW_none, errW_some] <;> rfl), by repeat (first | (with_reducible first | exact HB.out | apply below_alloc | apply pw_below_drewN | apply below_drew1 | refine below_set ?_ (IsS90.ge HI487.out)) | exact HB.out)⟩
 ·
  replace c3 := Bool.eq_false_iff.mpr c3
  subst c3
  have H1 : (some false) = some r := by rw [if_neg (show ¬ (false = true) by decide)] at H; exact H
  clear H
  have H := H1
  clear H1
  exact absurd ((Option.some.inj H).trans HT.out) (by decide)
def nunciolaw12_UnpackHolds.Pure : Prop := ∀ (l0 : List ByteArray), (l0.length ≤ 9223372036854775807 ∧ l0.length * 16 ≤ 140737488351232 ∧ ∀ x_ ∈ l0, x_.size ≤ 140737488351232) → ∃ k, nunciolaw12_UnpackHolds.f k l0 = some true
theorem nunciolaw12_UnpackHolds.walk (P : nunciolaw12_UnpackHolds.Pure) (A0 : Option Addr) (c0 : Nat) (l0 : List ByteArray) (w : World) (hE : EnvW w) (hr0 : Kd.C Kd.string w A0 l0.length l0) (hc0 : l0.length ≤ c0) (w0 : l0.length ≤ 9223372036854775807 ∧ l0.length * 16 ≤ 140737488351232 ∧ ∀ x_ ∈ l0, x_.size ≤ 140737488351232) :
  Calls Tryd.prog 6 #[.slice A0 l0.length c0] w fun e w' => e = .returned (.bool true) ∧ Below w.heap.size w w' := by
 obtain ⟨k, h⟩ := P l0 w0
 refine (nunciolaw12_UnpackHolds.calls k _ _ l0 true w hE hr0 hc0 h rfl).mono ?_
 rintro e w' ⟨rfl, hd⟩
 exact ⟨rfl, hd⟩
end Go.Proofs.YtfkdocmhbmameaaDoor.Mine
