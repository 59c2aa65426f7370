/- The walks and the plain laws that the rows come to: merged out of this repo's texts. -/
import Derived.Test.YtfkdocmhbmameaaDoorProg
import Derived.Below
import Derived.Deep.Draws
import Derived.Deep.AppendLies
import Derived.Maps.AppendAt
import Derived.OwnWalk
import Derived.Laws.BytesArg
import Derived.Laws.MakeOwn
import Derived.Laws.OwnMore
import Derived.Deep.OwnRows
import Derived.Tactics
import Derived.Lib.ConvBytes
import Derived.Laws.Slices
import Derived.WalkKit
import Derived.KernelRfl
import Derived.RowKit3
import Derived.Deep.LoopGhost
import Derived.Deep.QuietTactic
import Derived.BigQuiet
import Derived.WideLaws
import Derived.Deep.DeepCutAuto
import Derived.Deep.CutBlock
import Derived.Deep.RegionHeld3
import Derived.Laws.Rows
import Derived.Lib.AppendStr
import Derived.ArgAppend
import Derived.Laws.IdiomCopy
import Derived.RowKit
import Derived.OrdersHeld
import Derived.Laws.BitsLemmas
import Derived.Laws.StructEq
import Derived.Laws.CopyOwn
import Derived.SizedLaws
import Derived.ChangeSlices
import Derived.Deep.Slices
import Derived.Lib.SmallJoins
import Derived.Lib.OthersKept
import Derived.Lib.AppendZerosOnto
import Derived.WalkSpells
import Derived.Shelf.Utf8.RuneCount
import Derived.Shelf.Strings.Search1
import Derived.Shelf.Strings.Search2
import Derived.Shelf.Strings.Search3
import Derived.Shelf.Strings.Cut
import Derived.Shelf.Strings.Count
import Derived.Shelf.LaysM
import Derived.Shelf.Strings.Shaped
import Derived.Shelf.Strings.Split
import Derived.Shelf.Strings.SplitShaped
import Derived.Shelf.Unicode.Decode
import Derived.Shelf.Strings.RuneCount
import Derived.Shelf.Strings.Explode
import Derived.Shelf.Unicode.DecodeSlow
import Derived.Shelf.Unicode.DecodeAny
import Derived.Recover
import Derived.WalkLawsBesides
import Derived.Test.YtfkdocmhbmameaaDoorCA1
import Derived.Test.YtfkdocmhbmameaaDoorCA2
import Derived.Test.YtfkdocmhbmameaaDoorCA3
import Derived.Test.YtfkdocmhbmameaaDoorCA4
import Derived.Test.YtfkdocmhbmameaaDoorCA5
import Derived.Test.YtfkdocmhbmameaaDoorCA6
import Derived.Test.YtfkdocmhbmameaaDoorCA7
import Derived.Test.YtfkdocmhbmameaaDoorCA8
import Derived.Test.YtfkdocmhbmameaaDoorCA9
import Derived.Test.YtfkdocmhbmameaaDoorCA10
import Derived.Test.YtfkdocmhbmameaaDoorCA11
import Derived.Test.YtfkdocmhbmameaaDoorCA12
import Derived.Test.YtfkdocmhbmameaaDoorCA13
import Derived.Test.YtfkdocmhbmameaaDoorCA14
import Derived.Test.YtfkdocmhbmameaaDoorCA15
import Derived.Test.YtfkdocmhbmameaaDoorCA16
import Derived.Test.YtfkdocmhbmameaaDoorCA17
import Derived.Test.YtfkdocmhbmameaaDoorCA18
import Derived.Test.YtfkdocmhbmameaaDoorCA20
import Derived.Test.YtfkdocmhbmameaaDoorCA25
import Derived.Test.YtfkdocmhbmameaaDoorCA34
import Derived.Test.YtfkdocmhbmameaaDoorCA35
import Derived.Test.YtfkdocmhbmameaaDoorCA36
import Derived.Test.YtfkdocmhbmameaaDoorCA37
namespace Go.Proofs.YtfkdocmhbmameaaDoor.Mine
open Go.RowKit Go.Proofs.YtfkdocmhbmameaaDoorW.PrintWords Go.Proofs.YtfkdocmhbmameaaDoorW.PrintLast Go.Proofs.YtfkdocmhbmameaaDoorW.PrintMore
attribute [local go_sem] max2_int min2_int max_two min_two max_three min_three max_four min_four
set_option linter.unusedVariables false
set_option linter.unusedSimpArgs false
mutual
def nunciolaw13_PackBack.l0 : Nat → List (S44) → Int → TE → TD → Option (Bool)
 | 0, _, _, _, _ => none
 | k + 1, x0, x5, x561000, x563000 => if x5 < (x0.length : Int) then (if 0 ≤ x5 then (if (rd_T44 x0 x5).f0 = true then ((pack_Encoder_Limit.f x561000 ((rd_T44 x0 x5).f1)).bind fun t565 => (nunciolaw13_PackBack.l0 k x0 (wrap64 (x5 + 1)) t565 x563000)) else (if (((rd_T44 x0 x5).f2).length : Int) > 64 then (some true) else ((pack_Encoder_Write.f k x561000 ((rd_T44 x0 x5).f2)).bind fun bt566 => ((unpack_Decoder_Read.f k x563000 bt566.1).bind fun bt568 => ((pack_Encoder_Table.f bt566.2).bind fun t573 => ((unpack_Decoder_Table.f bt568.2.2).bind fun t575 => (if bt568.2.1 = 0 then ((nuncioref12_Same.f k bt568.1 ((rd_T44 x0 x5).f2)).bind fun t577 => (if t577 = true then ((table_Table_Len.f t573).bind fun t578 => ((table_Table_Len.f t575).bind fun t579 => (if t578 = t579 then ((table_Table_Size.f t573).bind fun t580 => ((table_Table_Size.f t575).bind fun t581 => (if t580 = t581 then ((table_Table_Most.f t573).bind fun t582 => ((table_Table_Most.f t575).bind fun t583 => (nunciolaw13_PackBack.j1 k x0 x5 (t582 != t583) bt566.2 bt568.2.2 t573 t575))) else (nunciolaw13_PackBack.j1 k x0 x5 true bt566.2 bt568.2.2 t573 t575)))) else (nunciolaw13_PackBack.j1 k x0 x5 true bt566.2 bt568.2.2 t573 t575)))) else (nunciolaw13_PackBack.j1 k x0 x5 true bt566.2 bt568.2.2 t573 t575))) else (nunciolaw13_PackBack.j1 k x0 x5 true bt566.2 bt568.2.2 t573 t575)))))))) else (none)) else (some true)
def nunciolaw13_PackBack.j1 : Nat → List (S44) → Int → Bool → TE → TD → TB → TB → Option (Bool)
 | 0, _, _, _, _, _, _, _ => none
 | k + 1, x0, x5, x95, x561000, x563000, x575000, x577000 => if x95 = true then (some false) else (nunciolaw13_PackBack.l1 k x0 x5 0 x561000 x563000 x575000 x577000)
def nunciolaw13_PackBack.l1 : Nat → List (S44) → Int → Int → TE → TD → TB → TB → Option (Bool)
 | 0, _, _, _, _, _, _, _ => none
 | k + 1, x0, x5, x11, x561000, x563000, x575000, x577000 => (table_Table_Len.f x575000).bind fun t584 => (if x11 < t584 then ((table_Table_At.f x575000 (wrap64 (62 + x11))).bind fun bt585 => ((table_Table_At.f x577000 (wrap64 (62 + x11))).bind fun bt588 => (if bt585.1.toList = bt588.1.toList then (if bt585.2.1.toList = bt588.2.1.toList then (nunciolaw13_PackBack.l1 k x0 x5 (wrap64 (x11 + 1)) x561000 x563000 x575000 x577000) else (some false)) else (some false)))) else (nunciolaw13_PackBack.l0 k x0 (wrap64 (x5 + 1)) x561000 x563000))
end
def nunciolaw13_PackBack.f (k : Nat) (l0 : List (S44)) : Option (Bool) := (nunciolaw13_awake.f k).bind fun t557 => (if t557 = true then ((nunciolaw13_few.f k l0).bind fun t558 => (if t558 = true then ((pack_New.f).bind fun t559 => ((unpack_New.f).bind fun t561 => (nunciolaw13_PackBack.l0 k l0 0 t559 t561))) else (some true))) else (some false))
theorem nunciolaw13_PackBack.mono_l : ∀ k, (∀ y0 y1 y2 y3, LeO (nunciolaw13_PackBack.l0 k y0 y1 y2 y3) (nunciolaw13_PackBack.l0 (k + 1) y0 y1 y2 y3)) ∧ (∀ y0 y1 y2 y3 y4 y5 y6, LeO (nunciolaw13_PackBack.j1 k y0 y1 y2 y3 y4 y5 y6) (nunciolaw13_PackBack.j1 (k + 1) y0 y1 y2 y3 y4 y5 y6)) ∧ (∀ y0 y1 y2 y3 y4 y5 y6, LeO (nunciolaw13_PackBack.l1 k y0 y1 y2 y3 y4 y5 y6) (nunciolaw13_PackBack.l1 (k + 1) y0 y1 y2 y3 y4 y5 y6))
 | 0 => ⟨fun _ _ _ _ r h => by simp [nunciolaw13_PackBack.l0] at h, fun _ _ _ _ _ _ _ r h => by simp [nunciolaw13_PackBack.j1] at h, fun _ _ _ _ _ _ _ r h => by simp [nunciolaw13_PackBack.l1] at h⟩
 | k + 1 => by
  obtain ⟨ih0, ih1, ih2⟩ := nunciolaw13_PackBack.mono_l k
  refine ⟨?_, ?_, ?_⟩
  ·
   intro y0 y1 y2 y3
   unfold nunciolaw13_PackBack.l0
   repeat' first
   | (with_reducible exact ih0 _ _ _ _)
   | (with_reducible exact ih1 _ _ _ _ _ _ _)
   | (with_reducible exact ih2 _ _ _ _ _ _ _)
   | (with_reducible exact nunciolaw13_awake.mono _)
   | (with_reducible exact nunciolaw13_few.mono _ _)
   | (with_reducible exact nuncioref12_Same.mono _ _ _)
   | (with_reducible exact pack_Encoder_Write.mono _ _ _)
   | (with_reducible exact unpack_Decoder_Read.mono _ _ _)
   | (with_reducible exact LeO.refl _)
   | (with_reducible exact LeO.none _)
   | (with_reducible refine LeO.ite ?_ ?_)
   | (with_reducible refine LeO.bind ?_ (fun _ => ?_))
   | exact ih0 _ _ _ _
   | exact ih1 _ _ _ _ _ _ _
   | exact ih2 _ _ _ _ _ _ _
   | exact nunciolaw13_awake.mono _
   | exact nunciolaw13_few.mono _ _
   | exact nuncioref12_Same.mono _ _ _
   | exact pack_Encoder_Write.mono _ _ _
   | exact unpack_Decoder_Read.mono _ _ _
   | exact LeO.none _
   | refine LeO.ite ?_ ?_
   | refine LeO.bind ?_ (fun _ => ?_)
  ·
   intro y0 y1 y2 y3 y4 y5 y6
   unfold nunciolaw13_PackBack.j1
   repeat' first
   | (with_reducible exact ih0 _ _ _ _)
   | (with_reducible exact ih1 _ _ _ _ _ _ _)
   | (with_reducible exact ih2 _ _ _ _ _ _ _)
   | (with_reducible exact nunciolaw13_awake.mono _)
   | (with_reducible exact nunciolaw13_few.mono _ _)
   | (with_reducible exact nuncioref12_Same.mono _ _ _)
   | (with_reducible exact pack_Encoder_Write.mono _ _ _)
   | (with_reducible exact unpack_Decoder_Read.mono _ _ _)
   | (with_reducible exact LeO.refl _)
   | (with_reducible exact LeO.none _)
   | (with_reducible refine LeO.ite ?_ ?_)
   | (with_reducible refine LeO.bind ?_ (fun _ => ?_))
   | exact ih0 _ _ _ _
   | exact ih1 _ _ _ _ _ _ _
   | exact ih2 _ _ _ _ _ _ _
   | exact nunciolaw13_awake.mono _
   | exact nunciolaw13_few.mono _ _
   | exact nuncioref12_Same.mono _ _ _
   | exact pack_Encoder_Write.mono _ _ _
   | exact unpack_Decoder_Read.mono _ _ _
   | exact LeO.none _
   | refine LeO.ite ?_ ?_
   | refine LeO.bind ?_ (fun _ => ?_)
  ·
   intro y0 y1 y2 y3 y4 y5 y6
   unfold nunciolaw13_PackBack.l1
   repeat' first
   | (with_reducible exact ih0 _ _ _ _)
   | (with_reducible exact ih1 _ _ _ _ _ _ _)
   | (with_reducible exact ih2 _ _ _ _ _ _ _)
   | (with_reducible exact nunciolaw13_awake.mono _)
   | (with_reducible exact nunciolaw13_few.mono _ _)
   | (with_reducible exact nuncioref12_Same.mono _ _ _)
   | (with_reducible exact pack_Encoder_Write.mono _ _ _)
   | (with_reducible exact unpack_Decoder_Read.mono _ _ _)
   | (with_reducible exact LeO.refl _)
   | (with_reducible exact LeO.none _)
   | (with_reducible refine LeO.ite ?_ ?_)
   | (with_reducible refine LeO.bind ?_ (fun _ => ?_))
   | exact ih0 _ _ _ _
   | exact ih1 _ _ _ _ _ _ _
   | exact ih2 _ _ _ _ _ _ _
   | exact nunciolaw13_awake.mono _
   | exact nunciolaw13_few.mono _ _
   | exact nuncioref12_Same.mono _ _ _
   | exact pack_Encoder_Write.mono _ _ _
   | exact unpack_Decoder_Read.mono _ _ _
   | exact LeO.none _
   | refine LeO.ite ?_ ?_
   | refine LeO.bind ?_ (fun _ => ?_)
theorem nunciolaw13_PackBack.mono : ∀ a0 k, LeO (nunciolaw13_PackBack.f k a0) (nunciolaw13_PackBack.f (k + 1) a0) := by
 intro a0 k
 obtain ⟨ih0, ih1, ih2⟩ := nunciolaw13_PackBack.mono_l k
 unfold nunciolaw13_PackBack.f
 repeat' first
   | (with_reducible exact ih0 _ _ _ _)
   | (with_reducible exact ih1 _ _ _ _ _ _ _)
   | (with_reducible exact ih2 _ _ _ _ _ _ _)
   | (with_reducible exact nunciolaw13_awake.mono _)
   | (with_reducible exact nunciolaw13_few.mono _ _)
   | (with_reducible exact nuncioref12_Same.mono _ _ _)
   | (with_reducible exact pack_Encoder_Write.mono _ _ _)
   | (with_reducible exact unpack_Decoder_Read.mono _ _ _)
   | (with_reducible exact LeO.refl _)
   | (with_reducible exact LeO.none _)
   | (with_reducible refine LeO.ite ?_ ?_)
   | (with_reducible refine LeO.bind ?_ (fun _ => ?_))
   | exact ih0 _ _ _ _
   | exact ih1 _ _ _ _ _ _ _
   | exact ih2 _ _ _ _ _ _ _
   | exact nunciolaw13_awake.mono _
   | exact nunciolaw13_few.mono _ _
   | exact nuncioref12_Same.mono _ _ _
   | exact pack_Encoder_Write.mono _ _ _
   | exact unpack_Decoder_Read.mono _ _ _
   | exact LeO.none _
   | refine LeO.ite ?_ ?_
   | refine LeO.bind ?_ (fun _ => ?_)
set_option maxHeartbeats 8000000 in
set_option maxRecDepth 100000 in
theorem nunciolaw13_PackBack.calls (k : Nat) (A0 : Option Addr) (c0 : Nat) (l0 : List (S44)) (r : Bool) (w : World) (hE : EnvW w) (hr0 : Kd.C k44 w A0 l0.length l0) (hc0 : l0.length ≤ c0) (h : nunciolaw13_PackBack.f k l0 = some r) (hT : r = true) :
  Calls Tryd.prog 8 #[.slice A0 l0.length c0] w fun e w' => e = .returned (.bool r) ∧ Below w.heap.size w w' := by
 have hu44 := Tryd.underlying44
 have HR0 := Aside0.mk hr0
 have HC0 := Aside0.mk hc0
 clear hr0 hc0
 have HB := Aside0.mk (Below.refl w.heap.size w)
 have HEnv := Aside0.mk hE
 clear hE
 have HT := Aside0.mk hT
 clear hT
 have H : ((nunciolaw13_awake.f k).bind fun t557 => (if t557 = true then ((nunciolaw13_few.f k l0).bind fun t558 => (if t558 = true then ((pack_New.f).bind fun t559 => ((unpack_New.f).bind fun t561 => (nunciolaw13_PackBack.l0 k l0 0 t559 t561))) else (some true))) else (some false))) = some r := h
 clear h
 replace H := Option.bind_eq_some_iff.mp H
 obtain ⟨t557, A20, H⟩ := H
 replace H : (if t557 = true then ((nunciolaw13_few.f k l0).bind fun t558 => (if t558 = true then ((pack_New.f).bind fun t559 => ((unpack_New.f).bind fun t561 => (nunciolaw13_PackBack.l0 k l0 0 t559 t561))) else (some true))) else (some false)) = some r := H
 have A2 := Aside0.mk A20
 clear A20
 by_cases c3 : t557 = true
 ·
  subst c3
  have H1 : ((nunciolaw13_few.f k l0).bind fun t558 => (if t558 = true then ((pack_New.f).bind fun t559 => ((unpack_New.f).bind fun t561 => (nunciolaw13_PackBack.l0 k l0 0 t559 t561))) else (some true))) = some r := by rw [if_pos rfl] at H; exact H
  clear H
  have H := H1
  clear H1
  replace H := Option.bind_eq_some_iff.mp H
  obtain ⟨t558, A40, H⟩ := H
  replace H : (if t558 = true then ((pack_New.f).bind fun t559 => ((unpack_New.f).bind fun t561 => (nunciolaw13_PackBack.l0 k l0 0 t559 t561))) else (some true)) = some r := H
  have A4 := Aside0.mk A40
  clear A40
  by_cases c5 : t558 = true
  ·
   subst c5
   have H1 : ((pack_New.f).bind fun t559 => ((unpack_New.f).bind fun t561 => (nunciolaw13_PackBack.l0 k l0 0 t559 t561))) = some r := by rw [if_pos rfl] at H; exact H
   clear H
   have H := H1
   clear H1
   replace H := Option.bind_eq_some_iff.mp H
   obtain ⟨t559, A60, H⟩ := H
   replace H : ((unpack_New.f).bind fun t561 => (nunciolaw13_PackBack.l0 k l0 0 t559 t561)) = some r := H
   have A6 := Aside0.mk A60
   clear A60
   replace H := Option.bind_eq_some_iff.mp H
   obtain ⟨t561, A70, H⟩ := H
   replace H : (nunciolaw13_PackBack.l0 k l0 0 t559 t561) = some r := H
   have A7 := Aside0.mk A70
   clear A70
   have H' := Aside0.mk H
   clear H
   go_enter Tryd.func8, Tryd.ntmps8
   go_wp2_with (first | ((with_reducible refine gate_callee (f := 9) rfl ?_); refine goesL_ (some 18) rfl rfl Tryd.func9 (by kernel_rfl) rfl #[] rfl (by (try simp only [List.map_toArray, List.map_cons, List.map_nil]); first | done | rfl | (simp only [List.length_drop, List.length_take]; rfl)) ?_; (with_reducible refine (nunciolaw13_awake.calls k  true _ ?side1 A2.out).mono ?_); (case side1 => exact EnvW.below HEnv.out rfl (by repeat (first | (with_reducible first | exact HB.out | apply below_alloc | apply pw_below_drewN | apply below_drew1) | exact HB.out))); rintro e w8 ⟨rfl, hb⟩; refine ⟨_, rfl, ?_⟩; have n0_ := Aside0.mk (below_step (by repeat (first | (with_reducible first | exact HB.out | apply below_alloc | apply pw_below_drewN | apply below_drew1) | exact HB.out)) hb); clear HB; have HB := n0_; clear n0_; (try clear hb); (try clear hb2); (try clear hk); (try clear hi)) | ((with_reducible refine gate_callee (f := 15) rfl ?_); refine goesL_ (some 21) rfl rfl Tryd.func15 (by kernel_rfl) rfl #[.slice A0 l0.length c0] rfl (by (try simp only [List.map_toArray, List.map_cons, List.map_nil]); first | done | rfl | (simp only [List.length_drop, List.length_take]; rfl)) ?_; (with_reducible refine (nunciolaw13_few.calls k _ _ l0 true _ ?side1 ?side2 A4.out).mono ?_); (case side1 => repeat (first | exact (Kd.C_below HR0.out HB.out) | (with_reducible refine Kd.C_alloc ?_ _) | (with_reducible refine Kd.C_drewN ?_ _) | (with_reducible refine Kd.C_drew ?_))); (case side2 => exact HC0.out); rintro e w9 ⟨rfl, hb⟩; refine ⟨_, rfl, ?_⟩; have n0_ := Aside0.mk (below_step (by repeat (first | (with_reducible first | exact HB.out | apply below_alloc | apply pw_below_drewN | apply below_drew1) | exact HB.out)) hb); clear HB; have HB := n0_; clear n0_; (try clear hb); (try clear hb2); (try clear hk); (try clear hi)) | ((with_reducible refine gate_callee (f := 11) rfl ?_); refine goesL_ (some 23) rfl rfl Tryd.func11 (by kernel_rfl) rfl #[] rfl (by (try simp only [List.map_toArray, List.map_cons, List.map_nil]); first | done | rfl | (simp only [List.length_drop, List.length_take]; rfl)) ?_; (with_reducible refine (pack_New.calls  t559 _ _ (Below.refl _ _) ?side1 A6.out).mono ?_); (case side1 => exact EnvW.below HEnv.out rfl (by repeat (first | (with_reducible first | exact HB.out | apply below_alloc | apply pw_below_drewN | apply below_drew1) | exact HB.out))); rintro e w10 ⟨g560, rfl, hi, hb, hb2⟩; refine ⟨_, rfl, ?_⟩; have n0_ := Aside0.mk (below_step (by repeat (first | (with_reducible first | exact HB.out | apply below_alloc | apply pw_below_drewN | apply below_drew1) | exact HB.out)) hb2); have n1_ := Aside0.mk ((show IsS70 w w10 g560 t559 from IsS70.rebase hi (below_size (by repeat (first | (with_reducible first | exact HB.out | apply below_alloc | apply pw_below_drewN | apply below_drew1) | exact HB.out))))); clear HB; have HB := n0_; have HI560 := n1_; clear n0_ n1_; (try clear hb); (try clear hb2); (try clear hk); (try clear hi)) | ((with_reducible refine gate_callee (f := 23) rfl ?_); refine goesL_ (some 24) rfl rfl Tryd.func23 (by kernel_rfl) rfl #[] rfl (by (try simp only [List.map_toArray, List.map_cons, List.map_nil]); first | done | rfl | (simp only [List.length_drop, List.length_take]; rfl)) ?_; (with_reducible refine (unpack_New.calls  t561 _ _ (Below.refl _ _) ?side1 A7.out).mono ?_); (case side1 => exact EnvW.below HEnv.out rfl (by repeat (first | (with_reducible first | exact HB.out | apply below_alloc | apply pw_below_drewN | apply below_drew1 | refine below_set ?_ (IsS70.ge HI560.out)) | exact HB.out))); rintro e w11 ⟨g562, rfl, hi, hb, hb2⟩; refine ⟨_, rfl, ?_⟩; have n0_ := Aside0.mk (IsS70.below (by repeat (first | (with_reducible first | exact HI560.out | apply IsS70.alloc | apply IsS70.drewN | apply IsS70.drew) | exact HI560.out)) hb2); have n1_ := Aside0.mk (below_step (by repeat (first | (with_reducible first | exact HB.out | apply below_alloc | apply pw_below_drewN | apply below_drew1 | refine below_set ?_ (IsS70.ge HI560.out)) | exact HB.out)) hb2); have n2_ := Aside0.mk ((show IsS90 w w11 g562 t561 from IsS90.rebase hi (below_size (by repeat (first | (with_reducible first | exact HB.out | apply below_alloc | apply pw_below_drewN | apply below_drew1 | refine below_set ?_ (IsS70.ge HI560.out)) | exact HB.out))))); have n3_ := Aside0.mk ((Nat.ne_of_lt (Nat.lt_of_lt_of_le (IsS70.lt (show IsS70 w _ g560 t559 from by repeat (first | (with_reducible first | exact HI560.out | apply IsS70.alloc | apply IsS70.drewN | apply IsS70.drew) | exact HI560.out))) (IsS90.ge hi)) : g560 ≠ g562)); have n4_ := Aside0.mk ((Nat.ne_of_gt (Nat.lt_of_lt_of_le (IsS70.lt (show IsS70 w _ g560 t559 from by repeat (first | (with_reducible first | exact HI560.out | apply IsS70.alloc | apply IsS70.drewN | apply IsS70.drew) | exact HI560.out))) (IsS90.ge hi)) : g562 ≠ g560)); clear HI560; clear HB; have HI560 := n0_; have HB := n1_; have HI562 := n2_; have NB560_562 := n3_; have NB562_560 := n4_; clear n0_ n1_ n2_ n3_ n4_; (try clear hb); (try clear hb2); (try clear hk); (try clear hi)))
   go_loopg [5] k (fun kq v5 w' => ∃ (x5_1 : Int) (x561000_1 : TE) (x563000_1 : TD), v5 = .int .i64 x5_1 ∧ Aside0 (nunciolaw13_PackBack.l0 kq l0 x5_1 x561000_1 x563000_1 = some r) ∧ Aside0 (kq ≤ k) ∧ Aside0 (IsS70 w w' g560 x561000_1) ∧ Aside0 (IsS90 w w' g562 x563000_1) ∧ Aside0 (Below w.heap.size w w'))
   case atStart => exact ⟨(0), (t559), (t561), (by first | rfl | (simp; done) | (simp [*]; done)), H', ⟨Nat.le_refl _⟩, ⟨by repeat (first | (with_reducible first | exact HI560.out | apply IsS70.alloc | apply IsS70.drewN | apply IsS70.drew) | exact HI560.out)⟩, ⟨by repeat (first | (with_reducible first | exact HI562.out | apply IsS90.alloc | apply IsS90.drewN | apply IsS90.drew) | exact HI562.out)⟩, ⟨by repeat (first | (with_reducible first | exact HB.out | apply below_alloc | apply pw_below_drewN | apply below_drew1 | refine below_set ?_ (IsS70.ge HI560.out) | refine below_set ?_ (IsS90.ge HI562.out)) | exact HB.out)⟩⟩
   case round =>
    clear H'
    try clear c1
    try clear c2
    try clear p2
    try clear c3
    try clear c5
    try clear c8
    try clear c9
    try clear c11
    obtain ⟨x5_1, x561000_1, x563000_1, rfl, HA, HK1, HI560, HI562, HB⟩ := hrel
    cases gk with
    | zero => exact absurd HA.out (by simp [nunciolaw13_PackBack.l0])
    | succ k1 =>
     have H := HA.out
     clear HA
     simp only [nunciolaw13_PackBack.l0] at H
     by_cases c12 : x5_1 < (l0.length : Int)
     ·
      rw [if_pos c12] at H
      have c12b0 : decide (x5_1 < (l0.length : Int)) = true := decide_eq_true c12
      clear c12
      by_cases c13 : 0 ≤ x5_1
      ·
       rw [if_pos c13] at H
       have c13b0 : decide (0 ≤ x5_1) = true := decide_eq_true c13
       clear c13
       obtain ⟨bq14, hbq14⟩ : ∃ b_ : Bool, b_ = ((rd_T44 l0 x5_1).f0) := ⟨_, rfl⟩
       replace H : (if bq14 = true then ((pack_Encoder_Limit.f x561000_1 ((rd_T44 l0 x5_1).f1)).bind fun t565 => (nunciolaw13_PackBack.l0 k1 l0 (wrap64 (x5_1 + 1)) t565 x563000_1)) else (if (((rd_T44 l0 x5_1).f2).length : Int) > 64 then (some true) else ((pack_Encoder_Write.f k1 x561000_1 ((rd_T44 l0 x5_1).f2)).bind fun bt566 => ((unpack_Decoder_Read.f k1 x563000_1 bt566.1).bind fun bt568 => ((pack_Encoder_Table.f bt566.2).bind fun t573 => ((unpack_Decoder_Table.f bt568.2.2).bind fun t575 => (if bt568.2.1 = 0 then ((nuncioref12_Same.f k1 bt568.1 ((rd_T44 l0 x5_1).f2)).bind fun t577 => (if t577 = true then ((table_Table_Len.f t573).bind fun t578 => ((table_Table_Len.f t575).bind fun t579 => (if t578 = t579 then ((table_Table_Size.f t573).bind fun t580 => ((table_Table_Size.f t575).bind fun t581 => (if t580 = t581 then ((table_Table_Most.f t573).bind fun t582 => ((table_Table_Most.f t575).bind fun t583 => (nunciolaw13_PackBack.j1 k1 l0 x5_1 (t582 != t583) bt566.2 bt568.2.2 t573 t575))) else (nunciolaw13_PackBack.j1 k1 l0 x5_1 true bt566.2 bt568.2.2 t573 t575)))) else (nunciolaw13_PackBack.j1 k1 l0 x5_1 true bt566.2 bt568.2.2 t573 t575)))) else (nunciolaw13_PackBack.j1 k1 l0 x5_1 true bt566.2 bt568.2.2 t573 t575))) else (nunciolaw13_PackBack.j1 k1 l0 x5_1 true bt566.2 bt568.2.2 t573 t575)))))))) = some r := by rw [← hbq14] at H; exact H
       have Nbq14 := Aside0.mk hbq14
       clear hbq14
       by_cases c15 : bq14 = true
       ·
        subst c15
        have H1 : ((pack_Encoder_Limit.f x561000_1 ((rd_T44 l0 x5_1).f1)).bind fun t565 => (nunciolaw13_PackBack.l0 k1 l0 (wrap64 (x5_1 + 1)) t565 x563000_1)) = some r := by rw [if_pos rfl] at H; exact H
        clear H
        have H := H1
        clear H1
        replace H := Option.bind_eq_some_iff.mp H
        obtain ⟨t565, A160, H⟩ := H
        replace H : (nunciolaw13_PackBack.l0 k1 l0 (wrap64 (x5_1 + 1)) t565 x563000_1) = some r := H
        have A16 := Aside0.mk A160
        clear A160
        have H' := Aside0.mk H
        clear H
        have p563 : 0 ≤ (x5_1 : Int) := of_decide_eq_true (by first | (with_reducible assumption) | assumption)
        have q563 : x5_1 < (l0.length : Int) := of_decide_eq_true (by first | (with_reducible assumption) | assumption)
        obtain ⟨ad563, A563_2, c563_2, e563, hx563_0, hx563_1, hx563_2, hl563_2, hi563_2⟩ := at_T44 HR0.out x5_1 p563 q563
        (try rw [← Nbq14.out] at hx563_0)
        cases e563
        replace hx563_0 := (HB.out.cell (World.block_lt_of_cell? w _ hx563_0)).trans hx563_0
        replace hx563_1 := (HB.out.cell (World.block_lt_of_cell? w _ hx563_1)).trans hx563_1
        replace hx563_2 := (HB.out.cell (World.block_lt_of_cell? w _ hx563_2)).trans hx563_2
        have HR563_2 := Aside0.mk hi563_2
        have HC563_2 := Aside0.mk hl563_2
        clear hi563_2 hl563_2
        replace p563 := eq_true p563
        replace q563 := eq_true q563
        go_wp2_with (first | ((with_reducible refine gate_dst (N := 6) rfl ?_); refine box_event ?hg (N := 6) ?hd (cs := #[.bool false, .int .u32 0, .slice none 0 0]) (t := 44) ?hr ?_; (case hd => rfl); (case hg => rfl); (case hr => first | (go_simp; done) | (go_simp; rfl)); intro gb564 hg w17 hbox hb; have n0_ := Aside0.mk (IsS70.below (by repeat (first | (with_reducible first | exact HI560.out | apply IsS70.alloc | apply IsS70.drewN | apply IsS70.drew) | exact HI560.out)) hb); have n1_ := Aside0.mk (IsS90.below (by repeat (first | (with_reducible first | exact HI562.out | apply IsS90.alloc | apply IsS90.drewN | apply IsS90.drew) | exact HI562.out)) hb); have n2_ := Aside0.mk (below_step (by repeat (first | (with_reducible first | exact HB.out | apply below_alloc | apply pw_below_drewN | apply below_drew1 | refine below_set ?_ (IsS70.ge HI560.out) | refine below_set ?_ (IsS90.ge HI562.out)) | exact HB.out)) hb); have n3_ := Aside0.mk (hbox); have n4_ := Aside0.mk ((by rw [hg]; exact (below_size (by repeat (first | (with_reducible first | exact HB.out | apply below_alloc | apply pw_below_drewN | apply below_drew1 | refine below_set ?_ (IsS70.ge HI560.out) | refine below_set ?_ (IsS90.ge HI562.out)) | exact HB.out))) : w.heap.size ≤ gb564)); have n5_ := Aside0.mk ((by rw [hg]; exact (below_size (by repeat (first | (with_reducible first | exact HB.out | apply below_alloc | apply pw_below_drewN | apply below_drew1 | refine below_set ?_ (IsS70.ge HI560.out) | refine below_set ?_ (IsS90.ge HI562.out)) | exact HB.out))) : w.heap.size ≤ gb564)); have n6_ := Aside0.mk ((by rw [hg]; exact Nat.ne_of_lt (IsS70.lt (show IsS70 w _ g560 x561000_1 from by repeat (first | (with_reducible first | exact HI560.out | apply IsS70.alloc | apply IsS70.drewN | apply IsS70.drew) | exact HI560.out))) : g560 ≠ gb564)); have n7_ := Aside0.mk ((by rw [hg]; exact Nat.ne_of_gt (IsS70.lt (show IsS70 w _ g560 x561000_1 from by repeat (first | (with_reducible first | exact HI560.out | apply IsS70.alloc | apply IsS70.drewN | apply IsS70.drew) | exact HI560.out))) : gb564 ≠ g560)); have n8_ := Aside0.mk ((by rw [hg]; exact Nat.ne_of_lt (IsS90.lt (show IsS90 w _ g562 x563000_1 from by repeat (first | (with_reducible first | exact HI562.out | apply IsS90.alloc | apply IsS90.drewN | apply IsS90.drew) | exact HI562.out))) : g562 ≠ gb564)); have n9_ := Aside0.mk ((by rw [hg]; exact Nat.ne_of_gt (IsS90.lt (show IsS90 w _ g562 x563000_1 from by repeat (first | (with_reducible first | exact HI562.out | apply IsS90.alloc | apply IsS90.drewN | apply IsS90.drew) | exact HI562.out))) : gb564 ≠ g562)); clear HI560; clear HI562; clear HB; have HI560 := n0_; have HI562 := n1_; have HB := n2_; have BK564 := n3_; have GW564 := n4_; have GE564 := n5_; have NB560_564 := n6_; have NB564_560 := n7_; have NB562_564 := n8_; have NB564_562 := n9_; clear n0_ n1_ n2_ n3_ n4_ n5_ n6_ n7_ n8_ n9_; clear hb hbox hg; have hnb18 := NB564_560.out; have hnc18 := NB560_564.out; have hnb19 := NB564_562.out; have hnc19 := NB562_564.out; have hcz20_0 : w17.cell? ⟨gb564, 0, none⟩ = some (.bool false) := (blk_cell BK564.out 0).trans rfl; have hcz20_1 : w17.cell? ⟨gb564, 1, none⟩ = some (.int .u32 0) := (blk_cell BK564.out 1).trans rfl; have hcz20_2 : w17.cell? ⟨gb564, 2, none⟩ = some (.slice none 0 0) := (blk_cell BK564.out 2).trans rfl; have hfz20_0 := blk_frozen BK564.out 0; have hfz20_1 := blk_frozen BK564.out 1; have hfz20_2 := blk_frozen BK564.out 2) | ((with_reducible refine gate_callee (f := 17) rfl ?_); refine goesL_ (some 40) rfl rfl Tryd.func17 (by kernel_rfl) rfl #[.pointer (some ⟨g560, 0, none⟩), .int .u32 ((rd_T44 l0 x5_1).f1)] rfl (by (try simp only [List.map_toArray, List.map_cons, List.map_nil]); first | done | rfl | (simp only [List.length_drop, List.length_take]; rfl)) ?_; (with_reducible refine (pack_Encoder_Limit.calls g560 x561000_1 ((rd_T44 l0 x5_1).f1) t565 w _ ?side1 ?side2 A16.out).mono ?_); (case side1 => repeat (first | (with_reducible first | exact HI560.out | apply IsS70.alloc | apply IsS70.drewN | apply IsS70.drew | refine IsS70.farT ?_ (by repeat (first | exact TyOf.mk BK564.out | apply TyOf.alloc | apply TyOf.drewN | apply TyOf.drew | apply TyOf.set)) (by decide) _) | exact HI560.out)); (case side2 => repeat (first | (with_reducible first | exact HB.out | apply below_alloc | apply pw_below_drewN | apply below_drew1 | refine below_set ?_ (IsS70.ge HI560.out) | refine below_set ?_ (IsS90.ge HI562.out) | refine below_set ?_ GE564.out) | exact HB.out)); rintro e w21 ⟨rfl, hi, hb, hk⟩; refine ⟨_, rfl, ?_⟩; have n0_ := Aside0.mk (IsS90.other70 (show IsS90 w _ g562 x563000_1 from by repeat (first | (with_reducible first | exact HI562.out | apply IsS90.alloc | apply IsS90.drewN | apply IsS90.drew | refine IsS90.farT ?_ (by repeat (first | exact TyOf.mk BK564.out | apply TyOf.alloc | apply TyOf.drewN | apply TyOf.drew | apply TyOf.set)) (by decide) _) | exact HI562.out)) (show IsS70 w _ g560 x561000_1 from by repeat (first | (with_reducible first | exact HI560.out | apply IsS70.alloc | apply IsS70.drewN | apply IsS70.drew | refine IsS70.farT ?_ (by repeat (first | exact TyOf.mk BK564.out | apply TyOf.alloc | apply TyOf.drewN | apply TyOf.drew | apply TyOf.set)) (by decide) _) | exact HI560.out)) hk NB562_560.out); have n1_ := Aside0.mk (IsS70.blkK hk (show IsS70 w _ g560 x561000_1 from by repeat (first | (with_reducible first | exact HI560.out | apply IsS70.alloc | apply IsS70.drewN | apply IsS70.drew | refine IsS70.farT ?_ (by repeat (first | exact TyOf.mk BK564.out | apply TyOf.alloc | apply TyOf.drewN | apply TyOf.drew | apply TyOf.set)) (by decide) _) | exact HI560.out)) (g' := gb564) (o := .cells #[.bool true, .int .u32 ((rd_T44 l0 x5_1).f1), .slice A563_2 ((rd_T44 l0 x5_1).f2).length c563_2] 44 (0, 0)) (by (with_reducible repeat (first | refine blk_drewN ?_ _ | refine blk_drew ?_ | refine blk_alloc ?_ _)); refine blk_put (cs := #[.bool true, .int .u32 ((rd_T44 l0 x5_1).f1), .slice none 0 0]) ?_ 2 _ rfl; (with_reducible repeat (first | refine blk_drewN ?_ _ | refine blk_drew ?_ | refine blk_alloc ?_ _)); refine blk_put (cs := #[.bool true, .int .u32 0, .slice none 0 0]) ?_ 1 _ rfl; (with_reducible repeat (first | refine blk_drewN ?_ _ | refine blk_drew ?_ | refine blk_alloc ?_ _)); refine blk_put (cs := #[.bool false, .int .u32 0, .slice none 0 0]) ?_ 0 _ rfl; (with_reducible repeat (first | refine blk_drewN ?_ _ | refine blk_drew ?_ | refine blk_alloc ?_ _)); exact BK564.out) NB564_560.out rfl (by decide)); have n2_ := Aside0.mk (hb); have n3_ := Aside0.mk (hi); clear HI562; clear BK564; clear HB; clear HI560; have HI562 := n0_; have BK564 := n1_; have HB := n2_; have HI560 := n3_; clear n0_ n1_ n2_ n3_; (try clear hb); (try clear hb2); (try clear hk); (try clear hi)))
        go_roundg k1
        case measure => have := HK1.out; omega
        case rel => exact ⟨(wrap64 (x5_1 + 1)), (t565), (x563000_1), (by first | rfl | (simp; done) | (simp [*]; done)), H', ⟨by have := HK1.out; omega⟩, ⟨by repeat (first | (with_reducible first | exact HI560.out | apply IsS70.alloc | apply IsS70.drewN | apply IsS70.drew | refine IsS70.farT ?_ (by repeat (first | exact TyOf.mk BK564.out | apply TyOf.alloc | apply TyOf.drewN | apply TyOf.drew | apply TyOf.set)) (by decide) _) | exact HI560.out)⟩, ⟨by repeat (first | (with_reducible first | exact HI562.out | apply IsS90.alloc | apply IsS90.drewN | apply IsS90.drew | refine IsS90.farT ?_ (by repeat (first | exact TyOf.mk BK564.out | apply TyOf.alloc | apply TyOf.drewN | apply TyOf.drew | apply TyOf.set)) (by decide) _) | exact HI562.out)⟩, ⟨by repeat (first | (with_reducible first | exact HB.out | apply below_alloc | apply pw_below_drewN | apply below_drew1 | refine below_set ?_ (IsS70.ge HI560.out) | refine below_set ?_ (IsS90.ge HI562.out) | refine below_set ?_ GE564.out) | exact HB.out)⟩⟩
       ·
        replace c15 := Bool.eq_false_iff.mpr c15
        subst c15
        have H1 : (if (((rd_T44 l0 x5_1).f2).length : Int) > 64 then (some true) else ((pack_Encoder_Write.f k1 x561000_1 ((rd_T44 l0 x5_1).f2)).bind fun bt566 => ((unpack_Decoder_Read.f k1 x563000_1 bt566.1).bind fun bt568 => ((pack_Encoder_Table.f bt566.2).bind fun t573 => ((unpack_Decoder_Table.f bt568.2.2).bind fun t575 => (if bt568.2.1 = 0 then ((nuncioref12_Same.f k1 bt568.1 ((rd_T44 l0 x5_1).f2)).bind fun t577 => (if t577 = true then ((table_Table_Len.f t573).bind fun t578 => ((table_Table_Len.f t575).bind fun t579 => (if t578 = t579 then ((table_Table_Size.f t573).bind fun t580 => ((table_Table_Size.f t575).bind fun t581 => (if t580 = t581 then ((table_Table_Most.f t573).bind fun t582 => ((table_Table_Most.f t575).bind fun t583 => (nunciolaw13_PackBack.j1 k1 l0 x5_1 (t582 != t583) bt566.2 bt568.2.2 t573 t575))) else (nunciolaw13_PackBack.j1 k1 l0 x5_1 true bt566.2 bt568.2.2 t573 t575)))) else (nunciolaw13_PackBack.j1 k1 l0 x5_1 true bt566.2 bt568.2.2 t573 t575)))) else (nunciolaw13_PackBack.j1 k1 l0 x5_1 true bt566.2 bt568.2.2 t573 t575))) else (nunciolaw13_PackBack.j1 k1 l0 x5_1 true bt566.2 bt568.2.2 t573 t575))))))) = some r := by rw [if_neg (show ¬ (false = true) by decide)] at H; exact H
        clear H
        have H := H1
        clear H1
        by_cases c22 : (((rd_T44 l0 x5_1).f2).length : Int) > 64
        ·
         rw [if_pos c22] at H
         have c22b0 : decide (64 < (((rd_T44 l0 x5_1).f2).length : Int)) = true := decide_eq_true c22
         have c22b1 : decide (64 < ((rd_T44 l0 x5_1).f2).length) = true := decide_eq_true (by omega)
         clear c22
         obtain rfl := Option.some.inj H
         have p563 : 0 ≤ (x5_1 : Int) := of_decide_eq_true (by first | (with_reducible assumption) | assumption)
         have q563 : x5_1 < (l0.length : Int) := of_decide_eq_true (by first | (with_reducible assumption) | assumption)
         obtain ⟨ad563, A563_2, c563_2, e563, hx563_0, hx563_1, hx563_2, hl563_2, hi563_2⟩ := at_T44 HR0.out x5_1 p563 q563
         (try rw [← Nbq14.out] at hx563_0)
         cases e563
         replace hx563_0 := (HB.out.cell (World.block_lt_of_cell? w _ hx563_0)).trans hx563_0
         replace hx563_1 := (HB.out.cell (World.block_lt_of_cell? w _ hx563_1)).trans hx563_1
         replace hx563_2 := (HB.out.cell (World.block_lt_of_cell? w _ hx563_2)).trans hx563_2
         have HR563_2 := Aside0.mk hi563_2
         have HC563_2 := Aside0.mk hl563_2
         clear hi563_2 hl563_2
         replace p563 := eq_true p563
         replace q563 := eq_true q563
         go_wp2_with (first | ((with_reducible refine gate_dst (N := 6) rfl ?_); refine box_event ?hg (N := 6) ?hd (cs := #[.bool false, .int .u32 0, .slice none 0 0]) (t := 44) ?hr ?_; (case hd => rfl); (case hg => rfl); (case hr => first | (go_simp; done) | (go_simp; rfl)); intro gb564 hg w23 hbox hb; have n0_ := Aside0.mk (IsS70.below (by repeat (first | (with_reducible first | exact HI560.out | apply IsS70.alloc | apply IsS70.drewN | apply IsS70.drew) | exact HI560.out)) hb); have n1_ := Aside0.mk (IsS90.below (by repeat (first | (with_reducible first | exact HI562.out | apply IsS90.alloc | apply IsS90.drewN | apply IsS90.drew) | exact HI562.out)) hb); have n2_ := Aside0.mk (below_step (by repeat (first | (with_reducible first | exact HB.out | apply below_alloc | apply pw_below_drewN | apply below_drew1 | refine below_set ?_ (IsS70.ge HI560.out) | refine below_set ?_ (IsS90.ge HI562.out)) | exact HB.out)) hb); have n3_ := Aside0.mk (hbox); have n4_ := Aside0.mk ((by rw [hg]; exact (below_size (by repeat (first | (with_reducible first | exact HB.out | apply below_alloc | apply pw_below_drewN | apply below_drew1 | refine below_set ?_ (IsS70.ge HI560.out) | refine below_set ?_ (IsS90.ge HI562.out)) | exact HB.out))) : w.heap.size ≤ gb564)); have n5_ := Aside0.mk ((by rw [hg]; exact (below_size (by repeat (first | (with_reducible first | exact HB.out | apply below_alloc | apply pw_below_drewN | apply below_drew1 | refine below_set ?_ (IsS70.ge HI560.out) | refine below_set ?_ (IsS90.ge HI562.out)) | exact HB.out))) : w.heap.size ≤ gb564)); have n6_ := Aside0.mk ((by rw [hg]; exact Nat.ne_of_lt (IsS70.lt (show IsS70 w _ g560 x561000_1 from by repeat (first | (with_reducible first | exact HI560.out | apply IsS70.alloc | apply IsS70.drewN | apply IsS70.drew) | exact HI560.out))) : g560 ≠ gb564)); have n7_ := Aside0.mk ((by rw [hg]; exact Nat.ne_of_gt (IsS70.lt (show IsS70 w _ g560 x561000_1 from by repeat (first | (with_reducible first | exact HI560.out | apply IsS70.alloc | apply IsS70.drewN | apply IsS70.drew) | exact HI560.out))) : gb564 ≠ g560)); have n8_ := Aside0.mk ((by rw [hg]; exact Nat.ne_of_lt (IsS90.lt (show IsS90 w _ g562 x563000_1 from by repeat (first | (with_reducible first | exact HI562.out | apply IsS90.alloc | apply IsS90.drewN | apply IsS90.drew) | exact HI562.out))) : g562 ≠ gb564)); have n9_ := Aside0.mk ((by rw [hg]; exact Nat.ne_of_gt (IsS90.lt (show IsS90 w _ g562 x563000_1 from by repeat (first | (with_reducible first | exact HI562.out | apply IsS90.alloc | apply IsS90.drewN | apply IsS90.drew) | exact HI562.out))) : gb564 ≠ g562)); clear HI560; clear HI562; clear HB; have HI560 := n0_; have HI562 := n1_; have HB := n2_; have BK564 := n3_; have GW564 := n4_; have GE564 := n5_; have NB560_564 := n6_; have NB564_560 := n7_; have NB562_564 := n8_; have NB564_562 := n9_; clear n0_ n1_ n2_ n3_ n4_ n5_ n6_ n7_ n8_ n9_; clear hb hbox hg; have hnb24 := NB564_560.out; have hnc24 := NB560_564.out; have hnb25 := NB564_562.out; have hnc25 := NB562_564.out; have hcz26_0 : w23.cell? ⟨gb564, 0, none⟩ = some (.bool false) := (blk_cell BK564.out 0).trans rfl; have hcz26_1 : w23.cell? ⟨gb564, 1, none⟩ = some (.int .u32 0) := (blk_cell BK564.out 1).trans rfl; have hcz26_2 : w23.cell? ⟨gb564, 2, none⟩ = some (.slice none 0 0) := (blk_cell BK564.out 2).trans rfl; have hfz26_0 := blk_frozen BK564.out 0; have hfz26_1 := blk_frozen BK564.out 1; have hfz26_2 := blk_frozen BK564.out 2))
         go_ret
         exact ⟨by first | rfl | (simp [errW_none, errW_some] <;> rfl) | (simp [*, errW_none, errW_some] <;> rfl), by repeat (first | (with_reducible first | exact HB.out | apply below_alloc | apply pw_below_drewN | apply below_drew1 | refine below_set ?_ (IsS70.ge HI560.out) | refine below_set ?_ (IsS90.ge HI562.out) | refine below_set ?_ GE564.out) | exact HB.out)⟩
        ·
         rw [if_neg c22] at H
         have c22b0 : decide (64 < (((rd_T44 l0 x5_1).f2).length : Int)) = false := decide_eq_false c22
         have c22b1 : decide (64 < ((rd_T44 l0 x5_1).f2).length) = false := decide_eq_false (by omega)
         clear c22
         replace H := Option.bind_eq_some_iff.mp H
         obtain ⟨⟨t566, t567⟩, A270, H⟩ := H
         replace H : ((unpack_Decoder_Read.f k1 x563000_1 t566).bind fun bt568 => ((pack_Encoder_Table.f t567).bind fun t573 => ((unpack_Decoder_Table.f bt568.2.2).bind fun t575 => (if bt568.2.1 = 0 then ((nuncioref12_Same.f k1 bt568.1 ((rd_T44 l0 x5_1).f2)).bind fun t577 => (if t577 = true then ((table_Table_Len.f t573).bind fun t578 => ((table_Table_Len.f t575).bind fun t579 => (if t578 = t579 then ((table_Table_Size.f t573).bind fun t580 => ((table_Table_Size.f t575).bind fun t581 => (if t580 = t581 then ((table_Table_Most.f t573).bind fun t582 => ((table_Table_Most.f t575).bind fun t583 => (nunciolaw13_PackBack.j1 k1 l0 x5_1 (t582 != t583) t567 bt568.2.2 t573 t575))) else (nunciolaw13_PackBack.j1 k1 l0 x5_1 true t567 bt568.2.2 t573 t575)))) else (nunciolaw13_PackBack.j1 k1 l0 x5_1 true t567 bt568.2.2 t573 t575)))) else (nunciolaw13_PackBack.j1 k1 l0 x5_1 true t567 bt568.2.2 t573 t575))) else (nunciolaw13_PackBack.j1 k1 l0 x5_1 true t567 bt568.2.2 t573 t575))))) = some r := H
         have A27 := Aside0.mk A270
         clear A270
         replace H := Option.bind_eq_some_iff.mp H
         obtain ⟨⟨t568, t571, t572⟩, A280, H⟩ := H
         replace H : ((pack_Encoder_Table.f t567).bind fun t573 => ((unpack_Decoder_Table.f t572).bind fun t575 => (if t571 = 0 then ((nuncioref12_Same.f k1 t568 ((rd_T44 l0 x5_1).f2)).bind fun t577 => (if t577 = true then ((table_Table_Len.f t573).bind fun t578 => ((table_Table_Len.f t575).bind fun t579 => (if t578 = t579 then ((table_Table_Size.f t573).bind fun t580 => ((table_Table_Size.f t575).bind fun t581 => (if t580 = t581 then ((table_Table_Most.f t573).bind fun t582 => ((table_Table_Most.f t575).bind fun t583 => (nunciolaw13_PackBack.j1 k1 l0 x5_1 (t582 != t583) t567 t572 t573 t575))) else (nunciolaw13_PackBack.j1 k1 l0 x5_1 true t567 t572 t573 t575)))) else (nunciolaw13_PackBack.j1 k1 l0 x5_1 true t567 t572 t573 t575)))) else (nunciolaw13_PackBack.j1 k1 l0 x5_1 true t567 t572 t573 t575))) else (nunciolaw13_PackBack.j1 k1 l0 x5_1 true t567 t572 t573 t575)))) = some r := H
         have A28 := Aside0.mk A280
         clear A280
         replace H := Option.bind_eq_some_iff.mp H
         obtain ⟨t573, A290, H⟩ := H
         replace H : ((unpack_Decoder_Table.f t572).bind fun t575 => (if t571 = 0 then ((nuncioref12_Same.f k1 t568 ((rd_T44 l0 x5_1).f2)).bind fun t577 => (if t577 = true then ((table_Table_Len.f t573).bind fun t578 => ((table_Table_Len.f t575).bind fun t579 => (if t578 = t579 then ((table_Table_Size.f t573).bind fun t580 => ((table_Table_Size.f t575).bind fun t581 => (if t580 = t581 then ((table_Table_Most.f t573).bind fun t582 => ((table_Table_Most.f t575).bind fun t583 => (nunciolaw13_PackBack.j1 k1 l0 x5_1 (t582 != t583) t567 t572 t573 t575))) else (nunciolaw13_PackBack.j1 k1 l0 x5_1 true t567 t572 t573 t575)))) else (nunciolaw13_PackBack.j1 k1 l0 x5_1 true t567 t572 t573 t575)))) else (nunciolaw13_PackBack.j1 k1 l0 x5_1 true t567 t572 t573 t575))) else (nunciolaw13_PackBack.j1 k1 l0 x5_1 true t567 t572 t573 t575))) = some r := H
         have A29 := Aside0.mk A290
         clear A290
         replace H := Option.bind_eq_some_iff.mp H
         obtain ⟨t575, A300, H⟩ := H
         replace H : (if t571 = 0 then ((nuncioref12_Same.f k1 t568 ((rd_T44 l0 x5_1).f2)).bind fun t577 => (if t577 = true then ((table_Table_Len.f t573).bind fun t578 => ((table_Table_Len.f t575).bind fun t579 => (if t578 = t579 then ((table_Table_Size.f t573).bind fun t580 => ((table_Table_Size.f t575).bind fun t581 => (if t580 = t581 then ((table_Table_Most.f t573).bind fun t582 => ((table_Table_Most.f t575).bind fun t583 => (nunciolaw13_PackBack.j1 k1 l0 x5_1 (t582 != t583) t567 t572 t573 t575))) else (nunciolaw13_PackBack.j1 k1 l0 x5_1 true t567 t572 t573 t575)))) else (nunciolaw13_PackBack.j1 k1 l0 x5_1 true t567 t572 t573 t575)))) else (nunciolaw13_PackBack.j1 k1 l0 x5_1 true t567 t572 t573 t575))) else (nunciolaw13_PackBack.j1 k1 l0 x5_1 true t567 t572 t573 t575)) = some r := H
         have A30 := Aside0.mk A300
         clear A300
         have HC31 := Aside0.mk H
         clear H
         have p563 : 0 ≤ (x5_1 : Int) := of_decide_eq_true (by first | (with_reducible assumption) | assumption)
         have q563 : x5_1 < (l0.length : Int) := of_decide_eq_true (by first | (with_reducible assumption) | assumption)
         obtain ⟨ad563, A563_2, c563_2, e563, hx563_0, hx563_1, hx563_2, hl563_2, hi563_2⟩ := at_T44 HR0.out x5_1 p563 q563
         (try rw [← Nbq14.out] at hx563_0)
         cases e563
         replace hx563_0 := (HB.out.cell (World.block_lt_of_cell? w _ hx563_0)).trans hx563_0
         replace hx563_1 := (HB.out.cell (World.block_lt_of_cell? w _ hx563_1)).trans hx563_1
         replace hx563_2 := (HB.out.cell (World.block_lt_of_cell? w _ hx563_2)).trans hx563_2
         have HR563_2 := Aside0.mk hi563_2
         have HC563_2 := Aside0.mk hl563_2
         clear hi563_2 hl563_2
         replace p563 := eq_true p563
         replace q563 := eq_true q563
         go_upto_region 16 with (first | ((with_reducible refine gate_dst (N := 6) rfl ?_); refine box_event ?hg (N := 6) ?hd (cs := #[.bool false, .int .u32 0, .slice none 0 0]) (t := 44) ?hr ?_; (case hd => rfl); (case hg => rfl); (case hr => first | (go_simp; done) | (go_simp; rfl)); intro gb564 hg w32 hbox hb; have n0_ := Aside0.mk (IsS70.below (by repeat (first | (with_reducible first | exact HI560.out | apply IsS70.alloc | apply IsS70.drewN | apply IsS70.drew) | exact HI560.out)) hb); have n1_ := Aside0.mk (IsS90.below (by repeat (first | (with_reducible first | exact HI562.out | apply IsS90.alloc | apply IsS90.drewN | apply IsS90.drew) | exact HI562.out)) hb); have n2_ := Aside0.mk (below_step (by repeat (first | (with_reducible first | exact HB.out | apply below_alloc | apply pw_below_drewN | apply below_drew1 | refine below_set ?_ (IsS70.ge HI560.out) | refine below_set ?_ (IsS90.ge HI562.out)) | exact HB.out)) hb); have n3_ := Aside0.mk (hbox); have n4_ := Aside0.mk ((by rw [hg]; exact (below_size (by repeat (first | (with_reducible first | exact HB.out | apply below_alloc | apply pw_below_drewN | apply below_drew1 | refine below_set ?_ (IsS70.ge HI560.out) | refine below_set ?_ (IsS90.ge HI562.out)) | exact HB.out))) : w.heap.size ≤ gb564)); have n5_ := Aside0.mk ((by rw [hg]; exact (below_size (by repeat (first | (with_reducible first | exact HB.out | apply below_alloc | apply pw_below_drewN | apply below_drew1 | refine below_set ?_ (IsS70.ge HI560.out) | refine below_set ?_ (IsS90.ge HI562.out)) | exact HB.out))) : w.heap.size ≤ gb564)); have n6_ := Aside0.mk ((by rw [hg]; exact Nat.ne_of_lt (IsS70.lt (show IsS70 w _ g560 x561000_1 from by repeat (first | (with_reducible first | exact HI560.out | apply IsS70.alloc | apply IsS70.drewN | apply IsS70.drew) | exact HI560.out))) : g560 ≠ gb564)); have n7_ := Aside0.mk ((by rw [hg]; exact Nat.ne_of_gt (IsS70.lt (show IsS70 w _ g560 x561000_1 from by repeat (first | (with_reducible first | exact HI560.out | apply IsS70.alloc | apply IsS70.drewN | apply IsS70.drew) | exact HI560.out))) : gb564 ≠ g560)); have n8_ := Aside0.mk ((by rw [hg]; exact Nat.ne_of_lt (IsS90.lt (show IsS90 w _ g562 x563000_1 from by repeat (first | (with_reducible first | exact HI562.out | apply IsS90.alloc | apply IsS90.drewN | apply IsS90.drew) | exact HI562.out))) : g562 ≠ gb564)); have n9_ := Aside0.mk ((by rw [hg]; exact Nat.ne_of_gt (IsS90.lt (show IsS90 w _ g562 x563000_1 from by repeat (first | (with_reducible first | exact HI562.out | apply IsS90.alloc | apply IsS90.drewN | apply IsS90.drew) | exact HI562.out))) : gb564 ≠ g562)); clear HI560; clear HI562; clear HB; have HI560 := n0_; have HI562 := n1_; have HB := n2_; have BK564 := n3_; have GW564 := n4_; have GE564 := n5_; have NB560_564 := n6_; have NB564_560 := n7_; have NB562_564 := n8_; have NB564_562 := n9_; clear n0_ n1_ n2_ n3_ n4_ n5_ n6_ n7_ n8_ n9_; clear hb hbox hg; have hnb33 := NB564_560.out; have hnc33 := NB560_564.out; have hnb34 := NB564_562.out; have hnc34 := NB562_564.out; have hcz35_0 : w32.cell? ⟨gb564, 0, none⟩ = some (.bool false) := (blk_cell BK564.out 0).trans rfl; have hcz35_1 : w32.cell? ⟨gb564, 1, none⟩ = some (.int .u32 0) := (blk_cell BK564.out 1).trans rfl; have hcz35_2 : w32.cell? ⟨gb564, 2, none⟩ = some (.slice none 0 0) := (blk_cell BK564.out 2).trans rfl; have hfz35_0 := blk_frozen BK564.out 0; have hfz35_1 := blk_frozen BK564.out 1; have hfz35_2 := blk_frozen BK564.out 2) | ((with_reducible refine gate_callee (f := 12) rfl ?_); refine goesL_ (some 50) rfl rfl Tryd.func12 (by kernel_rfl) rfl #[.pointer (some ⟨g560, 0, none⟩), .slice A563_2 ((rd_T44 l0 x5_1).f2).length c563_2] rfl (by (try simp only [List.map_toArray, List.map_cons, List.map_nil]); first | done | rfl | (simp only [List.length_drop, List.length_take]; rfl)) ?_; (with_reducible refine (pack_Encoder_Write.calls k1 g560 x561000_1 _ _ ((rd_T44 l0 x5_1).f2) t566 t567 w _ ?side1 ?side2 ?side3 ?side4 A27.out).mono ?_); (case side1 => repeat (first | (with_reducible first | exact HI560.out | apply IsS70.alloc | apply IsS70.drewN | apply IsS70.drew | refine IsS70.farT ?_ (by repeat (first | exact TyOf.mk BK564.out | apply TyOf.alloc | apply TyOf.drewN | apply TyOf.drew | apply TyOf.set)) (by decide) _) | exact HI560.out)); (case side2 => repeat (first | (with_reducible first | exact HB.out | apply below_alloc | apply pw_below_drewN | apply below_drew1 | refine below_set ?_ (IsS70.ge HI560.out) | refine below_set ?_ (IsS90.ge HI562.out) | refine below_set ?_ GE564.out) | exact HB.out)); (case side3 => exact Kd.C_below HR563_2.out (by repeat (first | (with_reducible first | exact HB.out | apply below_alloc | apply pw_below_drewN | apply below_drew1 | refine below_set ?_ (IsS70.ge HI560.out) | refine below_set ?_ (IsS90.ge HI562.out) | refine below_set ?_ GE564.out) | exact HB.out))); (case side4 => exact HC563_2.out); rintro e w36 ⟨rfl, hi, hb, hk⟩; refine ⟨_, rfl, ?_⟩; have n0_ := Aside0.mk (IsS90.other70 (show IsS90 w _ g562 x563000_1 from by repeat (first | (with_reducible first | exact HI562.out | apply IsS90.alloc | apply IsS90.drewN | apply IsS90.drew | refine IsS90.farT ?_ (by repeat (first | exact TyOf.mk BK564.out | apply TyOf.alloc | apply TyOf.drewN | apply TyOf.drew | apply TyOf.set)) (by decide) _) | exact HI562.out)) (show IsS70 w _ g560 x561000_1 from by repeat (first | (with_reducible first | exact HI560.out | apply IsS70.alloc | apply IsS70.drewN | apply IsS70.drew | refine IsS70.farT ?_ (by repeat (first | exact TyOf.mk BK564.out | apply TyOf.alloc | apply TyOf.drewN | apply TyOf.drew | apply TyOf.set)) (by decide) _) | exact HI560.out)) hk NB562_560.out); have n1_ := Aside0.mk (IsS70.blkK hk (show IsS70 w _ g560 x561000_1 from by repeat (first | (with_reducible first | exact HI560.out | apply IsS70.alloc | apply IsS70.drewN | apply IsS70.drew | refine IsS70.farT ?_ (by repeat (first | exact TyOf.mk BK564.out | apply TyOf.alloc | apply TyOf.drewN | apply TyOf.drew | apply TyOf.set)) (by decide) _) | exact HI560.out)) (g' := gb564) (o := .cells #[.bool false, .int .u32 ((rd_T44 l0 x5_1).f1), .slice A563_2 ((rd_T44 l0 x5_1).f2).length c563_2] 44 (0, 0)) (by (with_reducible repeat (first | refine blk_drewN ?_ _ | refine blk_drew ?_ | refine blk_alloc ?_ _)); refine blk_put (cs := #[.bool false, .int .u32 ((rd_T44 l0 x5_1).f1), .slice none 0 0]) ?_ 2 _ rfl; (with_reducible repeat (first | refine blk_drewN ?_ _ | refine blk_drew ?_ | refine blk_alloc ?_ _)); refine blk_put (cs := #[.bool false, .int .u32 0, .slice none 0 0]) ?_ 1 _ rfl; (with_reducible repeat (first | refine blk_drewN ?_ _ | refine blk_drew ?_ | refine blk_alloc ?_ _)); refine blk_put (cs := #[.bool false, .int .u32 0, .slice none 0 0]) ?_ 0 _ rfl; (with_reducible repeat (first | refine blk_drewN ?_ _ | refine blk_drew ?_ | refine blk_alloc ?_ _)); exact BK564.out) NB564_560.out rfl (by decide)); have n2_ := Aside0.mk (hb); have n3_ := Aside0.mk (hi); clear HI562; clear BK564; clear HB; clear HI560; have HI562 := n0_; have BK564 := n1_; have HB := n2_; have HI560 := n3_; clear n0_ n1_ n2_ n3_; (try clear hb); (try clear hb2); (try clear hk); (try clear hi)) | ((with_reducible refine gate_callee (f := 25) rfl ?_); refine goesL_ (some 51) rfl rfl Tryd.func25 (by kernel_rfl) rfl #[.pointer (some ⟨g562, 0, none⟩), .string t566] rfl (by (try simp only [List.map_toArray, List.map_cons, List.map_nil]); first | done | rfl | (simp only [List.length_drop, List.length_take]; rfl)) ?_; (with_reducible refine (unpack_Decoder_Read.calls k1 g562 x563000_1 t566 t568 t571 t572 w _ ?side1 ?side2 A28.out).mono ?_); (case side1 => repeat (first | (with_reducible first | exact HI562.out | apply IsS90.alloc | apply IsS90.drewN | apply IsS90.drew | refine IsS90.farT ?_ (by repeat (first | exact TyOf.mk BK564.out | apply TyOf.alloc | apply TyOf.drewN | apply TyOf.drew | apply TyOf.set)) (by decide) _) | exact HI562.out)); (case side2 => repeat (first | (with_reducible first | exact HB.out | apply below_alloc | apply pw_below_drewN | apply below_drew1 | refine below_set ?_ (IsS70.ge HI560.out) | refine below_set ?_ (IsS90.ge HI562.out) | refine below_set ?_ GE564.out) | exact HB.out)); rintro e w37 ⟨v569, rfl, ho0, hi, hb, hk⟩; refine ⟨_, rfl, ?_⟩; have n0_ := Aside0.mk (IsS70.other90 (show IsS70 w _ g560 t567 from by repeat (first | (with_reducible first | exact HI560.out | apply IsS70.alloc | apply IsS70.drewN | apply IsS70.drew | refine IsS70.farT ?_ (by repeat (first | exact TyOf.mk BK564.out | apply TyOf.alloc | apply TyOf.drewN | apply TyOf.drew | apply TyOf.set)) (by decide) _) | exact HI560.out)) (show IsS90 w _ g562 x563000_1 from by repeat (first | (with_reducible first | exact HI562.out | apply IsS90.alloc | apply IsS90.drewN | apply IsS90.drew | refine IsS90.farT ?_ (by repeat (first | exact TyOf.mk BK564.out | apply TyOf.alloc | apply TyOf.drewN | apply TyOf.drew | apply TyOf.set)) (by decide) _) | exact HI562.out)) hk NB560_562.out); have n1_ := Aside0.mk (IsS90.blkK hk (show IsS90 w _ g562 x563000_1 from by repeat (first | (with_reducible first | exact HI562.out | apply IsS90.alloc | apply IsS90.drewN | apply IsS90.drew | refine IsS90.farT ?_ (by repeat (first | exact TyOf.mk BK564.out | apply TyOf.alloc | apply TyOf.drewN | apply TyOf.drew | apply TyOf.set)) (by decide) _) | exact HI562.out)) (g' := gb564) (o := .cells #[.bool false, .int .u32 ((rd_T44 l0 x5_1).f1), .slice A563_2 ((rd_T44 l0 x5_1).f2).length c563_2] 44 (0, 0)) (by (with_reducible repeat (first | refine blk_drewN ?_ _ | refine blk_drew ?_ | refine blk_alloc ?_ _)); exact BK564.out) NB564_562.out rfl (by decide)); have n2_ := Aside0.mk (Kd.R_lower ho0 (below_size (by repeat (first | (with_reducible first | exact HB.out | apply below_alloc | apply pw_below_drewN | apply below_drew1 | refine below_set ?_ (IsS70.ge HI560.out) | refine below_set ?_ (IsS90.ge HI562.out) | refine below_set ?_ GE564.out) | exact HB.out)))); have n3_ := Aside0.mk (hb); have n4_ := Aside0.mk (hi); clear HI560; clear BK564; clear HB; clear HI562; have HI560 := n0_; have BK564 := n1_; have HO570 := n2_; have HB := n3_; have HI562 := n4_; clear n0_ n1_ n2_ n3_ n4_; (try clear hb); (try clear hb2); (try clear hk); (try clear hi); (try clear ho0)) | ((with_reducible refine gate_callee (f := 13) rfl ?_); refine goesL_ (some 55) rfl rfl Tryd.func13 (by kernel_rfl) rfl #[.pointer (some ⟨g560, 0, none⟩)] rfl (by (try simp only [List.map_toArray, List.map_cons, List.map_nil]); first | done | rfl | (simp only [List.length_drop, List.length_take]; rfl)) ?_; (with_reducible refine (pack_Encoder_Table.calls (w1 := w) g560 t567 t573 _ _ ?side1 (Below.refl _ _) A29.out).mono ?_); (case side1 => repeat (first | (with_reducible first | exact HI560.out | apply IsS70.alloc | apply IsS70.drewN | apply IsS70.drew | refine IsS70.farT ?_ (by repeat (first | exact TyOf.mk BK564.out | apply TyOf.alloc | apply TyOf.drewN | apply TyOf.drew | apply TyOf.set)) (by decide) _) | exact HI560.out)); rintro e w38 ⟨g574, rfl, hi, hb, hb2⟩; refine ⟨_, rfl, ?_⟩; have n0_ := Aside0.mk (Kd.R_below (by (with_reducible repeat (first | apply Kd.R_alloc | apply Kd.R_drewN | apply Kd.R_drew)); exact HO570.out) hb2); have n1_ := Aside0.mk (IsS70.below (by repeat (first | (with_reducible first | exact HI560.out | apply IsS70.alloc | apply IsS70.drewN | apply IsS70.drew | refine IsS70.farT ?_ (by repeat (first | exact TyOf.mk BK564.out | apply TyOf.alloc | apply TyOf.drewN | apply TyOf.drew | apply TyOf.set)) (by decide) _) | exact HI560.out)) hb2); have n2_ := Aside0.mk (IsS90.below (by repeat (first | (with_reducible first | exact HI562.out | apply IsS90.alloc | apply IsS90.drewN | apply IsS90.drew | refine IsS90.farT ?_ (by repeat (first | exact TyOf.mk BK564.out | apply TyOf.alloc | apply TyOf.drewN | apply TyOf.drew | apply TyOf.set)) (by decide) _) | exact HI562.out)) hb2); have n3_ := Aside0.mk (blk_below (g := gb564) (o := .cells #[.bool false, .int .u32 ((rd_T44 l0 x5_1).f1), .slice A563_2 ((rd_T44 l0 x5_1).f2).length c563_2] 44 (0, 0)) (by (with_reducible repeat (first | refine blk_drewN ?_ _ | refine blk_drew ?_ | refine blk_alloc ?_ _)); exact BK564.out) hb2); have n4_ := Aside0.mk (below_step (by repeat (first | (with_reducible first | exact HB.out | apply below_alloc | apply pw_below_drewN | apply below_drew1 | refine below_set ?_ (IsS70.ge HI560.out) | refine below_set ?_ (IsS90.ge HI562.out) | refine below_set ?_ GE564.out) | exact HB.out)) hb2); have n5_ := Aside0.mk ((show IsS77 w w38 g574 t573 from IsS77.rebase hi (below_size (by repeat (first | (with_reducible first | exact HB.out | apply below_alloc | apply pw_below_drewN | apply below_drew1 | refine below_set ?_ (IsS70.ge HI560.out) | refine below_set ?_ (IsS90.ge HI562.out) | refine below_set ?_ GE564.out) | exact HB.out))))); have n6_ := Aside0.mk ((Nat.ne_of_gt (Nat.lt_of_le_of_lt (Nat.sub_le _ _) (Nat.lt_of_lt_of_le (IsS70.lt (show IsS70 w _ g560 t567 from by repeat (first | (with_reducible first | exact HI560.out | apply IsS70.alloc | apply IsS70.drewN | apply IsS70.drew | refine IsS70.farT ?_ (by repeat (first | exact TyOf.mk BK564.out | apply TyOf.alloc | apply TyOf.drewN | apply TyOf.drew | apply TyOf.set)) (by decide) _) | exact HI560.out))) (IsS77.ge hi))) : g574 ≠ g560 - 1)); have n7_ := Aside0.mk ((Nat.ne_of_gt (Nat.lt_of_le_of_lt (Nat.sub_le _ _) (Nat.lt_of_lt_of_le (IsS90.lt (show IsS90 w _ g562 t572 from by repeat (first | (with_reducible first | exact HI562.out | apply IsS90.alloc | apply IsS90.drewN | apply IsS90.drew | refine IsS90.farT ?_ (by repeat (first | exact TyOf.mk BK564.out | apply TyOf.alloc | apply TyOf.drewN | apply TyOf.drew | apply TyOf.set)) (by decide) _) | exact HI562.out))) (IsS77.ge hi))) : g574 ≠ g562 - 1)); have n8_ := Aside0.mk ((Nat.ne_of_lt (Nat.lt_of_lt_of_le (IsS70.lt (show IsS70 w _ g560 t567 from by repeat (first | (with_reducible first | exact HI560.out | apply IsS70.alloc | apply IsS70.drewN | apply IsS70.drew | refine IsS70.farT ?_ (by repeat (first | exact TyOf.mk BK564.out | apply TyOf.alloc | apply TyOf.drewN | apply TyOf.drew | apply TyOf.set)) (by decide) _) | exact HI560.out))) (IsS77.ge hi)) : g560 ≠ g574)); have n9_ := Aside0.mk ((Nat.ne_of_gt (Nat.lt_of_lt_of_le (IsS70.lt (show IsS70 w _ g560 t567 from by repeat (first | (with_reducible first | exact HI560.out | apply IsS70.alloc | apply IsS70.drewN | apply IsS70.drew | refine IsS70.farT ?_ (by repeat (first | exact TyOf.mk BK564.out | apply TyOf.alloc | apply TyOf.drewN | apply TyOf.drew | apply TyOf.set)) (by decide) _) | exact HI560.out))) (IsS77.ge hi)) : g574 ≠ g560)); have n10_ := Aside0.mk ((Nat.ne_of_lt (Nat.lt_of_lt_of_le (IsS90.lt (show IsS90 w _ g562 t572 from by repeat (first | (with_reducible first | exact HI562.out | apply IsS90.alloc | apply IsS90.drewN | apply IsS90.drew | refine IsS90.farT ?_ (by repeat (first | exact TyOf.mk BK564.out | apply TyOf.alloc | apply TyOf.drewN | apply TyOf.drew | apply TyOf.set)) (by decide) _) | exact HI562.out))) (IsS77.ge hi)) : g562 ≠ g574)); have n11_ := Aside0.mk ((Nat.ne_of_gt (Nat.lt_of_lt_of_le (IsS90.lt (show IsS90 w _ g562 t572 from by repeat (first | (with_reducible first | exact HI562.out | apply IsS90.alloc | apply IsS90.drewN | apply IsS90.drew | refine IsS90.farT ?_ (by repeat (first | exact TyOf.mk BK564.out | apply TyOf.alloc | apply TyOf.drewN | apply TyOf.drew | apply TyOf.set)) (by decide) _) | exact HI562.out))) (IsS77.ge hi)) : g574 ≠ g562)); have n12_ := Aside0.mk (IsS77.ne_blk hi (blk_below (g := gb564) (o := .cells #[.bool false, .int .u32 ((rd_T44 l0 x5_1).f1), .slice A563_2 ((rd_T44 l0 x5_1).f2).length c563_2] 44 (0, 0)) (by (with_reducible repeat (first | refine blk_drewN ?_ _ | refine blk_drew ?_ | refine blk_alloc ?_ _)); exact BK564.out) hb2) (by decide)); have n13_ := Aside0.mk (Ne.symm (IsS77.ne_blk hi (blk_below (g := gb564) (o := .cells #[.bool false, .int .u32 ((rd_T44 l0 x5_1).f1), .slice A563_2 ((rd_T44 l0 x5_1).f2).length c563_2] 44 (0, 0)) (by (with_reducible repeat (first | refine blk_drewN ?_ _ | refine blk_drew ?_ | refine blk_alloc ?_ _)); exact BK564.out) hb2) (by decide))); clear HO570; clear HI560; clear HI562; clear BK564; clear HB; have HO570 := n0_; have HI560 := n1_; have HI562 := n2_; have BK564 := n3_; have HB := n4_; have HI574 := n5_; have NC574_560 := n6_; have NC574_562 := n7_; have NB560_574 := n8_; have NB574_560 := n9_; have NB562_574 := n10_; have NB574_562 := n11_; have NB574_564 := n12_; have NB564_574 := n13_; clear n0_ n1_ n2_ n3_ n4_ n5_ n6_ n7_ n8_ n9_ n10_ n11_ n12_ n13_; (try clear hb); (try clear hb2); (try clear hk); (try clear hi)) | ((with_reducible refine gate_callee (f := 29) rfl ?_); refine goesL_ (some 57) rfl rfl Tryd.func29 (by kernel_rfl) rfl #[.pointer (some ⟨g562, 0, none⟩)] rfl (by (try simp only [List.map_toArray, List.map_cons, List.map_nil]); first | done | rfl | (simp only [List.length_drop, List.length_take]; rfl)) ?_; (with_reducible refine (unpack_Decoder_Table.calls (w1 := w) g562 t572 t575 _ _ ?side1 (Below.refl _ _) A30.out).mono ?_); (case side1 => repeat (first | (with_reducible first | exact HI562.out | apply IsS90.alloc | apply IsS90.drewN | apply IsS90.drew | refine IsS90.farT ?_ (by repeat (first | exact TyOf.mk BK564.out | apply TyOf.alloc | apply TyOf.drewN | apply TyOf.drew | apply TyOf.set)) (by decide) _) | exact HI562.out)); rintro e w39 ⟨g576, rfl, hi, hb, hb2⟩; refine ⟨_, rfl, ?_⟩; have n0_ := Aside0.mk (Kd.R_below (by (with_reducible repeat (first | apply Kd.R_alloc | apply Kd.R_drewN | apply Kd.R_drew)); exact HO570.out) hb2); have n1_ := Aside0.mk (IsS70.below (by repeat (first | (with_reducible first | exact HI560.out | apply IsS70.alloc | apply IsS70.drewN | apply IsS70.drew | refine IsS70.farT ?_ (by repeat (first | exact TyOf.mk BK564.out | apply TyOf.alloc | apply TyOf.drewN | apply TyOf.drew | apply TyOf.set)) (by decide) _) | exact HI560.out)) hb2); have n2_ := Aside0.mk (IsS90.below (by repeat (first | (with_reducible first | exact HI562.out | apply IsS90.alloc | apply IsS90.drewN | apply IsS90.drew | refine IsS90.farT ?_ (by repeat (first | exact TyOf.mk BK564.out | apply TyOf.alloc | apply TyOf.drewN | apply TyOf.drew | apply TyOf.set)) (by decide) _) | exact HI562.out)) hb2); have n3_ := Aside0.mk (blk_below (g := gb564) (o := .cells #[.bool false, .int .u32 ((rd_T44 l0 x5_1).f1), .slice A563_2 ((rd_T44 l0 x5_1).f2).length c563_2] 44 (0, 0)) (by (with_reducible repeat (first | refine blk_drewN ?_ _ | refine blk_drew ?_ | refine blk_alloc ?_ _)); exact BK564.out) hb2); have n4_ := Aside0.mk (IsS77.below (by repeat (first | (with_reducible first | exact HI574.out | apply IsS77.alloc | apply IsS77.drewN | apply IsS77.drew | refine IsS77.farT ?_ (by repeat (first | exact TyOf.mk BK564.out | apply TyOf.alloc | apply TyOf.drewN | apply TyOf.drew | apply TyOf.set)) (by decide) _) | exact HI574.out)) hb2); have n5_ := Aside0.mk (below_step (by repeat (first | (with_reducible first | exact HB.out | apply below_alloc | apply pw_below_drewN | apply below_drew1 | refine below_set ?_ (IsS70.ge HI560.out) | refine below_set ?_ (IsS90.ge HI562.out) | refine below_set ?_ (IsS77.ge HI574.out) | refine below_set ?_ GE564.out) | exact HB.out)) hb2); have n6_ := Aside0.mk ((show IsS77 w w39 g576 t575 from IsS77.rebase hi (below_size (by repeat (first | (with_reducible first | exact HB.out | apply below_alloc | apply pw_below_drewN | apply below_drew1 | refine below_set ?_ (IsS70.ge HI560.out) | refine below_set ?_ (IsS90.ge HI562.out) | refine below_set ?_ (IsS77.ge HI574.out) | refine below_set ?_ GE564.out) | exact HB.out))))); have n7_ := Aside0.mk ((Nat.ne_of_gt (Nat.lt_of_le_of_lt (Nat.sub_le _ _) (Nat.lt_of_lt_of_le (IsS70.lt (show IsS70 w _ g560 t567 from by repeat (first | (with_reducible first | exact HI560.out | apply IsS70.alloc | apply IsS70.drewN | apply IsS70.drew | refine IsS70.farT ?_ (by repeat (first | exact TyOf.mk BK564.out | apply TyOf.alloc | apply TyOf.drewN | apply TyOf.drew | apply TyOf.set)) (by decide) _) | exact HI560.out))) (IsS77.ge hi))) : g576 ≠ g560 - 1)); have n8_ := Aside0.mk ((Nat.ne_of_gt (Nat.lt_of_le_of_lt (Nat.sub_le _ _) (Nat.lt_of_lt_of_le (IsS90.lt (show IsS90 w _ g562 t572 from by repeat (first | (with_reducible first | exact HI562.out | apply IsS90.alloc | apply IsS90.drewN | apply IsS90.drew | refine IsS90.farT ?_ (by repeat (first | exact TyOf.mk BK564.out | apply TyOf.alloc | apply TyOf.drewN | apply TyOf.drew | apply TyOf.set)) (by decide) _) | exact HI562.out))) (IsS77.ge hi))) : g576 ≠ g562 - 1)); have n9_ := Aside0.mk ((Nat.ne_of_lt (Nat.lt_of_lt_of_le (IsS70.lt (show IsS70 w _ g560 t567 from by repeat (first | (with_reducible first | exact HI560.out | apply IsS70.alloc | apply IsS70.drewN | apply IsS70.drew | refine IsS70.farT ?_ (by repeat (first | exact TyOf.mk BK564.out | apply TyOf.alloc | apply TyOf.drewN | apply TyOf.drew | apply TyOf.set)) (by decide) _) | exact HI560.out))) (IsS77.ge hi)) : g560 ≠ g576)); have n10_ := Aside0.mk ((Nat.ne_of_gt (Nat.lt_of_lt_of_le (IsS70.lt (show IsS70 w _ g560 t567 from by repeat (first | (with_reducible first | exact HI560.out | apply IsS70.alloc | apply IsS70.drewN | apply IsS70.drew | refine IsS70.farT ?_ (by repeat (first | exact TyOf.mk BK564.out | apply TyOf.alloc | apply TyOf.drewN | apply TyOf.drew | apply TyOf.set)) (by decide) _) | exact HI560.out))) (IsS77.ge hi)) : g576 ≠ g560)); have n11_ := Aside0.mk ((Nat.ne_of_lt (Nat.lt_of_lt_of_le (IsS90.lt (show IsS90 w _ g562 t572 from by repeat (first | (with_reducible first | exact HI562.out | apply IsS90.alloc | apply IsS90.drewN | apply IsS90.drew | refine IsS90.farT ?_ (by repeat (first | exact TyOf.mk BK564.out | apply TyOf.alloc | apply TyOf.drewN | apply TyOf.drew | apply TyOf.set)) (by decide) _) | exact HI562.out))) (IsS77.ge hi)) : g562 ≠ g576)); have n12_ := Aside0.mk ((Nat.ne_of_gt (Nat.lt_of_lt_of_le (IsS90.lt (show IsS90 w _ g562 t572 from by repeat (first | (with_reducible first | exact HI562.out | apply IsS90.alloc | apply IsS90.drewN | apply IsS90.drew | refine IsS90.farT ?_ (by repeat (first | exact TyOf.mk BK564.out | apply TyOf.alloc | apply TyOf.drewN | apply TyOf.drew | apply TyOf.set)) (by decide) _) | exact HI562.out))) (IsS77.ge hi)) : g576 ≠ g562)); have n13_ := Aside0.mk ((Nat.ne_of_lt (Nat.lt_of_lt_of_le (IsS77.lt (show IsS77 w _ g574 t573 from by repeat (first | (with_reducible first | exact HI574.out | apply IsS77.alloc | apply IsS77.drewN | apply IsS77.drew | refine IsS77.farT ?_ (by repeat (first | exact TyOf.mk BK564.out | apply TyOf.alloc | apply TyOf.drewN | apply TyOf.drew | apply TyOf.set)) (by decide) _) | exact HI574.out))) (IsS77.ge hi)) : g574 ≠ g576)); have n14_ := Aside0.mk ((Nat.ne_of_gt (Nat.lt_of_lt_of_le (IsS77.lt (show IsS77 w _ g574 t573 from by repeat (first | (with_reducible first | exact HI574.out | apply IsS77.alloc | apply IsS77.drewN | apply IsS77.drew | refine IsS77.farT ?_ (by repeat (first | exact TyOf.mk BK564.out | apply TyOf.alloc | apply TyOf.drewN | apply TyOf.drew | apply TyOf.set)) (by decide) _) | exact HI574.out))) (IsS77.ge hi)) : g576 ≠ g574)); have n15_ := Aside0.mk (IsS77.ne_blk hi (blk_below (g := gb564) (o := .cells #[.bool false, .int .u32 ((rd_T44 l0 x5_1).f1), .slice A563_2 ((rd_T44 l0 x5_1).f2).length c563_2] 44 (0, 0)) (by (with_reducible repeat (first | refine blk_drewN ?_ _ | refine blk_drew ?_ | refine blk_alloc ?_ _)); exact BK564.out) hb2) (by decide)); have n16_ := Aside0.mk (Ne.symm (IsS77.ne_blk hi (blk_below (g := gb564) (o := .cells #[.bool false, .int .u32 ((rd_T44 l0 x5_1).f1), .slice A563_2 ((rd_T44 l0 x5_1).f2).length c563_2] 44 (0, 0)) (by (with_reducible repeat (first | refine blk_drewN ?_ _ | refine blk_drew ?_ | refine blk_alloc ?_ _)); exact BK564.out) hb2) (by decide))); clear HO570; clear HI560; clear HI562; clear BK564; clear HI574; clear HB; have HO570 := n0_; have HI560 := n1_; have HI562 := n2_; have BK564 := n3_; have HI574 := n4_; have HB := n5_; have HI576 := n6_; have NC576_560 := n7_; have NC576_562 := n8_; have NB560_576 := n9_; have NB576_560 := n10_; have NB562_576 := n11_; have NB576_562 := n12_; have NB574_576 := n13_; have NB576_574 := n14_; have NB576_564 := n15_; have NB564_576 := n16_; clear n0_ n1_ n2_ n3_ n4_ n5_ n6_ n7_ n8_ n9_ n10_ n11_ n12_ n13_ n14_ n15_ n16_; (try clear hb); (try clear hb2); (try clear hk); (try clear hi)))
         (try simp only [Act.put, List.setIfInBounds_toArray, List.set_cons_zero, List.set_cons_succ])
         go_cut [95] (fun v95 wc => ∃ (kq : Nat) (x95_30 : Bool) (x575000_30 : TB) (x577000_30 : TB), v95 = .bool x95_30 ∧ Aside0 (nunciolaw13_PackBack.j1 kq l0 x5_1 x95_30 t567 t572 x575000_30 x577000_30 = some r) ∧ Aside0 (kq ≤ k1) ∧ Aside0 (wc.heap[gb564]? = some (.cells #[.bool false, .int .u32 ((rd_T44 l0 x5_1).f1), (.slice A563_2 ((rd_T44 l0 x5_1).f2).length c563_2)] 44 (0, 0))) ∧ Aside0 (IsS70 w wc g560 t567) ∧ Aside0 (IsS90 w wc g562 t572) ∧ Aside0 (IsS77 w wc g574 x575000_30) ∧ Aside0 (IsS77 w wc g576 x577000_30) ∧ Aside0 (Below w.heap.size w wc))
         case first =>
          have H := HC31.out
          clear HC31
          by_cases c40 : t571 = 0
          ·
           rw [if_pos c40] at H
           have c40b0 : (t571 == 0) = true := beq_iff_eq.mpr c40
           have c40b1 : (t571 != 0) = false := bne_eq_false_iff_eq.mpr c40
           clear c40
           (first | rw [c40b0] | rw [c40b1] | (simp only [i64_w, i32_w]; rw [c40b0]) | skip)
           replace H := Option.bind_eq_some_iff.mp H
           obtain ⟨t577, A410, H⟩ := H
           replace H : (if t577 = true then ((table_Table_Len.f t573).bind fun t578 => ((table_Table_Len.f t575).bind fun t579 => (if t578 = t579 then ((table_Table_Size.f t573).bind fun t580 => ((table_Table_Size.f t575).bind fun t581 => (if t580 = t581 then ((table_Table_Most.f t573).bind fun t582 => ((table_Table_Most.f t575).bind fun t583 => (nunciolaw13_PackBack.j1 k1 l0 x5_1 (t582 != t583) t567 t572 t573 t575))) else (nunciolaw13_PackBack.j1 k1 l0 x5_1 true t567 t572 t573 t575)))) else (nunciolaw13_PackBack.j1 k1 l0 x5_1 true t567 t572 t573 t575)))) else (nunciolaw13_PackBack.j1 k1 l0 x5_1 true t567 t572 t573 t575)) = some r := H
           have A41 := Aside0.mk A410
           clear A410
           by_cases c42 : t577 = true
           ·
            subst c42
            have H1 : ((table_Table_Len.f t573).bind fun t578 => ((table_Table_Len.f t575).bind fun t579 => (if t578 = t579 then ((table_Table_Size.f t573).bind fun t580 => ((table_Table_Size.f t575).bind fun t581 => (if t580 = t581 then ((table_Table_Most.f t573).bind fun t582 => ((table_Table_Most.f t575).bind fun t583 => (nunciolaw13_PackBack.j1 k1 l0 x5_1 (t582 != t583) t567 t572 t573 t575))) else (nunciolaw13_PackBack.j1 k1 l0 x5_1 true t567 t572 t573 t575)))) else (nunciolaw13_PackBack.j1 k1 l0 x5_1 true t567 t572 t573 t575)))) = some r := by rw [if_pos rfl] at H; exact H
            clear H
            have H := H1
            clear H1
            replace H := Option.bind_eq_some_iff.mp H
            obtain ⟨t578, A430, H⟩ := H
            replace H : ((table_Table_Len.f t575).bind fun t579 => (if t578 = t579 then ((table_Table_Size.f t573).bind fun t580 => ((table_Table_Size.f t575).bind fun t581 => (if t580 = t581 then ((table_Table_Most.f t573).bind fun t582 => ((table_Table_Most.f t575).bind fun t583 => (nunciolaw13_PackBack.j1 k1 l0 x5_1 (t582 != t583) t567 t572 t573 t575))) else (nunciolaw13_PackBack.j1 k1 l0 x5_1 true t567 t572 t573 t575)))) else (nunciolaw13_PackBack.j1 k1 l0 x5_1 true t567 t572 t573 t575))) = some r := H
            have A43 := Aside0.mk A430
            clear A430
            replace H := Option.bind_eq_some_iff.mp H
            obtain ⟨t579, A440, H⟩ := H
            replace H : (if t578 = t579 then ((table_Table_Size.f t573).bind fun t580 => ((table_Table_Size.f t575).bind fun t581 => (if t580 = t581 then ((table_Table_Most.f t573).bind fun t582 => ((table_Table_Most.f t575).bind fun t583 => (nunciolaw13_PackBack.j1 k1 l0 x5_1 (t582 != t583) t567 t572 t573 t575))) else (nunciolaw13_PackBack.j1 k1 l0 x5_1 true t567 t572 t573 t575)))) else (nunciolaw13_PackBack.j1 k1 l0 x5_1 true t567 t572 t573 t575)) = some r := H
            have A44 := Aside0.mk A440
            clear A440
            by_cases c45 : t578 = t579
            ·
             rw [if_pos c45] at H
             have c45b0 : (t578 == t579) = true := beq_iff_eq.mpr c45
             have c45b1 : (t578 != t579) = false := bne_eq_false_iff_eq.mpr c45
             clear c45
             replace H := Option.bind_eq_some_iff.mp H
             obtain ⟨t580, A460, H⟩ := H
             replace H : ((table_Table_Size.f t575).bind fun t581 => (if t580 = t581 then ((table_Table_Most.f t573).bind fun t582 => ((table_Table_Most.f t575).bind fun t583 => (nunciolaw13_PackBack.j1 k1 l0 x5_1 (t582 != t583) t567 t572 t573 t575))) else (nunciolaw13_PackBack.j1 k1 l0 x5_1 true t567 t572 t573 t575))) = some r := H
             have A46 := Aside0.mk A460
             clear A460
             replace H := Option.bind_eq_some_iff.mp H
             obtain ⟨t581, A470, H⟩ := H
             replace H : (if t580 = t581 then ((table_Table_Most.f t573).bind fun t582 => ((table_Table_Most.f t575).bind fun t583 => (nunciolaw13_PackBack.j1 k1 l0 x5_1 (t582 != t583) t567 t572 t573 t575))) else (nunciolaw13_PackBack.j1 k1 l0 x5_1 true t567 t572 t573 t575)) = some r := H
             have A47 := Aside0.mk A470
             clear A470
             by_cases c48 : t580 = t581
             ·
              rw [if_pos c48] at H
              have c48b0 : (t580 == t581) = true := beq_iff_eq.mpr c48
              have c48b1 : (t580 != t581) = false := bne_eq_false_iff_eq.mpr c48
              clear c48
              replace H := Option.bind_eq_some_iff.mp H
              obtain ⟨t582, A490, H⟩ := H
              replace H : ((table_Table_Most.f t575).bind fun t583 => (nunciolaw13_PackBack.j1 k1 l0 x5_1 (t582 != t583) t567 t572 t573 t575)) = some r := H
              have A49 := Aside0.mk A490
              clear A490
              replace H := Option.bind_eq_some_iff.mp H
              obtain ⟨t583, A500, H⟩ := H
              replace H : (nunciolaw13_PackBack.j1 k1 l0 x5_1 (t582 != t583) t567 t572 t573 t575) = some r := H
              have A50 := Aside0.mk A500
              clear A500
              have H' := Aside0.mk H
              clear H
              have hnb51 := NB564_560.out
              have hnc51 := NB560_564.out
              have hnb52 := NB564_562.out
              have hnc52 := NB562_564.out
              have hnb53 := NB564_574.out
              have hnc53 := NB574_564.out
              have hnb54 := NB564_576.out
              have hnc54 := NB576_564.out
              have hcz55_0 : w39.cell? ⟨gb564, 0, none⟩ = some (.bool false) := (blk_cell BK564.out 0).trans rfl
              have hcz55_1 : w39.cell? ⟨gb564, 1, none⟩ = some (.int .u32 ((rd_T44 l0 x5_1).f1)) := (blk_cell BK564.out 1).trans rfl
              have hcz55_2 : w39.cell? ⟨gb564, 2, none⟩ = some (.slice A563_2 ((rd_T44 l0 x5_1).f2).length c563_2) := (blk_cell BK564.out 2).trans rfl
              have hfz55_0 := blk_frozen BK564.out 0
              have hfz55_1 := blk_frozen BK564.out 1
              have hfz55_2 := blk_frozen BK564.out 2
              obtain ⟨Ao56, co56, eo56⟩ := Kd.R_slice HO570.out
              subst eo56
              have tk63 : True := trivial
              have tk64 : True := trivial
              have tk65 : True := trivial
              have tk66 : True := trivial
              have tk67 : True := trivial
              have tk68 : True := trivial
              go_wp2_with (first | (go_at_call 27; (with_reducible refine (nuncioref12_Same.calls k1 _ _ t568 _ _ ((rd_T44 l0 x5_1).f2) true _ ?side1 ?side2 ?side3 ?side4 A41.out).mono ?_); (case side1 => repeat (first | exact (Kd.R_reads' HO570.out).2.2 | (with_reducible refine Kd.C_alloc ?_ _) | (with_reducible refine Kd.C_drewN ?_ _) | (with_reducible refine Kd.C_drew ?_))); (case side2 => exact (Kd.R_reads' HO570.out).2.1); (case side3 => repeat (first | exact (Kd.C_below HR563_2.out HB.out) | (with_reducible refine Kd.C_alloc ?_ _) | (with_reducible refine Kd.C_drewN ?_ _) | (with_reducible refine Kd.C_drew ?_))); (case side4 => exact HC563_2.out); rintro e w' ⟨rfl, ⟨nd, rfl⟩⟩) | (have _t : True := tk63; clear tk63 _t; go_at_call 31; (with_reducible refine (table_Table_Len.calls (w1 := w) g574 t573 t578 _ ?side1 A43.out).mono ?_); (case side1 => repeat (first | (with_reducible first | exact HI574.out | apply IsS77.alloc | apply IsS77.drewN | apply IsS77.drew | refine IsS77.farT ?_ (by repeat (first | exact TyOf.mk BK564.out | apply TyOf.alloc | apply TyOf.drewN | apply TyOf.drew | apply TyOf.set)) (by decide) _) | exact HI574.out)); rintro e w57 ⟨rfl, hb⟩; have n0_ := Aside0.mk (Kd.R_below (by (with_reducible repeat (first | apply Kd.R_alloc | apply Kd.R_drewN | apply Kd.R_drew)); exact HO570.out) hb); have n1_ := Aside0.mk (IsS70.below (by repeat (first | (with_reducible first | exact HI560.out | apply IsS70.alloc | apply IsS70.drewN | apply IsS70.drew | refine IsS70.farT ?_ (by repeat (first | exact TyOf.mk BK564.out | apply TyOf.alloc | apply TyOf.drewN | apply TyOf.drew | apply TyOf.set)) (by decide) _) | exact HI560.out)) hb); have n2_ := Aside0.mk (IsS90.below (by repeat (first | (with_reducible first | exact HI562.out | apply IsS90.alloc | apply IsS90.drewN | apply IsS90.drew | refine IsS90.farT ?_ (by repeat (first | exact TyOf.mk BK564.out | apply TyOf.alloc | apply TyOf.drewN | apply TyOf.drew | apply TyOf.set)) (by decide) _) | exact HI562.out)) hb); have n3_ := Aside0.mk (blk_below (g := gb564) (o := .cells #[.bool false, .int .u32 ((rd_T44 l0 x5_1).f1), .slice A563_2 ((rd_T44 l0 x5_1).f2).length c563_2] 44 (0, 0)) (by (with_reducible repeat (first | refine blk_drewN ?_ _ | refine blk_drew ?_ | refine blk_alloc ?_ _)); exact BK564.out) hb); have n4_ := Aside0.mk (IsS77.below (by repeat (first | (with_reducible first | exact HI574.out | apply IsS77.alloc | apply IsS77.drewN | apply IsS77.drew | refine IsS77.farT ?_ (by repeat (first | exact TyOf.mk BK564.out | apply TyOf.alloc | apply TyOf.drewN | apply TyOf.drew | apply TyOf.set)) (by decide) _) | exact HI574.out)) hb); have n5_ := Aside0.mk (IsS77.below (by repeat (first | (with_reducible first | exact HI576.out | apply IsS77.alloc | apply IsS77.drewN | apply IsS77.drew | refine IsS77.farT ?_ (by repeat (first | exact TyOf.mk BK564.out | apply TyOf.alloc | apply TyOf.drewN | apply TyOf.drew | apply TyOf.set)) (by decide) _) | exact HI576.out)) hb); have n6_ := Aside0.mk (below_step (by repeat (first | (with_reducible first | exact HB.out | apply below_alloc | apply pw_below_drewN | apply below_drew1 | refine below_set ?_ (IsS70.ge HI560.out) | refine below_set ?_ (IsS90.ge HI562.out) | refine below_set ?_ (IsS77.ge HI574.out) | refine below_set ?_ (IsS77.ge HI576.out) | refine below_set ?_ GE564.out) | exact HB.out)) hb); clear HO570; clear HI560; clear HI562; clear BK564; clear HI574; clear HI576; clear HB; have HO570 := n0_; have HI560 := n1_; have HI562 := n2_; have BK564 := n3_; have HI574 := n4_; have HI576 := n5_; have HB := n6_; clear n0_ n1_ n2_ n3_ n4_ n5_ n6_; (try clear hb); (try clear hb2); (try clear hk); (try clear hi)) | (have _t : True := tk64; clear tk64 _t; go_at_call 31; (with_reducible refine (table_Table_Len.calls (w1 := w) g576 t575 t579 _ ?side1 A44.out).mono ?_); (case side1 => repeat (first | (with_reducible first | exact HI576.out | apply IsS77.alloc | apply IsS77.drewN | apply IsS77.drew | refine IsS77.farT ?_ (by repeat (first | exact TyOf.mk BK564.out | apply TyOf.alloc | apply TyOf.drewN | apply TyOf.drew | apply TyOf.set)) (by decide) _) | exact HI576.out)); rintro e w58 ⟨rfl, hb⟩; have n0_ := Aside0.mk (Kd.R_below (by (with_reducible repeat (first | apply Kd.R_alloc | apply Kd.R_drewN | apply Kd.R_drew)); exact HO570.out) hb); have n1_ := Aside0.mk (IsS70.below (by repeat (first | (with_reducible first | exact HI560.out | apply IsS70.alloc | apply IsS70.drewN | apply IsS70.drew | refine IsS70.farT ?_ (by repeat (first | exact TyOf.mk BK564.out | apply TyOf.alloc | apply TyOf.drewN | apply TyOf.drew | apply TyOf.set)) (by decide) _) | exact HI560.out)) hb); have n2_ := Aside0.mk (IsS90.below (by repeat (first | (with_reducible first | exact HI562.out | apply IsS90.alloc | apply IsS90.drewN | apply IsS90.drew | refine IsS90.farT ?_ (by repeat (first | exact TyOf.mk BK564.out | apply TyOf.alloc | apply TyOf.drewN | apply TyOf.drew | apply TyOf.set)) (by decide) _) | exact HI562.out)) hb); have n3_ := Aside0.mk (blk_below (g := gb564) (o := .cells #[.bool false, .int .u32 ((rd_T44 l0 x5_1).f1), .slice A563_2 ((rd_T44 l0 x5_1).f2).length c563_2] 44 (0, 0)) (by (with_reducible repeat (first | refine blk_drewN ?_ _ | refine blk_drew ?_ | refine blk_alloc ?_ _)); exact BK564.out) hb); have n4_ := Aside0.mk (IsS77.below (by repeat (first | (with_reducible first | exact HI574.out | apply IsS77.alloc | apply IsS77.drewN | apply IsS77.drew | refine IsS77.farT ?_ (by repeat (first | exact TyOf.mk BK564.out | apply TyOf.alloc | apply TyOf.drewN | apply TyOf.drew | apply TyOf.set)) (by decide) _) | exact HI574.out)) hb); have n5_ := Aside0.mk (IsS77.below (by repeat (first | (with_reducible first | exact HI576.out | apply IsS77.alloc | apply IsS77.drewN | apply IsS77.drew | refine IsS77.farT ?_ (by repeat (first | exact TyOf.mk BK564.out | apply TyOf.alloc | apply TyOf.drewN | apply TyOf.drew | apply TyOf.set)) (by decide) _) | exact HI576.out)) hb); have n6_ := Aside0.mk (below_step (by repeat (first | (with_reducible first | exact HB.out | apply below_alloc | apply pw_below_drewN | apply below_drew1 | refine below_set ?_ (IsS70.ge HI560.out) | refine below_set ?_ (IsS90.ge HI562.out) | refine below_set ?_ (IsS77.ge HI574.out) | refine below_set ?_ (IsS77.ge HI576.out) | refine below_set ?_ GE564.out) | exact HB.out)) hb); clear HO570; clear HI560; clear HI562; clear BK564; clear HI574; clear HI576; clear HB; have HO570 := n0_; have HI560 := n1_; have HI562 := n2_; have BK564 := n3_; have HI574 := n4_; have HI576 := n5_; have HB := n6_; clear n0_ n1_ n2_ n3_ n4_ n5_ n6_; (try clear hb); (try clear hb2); (try clear hk); (try clear hi)) | (have _t : True := tk65; clear tk65 _t; go_at_call 14; (with_reducible refine (table_Table_Size.calls (w1 := w) g574 t573 t580 _ ?side1 A46.out).mono ?_); (case side1 => repeat (first | (with_reducible first | exact HI574.out | apply IsS77.alloc | apply IsS77.drewN | apply IsS77.drew | refine IsS77.farT ?_ (by repeat (first | exact TyOf.mk BK564.out | apply TyOf.alloc | apply TyOf.drewN | apply TyOf.drew | apply TyOf.set)) (by decide) _) | exact HI574.out)); rintro e w59 ⟨rfl, hb⟩; have n0_ := Aside0.mk (Kd.R_below (by (with_reducible repeat (first | apply Kd.R_alloc | apply Kd.R_drewN | apply Kd.R_drew)); exact HO570.out) hb); have n1_ := Aside0.mk (IsS70.below (by repeat (first | (with_reducible first | exact HI560.out | apply IsS70.alloc | apply IsS70.drewN | apply IsS70.drew | refine IsS70.farT ?_ (by repeat (first | exact TyOf.mk BK564.out | apply TyOf.alloc | apply TyOf.drewN | apply TyOf.drew | apply TyOf.set)) (by decide) _) | exact HI560.out)) hb); have n2_ := Aside0.mk (IsS90.below (by repeat (first | (with_reducible first | exact HI562.out | apply IsS90.alloc | apply IsS90.drewN | apply IsS90.drew | refine IsS90.farT ?_ (by repeat (first | exact TyOf.mk BK564.out | apply TyOf.alloc | apply TyOf.drewN | apply TyOf.drew | apply TyOf.set)) (by decide) _) | exact HI562.out)) hb); have n3_ := Aside0.mk (blk_below (g := gb564) (o := .cells #[.bool false, .int .u32 ((rd_T44 l0 x5_1).f1), .slice A563_2 ((rd_T44 l0 x5_1).f2).length c563_2] 44 (0, 0)) (by (with_reducible repeat (first | refine blk_drewN ?_ _ | refine blk_drew ?_ | refine blk_alloc ?_ _)); exact BK564.out) hb); have n4_ := Aside0.mk (IsS77.below (by repeat (first | (with_reducible first | exact HI574.out | apply IsS77.alloc | apply IsS77.drewN | apply IsS77.drew | refine IsS77.farT ?_ (by repeat (first | exact TyOf.mk BK564.out | apply TyOf.alloc | apply TyOf.drewN | apply TyOf.drew | apply TyOf.set)) (by decide) _) | exact HI574.out)) hb); have n5_ := Aside0.mk (IsS77.below (by repeat (first | (with_reducible first | exact HI576.out | apply IsS77.alloc | apply IsS77.drewN | apply IsS77.drew | refine IsS77.farT ?_ (by repeat (first | exact TyOf.mk BK564.out | apply TyOf.alloc | apply TyOf.drewN | apply TyOf.drew | apply TyOf.set)) (by decide) _) | exact HI576.out)) hb); have n6_ := Aside0.mk (below_step (by repeat (first | (with_reducible first | exact HB.out | apply below_alloc | apply pw_below_drewN | apply below_drew1 | refine below_set ?_ (IsS70.ge HI560.out) | refine below_set ?_ (IsS90.ge HI562.out) | refine below_set ?_ (IsS77.ge HI574.out) | refine below_set ?_ (IsS77.ge HI576.out) | refine below_set ?_ GE564.out) | exact HB.out)) hb); clear HO570; clear HI560; clear HI562; clear BK564; clear HI574; clear HI576; clear HB; have HO570 := n0_; have HI560 := n1_; have HI562 := n2_; have BK564 := n3_; have HI574 := n4_; have HI576 := n5_; have HB := n6_; clear n0_ n1_ n2_ n3_ n4_ n5_ n6_; (try clear hb); (try clear hb2); (try clear hk); (try clear hi)) | (have _t : True := tk66; clear tk66 _t; go_at_call 14; (with_reducible refine (table_Table_Size.calls (w1 := w) g576 t575 t581 _ ?side1 A47.out).mono ?_); (case side1 => repeat (first | (with_reducible first | exact HI576.out | apply IsS77.alloc | apply IsS77.drewN | apply IsS77.drew | refine IsS77.farT ?_ (by repeat (first | exact TyOf.mk BK564.out | apply TyOf.alloc | apply TyOf.drewN | apply TyOf.drew | apply TyOf.set)) (by decide) _) | exact HI576.out)); rintro e w60 ⟨rfl, hb⟩; have n0_ := Aside0.mk (Kd.R_below (by (with_reducible repeat (first | apply Kd.R_alloc | apply Kd.R_drewN | apply Kd.R_drew)); exact HO570.out) hb); have n1_ := Aside0.mk (IsS70.below (by repeat (first | (with_reducible first | exact HI560.out | apply IsS70.alloc | apply IsS70.drewN | apply IsS70.drew | refine IsS70.farT ?_ (by repeat (first | exact TyOf.mk BK564.out | apply TyOf.alloc | apply TyOf.drewN | apply TyOf.drew | apply TyOf.set)) (by decide) _) | exact HI560.out)) hb); have n2_ := Aside0.mk (IsS90.below (by repeat (first | (with_reducible first | exact HI562.out | apply IsS90.alloc | apply IsS90.drewN | apply IsS90.drew | refine IsS90.farT ?_ (by repeat (first | exact TyOf.mk BK564.out | apply TyOf.alloc | apply TyOf.drewN | apply TyOf.drew | apply TyOf.set)) (by decide) _) | exact HI562.out)) hb); have n3_ := Aside0.mk (blk_below (g := gb564) (o := .cells #[.bool false, .int .u32 ((rd_T44 l0 x5_1).f1), .slice A563_2 ((rd_T44 l0 x5_1).f2).length c563_2] 44 (0, 0)) (by (with_reducible repeat (first | refine blk_drewN ?_ _ | refine blk_drew ?_ | refine blk_alloc ?_ _)); exact BK564.out) hb); have n4_ := Aside0.mk (IsS77.below (by repeat (first | (with_reducible first | exact HI574.out | apply IsS77.alloc | apply IsS77.drewN | apply IsS77.drew | refine IsS77.farT ?_ (by repeat (first | exact TyOf.mk BK564.out | apply TyOf.alloc | apply TyOf.drewN | apply TyOf.drew | apply TyOf.set)) (by decide) _) | exact HI574.out)) hb); have n5_ := Aside0.mk (IsS77.below (by repeat (first | (with_reducible first | exact HI576.out | apply IsS77.alloc | apply IsS77.drewN | apply IsS77.drew | refine IsS77.farT ?_ (by repeat (first | exact TyOf.mk BK564.out | apply TyOf.alloc | apply TyOf.drewN | apply TyOf.drew | apply TyOf.set)) (by decide) _) | exact HI576.out)) hb); have n6_ := Aside0.mk (below_step (by repeat (first | (with_reducible first | exact HB.out | apply below_alloc | apply pw_below_drewN | apply below_drew1 | refine below_set ?_ (IsS70.ge HI560.out) | refine below_set ?_ (IsS90.ge HI562.out) | refine below_set ?_ (IsS77.ge HI574.out) | refine below_set ?_ (IsS77.ge HI576.out) | refine below_set ?_ GE564.out) | exact HB.out)) hb); clear HO570; clear HI560; clear HI562; clear BK564; clear HI574; clear HI576; clear HB; have HO570 := n0_; have HI560 := n1_; have HI562 := n2_; have BK564 := n3_; have HI574 := n4_; have HI576 := n5_; have HB := n6_; clear n0_ n1_ n2_ n3_ n4_ n5_ n6_; (try clear hb); (try clear hb2); (try clear hk); (try clear hi)) | (have _t : True := tk67; clear tk67 _t; go_at_call 30; (with_reducible refine (table_Table_Most.calls (w1 := w) g574 t573 t582 _ ?side1 A49.out).mono ?_); (case side1 => repeat (first | (with_reducible first | exact HI574.out | apply IsS77.alloc | apply IsS77.drewN | apply IsS77.drew | refine IsS77.farT ?_ (by repeat (first | exact TyOf.mk BK564.out | apply TyOf.alloc | apply TyOf.drewN | apply TyOf.drew | apply TyOf.set)) (by decide) _) | exact HI574.out)); rintro e w61 ⟨rfl, hb⟩; have n0_ := Aside0.mk (Kd.R_below (by (with_reducible repeat (first | apply Kd.R_alloc | apply Kd.R_drewN | apply Kd.R_drew)); exact HO570.out) hb); have n1_ := Aside0.mk (IsS70.below (by repeat (first | (with_reducible first | exact HI560.out | apply IsS70.alloc | apply IsS70.drewN | apply IsS70.drew | refine IsS70.farT ?_ (by repeat (first | exact TyOf.mk BK564.out | apply TyOf.alloc | apply TyOf.drewN | apply TyOf.drew | apply TyOf.set)) (by decide) _) | exact HI560.out)) hb); have n2_ := Aside0.mk (IsS90.below (by repeat (first | (with_reducible first | exact HI562.out | apply IsS90.alloc | apply IsS90.drewN | apply IsS90.drew | refine IsS90.farT ?_ (by repeat (first | exact TyOf.mk BK564.out | apply TyOf.alloc | apply TyOf.drewN | apply TyOf.drew | apply TyOf.set)) (by decide) _) | exact HI562.out)) hb); have n3_ := Aside0.mk (blk_below (g := gb564) (o := .cells #[.bool false, .int .u32 ((rd_T44 l0 x5_1).f1), .slice A563_2 ((rd_T44 l0 x5_1).f2).length c563_2] 44 (0, 0)) (by (with_reducible repeat (first | refine blk_drewN ?_ _ | refine blk_drew ?_ | refine blk_alloc ?_ _)); exact BK564.out) hb); have n4_ := Aside0.mk (IsS77.below (by repeat (first | (with_reducible first | exact HI574.out | apply IsS77.alloc | apply IsS77.drewN | apply IsS77.drew | refine IsS77.farT ?_ (by repeat (first | exact TyOf.mk BK564.out | apply TyOf.alloc | apply TyOf.drewN | apply TyOf.drew | apply TyOf.set)) (by decide) _) | exact HI574.out)) hb); have n5_ := Aside0.mk (IsS77.below (by repeat (first | (with_reducible first | exact HI576.out | apply IsS77.alloc | apply IsS77.drewN | apply IsS77.drew | refine IsS77.farT ?_ (by repeat (first | exact TyOf.mk BK564.out | apply TyOf.alloc | apply TyOf.drewN | apply TyOf.drew | apply TyOf.set)) (by decide) _) | exact HI576.out)) hb); have n6_ := Aside0.mk (below_step (by repeat (first | (with_reducible first | exact HB.out | apply below_alloc | apply pw_below_drewN | apply below_drew1 | refine below_set ?_ (IsS70.ge HI560.out) | refine below_set ?_ (IsS90.ge HI562.out) | refine below_set ?_ (IsS77.ge HI574.out) | refine below_set ?_ (IsS77.ge HI576.out) | refine below_set ?_ GE564.out) | exact HB.out)) hb); clear HO570; clear HI560; clear HI562; clear BK564; clear HI574; clear HI576; clear HB; have HO570 := n0_; have HI560 := n1_; have HI562 := n2_; have BK564 := n3_; have HI574 := n4_; have HI576 := n5_; have HB := n6_; clear n0_ n1_ n2_ n3_ n4_ n5_ n6_; (try clear hb); (try clear hb2); (try clear hk); (try clear hi)) | (have _t : True := tk68; clear tk68 _t; go_at_call 30; (with_reducible refine (table_Table_Most.calls (w1 := w) g576 t575 t583 _ ?side1 A50.out).mono ?_); (case side1 => repeat (first | (with_reducible first | exact HI576.out | apply IsS77.alloc | apply IsS77.drewN | apply IsS77.drew | refine IsS77.farT ?_ (by repeat (first | exact TyOf.mk BK564.out | apply TyOf.alloc | apply TyOf.drewN | apply TyOf.drew | apply TyOf.set)) (by decide) _) | exact HI576.out)); rintro e w62 ⟨rfl, hb⟩; have n0_ := Aside0.mk (Kd.R_below (by (with_reducible repeat (first | apply Kd.R_alloc | apply Kd.R_drewN | apply Kd.R_drew)); exact HO570.out) hb); have n1_ := Aside0.mk (IsS70.below (by repeat (first | (with_reducible first | exact HI560.out | apply IsS70.alloc | apply IsS70.drewN | apply IsS70.drew | refine IsS70.farT ?_ (by repeat (first | exact TyOf.mk BK564.out | apply TyOf.alloc | apply TyOf.drewN | apply TyOf.drew | apply TyOf.set)) (by decide) _) | exact HI560.out)) hb); have n2_ := Aside0.mk (IsS90.below (by repeat (first | (with_reducible first | exact HI562.out | apply IsS90.alloc | apply IsS90.drewN | apply IsS90.drew | refine IsS90.farT ?_ (by repeat (first | exact TyOf.mk BK564.out | apply TyOf.alloc | apply TyOf.drewN | apply TyOf.drew | apply TyOf.set)) (by decide) _) | exact HI562.out)) hb); have n3_ := Aside0.mk (blk_below (g := gb564) (o := .cells #[.bool false, .int .u32 ((rd_T44 l0 x5_1).f1), .slice A563_2 ((rd_T44 l0 x5_1).f2).length c563_2] 44 (0, 0)) (by (with_reducible repeat (first | refine blk_drewN ?_ _ | refine blk_drew ?_ | refine blk_alloc ?_ _)); exact BK564.out) hb); have n4_ := Aside0.mk (IsS77.below (by repeat (first | (with_reducible first | exact HI574.out | apply IsS77.alloc | apply IsS77.drewN | apply IsS77.drew | refine IsS77.farT ?_ (by repeat (first | exact TyOf.mk BK564.out | apply TyOf.alloc | apply TyOf.drewN | apply TyOf.drew | apply TyOf.set)) (by decide) _) | exact HI574.out)) hb); have n5_ := Aside0.mk (IsS77.below (by repeat (first | (with_reducible first | exact HI576.out | apply IsS77.alloc | apply IsS77.drewN | apply IsS77.drew | refine IsS77.farT ?_ (by repeat (first | exact TyOf.mk BK564.out | apply TyOf.alloc | apply TyOf.drewN | apply TyOf.drew | apply TyOf.set)) (by decide) _) | exact HI576.out)) hb); have n6_ := Aside0.mk (below_step (by repeat (first | (with_reducible first | exact HB.out | apply below_alloc | apply pw_below_drewN | apply below_drew1 | refine below_set ?_ (IsS70.ge HI560.out) | refine below_set ?_ (IsS90.ge HI562.out) | refine below_set ?_ (IsS77.ge HI574.out) | refine below_set ?_ (IsS77.ge HI576.out) | refine below_set ?_ GE564.out) | exact HB.out)) hb); clear HO570; clear HI560; clear HI562; clear BK564; clear HI574; clear HI576; clear HB; have HO570 := n0_; have HI560 := n1_; have HI562 := n2_; have BK564 := n3_; have HI574 := n4_; have HI576 := n5_; have HB := n6_; clear n0_ n1_ n2_ n3_ n4_ n5_ n6_; (try clear hb); (try clear hb2); (try clear hk); (try clear hi)))
              go_meet
              case rel => exact ⟨_, ((t582 != t583)), (t573), (t575), (by first | rfl | (simp; done) | (simp [*]; done)), H', ⟨by have := HK1.out; first | omega | exact Nat.le_refl _⟩, ⟨by (with_reducible repeat (first | refine blk_drewN ?_ _ | refine blk_drew ?_ | refine blk_alloc ?_ _)); exact BK564.out⟩, ⟨by repeat (first | (with_reducible first | exact HI560.out | apply IsS70.alloc | apply IsS70.drewN | apply IsS70.drew | refine IsS70.farT ?_ (by repeat (first | exact TyOf.mk BK564.out | apply TyOf.alloc | apply TyOf.drewN | apply TyOf.drew | apply TyOf.set)) (by decide) _) | exact HI560.out)⟩, ⟨by repeat (first | (with_reducible first | exact HI562.out | apply IsS90.alloc | apply IsS90.drewN | apply IsS90.drew | refine IsS90.farT ?_ (by repeat (first | exact TyOf.mk BK564.out | apply TyOf.alloc | apply TyOf.drewN | apply TyOf.drew | apply TyOf.set)) (by decide) _) | exact HI562.out)⟩, ⟨by repeat (first | (with_reducible first | exact HI574.out | apply IsS77.alloc | apply IsS77.drewN | apply IsS77.drew | refine IsS77.farT ?_ (by repeat (first | exact TyOf.mk BK564.out | apply TyOf.alloc | apply TyOf.drewN | apply TyOf.drew | apply TyOf.set)) (by decide) _) | exact HI574.out)⟩, ⟨by repeat (first | (with_reducible first | exact HI576.out | apply IsS77.alloc | apply IsS77.drewN | apply IsS77.drew | refine IsS77.farT ?_ (by repeat (first | exact TyOf.mk BK564.out | apply TyOf.alloc | apply TyOf.drewN | apply TyOf.drew | apply TyOf.set)) (by decide) _) | exact HI576.out)⟩, ⟨by repeat (first | (with_reducible first | exact HB.out | apply below_alloc | apply pw_below_drewN | apply below_drew1 | refine below_set ?_ (IsS70.ge HI560.out) | refine below_set ?_ (IsS90.ge HI562.out) | refine below_set ?_ (IsS77.ge HI574.out) | refine below_set ?_ (IsS77.ge HI576.out) | refine below_set ?_ GE564.out) | exact HB.out)⟩⟩
             ·
              rw [if_neg c48] at H
              have c48b0 : (t580 == t581) = false := beq_eq_false_iff_ne.mpr c48
              have c48b1 : (t580 != t581) = true := bne_iff_ne.mpr c48
              have H' := Aside0.mk H
              clear H
              have hnb69 := NB564_560.out
              have hnc69 := NB560_564.out
              have hnb70 := NB564_562.out
              have hnc70 := NB562_564.out
              have hnb71 := NB564_574.out
              have hnc71 := NB574_564.out
              have hnb72 := NB564_576.out
              have hnc72 := NB576_564.out
              have hcz73_0 : w39.cell? ⟨gb564, 0, none⟩ = some (.bool false) := (blk_cell BK564.out 0).trans rfl
              have hcz73_1 : w39.cell? ⟨gb564, 1, none⟩ = some (.int .u32 ((rd_T44 l0 x5_1).f1)) := (blk_cell BK564.out 1).trans rfl
              have hcz73_2 : w39.cell? ⟨gb564, 2, none⟩ = some (.slice A563_2 ((rd_T44 l0 x5_1).f2).length c563_2) := (blk_cell BK564.out 2).trans rfl
              have hfz73_0 := blk_frozen BK564.out 0
              have hfz73_1 := blk_frozen BK564.out 1
              have hfz73_2 := blk_frozen BK564.out 2
              obtain ⟨Ao74, co74, eo74⟩ := Kd.R_slice HO570.out
              subst eo74
              have tk79 : True := trivial
              have tk80 : True := trivial
              have tk81 : True := trivial
              have tk82 : True := trivial
              go_wp2_with (first | (go_at_call 27; (with_reducible refine (nuncioref12_Same.calls k1 _ _ t568 _ _ ((rd_T44 l0 x5_1).f2) true _ ?side1 ?side2 ?side3 ?side4 A41.out).mono ?_); (case side1 => repeat (first | exact (Kd.R_reads' HO570.out).2.2 | (with_reducible refine Kd.C_alloc ?_ _) | (with_reducible refine Kd.C_drewN ?_ _) | (with_reducible refine Kd.C_drew ?_))); (case side2 => exact (Kd.R_reads' HO570.out).2.1); (case side3 => repeat (first | exact (Kd.C_below HR563_2.out HB.out) | (with_reducible refine Kd.C_alloc ?_ _) | (with_reducible refine Kd.C_drewN ?_ _) | (with_reducible refine Kd.C_drew ?_))); (case side4 => exact HC563_2.out); rintro e w' ⟨rfl, ⟨nd, rfl⟩⟩) | (have _t : True := tk79; clear tk79 _t; go_at_call 31; (with_reducible refine (table_Table_Len.calls (w1 := w) g574 t573 t578 _ ?side1 A43.out).mono ?_); (case side1 => repeat (first | (with_reducible first | exact HI574.out | apply IsS77.alloc | apply IsS77.drewN | apply IsS77.drew | refine IsS77.farT ?_ (by repeat (first | exact TyOf.mk BK564.out | apply TyOf.alloc | apply TyOf.drewN | apply TyOf.drew | apply TyOf.set)) (by decide) _) | exact HI574.out)); rintro e w75 ⟨rfl, hb⟩; have n0_ := Aside0.mk (Kd.R_below (by (with_reducible repeat (first | apply Kd.R_alloc | apply Kd.R_drewN | apply Kd.R_drew)); exact HO570.out) hb); have n1_ := Aside0.mk (IsS70.below (by repeat (first | (with_reducible first | exact HI560.out | apply IsS70.alloc | apply IsS70.drewN | apply IsS70.drew | refine IsS70.farT ?_ (by repeat (first | exact TyOf.mk BK564.out | apply TyOf.alloc | apply TyOf.drewN | apply TyOf.drew | apply TyOf.set)) (by decide) _) | exact HI560.out)) hb); have n2_ := Aside0.mk (IsS90.below (by repeat (first | (with_reducible first | exact HI562.out | apply IsS90.alloc | apply IsS90.drewN | apply IsS90.drew | refine IsS90.farT ?_ (by repeat (first | exact TyOf.mk BK564.out | apply TyOf.alloc | apply TyOf.drewN | apply TyOf.drew | apply TyOf.set)) (by decide) _) | exact HI562.out)) hb); have n3_ := Aside0.mk (blk_below (g := gb564) (o := .cells #[.bool false, .int .u32 ((rd_T44 l0 x5_1).f1), .slice A563_2 ((rd_T44 l0 x5_1).f2).length c563_2] 44 (0, 0)) (by (with_reducible repeat (first | refine blk_drewN ?_ _ | refine blk_drew ?_ | refine blk_alloc ?_ _)); exact BK564.out) hb); have n4_ := Aside0.mk (IsS77.below (by repeat (first | (with_reducible first | exact HI574.out | apply IsS77.alloc | apply IsS77.drewN | apply IsS77.drew | refine IsS77.farT ?_ (by repeat (first | exact TyOf.mk BK564.out | apply TyOf.alloc | apply TyOf.drewN | apply TyOf.drew | apply TyOf.set)) (by decide) _) | exact HI574.out)) hb); have n5_ := Aside0.mk (IsS77.below (by repeat (first | (with_reducible first | exact HI576.out | apply IsS77.alloc | apply IsS77.drewN | apply IsS77.drew | refine IsS77.farT ?_ (by repeat (first | exact TyOf.mk BK564.out | apply TyOf.alloc | apply TyOf.drewN | apply TyOf.drew | apply TyOf.set)) (by decide) _) | exact HI576.out)) hb); have n6_ := Aside0.mk (below_step (by repeat (first | (with_reducible first | exact HB.out | apply below_alloc | apply pw_below_drewN | apply below_drew1 | refine below_set ?_ (IsS70.ge HI560.out) | refine below_set ?_ (IsS90.ge HI562.out) | refine below_set ?_ (IsS77.ge HI574.out) | refine below_set ?_ (IsS77.ge HI576.out) | refine below_set ?_ GE564.out) | exact HB.out)) hb); clear HO570; clear HI560; clear HI562; clear BK564; clear HI574; clear HI576; clear HB; have HO570 := n0_; have HI560 := n1_; have HI562 := n2_; have BK564 := n3_; have HI574 := n4_; have HI576 := n5_; have HB := n6_; clear n0_ n1_ n2_ n3_ n4_ n5_ n6_; (try clear hb); (try clear hb2); (try clear hk); (try clear hi)) | (have _t : True := tk80; clear tk80 _t; go_at_call 31; (with_reducible refine (table_Table_Len.calls (w1 := w) g576 t575 t579 _ ?side1 A44.out).mono ?_); (case side1 => repeat (first | (with_reducible first | exact HI576.out | apply IsS77.alloc | apply IsS77.drewN | apply IsS77.drew | refine IsS77.farT ?_ (by repeat (first | exact TyOf.mk BK564.out | apply TyOf.alloc | apply TyOf.drewN | apply TyOf.drew | apply TyOf.set)) (by decide) _) | exact HI576.out)); rintro e w76 ⟨rfl, hb⟩; have n0_ := Aside0.mk (Kd.R_below (by (with_reducible repeat (first | apply Kd.R_alloc | apply Kd.R_drewN | apply Kd.R_drew)); exact HO570.out) hb); have n1_ := Aside0.mk (IsS70.below (by repeat (first | (with_reducible first | exact HI560.out | apply IsS70.alloc | apply IsS70.drewN | apply IsS70.drew | refine IsS70.farT ?_ (by repeat (first | exact TyOf.mk BK564.out | apply TyOf.alloc | apply TyOf.drewN | apply TyOf.drew | apply TyOf.set)) (by decide) _) | exact HI560.out)) hb); have n2_ := Aside0.mk (IsS90.below (by repeat (first | (with_reducible first | exact HI562.out | apply IsS90.alloc | apply IsS90.drewN | apply IsS90.drew | refine IsS90.farT ?_ (by repeat (first | exact TyOf.mk BK564.out | apply TyOf.alloc | apply TyOf.drewN | apply TyOf.drew | apply TyOf.set)) (by decide) _) | exact HI562.out)) hb); have n3_ := Aside0.mk (blk_below (g := gb564) (o := .cells #[.bool false, .int .u32 ((rd_T44 l0 x5_1).f1), .slice A563_2 ((rd_T44 l0 x5_1).f2).length c563_2] 44 (0, 0)) (by (with_reducible repeat (first | refine blk_drewN ?_ _ | refine blk_drew ?_ | refine blk_alloc ?_ _)); exact BK564.out) hb); have n4_ := Aside0.mk (IsS77.below (by repeat (first | (with_reducible first | exact HI574.out | apply IsS77.alloc | apply IsS77.drewN | apply IsS77.drew | refine IsS77.farT ?_ (by repeat (first | exact TyOf.mk BK564.out | apply TyOf.alloc | apply TyOf.drewN | apply TyOf.drew | apply TyOf.set)) (by decide) _) | exact HI574.out)) hb); have n5_ := Aside0.mk (IsS77.below (by repeat (first | (with_reducible first | exact HI576.out | apply IsS77.alloc | apply IsS77.drewN | apply IsS77.drew | refine IsS77.farT ?_ (by repeat (first | exact TyOf.mk BK564.out | apply TyOf.alloc | apply TyOf.drewN | apply TyOf.drew | apply TyOf.set)) (by decide) _) | exact HI576.out)) hb); have n6_ := Aside0.mk (below_step (by repeat (first | (with_reducible first | exact HB.out | apply below_alloc | apply pw_below_drewN | apply below_drew1 | refine below_set ?_ (IsS70.ge HI560.out) | refine below_set ?_ (IsS90.ge HI562.out) | refine below_set ?_ (IsS77.ge HI574.out) | refine below_set ?_ (IsS77.ge HI576.out) | refine below_set ?_ GE564.out) | exact HB.out)) hb); clear HO570; clear HI560; clear HI562; clear BK564; clear HI574; clear HI576; clear HB; have HO570 := n0_; have HI560 := n1_; have HI562 := n2_; have BK564 := n3_; have HI574 := n4_; have HI576 := n5_; have HB := n6_; clear n0_ n1_ n2_ n3_ n4_ n5_ n6_; (try clear hb); (try clear hb2); (try clear hk); (try clear hi)) | (have _t : True := tk81; clear tk81 _t; go_at_call 14; (with_reducible refine (table_Table_Size.calls (w1 := w) g574 t573 t580 _ ?side1 A46.out).mono ?_); (case side1 => repeat (first | (with_reducible first | exact HI574.out | apply IsS77.alloc | apply IsS77.drewN | apply IsS77.drew | refine IsS77.farT ?_ (by repeat (first | exact TyOf.mk BK564.out | apply TyOf.alloc | apply TyOf.drewN | apply TyOf.drew | apply TyOf.set)) (by decide) _) | exact HI574.out)); rintro e w77 ⟨rfl, hb⟩; have n0_ := Aside0.mk (Kd.R_below (by (with_reducible repeat (first | apply Kd.R_alloc | apply Kd.R_drewN | apply Kd.R_drew)); exact HO570.out) hb); have n1_ := Aside0.mk (IsS70.below (by repeat (first | (with_reducible first | exact HI560.out | apply IsS70.alloc | apply IsS70.drewN | apply IsS70.drew | refine IsS70.farT ?_ (by repeat (first | exact TyOf.mk BK564.out | apply TyOf.alloc | apply TyOf.drewN | apply TyOf.drew | apply TyOf.set)) (by decide) _) | exact HI560.out)) hb); have n2_ := Aside0.mk (IsS90.below (by repeat (first | (with_reducible first | exact HI562.out | apply IsS90.alloc | apply IsS90.drewN | apply IsS90.drew | refine IsS90.farT ?_ (by repeat (first | exact TyOf.mk BK564.out | apply TyOf.alloc | apply TyOf.drewN | apply TyOf.drew | apply TyOf.set)) (by decide) _) | exact HI562.out)) hb); have n3_ := Aside0.mk (blk_below (g := gb564) (o := .cells #[.bool false, .int .u32 ((rd_T44 l0 x5_1).f1), .slice A563_2 ((rd_T44 l0 x5_1).f2).length c563_2] 44 (0, 0)) (by (with_reducible repeat (first | refine blk_drewN ?_ _ | refine blk_drew ?_ | refine blk_alloc ?_ _)); exact BK564.out) hb); have n4_ := Aside0.mk (IsS77.below (by repeat (first | (with_reducible first | exact HI574.out | apply IsS77.alloc | apply IsS77.drewN | apply IsS77.drew | refine IsS77.farT ?_ (by repeat (first | exact TyOf.mk BK564.out | apply TyOf.alloc | apply TyOf.drewN | apply TyOf.drew | apply TyOf.set)) (by decide) _) | exact HI574.out)) hb); have n5_ := Aside0.mk (IsS77.below (by repeat (first | (with_reducible first | exact HI576.out | apply IsS77.alloc | apply IsS77.drewN | apply IsS77.drew | refine IsS77.farT ?_ (by repeat (first | exact TyOf.mk BK564.out | apply TyOf.alloc | apply TyOf.drewN | apply TyOf.drew | apply TyOf.set)) (by decide) _) | exact HI576.out)) hb); have n6_ := Aside0.mk (below_step (by repeat (first | (with_reducible first | exact HB.out | apply below_alloc | apply pw_below_drewN | apply below_drew1 | refine below_set ?_ (IsS70.ge HI560.out) | refine below_set ?_ (IsS90.ge HI562.out) | refine below_set ?_ (IsS77.ge HI574.out) | refine below_set ?_ (IsS77.ge HI576.out) | refine below_set ?_ GE564.out) | exact HB.out)) hb); clear HO570; clear HI560; clear HI562; clear BK564; clear HI574; clear HI576; clear HB; have HO570 := n0_; have HI560 := n1_; have HI562 := n2_; have BK564 := n3_; have HI574 := n4_; have HI576 := n5_; have HB := n6_; clear n0_ n1_ n2_ n3_ n4_ n5_ n6_; (try clear hb); (try clear hb2); (try clear hk); (try clear hi)) | (have _t : True := tk82; clear tk82 _t; go_at_call 14; (with_reducible refine (table_Table_Size.calls (w1 := w) g576 t575 t581 _ ?side1 A47.out).mono ?_); (case side1 => repeat (first | (with_reducible first | exact HI576.out | apply IsS77.alloc | apply IsS77.drewN | apply IsS77.drew | refine IsS77.farT ?_ (by repeat (first | exact TyOf.mk BK564.out | apply TyOf.alloc | apply TyOf.drewN | apply TyOf.drew | apply TyOf.set)) (by decide) _) | exact HI576.out)); rintro e w78 ⟨rfl, hb⟩; have n0_ := Aside0.mk (Kd.R_below (by (with_reducible repeat (first | apply Kd.R_alloc | apply Kd.R_drewN | apply Kd.R_drew)); exact HO570.out) hb); have n1_ := Aside0.mk (IsS70.below (by repeat (first | (with_reducible first | exact HI560.out | apply IsS70.alloc | apply IsS70.drewN | apply IsS70.drew | refine IsS70.farT ?_ (by repeat (first | exact TyOf.mk BK564.out | apply TyOf.alloc | apply TyOf.drewN | apply TyOf.drew | apply TyOf.set)) (by decide) _) | exact HI560.out)) hb); have n2_ := Aside0.mk (IsS90.below (by repeat (first | (with_reducible first | exact HI562.out | apply IsS90.alloc | apply IsS90.drewN | apply IsS90.drew | refine IsS90.farT ?_ (by repeat (first | exact TyOf.mk BK564.out | apply TyOf.alloc | apply TyOf.drewN | apply TyOf.drew | apply TyOf.set)) (by decide) _) | exact HI562.out)) hb); have n3_ := Aside0.mk (blk_below (g := gb564) (o := .cells #[.bool false, .int .u32 ((rd_T44 l0 x5_1).f1), .slice A563_2 ((rd_T44 l0 x5_1).f2).length c563_2] 44 (0, 0)) (by (with_reducible repeat (first | refine blk_drewN ?_ _ | refine blk_drew ?_ | refine blk_alloc ?_ _)); exact BK564.out) hb); have n4_ := Aside0.mk (IsS77.below (by repeat (first | (with_reducible first | exact HI574.out | apply IsS77.alloc | apply IsS77.drewN | apply IsS77.drew | refine IsS77.farT ?_ (by repeat (first | exact TyOf.mk BK564.out | apply TyOf.alloc | apply TyOf.drewN | apply TyOf.drew | apply TyOf.set)) (by decide) _) | exact HI574.out)) hb); have n5_ := Aside0.mk (IsS77.below (by repeat (first | (with_reducible first | exact HI576.out | apply IsS77.alloc | apply IsS77.drewN | apply IsS77.drew | refine IsS77.farT ?_ (by repeat (first | exact TyOf.mk BK564.out | apply TyOf.alloc | apply TyOf.drewN | apply TyOf.drew | apply TyOf.set)) (by decide) _) | exact HI576.out)) hb); have n6_ := Aside0.mk (below_step (by repeat (first | (with_reducible first | exact HB.out | apply below_alloc | apply pw_below_drewN | apply below_drew1 | refine below_set ?_ (IsS70.ge HI560.out) | refine below_set ?_ (IsS90.ge HI562.out) | refine below_set ?_ (IsS77.ge HI574.out) | refine below_set ?_ (IsS77.ge HI576.out) | refine below_set ?_ GE564.out) | exact HB.out)) hb); clear HO570; clear HI560; clear HI562; clear BK564; clear HI574; clear HI576; clear HB; have HO570 := n0_; have HI560 := n1_; have HI562 := n2_; have BK564 := n3_; have HI574 := n4_; have HI576 := n5_; have HB := n6_; clear n0_ n1_ n2_ n3_ n4_ n5_ n6_; (try clear hb); (try clear hb2); (try clear hk); (try clear hi)))
              go_meet
              case rel => exact ⟨_, (true), (t573), (t575), (by first | rfl | (simp; done) | (simp [*]; done)), H', ⟨by have := HK1.out; first | omega | exact Nat.le_refl _⟩, ⟨by (with_reducible repeat (first | refine blk_drewN ?_ _ | refine blk_drew ?_ | refine blk_alloc ?_ _)); exact BK564.out⟩, ⟨by repeat (first | (with_reducible first | exact HI560.out | apply IsS70.alloc | apply IsS70.drewN | apply IsS70.drew | refine IsS70.farT ?_ (by repeat (first | exact TyOf.mk BK564.out | apply TyOf.alloc | apply TyOf.drewN | apply TyOf.drew | apply TyOf.set)) (by decide) _) | exact HI560.out)⟩, ⟨by repeat (first | (with_reducible first | exact HI562.out | apply IsS90.alloc | apply IsS90.drewN | apply IsS90.drew | refine IsS90.farT ?_ (by repeat (first | exact TyOf.mk BK564.out | apply TyOf.alloc | apply TyOf.drewN | apply TyOf.drew | apply TyOf.set)) (by decide) _) | exact HI562.out)⟩, ⟨by repeat (first | (with_reducible first | exact HI574.out | apply IsS77.alloc | apply IsS77.drewN | apply IsS77.drew | refine IsS77.farT ?_ (by repeat (first | exact TyOf.mk BK564.out | apply TyOf.alloc | apply TyOf.drewN | apply TyOf.drew | apply TyOf.set)) (by decide) _) | exact HI574.out)⟩, ⟨by repeat (first | (with_reducible first | exact HI576.out | apply IsS77.alloc | apply IsS77.drewN | apply IsS77.drew | refine IsS77.farT ?_ (by repeat (first | exact TyOf.mk BK564.out | apply TyOf.alloc | apply TyOf.drewN | apply TyOf.drew | apply TyOf.set)) (by decide) _) | exact HI576.out)⟩, ⟨by repeat (first | (with_reducible first | exact HB.out | apply below_alloc | apply pw_below_drewN | apply below_drew1 | refine below_set ?_ (IsS70.ge HI560.out) | refine below_set ?_ (IsS90.ge HI562.out) | refine below_set ?_ (IsS77.ge HI574.out) | refine below_set ?_ (IsS77.ge HI576.out) | refine below_set ?_ GE564.out) | exact HB.out)⟩⟩
            ·
             rw [if_neg c45] at H
             have c45b0 : (t578 == t579) = false := beq_eq_false_iff_ne.mpr c45
             have c45b1 : (t578 != t579) = true := bne_iff_ne.mpr c45
             have H' := Aside0.mk H
             clear H
             have hnb83 := NB564_560.out
             have hnc83 := NB560_564.out
             have hnb84 := NB564_562.out
             have hnc84 := NB562_564.out
             have hnb85 := NB564_574.out
             have hnc85 := NB574_564.out
             have hnb86 := NB564_576.out
             have hnc86 := NB576_564.out
             have hcz87_0 : w39.cell? ⟨gb564, 0, none⟩ = some (.bool false) := (blk_cell BK564.out 0).trans rfl
             have hcz87_1 : w39.cell? ⟨gb564, 1, none⟩ = some (.int .u32 ((rd_T44 l0 x5_1).f1)) := (blk_cell BK564.out 1).trans rfl
             have hcz87_2 : w39.cell? ⟨gb564, 2, none⟩ = some (.slice A563_2 ((rd_T44 l0 x5_1).f2).length c563_2) := (blk_cell BK564.out 2).trans rfl
             have hfz87_0 := blk_frozen BK564.out 0
             have hfz87_1 := blk_frozen BK564.out 1
             have hfz87_2 := blk_frozen BK564.out 2
             obtain ⟨Ao88, co88, eo88⟩ := Kd.R_slice HO570.out
             subst eo88
             have tk91 : True := trivial
             have tk92 : True := trivial
             go_wp2_with (first | (go_at_call 27; (with_reducible refine (nuncioref12_Same.calls k1 _ _ t568 _ _ ((rd_T44 l0 x5_1).f2) true _ ?side1 ?side2 ?side3 ?side4 A41.out).mono ?_); (case side1 => repeat (first | exact (Kd.R_reads' HO570.out).2.2 | (with_reducible refine Kd.C_alloc ?_ _) | (with_reducible refine Kd.C_drewN ?_ _) | (with_reducible refine Kd.C_drew ?_))); (case side2 => exact (Kd.R_reads' HO570.out).2.1); (case side3 => repeat (first | exact (Kd.C_below HR563_2.out HB.out) | (with_reducible refine Kd.C_alloc ?_ _) | (with_reducible refine Kd.C_drewN ?_ _) | (with_reducible refine Kd.C_drew ?_))); (case side4 => exact HC563_2.out); rintro e w' ⟨rfl, ⟨nd, rfl⟩⟩) | (have _t : True := tk91; clear tk91 _t; go_at_call 31; (with_reducible refine (table_Table_Len.calls (w1 := w) g574 t573 t578 _ ?side1 A43.out).mono ?_); (case side1 => repeat (first | (with_reducible first | exact HI574.out | apply IsS77.alloc | apply IsS77.drewN | apply IsS77.drew | refine IsS77.farT ?_ (by repeat (first | exact TyOf.mk BK564.out | apply TyOf.alloc | apply TyOf.drewN | apply TyOf.drew | apply TyOf.set)) (by decide) _) | exact HI574.out)); rintro e w89 ⟨rfl, hb⟩; have n0_ := Aside0.mk (Kd.R_below (by (with_reducible repeat (first | apply Kd.R_alloc | apply Kd.R_drewN | apply Kd.R_drew)); exact HO570.out) hb); have n1_ := Aside0.mk (IsS70.below (by repeat (first | (with_reducible first | exact HI560.out | apply IsS70.alloc | apply IsS70.drewN | apply IsS70.drew | refine IsS70.farT ?_ (by repeat (first | exact TyOf.mk BK564.out | apply TyOf.alloc | apply TyOf.drewN | apply TyOf.drew | apply TyOf.set)) (by decide) _) | exact HI560.out)) hb); have n2_ := Aside0.mk (IsS90.below (by repeat (first | (with_reducible first | exact HI562.out | apply IsS90.alloc | apply IsS90.drewN | apply IsS90.drew | refine IsS90.farT ?_ (by repeat (first | exact TyOf.mk BK564.out | apply TyOf.alloc | apply TyOf.drewN | apply TyOf.drew | apply TyOf.set)) (by decide) _) | exact HI562.out)) hb); have n3_ := Aside0.mk (blk_below (g := gb564) (o := .cells #[.bool false, .int .u32 ((rd_T44 l0 x5_1).f1), .slice A563_2 ((rd_T44 l0 x5_1).f2).length c563_2] 44 (0, 0)) (by (with_reducible repeat (first | refine blk_drewN ?_ _ | refine blk_drew ?_ | refine blk_alloc ?_ _)); exact BK564.out) hb); have n4_ := Aside0.mk (IsS77.below (by repeat (first | (with_reducible first | exact HI574.out | apply IsS77.alloc | apply IsS77.drewN | apply IsS77.drew | refine IsS77.farT ?_ (by repeat (first | exact TyOf.mk BK564.out | apply TyOf.alloc | apply TyOf.drewN | apply TyOf.drew | apply TyOf.set)) (by decide) _) | exact HI574.out)) hb); have n5_ := Aside0.mk (IsS77.below (by repeat (first | (with_reducible first | exact HI576.out | apply IsS77.alloc | apply IsS77.drewN | apply IsS77.drew | refine IsS77.farT ?_ (by repeat (first | exact TyOf.mk BK564.out | apply TyOf.alloc | apply TyOf.drewN | apply TyOf.drew | apply TyOf.set)) (by decide) _) | exact HI576.out)) hb); have n6_ := Aside0.mk (below_step (by repeat (first | (with_reducible first | exact HB.out | apply below_alloc | apply pw_below_drewN | apply below_drew1 | refine below_set ?_ (IsS70.ge HI560.out) | refine below_set ?_ (IsS90.ge HI562.out) | refine below_set ?_ (IsS77.ge HI574.out) | refine below_set ?_ (IsS77.ge HI576.out) | refine below_set ?_ GE564.out) | exact HB.out)) hb); clear HO570; clear HI560; clear HI562; clear BK564; clear HI574; clear HI576; clear HB; have HO570 := n0_; have HI560 := n1_; have HI562 := n2_; have BK564 := n3_; have HI574 := n4_; have HI576 := n5_; have HB := n6_; clear n0_ n1_ n2_ n3_ n4_ n5_ n6_; (try clear hb); (try clear hb2); (try clear hk); (try clear hi)) | (have _t : True := tk92; clear tk92 _t; go_at_call 31; (with_reducible refine (table_Table_Len.calls (w1 := w) g576 t575 t579 _ ?side1 A44.out).mono ?_); (case side1 => repeat (first | (with_reducible first | exact HI576.out | apply IsS77.alloc | apply IsS77.drewN | apply IsS77.drew | refine IsS77.farT ?_ (by repeat (first | exact TyOf.mk BK564.out | apply TyOf.alloc | apply TyOf.drewN | apply TyOf.drew | apply TyOf.set)) (by decide) _) | exact HI576.out)); rintro e w90 ⟨rfl, hb⟩; have n0_ := Aside0.mk (Kd.R_below (by (with_reducible repeat (first | apply Kd.R_alloc | apply Kd.R_drewN | apply Kd.R_drew)); exact HO570.out) hb); have n1_ := Aside0.mk (IsS70.below (by repeat (first | (with_reducible first | exact HI560.out | apply IsS70.alloc | apply IsS70.drewN | apply IsS70.drew | refine IsS70.farT ?_ (by repeat (first | exact TyOf.mk BK564.out | apply TyOf.alloc | apply TyOf.drewN | apply TyOf.drew | apply TyOf.set)) (by decide) _) | exact HI560.out)) hb); have n2_ := Aside0.mk (IsS90.below (by repeat (first | (with_reducible first | exact HI562.out | apply IsS90.alloc | apply IsS90.drewN | apply IsS90.drew | refine IsS90.farT ?_ (by repeat (first | exact TyOf.mk BK564.out | apply TyOf.alloc | apply TyOf.drewN | apply TyOf.drew | apply TyOf.set)) (by decide) _) | exact HI562.out)) hb); have n3_ := Aside0.mk (blk_below (g := gb564) (o := .cells #[.bool false, .int .u32 ((rd_T44 l0 x5_1).f1), .slice A563_2 ((rd_T44 l0 x5_1).f2).length c563_2] 44 (0, 0)) (by (with_reducible repeat (first | refine blk_drewN ?_ _ | refine blk_drew ?_ | refine blk_alloc ?_ _)); exact BK564.out) hb); have n4_ := Aside0.mk (IsS77.below (by repeat (first | (with_reducible first | exact HI574.out | apply IsS77.alloc | apply IsS77.drewN | apply IsS77.drew | refine IsS77.farT ?_ (by repeat (first | exact TyOf.mk BK564.out | apply TyOf.alloc | apply TyOf.drewN | apply TyOf.drew | apply TyOf.set)) (by decide) _) | exact HI574.out)) hb); have n5_ := Aside0.mk (IsS77.below (by repeat (first | (with_reducible first | exact HI576.out | apply IsS77.alloc | apply IsS77.drewN | apply IsS77.drew | refine IsS77.farT ?_ (by repeat (first | exact TyOf.mk BK564.out | apply TyOf.alloc | apply TyOf.drewN | apply TyOf.drew | apply TyOf.set)) (by decide) _) | exact HI576.out)) hb); have n6_ := Aside0.mk (below_step (by repeat (first | (with_reducible first | exact HB.out | apply below_alloc | apply pw_below_drewN | apply below_drew1 | refine below_set ?_ (IsS70.ge HI560.out) | refine below_set ?_ (IsS90.ge HI562.out) | refine below_set ?_ (IsS77.ge HI574.out) | refine below_set ?_ (IsS77.ge HI576.out) | refine below_set ?_ GE564.out) | exact HB.out)) hb); clear HO570; clear HI560; clear HI562; clear BK564; clear HI574; clear HI576; clear HB; have HO570 := n0_; have HI560 := n1_; have HI562 := n2_; have BK564 := n3_; have HI574 := n4_; have HI576 := n5_; have HB := n6_; clear n0_ n1_ n2_ n3_ n4_ n5_ n6_; (try clear hb); (try clear hb2); (try clear hk); (try clear hi)))
             go_meet
             case rel => exact ⟨_, (true), (t573), (t575), (by first | rfl | (simp; done) | (simp [*]; done)), H', ⟨by have := HK1.out; first | omega | exact Nat.le_refl _⟩, ⟨by (with_reducible repeat (first | refine blk_drewN ?_ _ | refine blk_drew ?_ | refine blk_alloc ?_ _)); exact BK564.out⟩, ⟨by repeat (first | (with_reducible first | exact HI560.out | apply IsS70.alloc | apply IsS70.drewN | apply IsS70.drew | refine IsS70.farT ?_ (by repeat (first | exact TyOf.mk BK564.out | apply TyOf.alloc | apply TyOf.drewN | apply TyOf.drew | apply TyOf.set)) (by decide) _) | exact HI560.out)⟩, ⟨by repeat (first | (with_reducible first | exact HI562.out | apply IsS90.alloc | apply IsS90.drewN | apply IsS90.drew | refine IsS90.farT ?_ (by repeat (first | exact TyOf.mk BK564.out | apply TyOf.alloc | apply TyOf.drewN | apply TyOf.drew | apply TyOf.set)) (by decide) _) | exact HI562.out)⟩, ⟨by repeat (first | (with_reducible first | exact HI574.out | apply IsS77.alloc | apply IsS77.drewN | apply IsS77.drew | refine IsS77.farT ?_ (by repeat (first | exact TyOf.mk BK564.out | apply TyOf.alloc | apply TyOf.drewN | apply TyOf.drew | apply TyOf.set)) (by decide) _) | exact HI574.out)⟩, ⟨by repeat (first | (with_reducible first | exact HI576.out | apply IsS77.alloc | apply IsS77.drewN | apply IsS77.drew | refine IsS77.farT ?_ (by repeat (first | exact TyOf.mk BK564.out | apply TyOf.alloc | apply TyOf.drewN | apply TyOf.drew | apply TyOf.set)) (by decide) _) | exact HI576.out)⟩, ⟨by repeat (first | (with_reducible first | exact HB.out | apply below_alloc | apply pw_below_drewN | apply below_drew1 | refine below_set ?_ (IsS70.ge HI560.out) | refine below_set ?_ (IsS90.ge HI562.out) | refine below_set ?_ (IsS77.ge HI574.out) | refine below_set ?_ (IsS77.ge HI576.out) | refine below_set ?_ GE564.out) | exact HB.out)⟩⟩
           ·
            replace c42 := Bool.eq_false_iff.mpr c42
            subst c42
            have H1 : (nunciolaw13_PackBack.j1 k1 l0 x5_1 true t567 t572 t573 t575) = some r := by rw [if_neg (show ¬ (false = true) by decide)] at H; exact H
            clear H
            have H := H1
            clear H1
            have H' := Aside0.mk H
            clear H
            have hnb93 := NB564_560.out
            have hnc93 := NB560_564.out
            have hnb94 := NB564_562.out
            have hnc94 := NB562_564.out
            have hnb95 := NB564_574.out
            have hnc95 := NB574_564.out
            have hnb96 := NB564_576.out
            have hnc96 := NB576_564.out
            have hcz97_0 : w39.cell? ⟨gb564, 0, none⟩ = some (.bool false) := (blk_cell BK564.out 0).trans rfl
            have hcz97_1 : w39.cell? ⟨gb564, 1, none⟩ = some (.int .u32 ((rd_T44 l0 x5_1).f1)) := (blk_cell BK564.out 1).trans rfl
            have hcz97_2 : w39.cell? ⟨gb564, 2, none⟩ = some (.slice A563_2 ((rd_T44 l0 x5_1).f2).length c563_2) := (blk_cell BK564.out 2).trans rfl
            have hfz97_0 := blk_frozen BK564.out 0
            have hfz97_1 := blk_frozen BK564.out 1
            have hfz97_2 := blk_frozen BK564.out 2
            obtain ⟨Ao98, co98, eo98⟩ := Kd.R_slice HO570.out
            subst eo98
            go_wp2_with (first | (go_at_call 27; (with_reducible refine (nuncioref12_Same.calls k1 _ _ t568 _ _ ((rd_T44 l0 x5_1).f2) false _ ?side1 ?side2 ?side3 ?side4 A41.out).mono ?_); (case side1 => repeat (first | exact (Kd.R_reads' HO570.out).2.2 | (with_reducible refine Kd.C_alloc ?_ _) | (with_reducible refine Kd.C_drewN ?_ _) | (with_reducible refine Kd.C_drew ?_))); (case side2 => exact (Kd.R_reads' HO570.out).2.1); (case side3 => repeat (first | exact (Kd.C_below HR563_2.out HB.out) | (with_reducible refine Kd.C_alloc ?_ _) | (with_reducible refine Kd.C_drewN ?_ _) | (with_reducible refine Kd.C_drew ?_))); (case side4 => exact HC563_2.out); rintro e w' ⟨rfl, ⟨nd, rfl⟩⟩))
            go_meet
            case rel => exact ⟨_, (true), (t573), (t575), (by first | rfl | (simp; done) | (simp [*]; done)), H', ⟨by have := HK1.out; first | omega | exact Nat.le_refl _⟩, ⟨by (with_reducible repeat (first | refine blk_drewN ?_ _ | refine blk_drew ?_ | refine blk_alloc ?_ _)); exact BK564.out⟩, ⟨by repeat (first | (with_reducible first | exact HI560.out | apply IsS70.alloc | apply IsS70.drewN | apply IsS70.drew | refine IsS70.farT ?_ (by repeat (first | exact TyOf.mk BK564.out | apply TyOf.alloc | apply TyOf.drewN | apply TyOf.drew | apply TyOf.set)) (by decide) _) | exact HI560.out)⟩, ⟨by repeat (first | (with_reducible first | exact HI562.out | apply IsS90.alloc | apply IsS90.drewN | apply IsS90.drew | refine IsS90.farT ?_ (by repeat (first | exact TyOf.mk BK564.out | apply TyOf.alloc | apply TyOf.drewN | apply TyOf.drew | apply TyOf.set)) (by decide) _) | exact HI562.out)⟩, ⟨by repeat (first | (with_reducible first | exact HI574.out | apply IsS77.alloc | apply IsS77.drewN | apply IsS77.drew | refine IsS77.farT ?_ (by repeat (first | exact TyOf.mk BK564.out | apply TyOf.alloc | apply TyOf.drewN | apply TyOf.drew | apply TyOf.set)) (by decide) _) | exact HI574.out)⟩, ⟨by repeat (first | (with_reducible first | exact HI576.out | apply IsS77.alloc | apply IsS77.drewN | apply IsS77.drew | refine IsS77.farT ?_ (by repeat (first | exact TyOf.mk BK564.out | apply TyOf.alloc | apply TyOf.drewN | apply TyOf.drew | apply TyOf.set)) (by decide) _) | exact HI576.out)⟩, ⟨by repeat (first | (with_reducible first | exact HB.out | apply below_alloc | apply pw_below_drewN | apply below_drew1 | refine below_set ?_ (IsS70.ge HI560.out) | refine below_set ?_ (IsS90.ge HI562.out) | refine below_set ?_ (IsS77.ge HI574.out) | refine below_set ?_ (IsS77.ge HI576.out) | refine below_set ?_ GE564.out) | exact HB.out)⟩⟩
          ·
           rw [if_neg c40] at H
           have c40b0 : (t571 == 0) = false := beq_eq_false_iff_ne.mpr c40
           have c40b1 : (t571 != 0) = true := bne_iff_ne.mpr c40
           (first | rw [c40b0] | rw [c40b1] | (simp only [i64_w, i32_w]; rw [c40b0]) | skip)
           have H' := Aside0.mk H
           clear H
           go_wp2
           go_meet
           case rel => exact ⟨_, (true), (t573), (t575), (by first | rfl | (simp; done) | (simp [*]; done)), H', ⟨by have := HK1.out; first | omega | exact Nat.le_refl _⟩, ⟨by (with_reducible repeat (first | refine blk_drewN ?_ _ | refine blk_drew ?_ | refine blk_alloc ?_ _)); exact BK564.out⟩, ⟨by repeat (first | (with_reducible first | exact HI560.out | apply IsS70.alloc | apply IsS70.drewN | apply IsS70.drew | refine IsS70.farT ?_ (by repeat (first | exact TyOf.mk BK564.out | apply TyOf.alloc | apply TyOf.drewN | apply TyOf.drew | apply TyOf.set)) (by decide) _) | exact HI560.out)⟩, ⟨by repeat (first | (with_reducible first | exact HI562.out | apply IsS90.alloc | apply IsS90.drewN | apply IsS90.drew | refine IsS90.farT ?_ (by repeat (first | exact TyOf.mk BK564.out | apply TyOf.alloc | apply TyOf.drewN | apply TyOf.drew | apply TyOf.set)) (by decide) _) | exact HI562.out)⟩, ⟨by repeat (first | (with_reducible first | exact HI574.out | apply IsS77.alloc | apply IsS77.drewN | apply IsS77.drew | refine IsS77.farT ?_ (by repeat (first | exact TyOf.mk BK564.out | apply TyOf.alloc | apply TyOf.drewN | apply TyOf.drew | apply TyOf.set)) (by decide) _) | exact HI574.out)⟩, ⟨by repeat (first | (with_reducible first | exact HI576.out | apply IsS77.alloc | apply IsS77.drewN | apply IsS77.drew | refine IsS77.farT ?_ (by repeat (first | exact TyOf.mk BK564.out | apply TyOf.alloc | apply TyOf.drewN | apply TyOf.drew | apply TyOf.set)) (by decide) _) | exact HI576.out)⟩, ⟨by repeat (first | (with_reducible first | exact HB.out | apply below_alloc | apply pw_below_drewN | apply below_drew1 | refine below_set ?_ (IsS70.ge HI560.out) | refine below_set ?_ (IsS90.ge HI562.out) | refine below_set ?_ (IsS77.ge HI574.out) | refine below_set ?_ (IsS77.ge HI576.out) | refine below_set ?_ GE564.out) | exact HB.out)⟩⟩
         case rest =>
          clear HC31
          try clear c1
          try clear q1
          try clear c2
          try clear p2
          try clear c3
          try clear c4
          try clear c5
          try clear p5
          try clear q5
          try clear hx5
          try clear c6
          try clear p6
          try clear c7
          try clear c8
          try clear c9
          try clear c11
          try clear c12
          try clear c12b0
          try clear c13
          try clear c13b0
          try clear q14
          try clear c15
          try clear c17
          try clear c18
          try clear c19
          try clear c22
          try clear c22b0
          try clear c22b1
          try clear c23
          try clear c24
          try clear c25
          try clear c29
          try clear c33
          try clear c34
          try clear c40
          try clear c40b0
          try clear c40b1
          try clear c42
          try clear c45
          try clear c45b0
          try clear c45b1
          try clear c48
          try clear c48b0
          try clear c48b1
          try clear c51
          try clear c52
          try clear c53
          try clear c54
          try clear c56
          try clear p56
          try clear q56
          try clear hx56
          try clear p64
          try clear c69
          try clear c70
          try clear c71
          try clear c72
          try clear c83
          try clear c84
          try clear c85
          try clear c86
          try clear c93
          try clear c94
          try clear c95
          try clear c96
          try clear hcz20_0
          try clear hcz20_1
          try clear hcz20_2
          try clear hcz26_0
          try clear hcz26_1
          try clear hcz26_2
          try clear hcz35_0
          try clear hcz35_1
          try clear hcz35_2
          try clear hcz55_0
          try clear hcz55_1
          try clear hcz55_2
          try clear hcz73_0
          try clear hcz73_1
          try clear hcz73_2
          try clear hcz87_0
          try clear hcz87_1
          try clear hcz87_2
          try clear hcz97_0
          try clear hcz97_1
          try clear hcz97_2
          try clear hfz20_0
          try clear hfz20_1
          try clear hfz20_2
          try clear hfz26_0
          try clear hfz26_1
          try clear hfz26_2
          try clear hfz35_0
          try clear hfz35_1
          try clear hfz35_2
          try clear hfz55_0
          try clear hfz55_1
          try clear hfz55_2
          try clear hfz73_0
          try clear hfz73_1
          try clear hfz73_2
          try clear hfz87_0
          try clear hfz87_1
          try clear hfz87_2
          try clear hfz97_0
          try clear hfz97_1
          try clear hfz97_2
          try clear hx563_0
          try clear hx563_1
          try clear hx563_2
          try clear p2
          try clear p563
          try clear q563
          obtain ⟨kq, x95_30, x575000_30, x577000_30, rfl, HA, HJ30, BK564, HI560, HI562, HI574, HI576, HB⟩ := hcut
          cases kq with
          | zero => exact absurd HA.out (by simp [nunciolaw13_PackBack.j1])
          | succ kj30 =>
           have H := HA.out
           clear HA
           simp only [nunciolaw13_PackBack.j1] at H
           by_cases c99 : x95_30 = true
           ·
            subst c99
            have H1 : (some false) = some r := by rw [if_pos rfl] at H; exact H
            clear H
            have H := H1
            clear H1
            exact absurd ((Option.some.inj H).trans HT.out) (by decide)
           ·
            replace c99 := Bool.eq_false_iff.mpr c99
            subst c99
            have H1 : (nunciolaw13_PackBack.l1 kj30 l0 x5_1 0 t567 t572 x575000_30 x577000_30) = some r := by rw [if_neg (show ¬ (false = true) by decide)] at H; exact H
            clear H
            have H := H1
            clear H1
            have H' := Aside0.mk H
            clear H
            go_wp2
            go_loopg [11] kj30 (fun kq v11 w' => ∃ (x11_3 : Int) (x575000_3 : TB) (x577000_3 : TB), v11 = .int .i64 x11_3 ∧ Aside0 (nunciolaw13_PackBack.l1 kq l0 x5_1 x11_3 t567 t572 x575000_3 x577000_3 = some r) ∧ Aside0 (kq ≤ kj30) ∧ Aside0 (w'.heap[gb564]? = some (.cells #[.bool false, .int .u32 ((rd_T44 l0 x5_1).f1), (.slice A563_2 ((rd_T44 l0 x5_1).f2).length c563_2)] 44 (0, 0))) ∧ Aside0 (IsS70 w w' g560 t567) ∧ Aside0 (IsS90 w w' g562 t572) ∧ Aside0 (IsS77 w w' g574 x575000_3) ∧ Aside0 (IsS77 w w' g576 x577000_3) ∧ Aside0 (Below w.heap.size w w'))
            case atStart => exact ⟨(0), (x575000_30), (x577000_30), (by first | rfl | (simp; done) | (simp [*]; done)), H', ⟨Nat.le_refl _⟩, ⟨by (with_reducible repeat (first | refine blk_drewN ?_ _ | refine blk_drew ?_ | refine blk_alloc ?_ _)); exact BK564.out⟩, ⟨by repeat (first | (with_reducible first | exact HI560.out | apply IsS70.alloc | apply IsS70.drewN | apply IsS70.drew | refine IsS70.farT ?_ (by repeat (first | exact TyOf.mk BK564.out | apply TyOf.alloc | apply TyOf.drewN | apply TyOf.drew | apply TyOf.set)) (by decide) _) | exact HI560.out)⟩, ⟨by repeat (first | (with_reducible first | exact HI562.out | apply IsS90.alloc | apply IsS90.drewN | apply IsS90.drew | refine IsS90.farT ?_ (by repeat (first | exact TyOf.mk BK564.out | apply TyOf.alloc | apply TyOf.drewN | apply TyOf.drew | apply TyOf.set)) (by decide) _) | exact HI562.out)⟩, ⟨by repeat (first | (with_reducible first | exact HI574.out | apply IsS77.alloc | apply IsS77.drewN | apply IsS77.drew | refine IsS77.farT ?_ (by repeat (first | exact TyOf.mk BK564.out | apply TyOf.alloc | apply TyOf.drewN | apply TyOf.drew | apply TyOf.set)) (by decide) _) | exact HI574.out)⟩, ⟨by repeat (first | (with_reducible first | exact HI576.out | apply IsS77.alloc | apply IsS77.drewN | apply IsS77.drew | refine IsS77.farT ?_ (by repeat (first | exact TyOf.mk BK564.out | apply TyOf.alloc | apply TyOf.drewN | apply TyOf.drew | apply TyOf.set)) (by decide) _) | exact HI576.out)⟩, ⟨by repeat (first | (with_reducible first | exact HB.out | apply below_alloc | apply pw_below_drewN | apply below_drew1 | refine below_set ?_ (IsS70.ge HI560.out) | refine below_set ?_ (IsS90.ge HI562.out) | refine below_set ?_ (IsS77.ge HI574.out) | refine below_set ?_ (IsS77.ge HI576.out) | refine below_set ?_ GE564.out) | exact HB.out)⟩⟩
            case round =>
             clear H'
             try clear c1
             try clear q1
             try clear c2
             try clear p2
             try clear c3
             try clear c4
             try clear c5
             try clear p5
             try clear q5
             try clear hx5
             try clear c6
             try clear p6
             try clear c7
             try clear c8
             try clear c9
             try clear c11
             try clear c12
             try clear c12b0
             try clear c13
             try clear c13b0
             try clear q14
             try clear c15
             try clear c17
             try clear c18
             try clear c19
             try clear c22
             try clear c22b0
             try clear c22b1
             try clear c23
             try clear c24
             try clear c25
             try clear c29
             try clear c33
             try clear c34
             try clear c40
             try clear c40b0
             try clear c40b1
             try clear c42
             try clear c45
             try clear c45b0
             try clear c45b1
             try clear c48
             try clear c48b0
             try clear c48b1
             try clear c51
             try clear c52
             try clear c53
             try clear c54
             try clear c56
             try clear p56
             try clear q56
             try clear hx56
             try clear p64
             try clear c69
             try clear c70
             try clear c71
             try clear c72
             try clear c83
             try clear c84
             try clear c85
             try clear c86
             try clear c93
             try clear c94
             try clear c95
             try clear c96
             try clear c99
             try clear hcz20_0
             try clear hcz20_1
             try clear hcz20_2
             try clear hcz26_0
             try clear hcz26_1
             try clear hcz26_2
             try clear hcz35_0
             try clear hcz35_1
             try clear hcz35_2
             try clear hcz55_0
             try clear hcz55_1
             try clear hcz55_2
             try clear hcz73_0
             try clear hcz73_1
             try clear hcz73_2
             try clear hcz87_0
             try clear hcz87_1
             try clear hcz87_2
             try clear hcz97_0
             try clear hcz97_1
             try clear hcz97_2
             try clear hfz20_0
             try clear hfz20_1
             try clear hfz20_2
             try clear hfz26_0
             try clear hfz26_1
             try clear hfz26_2
             try clear hfz35_0
             try clear hfz35_1
             try clear hfz35_2
             try clear hfz55_0
             try clear hfz55_1
             try clear hfz55_2
             try clear hfz73_0
             try clear hfz73_1
             try clear hfz73_2
             try clear hfz87_0
             try clear hfz87_1
             try clear hfz87_2
             try clear hfz97_0
             try clear hfz97_1
             try clear hfz97_2
             try clear hx563_0
             try clear hx563_1
             try clear hx563_2
             try clear p2
             try clear p5
             try clear p56
             try clear p563
             try clear p6
             try clear p64
             try clear q1
             try clear q14
             try clear q5
             try clear q56
             try clear q563
             obtain ⟨x11_3, x575000_3, x577000_3, rfl, HA, HK3, BK564, HI560, HI562, HI574, HI576, HB⟩ := hrel
             cases gk with
             | zero => exact absurd HA.out (by simp [nunciolaw13_PackBack.l1])
             | succ k3 =>
              have H := HA.out
              clear HA
              simp only [nunciolaw13_PackBack.l1] at H
              replace H := Option.bind_eq_some_iff.mp H
              obtain ⟨t584, A1000, H⟩ := H
              replace H : (if x11_3 < t584 then ((table_Table_At.f x575000_3 (wrap64 (62 + x11_3))).bind fun bt585 => ((table_Table_At.f x577000_3 (wrap64 (62 + x11_3))).bind fun bt588 => (if bt585.1.toList = bt588.1.toList then (if bt585.2.1.toList = bt588.2.1.toList then (nunciolaw13_PackBack.l1 k3 l0 x5_1 (wrap64 (x11_3 + 1)) t567 t572 x575000_3 x577000_3) else (some false)) else (some false)))) else (nunciolaw13_PackBack.l0 k3 l0 (wrap64 (x5_1 + 1)) t567 t572)) = some r := H
              have A100 := Aside0.mk A1000
              clear A1000
              by_cases c101 : x11_3 < t584
              ·
               rw [if_pos c101] at H
               have c101b0 : decide (x11_3 < t584) = true := decide_eq_true c101
               clear c101
               replace H := Option.bind_eq_some_iff.mp H
               obtain ⟨⟨t585, t586, t587⟩, A1020, H⟩ := H
               replace H : ((table_Table_At.f x577000_3 (wrap64 (62 + x11_3))).bind fun bt588 => (if t585.toList = bt588.1.toList then (if t586.toList = bt588.2.1.toList then (nunciolaw13_PackBack.l1 k3 l0 x5_1 (wrap64 (x11_3 + 1)) t567 t572 x575000_3 x577000_3) else (some false)) else (some false))) = some r := H
               have A102 := Aside0.mk A1020
               clear A1020
               replace H := Option.bind_eq_some_iff.mp H
               obtain ⟨⟨t588, t589, t590⟩, A1030, H⟩ := H
               replace H : (if t585.toList = t588.toList then (if t586.toList = t589.toList then (nunciolaw13_PackBack.l1 k3 l0 x5_1 (wrap64 (x11_3 + 1)) t567 t572 x575000_3 x577000_3) else (some false)) else (some false)) = some r := H
               have A103 := Aside0.mk A1030
               clear A1030
               by_cases c104 : t585.toList = t588.toList
               ·
                rw [if_pos c104] at H
                have c104b0 : (t585.toList == t588.toList) = true := beq_iff_eq.mpr c104
                have c104b1 : (t585.toList != t588.toList) = false := bne_eq_false_iff_eq.mpr c104
                clear c104
                by_cases c105 : t586.toList = t589.toList
                ·
                 rw [if_pos c105] at H
                 have c105b0 : (t586.toList == t589.toList) = true := beq_iff_eq.mpr c105
                 have c105b1 : (t586.toList != t589.toList) = false := bne_eq_false_iff_eq.mpr c105
                 clear c105
                 have H' := Aside0.mk H
                 clear H
                 have tk109 : True := trivial
                 have tk110 : True := trivial
                 go_wp2_with (first | ((with_reducible refine gate_callee (f := 31) rfl ?_); refine goesL_ (some 98) rfl rfl Tryd.func31 (by kernel_rfl) rfl #[.pointer (some ⟨g574, 0, none⟩)] rfl (by (try simp only [List.map_toArray, List.map_cons, List.map_nil]); first | done | rfl | (simp only [List.length_drop, List.length_take]; rfl)) ?_; (with_reducible refine (table_Table_Len.calls (w1 := w) g574 x575000_3 t584 _ ?side1 A100.out).mono ?_); (case side1 => repeat (first | (with_reducible first | exact HI574.out | apply IsS77.alloc | apply IsS77.drewN | apply IsS77.drew | refine IsS77.farT ?_ (by repeat (first | exact TyOf.mk BK564.out | apply TyOf.alloc | apply TyOf.drewN | apply TyOf.drew | apply TyOf.set)) (by decide) _) | exact HI574.out)); rintro e w106 ⟨rfl, hb⟩; refine ⟨_, rfl, ?_⟩; have n0_ := Aside0.mk (blk_below (g := gb564) (o := .cells #[.bool false, .int .u32 ((rd_T44 l0 x5_1).f1), .slice A563_2 ((rd_T44 l0 x5_1).f2).length c563_2] 44 (0, 0)) (by (with_reducible repeat (first | refine blk_drewN ?_ _ | refine blk_drew ?_ | refine blk_alloc ?_ _)); exact BK564.out) hb); have n1_ := Aside0.mk (IsS70.below (by repeat (first | (with_reducible first | exact HI560.out | apply IsS70.alloc | apply IsS70.drewN | apply IsS70.drew | refine IsS70.farT ?_ (by repeat (first | exact TyOf.mk BK564.out | apply TyOf.alloc | apply TyOf.drewN | apply TyOf.drew | apply TyOf.set)) (by decide) _) | exact HI560.out)) hb); have n2_ := Aside0.mk (IsS90.below (by repeat (first | (with_reducible first | exact HI562.out | apply IsS90.alloc | apply IsS90.drewN | apply IsS90.drew | refine IsS90.farT ?_ (by repeat (first | exact TyOf.mk BK564.out | apply TyOf.alloc | apply TyOf.drewN | apply TyOf.drew | apply TyOf.set)) (by decide) _) | exact HI562.out)) hb); have n3_ := Aside0.mk (IsS77.below (by repeat (first | (with_reducible first | exact HI574.out | apply IsS77.alloc | apply IsS77.drewN | apply IsS77.drew | refine IsS77.farT ?_ (by repeat (first | exact TyOf.mk BK564.out | apply TyOf.alloc | apply TyOf.drewN | apply TyOf.drew | apply TyOf.set)) (by decide) _) | exact HI574.out)) hb); have n4_ := Aside0.mk (IsS77.below (by repeat (first | (with_reducible first | exact HI576.out | apply IsS77.alloc | apply IsS77.drewN | apply IsS77.drew | refine IsS77.farT ?_ (by repeat (first | exact TyOf.mk BK564.out | apply TyOf.alloc | apply TyOf.drewN | apply TyOf.drew | apply TyOf.set)) (by decide) _) | exact HI576.out)) hb); have n5_ := Aside0.mk (below_step (by repeat (first | (with_reducible first | exact HB.out | apply below_alloc | apply pw_below_drewN | apply below_drew1 | refine below_set ?_ (IsS70.ge HI560.out) | refine below_set ?_ (IsS90.ge HI562.out) | refine below_set ?_ (IsS77.ge HI574.out) | refine below_set ?_ (IsS77.ge HI576.out) | refine below_set ?_ GE564.out) | exact HB.out)) hb); clear BK564; clear HI560; clear HI562; clear HI574; clear HI576; clear HB; have BK564 := n0_; have HI560 := n1_; have HI562 := n2_; have HI574 := n3_; have HI576 := n4_; have HB := n5_; clear n0_ n1_ n2_ n3_ n4_ n5_; (try clear hb); (try clear hb2); (try clear hk); (try clear hi)) | (have _t : True := tk109; clear tk109 _t; (with_reducible refine gate_callee (f := 33) rfl ?_); refine goesL_ (some 106) rfl rfl Tryd.func33 (by kernel_rfl) rfl #[.pointer (some ⟨g574, 0, none⟩), .int .i64 (wrap64 (62 + x11_3))] rfl (by (try simp only [List.map_toArray, List.map_cons, List.map_nil]); first | done | rfl | (simp only [List.length_drop, List.length_take]; rfl)) ?_; (with_reducible refine (table_Table_At.calls (w1 := w) g574 x575000_3 (wrap64 (62 + x11_3)) t585 t586 t587 _ ?side1 A102.out).mono ?_); (case side1 => repeat (first | (with_reducible first | exact HI574.out | apply IsS77.alloc | apply IsS77.drewN | apply IsS77.drew | refine IsS77.farT ?_ (by repeat (first | exact TyOf.mk BK564.out | apply TyOf.alloc | apply TyOf.drewN | apply TyOf.drew | apply TyOf.set)) (by decide) _) | exact HI574.out)); rintro e w107 ⟨rfl, hb⟩; refine ⟨_, rfl, ?_⟩; have n0_ := Aside0.mk (blk_below (g := gb564) (o := .cells #[.bool false, .int .u32 ((rd_T44 l0 x5_1).f1), .slice A563_2 ((rd_T44 l0 x5_1).f2).length c563_2] 44 (0, 0)) (by (with_reducible repeat (first | refine blk_drewN ?_ _ | refine blk_drew ?_ | refine blk_alloc ?_ _)); exact BK564.out) hb); have n1_ := Aside0.mk (IsS70.below (by repeat (first | (with_reducible first | exact HI560.out | apply IsS70.alloc | apply IsS70.drewN | apply IsS70.drew | refine IsS70.farT ?_ (by repeat (first | exact TyOf.mk BK564.out | apply TyOf.alloc | apply TyOf.drewN | apply TyOf.drew | apply TyOf.set)) (by decide) _) | exact HI560.out)) hb); have n2_ := Aside0.mk (IsS90.below (by repeat (first | (with_reducible first | exact HI562.out | apply IsS90.alloc | apply IsS90.drewN | apply IsS90.drew | refine IsS90.farT ?_ (by repeat (first | exact TyOf.mk BK564.out | apply TyOf.alloc | apply TyOf.drewN | apply TyOf.drew | apply TyOf.set)) (by decide) _) | exact HI562.out)) hb); have n3_ := Aside0.mk (IsS77.below (by repeat (first | (with_reducible first | exact HI574.out | apply IsS77.alloc | apply IsS77.drewN | apply IsS77.drew | refine IsS77.farT ?_ (by repeat (first | exact TyOf.mk BK564.out | apply TyOf.alloc | apply TyOf.drewN | apply TyOf.drew | apply TyOf.set)) (by decide) _) | exact HI574.out)) hb); have n4_ := Aside0.mk (IsS77.below (by repeat (first | (with_reducible first | exact HI576.out | apply IsS77.alloc | apply IsS77.drewN | apply IsS77.drew | refine IsS77.farT ?_ (by repeat (first | exact TyOf.mk BK564.out | apply TyOf.alloc | apply TyOf.drewN | apply TyOf.drew | apply TyOf.set)) (by decide) _) | exact HI576.out)) hb); have n5_ := Aside0.mk (below_step (by repeat (first | (with_reducible first | exact HB.out | apply below_alloc | apply pw_below_drewN | apply below_drew1 | refine below_set ?_ (IsS70.ge HI560.out) | refine below_set ?_ (IsS90.ge HI562.out) | refine below_set ?_ (IsS77.ge HI574.out) | refine below_set ?_ (IsS77.ge HI576.out) | refine below_set ?_ GE564.out) | exact HB.out)) hb); clear BK564; clear HI560; clear HI562; clear HI574; clear HI576; clear HB; have BK564 := n0_; have HI560 := n1_; have HI562 := n2_; have HI574 := n3_; have HI576 := n4_; have HB := n5_; clear n0_ n1_ n2_ n3_ n4_ n5_; (try clear hb); (try clear hb2); (try clear hk); (try clear hi)) | (have _t : True := tk110; clear tk110 _t; (with_reducible refine gate_callee (f := 33) rfl ?_); refine goesL_ (some 114) rfl rfl Tryd.func33 (by kernel_rfl) rfl #[.pointer (some ⟨g576, 0, none⟩), .int .i64 (wrap64 (62 + x11_3))] rfl (by (try simp only [List.map_toArray, List.map_cons, List.map_nil]); first | done | rfl | (simp only [List.length_drop, List.length_take]; rfl)) ?_; (with_reducible refine (table_Table_At.calls (w1 := w) g576 x577000_3 (wrap64 (62 + x11_3)) t588 t589 t590 _ ?side1 A103.out).mono ?_); (case side1 => repeat (first | (with_reducible first | exact HI576.out | apply IsS77.alloc | apply IsS77.drewN | apply IsS77.drew | refine IsS77.farT ?_ (by repeat (first | exact TyOf.mk BK564.out | apply TyOf.alloc | apply TyOf.drewN | apply TyOf.drew | apply TyOf.set)) (by decide) _) | exact HI576.out)); rintro e w108 ⟨rfl, hb⟩; refine ⟨_, rfl, ?_⟩; have n0_ := Aside0.mk (blk_below (g := gb564) (o := .cells #[.bool false, .int .u32 ((rd_T44 l0 x5_1).f1), .slice A563_2 ((rd_T44 l0 x5_1).f2).length c563_2] 44 (0, 0)) (by (with_reducible repeat (first | refine blk_drewN ?_ _ | refine blk_drew ?_ | refine blk_alloc ?_ _)); exact BK564.out) hb); have n1_ := Aside0.mk (IsS70.below (by repeat (first | (with_reducible first | exact HI560.out | apply IsS70.alloc | apply IsS70.drewN | apply IsS70.drew | refine IsS70.farT ?_ (by repeat (first | exact TyOf.mk BK564.out | apply TyOf.alloc | apply TyOf.drewN | apply TyOf.drew | apply TyOf.set)) (by decide) _) | exact HI560.out)) hb); have n2_ := Aside0.mk (IsS90.below (by repeat (first | (with_reducible first | exact HI562.out | apply IsS90.alloc | apply IsS90.drewN | apply IsS90.drew | refine IsS90.farT ?_ (by repeat (first | exact TyOf.mk BK564.out | apply TyOf.alloc | apply TyOf.drewN | apply TyOf.drew | apply TyOf.set)) (by decide) _) | exact HI562.out)) hb); have n3_ := Aside0.mk (IsS77.below (by repeat (first | (with_reducible first | exact HI574.out | apply IsS77.alloc | apply IsS77.drewN | apply IsS77.drew | refine IsS77.farT ?_ (by repeat (first | exact TyOf.mk BK564.out | apply TyOf.alloc | apply TyOf.drewN | apply TyOf.drew | apply TyOf.set)) (by decide) _) | exact HI574.out)) hb); have n4_ := Aside0.mk (IsS77.below (by repeat (first | (with_reducible first | exact HI576.out | apply IsS77.alloc | apply IsS77.drewN | apply IsS77.drew | refine IsS77.farT ?_ (by repeat (first | exact TyOf.mk BK564.out | apply TyOf.alloc | apply TyOf.drewN | apply TyOf.drew | apply TyOf.set)) (by decide) _) | exact HI576.out)) hb); have n5_ := Aside0.mk (below_step (by repeat (first | (with_reducible first | exact HB.out | apply below_alloc | apply pw_below_drewN | apply below_drew1 | refine below_set ?_ (IsS70.ge HI560.out) | refine below_set ?_ (IsS90.ge HI562.out) | refine below_set ?_ (IsS77.ge HI574.out) | refine below_set ?_ (IsS77.ge HI576.out) | refine below_set ?_ GE564.out) | exact HB.out)) hb); clear BK564; clear HI560; clear HI562; clear HI574; clear HI576; clear HB; have BK564 := n0_; have HI560 := n1_; have HI562 := n2_; have HI574 := n3_; have HI576 := n4_; have HB := n5_; clear n0_ n1_ n2_ n3_ n4_ n5_; (try clear hb); (try clear hb2); (try clear hk); (try clear hi)))
                 go_roundg k3
                 case measure => have := HK1.out; have := HJ30.out; have := HK3.out; omega
                 case rel => exact ⟨(wrap64 (x11_3 + 1)), (x575000_3), (x577000_3), (by first | rfl | (simp; done) | (simp [*]; done)), H', ⟨by have := HK1.out; have := HJ30.out; have := HK3.out; omega⟩, ⟨by (with_reducible repeat (first | refine blk_drewN ?_ _ | refine blk_drew ?_ | refine blk_alloc ?_ _)); exact BK564.out⟩, ⟨by repeat (first | (with_reducible first | exact HI560.out | apply IsS70.alloc | apply IsS70.drewN | apply IsS70.drew | refine IsS70.farT ?_ (by repeat (first | exact TyOf.mk BK564.out | apply TyOf.alloc | apply TyOf.drewN | apply TyOf.drew | apply TyOf.set)) (by decide) _) | exact HI560.out)⟩, ⟨by repeat (first | (with_reducible first | exact HI562.out | apply IsS90.alloc | apply IsS90.drewN | apply IsS90.drew | refine IsS90.farT ?_ (by repeat (first | exact TyOf.mk BK564.out | apply TyOf.alloc | apply TyOf.drewN | apply TyOf.drew | apply TyOf.set)) (by decide) _) | exact HI562.out)⟩, ⟨by repeat (first | (with_reducible first | exact HI574.out | apply IsS77.alloc | apply IsS77.drewN | apply IsS77.drew | refine IsS77.farT ?_ (by repeat (first | exact TyOf.mk BK564.out | apply TyOf.alloc | apply TyOf.drewN | apply TyOf.drew | apply TyOf.set)) (by decide) _) | exact HI574.out)⟩, ⟨by repeat (first | (with_reducible first | exact HI576.out | apply IsS77.alloc | apply IsS77.drewN | apply IsS77.drew | refine IsS77.farT ?_ (by repeat (first | exact TyOf.mk BK564.out | apply TyOf.alloc | apply TyOf.drewN | apply TyOf.drew | apply TyOf.set)) (by decide) _) | exact HI576.out)⟩, ⟨by repeat (first | (with_reducible first | exact HB.out | apply below_alloc | apply pw_below_drewN | apply below_drew1 | refine below_set ?_ (IsS70.ge HI560.out) | refine below_set ?_ (IsS90.ge HI562.out) | refine below_set ?_ (IsS77.ge HI574.out) | refine below_set ?_ (IsS77.ge HI576.out) | refine below_set ?_ GE564.out) | exact HB.out)⟩⟩
                ·
                 rw [if_neg c105] at H
                 have c105b0 : (t586.toList == t589.toList) = false := beq_eq_false_iff_ne.mpr c105
                 have c105b1 : (t586.toList != t589.toList) = true := bne_iff_ne.mpr c105
                 exact absurd ((Option.some.inj H).trans HT.out) (by decide)
               ·
                rw [if_neg c104] at H
                have c104b0 : (t585.toList == t588.toList) = false := beq_eq_false_iff_ne.mpr c104
                have c104b1 : (t585.toList != t588.toList) = true := bne_iff_ne.mpr c104
                exact absurd ((Option.some.inj H).trans HT.out) (by decide)
              ·
               rw [if_neg c101] at H
               have c101b0 : decide (x11_3 < t584) = false := decide_eq_false c101
               clear c101
               have H' := Aside0.mk H
               clear H
               go_wp2_with (first | ((with_reducible refine gate_callee (f := 31) rfl ?_); refine goesL_ (some 98) rfl rfl Tryd.func31 (by kernel_rfl) rfl #[.pointer (some ⟨g574, 0, none⟩)] rfl (by (try simp only [List.map_toArray, List.map_cons, List.map_nil]); first | done | rfl | (simp only [List.length_drop, List.length_take]; rfl)) ?_; (with_reducible refine (table_Table_Len.calls (w1 := w) g574 x575000_3 t584 _ ?side1 A100.out).mono ?_); (case side1 => repeat (first | (with_reducible first | exact HI574.out | apply IsS77.alloc | apply IsS77.drewN | apply IsS77.drew | refine IsS77.farT ?_ (by repeat (first | exact TyOf.mk BK564.out | apply TyOf.alloc | apply TyOf.drewN | apply TyOf.drew | apply TyOf.set)) (by decide) _) | exact HI574.out)); rintro e w111 ⟨rfl, hb⟩; refine ⟨_, rfl, ?_⟩; have n0_ := Aside0.mk (blk_below (g := gb564) (o := .cells #[.bool false, .int .u32 ((rd_T44 l0 x5_1).f1), .slice A563_2 ((rd_T44 l0 x5_1).f2).length c563_2] 44 (0, 0)) (by (with_reducible repeat (first | refine blk_drewN ?_ _ | refine blk_drew ?_ | refine blk_alloc ?_ _)); exact BK564.out) hb); have n1_ := Aside0.mk (IsS70.below (by repeat (first | (with_reducible first | exact HI560.out | apply IsS70.alloc | apply IsS70.drewN | apply IsS70.drew | refine IsS70.farT ?_ (by repeat (first | exact TyOf.mk BK564.out | apply TyOf.alloc | apply TyOf.drewN | apply TyOf.drew | apply TyOf.set)) (by decide) _) | exact HI560.out)) hb); have n2_ := Aside0.mk (IsS90.below (by repeat (first | (with_reducible first | exact HI562.out | apply IsS90.alloc | apply IsS90.drewN | apply IsS90.drew | refine IsS90.farT ?_ (by repeat (first | exact TyOf.mk BK564.out | apply TyOf.alloc | apply TyOf.drewN | apply TyOf.drew | apply TyOf.set)) (by decide) _) | exact HI562.out)) hb); have n3_ := Aside0.mk (IsS77.below (by repeat (first | (with_reducible first | exact HI574.out | apply IsS77.alloc | apply IsS77.drewN | apply IsS77.drew | refine IsS77.farT ?_ (by repeat (first | exact TyOf.mk BK564.out | apply TyOf.alloc | apply TyOf.drewN | apply TyOf.drew | apply TyOf.set)) (by decide) _) | exact HI574.out)) hb); have n4_ := Aside0.mk (IsS77.below (by repeat (first | (with_reducible first | exact HI576.out | apply IsS77.alloc | apply IsS77.drewN | apply IsS77.drew | refine IsS77.farT ?_ (by repeat (first | exact TyOf.mk BK564.out | apply TyOf.alloc | apply TyOf.drewN | apply TyOf.drew | apply TyOf.set)) (by decide) _) | exact HI576.out)) hb); have n5_ := Aside0.mk (below_step (by repeat (first | (with_reducible first | exact HB.out | apply below_alloc | apply pw_below_drewN | apply below_drew1 | refine below_set ?_ (IsS70.ge HI560.out) | refine below_set ?_ (IsS90.ge HI562.out) | refine below_set ?_ (IsS77.ge HI574.out) | refine below_set ?_ (IsS77.ge HI576.out) | refine below_set ?_ GE564.out) | exact HB.out)) hb); clear BK564; clear HI560; clear HI562; clear HI574; clear HI576; clear HB; have BK564 := n0_; have HI560 := n1_; have HI562 := n2_; have HI574 := n3_; have HI576 := n4_; have HB := n5_; clear n0_ n1_ n2_ n3_ n4_ n5_; (try clear hb); (try clear hb2); (try clear hk); (try clear hi)))
               go_roundg k3
               case measure => have := HK1.out; have := HJ30.out; have := HK3.out; omega
               case rel => exact ⟨(wrap64 (x5_1 + 1)), (t567), (t572), (by first | rfl | (simp; done) | (simp [*]; done)), H', ⟨by have := HK1.out; have := HJ30.out; have := HK3.out; omega⟩, ⟨by repeat (first | (with_reducible first | exact HI560.out | apply IsS70.alloc | apply IsS70.drewN | apply IsS70.drew | refine IsS70.farT ?_ (by repeat (first | exact TyOf.mk BK564.out | apply TyOf.alloc | apply TyOf.drewN | apply TyOf.drew | apply TyOf.set)) (by decide) _) | exact HI560.out)⟩, ⟨by repeat (first | (with_reducible first | exact HI562.out | apply IsS90.alloc | apply IsS90.drewN | apply IsS90.drew | refine IsS90.farT ?_ (by repeat (first | exact TyOf.mk BK564.out | apply TyOf.alloc | apply TyOf.drewN | apply TyOf.drew | apply TyOf.set)) (by decide) _) | exact HI562.out)⟩, ⟨by repeat (first | (with_reducible first | exact HB.out | apply below_alloc | apply pw_below_drewN | apply below_drew1 | refine below_set ?_ (IsS70.ge HI560.out) | refine below_set ?_ (IsS90.ge HI562.out) | refine below_set ?_ (IsS77.ge HI574.out) | refine below_set ?_ (IsS77.ge HI576.out) | refine below_set ?_ GE564.out) | exact HB.out)⟩⟩
      ·
       rw [if_neg c13] at H
       exact absurd H (by simp)
     ·
      rw [if_neg c12] at H
      have c12b0 : decide (x5_1 < (l0.length : Int)) = false := decide_eq_false c12
      clear c12
      obtain rfl := Option.some.inj H
      go_wp2
      go_ret
      exact ⟨by first | rfl | (simp [errW_none, errW_some] <;> rfl) | (simp [*, errW_none, errW_some] <;> rfl), by repeat (first | (with_reducible first | exact HB.out | apply below_alloc | apply pw_below_drewN | apply below_drew1 | refine below_set ?_ (IsS70.ge HI560.out) | refine below_set ?_ (IsS90.ge HI562.out)) | exact HB.out)⟩
  ·
   replace c5 := Bool.eq_false_iff.mpr c5
   subst c5
   have H1 : (some true) = some r := by rw [if_neg (show ¬ (false = true) by decide)] at H; exact H
   clear H
   have H := H1
   clear H1
   obtain rfl := Option.some.inj H
   go_enter Tryd.func8, Tryd.ntmps8
   go_wp2_with (first | ((with_reducible refine gate_callee (f := 9) rfl ?_); refine goesL_ (some 18) rfl rfl Tryd.func9 (by kernel_rfl) rfl #[] rfl (by (try simp only [List.map_toArray, List.map_cons, List.map_nil]); first | done | rfl | (simp only [List.length_drop, List.length_take]; rfl)) ?_; (with_reducible refine (nunciolaw13_awake.calls k  true _ ?side1 A2.out).mono ?_); (case side1 => exact EnvW.below HEnv.out rfl (by repeat (first | (with_reducible first | exact HB.out | apply below_alloc | apply pw_below_drewN | apply below_drew1) | exact HB.out))); rintro e w112 ⟨rfl, hb⟩; refine ⟨_, rfl, ?_⟩; have n0_ := Aside0.mk (below_step (by repeat (first | (with_reducible first | exact HB.out | apply below_alloc | apply pw_below_drewN | apply below_drew1) | exact HB.out)) hb); clear HB; have HB := n0_; clear n0_; (try clear hb); (try clear hb2); (try clear hk); (try clear hi)) | ((with_reducible refine gate_callee (f := 15) rfl ?_); refine goesL_ (some 21) rfl rfl Tryd.func15 (by kernel_rfl) rfl #[.slice A0 l0.length c0] rfl (by (try simp only [List.map_toArray, List.map_cons, List.map_nil]); first | done | rfl | (simp only [List.length_drop, List.length_take]; rfl)) ?_; (with_reducible refine (nunciolaw13_few.calls k _ _ l0 false _ ?side1 ?side2 A4.out).mono ?_); (case side1 => repeat (first | exact (Kd.C_below HR0.out HB.out) | (with_reducible refine Kd.C_alloc ?_ _) | (with_reducible refine Kd.C_drewN ?_ _) | (with_reducible refine Kd.C_drew ?_))); (case side2 => exact HC0.out); rintro e w113 ⟨rfl, hb⟩; refine ⟨_, rfl, ?_⟩; have n0_ := Aside0.mk (below_step (by repeat (first | (with_reducible first | exact HB.out | apply below_alloc | apply pw_below_drewN | apply below_drew1) | exact HB.out)) hb); clear HB; have HB := n0_; clear n0_; (try clear hb); (try clear hb2); (try clear hk); (try clear hi)))
   go_ret
   exact ⟨by first | rfl | (simp [errW_none, errW_some] <;> rfl) | (simp [*, errW_none, errW_some] <;> rfl), by repeat (first | (with_reducible first | exact HB.out | apply below_alloc | apply pw_below_drewN | apply below_drew1) | exact HB.out)⟩
 ·
  replace c3 := Bool.eq_false_iff.mpr c3
  subst c3
  have H1 : (some false) = some r := by rw [if_neg (show ¬ (false = true) by decide)] at H; exact H
  clear H
  have H := H1
  clear H1
  exact absurd ((Option.some.inj H).trans HT.out) (by decide)
def nunciolaw13_PackBack.Pure : Prop := ∀ (l0 : List (S44)), (l0.length ≤ 9223372036854775807 ∧ l0.length * 32 ≤ 140737488351232 ∧ ∀ x_ ∈ l0, k44_wf x_) → ∃ k, nunciolaw13_PackBack.f k l0 = some true
theorem nunciolaw13_PackBack.walk (P : nunciolaw13_PackBack.Pure) (A0 : Option Addr) (c0 : Nat) (l0 : List (S44)) (w : World) (hE : EnvW w) (hr0 : Kd.C k44 w A0 l0.length l0) (hc0 : l0.length ≤ c0) (w0 : l0.length ≤ 9223372036854775807 ∧ l0.length * 32 ≤ 140737488351232 ∧ ∀ x_ ∈ l0, k44_wf x_) :
  Calls Tryd.prog 8 #[.slice A0 l0.length c0] w fun e w' => e = .returned (.bool true) ∧ Below w.heap.size w w' := by
 obtain ⟨k, h⟩ := P l0 w0
 refine (nunciolaw13_PackBack.calls k _ _ l0 true w hE hr0 hc0 h rfl).mono ?_
 rintro e w' ⟨rfl, hd⟩
 exact ⟨rfl, hd⟩
end Go.Proofs.YtfkdocmhbmameaaDoor.Mine
