/- The walks and the plain laws that the rows come to: merged out of this repo's texts. -/
import Derived.Test.YtfkdocmhbmameaaDoorProg
import Derived.Below
import Derived.Deep.Draws
import Derived.Deep.AppendLies
import Derived.Maps.AppendAt
import Derived.OwnWalk
import Derived.Laws.BytesArg
import Derived.Laws.MakeOwn
import Derived.Laws.OwnMore
import Derived.Deep.OwnRows
import Derived.Tactics
import Derived.Lib.ConvBytes
import Derived.Laws.Slices
import Derived.WalkKit
import Derived.KernelRfl
import Derived.RowKit3
import Derived.Deep.LoopGhost
import Derived.Deep.QuietTactic
import Derived.BigQuiet
import Derived.WideLaws
import Derived.Deep.DeepCutAuto
import Derived.Deep.CutBlock
import Derived.Deep.RegionHeld3
import Derived.Laws.Rows
import Derived.Lib.AppendStr
import Derived.ArgAppend
import Derived.Laws.IdiomCopy
import Derived.RowKit
import Derived.OrdersHeld
import Derived.Laws.BitsLemmas
import Derived.Laws.StructEq
import Derived.Laws.CopyOwn
import Derived.SizedLaws
import Derived.ChangeSlices
import Derived.Deep.Slices
import Derived.Lib.SmallJoins
import Derived.Lib.OthersKept
import Derived.Lib.AppendZerosOnto
import Derived.WalkSpells
import Derived.Test.YtfkdocmhbmameaaDoorCV1
import Derived.Test.YtfkdocmhbmameaaDoorCV2
import Derived.Test.YtfkdocmhbmameaaDoorCV6
import Derived.Test.YtfkdocmhbmameaaDoorCV7
import Derived.Test.YtfkdocmhbmameaaDoorCV8
namespace Go.Proofs.YtfkdocmhbmameaaDoor.Mine
open Go.RowKit Go.Proofs.YtfkdocmhbmameaaDoorW.PrintWords Go.Proofs.YtfkdocmhbmameaaDoorW.PrintLast Go.Proofs.YtfkdocmhbmameaaDoorW.PrintMore
attribute [local go_sem] max2_int min2_int max_two min_two max_three min_three max_four min_four
set_option linter.unusedVariables false
set_option linter.unusedSimpArgs false
mutual
def nuncioref10_Encode.l0 : Nat → ByteArray → List Int → List Int → Int → Int → Int → Option (ByteArray)
 | 0, _, _, _, _, _, _ => none
 | k + 1, x0, x3, x4, x5, x6, x7 => if x7 ≤ (x0.size : Int) then (if x7 < (x0.size : Int) then (if 0 ≤ x7 then (if 0 ≤ (bt x0 x7) then (if (bt x0 x7) < (x3.length : Int) then ((nuncioref10_Length.f (wrap64 (bt x0 x7))).bind fun t291 => ((nuncioref10_Bits.f k (rd x3 (bt x0 x7)) t291).bind fun t292 => (nuncioref10_Encode.j1 k x0 x3 x4 x5 x6 x7 t292))) else (none)) else (none)) else (none)) else (nuncioref10_Encode.j1 k x0 x3 x4 x5 x6 x7 (⟨#[]⟩ : ByteArray))) else (nuncioref10_Encode.l2 k x4 x5 x6)
def nuncioref10_Encode.j1 : Nat → ByteArray → List Int → List Int → Int → Int → Int → ByteArray → Option (ByteArray)
 | 0, _, _, _, _, _, _, _ => none
 | k + 1, x0, x3, x4, x5, x6, x7, x8 => nuncioref10_Encode.l1 k x0 x3 x4 x5 x6 x7 x8 0
def nuncioref10_Encode.l1 : Nat → ByteArray → List Int → List Int → Int → Int → Int → ByteArray → Int → Option (ByteArray)
 | 0, _, _, _, _, _, _, _, _ => none
 | k + 1, x0, x3, x4, x5, x6, x7, x8, x9 => if x9 < (x8.size : Int) then (if 0 ≤ x9 then (if (wrap64 (x6 + 1)) = 8 then (if x4.length < 140737488355328 then (nuncioref10_Encode.l1 k x0 x3 (x4 ++ [(wrap64 ((wrap64 ((wrap64 (x5 * 2)) + (wrap64 (bt x8 x9)))) - 48)) % 256]) 0 0 x7 x8 (wrap64 (x9 + 1))) else (none)) else (nuncioref10_Encode.l1 k x0 x3 x4 (wrap64 ((wrap64 ((wrap64 (x5 * 2)) + (wrap64 (bt x8 x9)))) - 48)) (wrap64 (x6 + 1)) x7 x8 (wrap64 (x9 + 1)))) else (none)) else (nuncioref10_Encode.l0 k x0 x3 x4 x5 x6 (wrap64 (x7 + 1)))
def nuncioref10_Encode.l2 : Nat → List Int → Int → Int → Option (ByteArray)
 | 0, _, _, _ => none
 | k + 1, x4, x5, x6 => if x6 > 0 then (nuncioref10_Encode.j4 k x4 x5 x6 (decide (x6 < 8))) else (nuncioref10_Encode.j4 k x4 x5 x6 false)
def nuncioref10_Encode.j4 : Nat → List Int → Int → Int → Bool → Option (ByteArray)
 | 0, _, _, _, _ => none
 | k + 1, x4, x5, x6, x61 => if x61 = true then (if (wrap64 (x6 + 1)) = 8 then (if x4.length < 140737488355328 then (nuncioref10_Encode.l2 k (x4 ++ [(wrap64 ((wrap64 (x5 * 2)) + 1)) % 256]) (wrap64 ((wrap64 (x5 * 2)) + 1)) (wrap64 (x6 + 1))) else (none)) else (nuncioref10_Encode.l2 k x4 (wrap64 ((wrap64 (x5 * 2)) + 1)) (wrap64 (x6 + 1)))) else (some (strOfNums x4))
end
def nuncioref10_Encode.f (k : Nat) (a0 : ByteArray) : Option (ByteArray) := (nuncioref10_Codes.f k).bind fun t287 => (nuncioref10_Encode.l0 k a0 t287 ([] : List Int) 0 0 0)
def nuncioref10_Encode.T10 : Bool × List (List Nat × List Nat) := (true, [([], []), ([], []), ([], []), ([1, 2], [1, 2]), ([0, 3], [0, 3]), ([4], [4]), ([], []), ([], []), ([6, 7], [6, 7]), ([8], [8]), ([9], [9]), ([5, 10, 10], [5, 10]), ([11, 11, 0, 1, 2, 3, 4, 5, 6, 7, 8, 9, 10, 11], [11])])
def nuncioref10_Encode.B10 : List Nat := [0, 0, 0, 6, 15, 31, 0, 0, 192, 448, 960, 2047, 4095]
theorem nuncioref10_Encode.tab10 : rtab .any (opsOf Tryd.f74 10) = nuncioref10_Encode.T10 := by kernel_rfl
theorem nuncioref10_Encode.bits10 : waitsOk nuncioref10_Encode.T10.2 nuncioref10_Encode.B10 = true := by kernel_rfl
set_option maxHeartbeats 8000000 in
set_option maxRecDepth 100000 in
theorem nuncioref10_Encode.calls (k : Nat) (a0 : ByteArray) (r : ByteArray) (w : World) (h : nuncioref10_Encode.f k a0 = some r) :
  Calls Tryd.prog 74 #[.string a0] w fun e w' => e = .returned (.string r) ∧ Below w.heap.size w w' := by
 have HB := Aside0.mk (Below.refl w.heap.size w)
 have H : ((nuncioref10_Codes.f k).bind fun t287 => (nuncioref10_Encode.l0 k a0 t287 ([] : List Int) 0 0 0)) = some r := h
 clear h
 replace H := Option.bind_eq_some_iff.mp H
 obtain ⟨t287, A20, H⟩ := H
 replace H : (nuncioref10_Encode.l0 k a0 t287 ([] : List Int) 0 0 0) = some r := H
 have A2 := Aside0.mk A20
 clear A20
 have H' := Aside0.mk H
 clear H
 go_enter Tryd.func74, Tryd.ntmps74
 go_wp2_with (first | ((with_reducible refine gate_callee (f := 83) rfl ?_); refine goesL_ (some 10) rfl rfl Tryd.func83 (by kernel_rfl) rfl #[] rfl (by (try simp only [List.map_toArray, List.map_cons, List.map_nil]); first | done | rfl | (simp only [List.length_drop, List.length_take]; rfl)) ?_; (with_reducible refine (nuncioref10_Codes.calls k  t287 _ A2.out).mono ?_); rintro e w3 ⟨v288, rfl, ho0, hb⟩; refine ⟨_, rfl, ?_⟩; have n0_ := Aside0.mk (Kd.R_lower ho0 (below_size (by repeat (first | (with_reducible first | exact HB.out | apply below_alloc | apply pw_below_drewN | apply below_drew1) | exact HB.out)))); have n1_ := Aside0.mk (below_step (by repeat (first | (with_reducible first | exact HB.out | apply below_alloc | apply pw_below_drewN | apply below_drew1) | exact HB.out)) hb); clear HB; have HO289 := n0_; have HB := n1_; clear n0_ n1_; (try clear hb); (try clear hb2); (try clear hk); (try clear hi); (try clear ho0)))
 go_loopg [4, 5, 6, 7] k (fun kq v4 v5 v6 v7 w' => ∃ (x4_1 : List Int) (x5_1 : Int) (x6_1 : Int) (x7_1 : Int), v5 = .int .i64 x5_1 ∧ v6 = .int .i64 x6_1 ∧ v7 = .int .i64 x7_1 ∧ Aside0 (nuncioref10_Encode.l0 kq a0 t287 x4_1 x5_1 x6_1 x7_1 = some r) ∧ Aside0 (kq ≤ k) ∧ Aside0 (Kd.R (Kd.int .u64) 73 w' w.heap.size (fun _ => True) v288 t287) ∧ Aside0 (Kd.R (Kd.int .u8) 5 w' w.heap.size (fun _ => True) v4 x4_1) ∧ Aside0 (Below w.heap.size w w'))
 case atStart => exact ⟨(([] : List Int)), (0), (0), (0), (by first | rfl | (simp; done) | (simp [*]; done)), (by first | rfl | (simp; done) | (simp [*]; done)), (by first | rfl | (simp; done) | (simp [*]; done)), H', ⟨Nat.le_refl _⟩, ⟨by (with_reducible repeat (first | apply Kd.R_alloc | apply Kd.R_drewN | apply Kd.R_drew)); exact HO289.out⟩, ⟨by first | exact Kd.R_nil _ _ _ _ _ | exact Kd.N_nil _ _ _ _ _ | exact Kd.V_nil _ _ _ _ _ | exact Kd.Q_nil _ _ _ _ _ | exact Kd.S_nil _ _ _ _ _⟩, ⟨by repeat (first | (with_reducible first | exact HB.out | apply below_alloc | apply pw_below_drewN | apply below_drew1) | exact HB.out)⟩⟩
 case round =>
  clear H'
  try clear p2
  obtain ⟨x4_1, x5_1, x6_1, x7_1, rfl, rfl, rfl, HA, HK1, HO_3, HO_4, HB⟩ := hrel
  cases gk with
  | zero => exact absurd HA.out (by simp [nuncioref10_Encode.l0])
  | succ k1 =>
   have H := HA.out
   clear HA
   simp only [nuncioref10_Encode.l0] at H
   by_cases c4 : x7_1 ≤ (a0.size : Int)
   ·
    rw [if_pos c4] at H
    have c4b0 : decide (x7_1 ≤ (a0.size : Int)) = true := decide_eq_true c4
    clear c4
    have HC5 := Aside0.mk H
    clear H
    go_upto_if 20 with (fail)
    go_cut [8] (fun v8 wc => ∃ (kq : Nat) (x8_4 : ByteArray), v8 = .string x8_4 ∧ Aside0 (nuncioref10_Encode.j1 kq a0 t287 x4_1 x5_1 x6_1 x7_1 x8_4 = some r) ∧ Aside0 (kq ≤ k1) ∧ Aside0 (Kd.R (Kd.int .u64) 73 wc w.heap.size (fun _ => True) v288 t287) ∧ Aside0 (Kd.R (Kd.int .u8) 5 wc w.heap.size (fun _ => True) u4 x4_1) ∧ Aside0 (Below w.heap.size w wc))
    case first =>
     have H := HC5.out
     clear HC5
     by_cases c6 : x7_1 < (a0.size : Int)
     ·
      rw [if_pos c6] at H
      have c6b0 : decide (x7_1 < (a0.size : Int)) = true := decide_eq_true c6
      clear c6
      (first | rw [c6b0] | rw [c6b1] | (simp only [i64_w, i32_w]; rw [c6b0]) | skip)
      by_cases c7 : 0 ≤ x7_1
      ·
       rw [if_pos c7] at H
       have c7b0 : decide (0 ≤ x7_1) = true := decide_eq_true c7
       clear c7
       by_cases c9 : 0 ≤ (bt a0 x7_1)
       ·
        rw [if_pos c9] at H
        have c9b0 : decide (0 ≤ (bt a0 x7_1)) = true := decide_eq_true c9
        clear c9
        by_cases c10 : (bt a0 x7_1) < (t287.length : Int)
        ·
         rw [if_pos c10] at H
         have c10b0 : decide ((bt a0 x7_1) < (t287.length : Int)) = true := decide_eq_true c10
         clear c10
         replace H := Option.bind_eq_some_iff.mp H
         obtain ⟨t291, A120, H⟩ := H
         replace H : ((nuncioref10_Bits.f k1 (rd t287 (bt a0 x7_1)) t291).bind fun t292 => (nuncioref10_Encode.j1 k1 a0 t287 x4_1 x5_1 x6_1 x7_1 t292)) = some r := H
         have A12 := Aside0.mk A120
         clear A120
         replace H := Option.bind_eq_some_iff.mp H
         obtain ⟨t292, A130, H⟩ := H
         replace H : (nuncioref10_Encode.j1 k1 a0 t287 x4_1 x5_1 x6_1 x7_1 t292) = some r := H
         have A13 := Aside0.mk A130
         clear A130
         have H' := Aside0.mk H
         clear H
         try go_wp2
         have n0_ := Aside0.mk (Kd.R_drew HO_3.out)
         have n1_ := Aside0.mk (Kd.R_drew HO_4.out)
         have n2_ := Aside0.mk (below_drew1 HB.out)
         clear HO_3
         clear HO_4
         clear HB
         have HO_3 := n0_
         have HO_4 := n1_
         have HB := n2_
         clear n0_ n1_ n2_
         have p8 : 0 ≤ (x7_1 : Int) := of_decide_eq_true (by first | (with_reducible assumption) | assumption)
         have q8 : x7_1 < (a0.size : Int) := of_decide_eq_true (by first | (with_reducible assumption) | assumption)
         have hx8 := bt_at a0 x7_1
         replace p8 := eq_true p8
         replace q8 := eq_true q8
         obtain ⟨Ao15, co15, eo15⟩ := Kd.R_slice HO_3.out
         (first | subst eo15 | (injection eo15 with f1_ f2_ f3_; have f4_ := f1_.symm; have f5_ := f3_.symm; clear f1_ f2_ f3_; subst f4_; subst f5_))
         have p290 : 0 ≤ ((bt a0 x7_1) : Int) := of_decide_eq_true (by first | (with_reducible assumption) | assumption)
         have q290 : (bt a0 x7_1) < (t287.length : Int) := of_decide_eq_true (by first | (with_reducible assumption) | assumption)
         obtain ⟨ad290, e290, hx290_0⟩ := Kd.at_int (Kd.R_reads' HO_3.out).2.2 (bt a0 x7_1) p290 q290
         cases e290
         replace p290 := eq_true p290
         replace q290 := eq_true q290
         have p11 : 0 ≤ (x7_1 : Int) := of_decide_eq_true (by first | (with_reducible assumption) | assumption)
         have q11 : x7_1 < (a0.size : Int) := of_decide_eq_true (by first | (with_reducible assumption) | assumption)
         have hx11 := bt_at a0 x7_1
         replace p11 := eq_true p11
         replace q11 := eq_true q11
         refine start_ (n := 13) (S := fun w' => w'.cell? (ad290.add ((bt a0 x7_1)).toNat) = some (.int .u64 (rd t287 (bt a0 x7_1)))) (ds := []) #[false, false, false, false, false, false, false, false, false, false, false, false, false] (by kernel_rfl) rfl rfl (hx290_0) (fun hHeld => ?_); refine with_tabW nuncioref10_Encode.tab10 nuncioref10_Encode.bits10 (fun HT_ HW_ => ?_)
         generalize wr.drew = w14 at HO_3 HO_4 HB hx290_0 hHeld ⊢
         refine pure_ (i := 0) (N := some 21) (v := ?_) (a' := ?_) #[true, false, false, false, false, false, false, false, false, false, false, false, false] rfl rfl (any_of HT_.out (by kernel_rfl)) (fun _ _ _ h => h) (Or.inl ⟨by rfl, ?_⟩) ?_ ?_
         rotate_left
         ·
          intro w'
          go_simp
          with_reducible rfl
         rotate_left
         ·
          simp only [Act.put, List.setIfInBounds_toArray, List.set_cons_zero, List.set_cons_succ, i64_w, i32_w]
          rfl
         refine pure_ (i := 1) (N := some 22) (v := ?_) (a' := ?_) #[true, true, false, false, false, false, false, false, false, false, false, false, false] rfl rfl (any_of HT_.out (by kernel_rfl)) (fun _ _ _ h => h) (Or.inl ⟨by rfl, ?_⟩) ?_ ?_
         rotate_left
         ·
          intro w'
          go_simp
          with_reducible rfl
         rotate_left
         ·
          simp only [Act.put, List.setIfInBounds_toArray, List.set_cons_zero, List.set_cons_succ, i64_w, i32_w]
          rfl
         refine pure_ (i := 2) (N := some 23) (v := ?_) (a' := ?_) #[true, true, true, false, false, false, false, false, false, false, false, false, false] rfl rfl (any_of HT_.out (by kernel_rfl)) (fun _ _ _ h => h) (Or.inl ⟨by rfl, ?_⟩) ?_ ?_
         rotate_left
         ·
          intro w'
          go_simp
          with_reducible rfl
         rotate_left
         ·
          simp only [Act.put, List.setIfInBounds_toArray, List.set_cons_zero, List.set_cons_succ, i64_w, i32_w]
          rfl
         refine pure_ (i := 6) (N := some 27) (v := ?_) (a' := ?_) #[true, true, true, false, false, false, true, false, false, false, false, false, false] rfl rfl (any_of HT_.out (by kernel_rfl)) (fun _ _ _ h => h) (Or.inl ⟨by rfl, ?_⟩) ?_ ?_
         rotate_left
         ·
          intro w'
          go_simp
          with_reducible rfl
         rotate_left
         ·
          simp only [Act.put, List.setIfInBounds_toArray, List.set_cons_zero, List.set_cons_succ, i64_w, i32_w]
          rfl
         refine pure_ (i := 7) (N := some 28) (v := ?_) (a' := ?_) #[true, true, true, false, false, false, true, true, false, false, false, false, false] rfl rfl (any_of HT_.out (by kernel_rfl)) (fun _ _ _ h => h) (Or.inl ⟨by rfl, ?_⟩) ?_ ?_
         rotate_left
         ·
          intro w'
          go_simp
          with_reducible rfl
         rotate_left
         ·
          simp only [Act.put, List.setIfInBounds_toArray, List.set_cons_zero, List.set_cons_succ, i64_w, i32_w]
          rfl
         refine take_ (i := 3) (N := some 24) (v := ?_) (a' := ?_) #[true, true, true, true, false, false, true, true, false, false, false, false, false] rfl rfl (take_ofW HT_.out HW_.out (by kernel_rfl)) (fun _ _ _ h => h) (Or.inl ⟨by rfl, ?_⟩) hHeld ?_ ?_
         rotate_left
         ·
          intro w' s0
          go_simp
          with_reducible rfl
         rotate_left
         ·
          simp only [Act.put, List.setIfInBounds_toArray, List.set_cons_zero, List.set_cons_succ, i64_w, i32_w]
          rfl
         refine pure_ (i := 4) (N := some 25) (v := ?_) (a' := ?_) #[true, true, true, true, true, false, true, true, false, false, false, false, false] rfl rfl (any_of HT_.out (by kernel_rfl)) (fun _ _ _ h => h) (Or.inl ⟨by rfl, ?_⟩) ?_ ?_
         rotate_left
         ·
          intro w'
          go_simp
          with_reducible rfl
         rotate_left
         ·
          simp only [Act.put, List.setIfInBounds_toArray, List.set_cons_zero, List.set_cons_succ, i64_w, i32_w]
          rfl
         refine take_ (i := 5) (N := some 26) (v := ?_) (a' := ?_) #[true, true, true, true, true, true, true, true, false, false, false, false, false] rfl rfl (take_ofW HT_.out HW_.out (by kernel_rfl)) (fun _ _ _ h => h) (Or.inl ⟨by rfl, ?_⟩) hHeld ?_ ?_
         rotate_left
         ·
          intro w' s0
          go_simp
          with_reducible rfl
         rotate_left
         ·
          simp only [Act.put, List.setIfInBounds_toArray, List.set_cons_zero, List.set_cons_succ, i64_w, i32_w]
          rfl
         refine take_ (i := 8) (N := some 29) (v := ?_) (a' := ?_) #[true, true, true, true, true, true, true, true, true, false, false, false, false] rfl rfl (take_ofW HT_.out HW_.out (by kernel_rfl)) (fun _ _ _ h => h) (Or.inl ⟨by rfl, ?_⟩) hHeld ?_ ?_
         rotate_left
         ·
          intro w' s0
          go_simp
          with_reducible rfl
         rotate_left
         ·
          simp only [Act.put, List.setIfInBounds_toArray, List.set_cons_zero, List.set_cons_succ, i64_w, i32_w]
          rfl
         refine pure_ (i := 9) (N := some 30) (v := ?_) (a' := ?_) #[true, true, true, true, true, true, true, true, true, true, false, false, false] rfl rfl (any_of HT_.out (by kernel_rfl)) (fun _ _ _ h => h) (Or.inl ⟨by rfl, ?_⟩) ?_ ?_
         rotate_left
         ·
          intro w'
          go_simp
          with_reducible rfl
         rotate_left
         ·
          simp only [Act.put, List.setIfInBounds_toArray, List.set_cons_zero, List.set_cons_succ, i64_w, i32_w]
          rfl
         refine one_ (i := 10) (N := some 31) #[true, true, true, true, true, true, true, true, true, true, true, false, false] rfl rfl (one_of HT_.out (by kernel_rfl)) (by decide) (fun K hK => ?_)
         refine goes_ Tryd.func85 (by kernel_rfl) rfl #[.int .i64 (wrap64 (bt a0 x7_1))] (by rfl) rfl rfl (by (try simp only [List.map_toArray, List.map_cons, List.map_nil]); first | done | rfl | (simp only [List.length_drop, List.length_take]; rfl)) ?_
         with_reducible refine (nuncioref10_Length.calls (wrap64 (bt a0 x7_1)) t291 _ A12.out).mono ?_
         rintro e w' ⟨rfl, ⟨nd, rfl⟩⟩
         refine ⟨_, rfl, ?_⟩
         refine hK.out _ _ (hHeld) (fun hHeld => ?_)
         clear hK K
         refine norm_ (a' := ?_) ?_ ?_
         rotate_left
         ·
          show Act.put _ (some 31) _ = _
          simp only [Act.put, List.setIfInBounds_toArray, List.set_cons_zero, List.set_cons_succ, i64_w, i32_w]
          rfl
         refine one_ (i := 11) (N := some 32) #[true, true, true, true, true, true, true, true, true, true, true, true, false] rfl rfl (one_of HT_.out (by kernel_rfl)) (by decide) (fun K hK => ?_)
         refine goes_ Tryd.func84 (by kernel_rfl) rfl #[.int .u64 (rd t287 (bt a0 x7_1)), .int .i64 t291] (by rfl) rfl rfl (by (try simp only [List.map_toArray, List.map_cons, List.map_nil]); first | done | rfl | (simp only [List.length_drop, List.length_take]; rfl)) ?_
         with_reducible refine (nuncioref10_Bits.calls k1 (rd t287 (bt a0 x7_1)) t291 t292 _ A13.out).mono ?_
         rintro e w16 ⟨rfl, hb⟩
         have HS0_ := (hb.cell (World.block_lt_of_cell? _ _ (hHeld))).trans (hHeld)
         refine ⟨_, rfl, ?_⟩
         have n0_ := Aside0.mk (Kd.R_below (by (with_reducible repeat (first | apply Kd.R_alloc | apply Kd.R_drewN | apply Kd.R_drew)); exact HO_3.out) hb)
         have n1_ := Aside0.mk (Kd.R_below (by (with_reducible repeat (first | apply Kd.R_alloc | apply Kd.R_drewN | apply Kd.R_drew)); exact HO_4.out) hb)
         have n2_ := Aside0.mk (below_step (by repeat (first | (with_reducible first | exact HB.out | apply below_alloc | apply pw_below_drewN | apply below_drew1) | exact HB.out)) hb)
         clear HO_3
         clear HO_4
         clear HB
         have HO_3 := n0_
         have HO_4 := n1_
         have HB := n2_
         clear n0_ n1_ n2_
         (try clear hb)
         (try clear hb2)
         (try clear hk)
         (try clear hi)
         refine hK.out _ _ (HS0_) (fun hHeld => ?_)
         clear hK K
         refine norm_ (a' := ?_) ?_ ?_
         rotate_left
         ·
          show Act.put _ (some 32) _ = _
          simp only [Act.put, List.setIfInBounds_toArray, List.set_cons_zero, List.set_cons_succ, i64_w, i32_w]
          rfl
         refine pure_ (i := 12) (N := some 8) (v := ?_) (a' := ?_) #[true, true, true, true, true, true, true, true, true, true, true, true, true] rfl rfl (any_of HT_.out (by kernel_rfl)) (fun _ _ _ h => h) (Or.inl ⟨by rfl, ?_⟩) ?_ ?_
         rotate_left
         ·
          intro w'
          go_simp
          with_reducible rfl
         rotate_left
         ·
          simp only [Act.put, List.setIfInBounds_toArray, List.set_cons_zero, List.set_cons_succ, i64_w, i32_w]
          rfl
         refine done_ (done_of HT_.out (by kernel_rfl)) ?_
         try go_wp2
         go_meet
         case rel => exact ⟨_, (t292), (by first | rfl | (simp; done) | (simp [*]; done)), H', ⟨by have := HK1.out; first | omega | exact Nat.le_refl _⟩, ⟨by (with_reducible repeat (first | apply Kd.R_alloc | apply Kd.R_drewN | apply Kd.R_drew)); exact HO_3.out⟩, ⟨by (with_reducible repeat (first | apply Kd.R_alloc | apply Kd.R_drewN | apply Kd.R_drew)); exact HO_4.out⟩, ⟨by repeat (first | (with_reducible first | exact HB.out | apply below_alloc | apply pw_below_drewN | apply below_drew1) | exact HB.out)⟩⟩
        ·
         rw [if_neg c10] at H
         exact absurd H (by simp)
       ·
        rw [if_neg c9] at H
        exact absurd H (by simp)
      ·
       rw [if_neg c7] at H
       exact absurd H (by simp)
     ·
      rw [if_neg c6] at H
      have c6b0 : decide (x7_1 < (a0.size : Int)) = false := decide_eq_false c6
      clear c6
      (first | rw [c6b0] | rw [c6b1] | (simp only [i64_w, i32_w]; rw [c6b0]) | skip)
      have H' := Aside0.mk H
      clear H
      go_wp2
      go_meet
      case rel => exact ⟨_, ((⟨#[]⟩ : ByteArray)), (by first | rfl | (simp; done) | (simp [*]; done)), H', ⟨by have := HK1.out; first | omega | exact Nat.le_refl _⟩, ⟨by (with_reducible repeat (first | apply Kd.R_alloc | apply Kd.R_drewN | apply Kd.R_drew)); exact HO_3.out⟩, ⟨by (with_reducible repeat (first | apply Kd.R_alloc | apply Kd.R_drewN | apply Kd.R_drew)); exact HO_4.out⟩, ⟨by repeat (first | (with_reducible first | exact HB.out | apply below_alloc | apply pw_below_drewN | apply below_drew1) | exact HB.out)⟩⟩
    case rest =>
     clear HC5
     try clear c1
     try clear p1
     try clear q1
     try clear hx1
     try clear p2
     try clear q2
     try clear hx2
     try clear c4
     try clear c4b0
     try clear c6
     try clear c6b0
     try clear c6b1
     try clear p6
     try clear c7
     try clear c7b0
     try clear c8
     try clear p8
     try clear q8
     try clear hx8
     try clear c9
     try clear c9b0
     try clear c10
     try clear c10b0
     try clear p11
     try clear q11
     try clear hx11
     try clear hx290_0
     try clear p11
     try clear p2
     try clear p290
     try clear p8
     try clear q11
     try clear q290
     try clear q8
     obtain ⟨kq, x8_4, rfl, HA, HJ4, HO_3, HO_4, HB⟩ := hcut
     cases kq with
     | zero => exact absurd HA.out (by simp [nuncioref10_Encode.j1])
     | succ kj4 =>
      have H := HA.out
      clear HA
      simp only [nuncioref10_Encode.j1] at H
      have H' := Aside0.mk H
      clear H
      go_wp2
      go_loopg [4, 5, 6, 9] kj4 (fun kq v4 v5 v6 v9 w' => ∃ (x4_3 : List Int) (x5_3 : Int) (x6_3 : Int) (x9_3 : Int), v5 = .int .i64 x5_3 ∧ v6 = .int .i64 x6_3 ∧ v9 = .int .i64 x9_3 ∧ Aside0 (nuncioref10_Encode.l1 kq a0 t287 x4_3 x5_3 x6_3 x7_1 x8_4 x9_3 = some r) ∧ Aside0 (kq ≤ kj4) ∧ Aside0 (Kd.R (Kd.int .u64) 73 w' w.heap.size (fun _ => True) v288 t287) ∧ Aside0 (Kd.R (Kd.int .u8) 5 w' w.heap.size (fun _ => True) v4 x4_3) ∧ Aside0 (Below w.heap.size w w'))
      case atStart => exact ⟨(x4_1), (x5_1), (x6_1), (0), (by first | rfl | (simp; done) | (simp [*]; done)), (by first | rfl | (simp; done) | (simp [*]; done)), (by first | rfl | (simp; done) | (simp [*]; done)), H', ⟨Nat.le_refl _⟩, ⟨by (with_reducible repeat (first | apply Kd.R_alloc | apply Kd.R_drewN | apply Kd.R_drew)); exact HO_3.out⟩, ⟨by (with_reducible repeat (first | apply Kd.R_alloc | apply Kd.R_drewN | apply Kd.R_drew)); exact HO_4.out⟩, ⟨by repeat (first | (with_reducible first | exact HB.out | apply below_alloc | apply pw_below_drewN | apply below_drew1) | exact HB.out)⟩⟩
      case round =>
       clear H'
       try clear c1
       try clear p1
       try clear q1
       try clear hx1
       try clear p2
       try clear q2
       try clear hx2
       try clear c4
       try clear c4b0
       try clear c6
       try clear c6b0
       try clear c6b1
       try clear p6
       try clear c7
       try clear c7b0
       try clear c8
       try clear p8
       try clear q8
       try clear hx8
       try clear c9
       try clear c9b0
       try clear c10
       try clear c10b0
       try clear p11
       try clear q11
       try clear hx11
       try clear hx290_0
       try clear p1
       try clear p11
       try clear p2
       try clear p290
       try clear p6
       try clear p8
       try clear q1
       try clear q11
       try clear q2
       try clear q290
       try clear q8
       obtain ⟨x4_3, x5_3, x6_3, x9_3, rfl, rfl, rfl, HA, HK3, HO_3, HO_4, HB⟩ := hrel
       cases gk with
       | zero => exact absurd HA.out (by simp [nuncioref10_Encode.l1])
       | succ k3 =>
        have H := HA.out
        clear HA
        simp only [nuncioref10_Encode.l1] at H
        by_cases c17 : x9_3 < (x8_4.size : Int)
        ·
         rw [if_pos c17] at H
         have c17b0 : decide (x9_3 < (x8_4.size : Int)) = true := decide_eq_true c17
         clear c17
         by_cases c18 : 0 ≤ x9_3
         ·
          rw [if_pos c18] at H
          have c18b0 : decide (0 ≤ x9_3) = true := decide_eq_true c18
          clear c18
          by_cases c20 : (wrap64 (x6_3 + 1)) = 8
          ·
           rw [if_pos c20] at H
           have c20b0 : ((wrap64 (x6_3 + 1)) == 8) = true := beq_iff_eq.mpr c20
           have c20b1 : ((wrap64 (x6_3 + 1)) != 8) = false := bne_eq_false_iff_eq.mpr c20
           clear c20
           by_cases c21 : x4_3.length < 140737488355328
           ·
            rw [if_pos c21] at H
            have LMc21 := Aside0.mk c21
            clear c21
            obtain ⟨y293, hy293⟩ : ∃ y_ : List Int, y_ = (x4_3 ++ [(wrap64 ((wrap64 ((wrap64 (x5_3 * 2)) + (wrap64 (bt x8_4 x9_3)))) - 48)) % 256]) := ⟨_, rfl⟩
            replace H : (nuncioref10_Encode.l1 k3 a0 t287 y293 0 0 x7_1 x8_4 (wrap64 (x9_3 + 1))) = some r := by first | (rw [hy293]; with_reducible exact H) | (have H2_ := (Option.bind_some _ _).symm.trans H; rw [hy293]; with_reducible exact H2_) | (have H2_ := (Option.bind_some _ _).symm.trans H; with_reducible exact H2_) | with_reducible exact H | (rw [hy293]; exact H) | exact H
            have Ny293 := Aside0.mk hy293
            clear hy293
            have H' := Aside0.mk H
            clear H
            have p19 : 0 ≤ (x9_3 : Int) := of_decide_eq_true (by first | (with_reducible assumption) | assumption)
            have q19 : x9_3 < (x8_4.size : Int) := of_decide_eq_true (by first | (with_reducible assumption) | assumption)
            have hx19 := bt_at x8_4 x9_3
            replace p19 := eq_true p19
            replace q19 := eq_true q19
            go_wp2_with (first | ((with_reducible refine gate_builtin (b := .append) (xs := #[.tmp 51, .tmp 54]) rfl ?_); at_builtin; refine Kd.R_append (Kd.int .u8) (w0 := w) w.heap.size rfl (.tmp 51) (.tmp 54) 71 5 (.int .u8 0) 1 rfl Tryd.underlying71 info5 rfl (by decide) (by omega) u4 x4_3 ((wrap64 ((wrap64 ((wrap64 (x5_3 * 2)) + (wrap64 (bt x8_4 x9_3)))) - 48)) % 256) [.int .u8 ((wrap64 ((wrap64 ((wrap64 (x5_3 * 2)) + (wrap64 (bt x8_4 x9_3)))) - 48)) % 256)] (fun _ => True) (fun _ => False) rfl rfl ?aP (fun _ hk => hk.elim) ?aF ?aO ?aB ?aS ?aL ?_; (case aP => exact rfl); (case aB => exact (by repeat (first | (with_reducible first | exact HB.out | apply below_alloc | apply pw_below_drewN | apply below_drew1) | exact HB.out))); (case aF => exact (fun _ _ => trivial)); (case aO => exact (by (with_reducible repeat (first | apply Kd.R_alloc | apply Kd.R_drewN | apply Kd.R_drew)); exact HO_4.out)); (case aS => exact (below_size (by repeat (first | (with_reducible first | exact HB.out | apply below_alloc | apply pw_below_drewN | apply below_drew1) | exact HB.out)))); (case aL => have := LMc21.out; omega); intro v294 w22 ho hb hg hat; rw [← Ny293.out] at ho; have n0_ := Aside0.mk (Kd.R_over' (by (with_reducible repeat (first | apply Kd.R_alloc | apply Kd.R_drewN | apply Kd.R_drew)); exact HO_3.out) (Kd.R_typed (by (with_reducible repeat (first | apply Kd.R_alloc | apply Kd.R_drewN | apply Kd.R_drew)); exact HO_4.out)) (by decide) hg); have n1_ := Aside0.mk (hb); have n2_ := Aside0.mk (ho); clear HO_3; clear HB; clear HO_4; have HO_3 := n0_; have HB := n1_; have HO295 := n2_; clear n0_ n1_ n2_; clear ho hb hg hat))
            go_roundg k3
            case measure => have := HK1.out; have := HJ4.out; have := HK3.out; omega
            case rel => exact ⟨(y293), (0), (0), (wrap64 (x9_3 + 1)), (by first | rfl | (simp; done) | (simp [*]; done)), (by first | rfl | (simp; done) | (simp [*]; done)), (by first | rfl | (simp; done) | (simp [*]; done)), H', ⟨by have := HK1.out; have := HJ4.out; have := HK3.out; omega⟩, ⟨by (with_reducible repeat (first | apply Kd.R_alloc | apply Kd.R_drewN | apply Kd.R_drew)); exact HO_3.out⟩, ⟨by (with_reducible repeat (first | apply Kd.R_alloc | apply Kd.R_drewN | apply Kd.R_drew)); exact HO295.out⟩, ⟨by repeat (first | (with_reducible first | exact HB.out | apply below_alloc | apply pw_below_drewN | apply below_drew1) | exact HB.out)⟩⟩
           ·
            rw [if_neg c21] at H
            exact absurd H (by simp)
          ·
           rw [if_neg c20] at H
           have c20b0 : ((wrap64 (x6_3 + 1)) == 8) = false := beq_eq_false_iff_ne.mpr c20
           have c20b1 : ((wrap64 (x6_3 + 1)) != 8) = true := bne_iff_ne.mpr c20
           have H' := Aside0.mk H
           clear H
           have p19 : 0 ≤ (x9_3 : Int) := of_decide_eq_true (by first | (with_reducible assumption) | assumption)
           have q19 : x9_3 < (x8_4.size : Int) := of_decide_eq_true (by first | (with_reducible assumption) | assumption)
           have hx19 := bt_at x8_4 x9_3
           replace p19 := eq_true p19
           replace q19 := eq_true q19
           go_wp2
           go_roundg k3
           case measure => have := HK1.out; have := HJ4.out; have := HK3.out; omega
           case rel => exact ⟨(x4_3), (wrap64 ((wrap64 ((wrap64 (x5_3 * 2)) + (wrap64 (bt x8_4 x9_3)))) - 48)), (wrap64 (x6_3 + 1)), (wrap64 (x9_3 + 1)), (by first | rfl | (simp; done) | (simp [*]; done)), (by first | rfl | (simp; done) | (simp [*]; done)), (by first | rfl | (simp; done) | (simp [*]; done)), H', ⟨by have := HK1.out; have := HJ4.out; have := HK3.out; omega⟩, ⟨by (with_reducible repeat (first | apply Kd.R_alloc | apply Kd.R_drewN | apply Kd.R_drew)); exact HO_3.out⟩, ⟨by (with_reducible repeat (first | apply Kd.R_alloc | apply Kd.R_drewN | apply Kd.R_drew)); exact HO_4.out⟩, ⟨by repeat (first | (with_reducible first | exact HB.out | apply below_alloc | apply pw_below_drewN | apply below_drew1) | exact HB.out)⟩⟩
         ·
          rw [if_neg c18] at H
          exact absurd H (by simp)
        ·
         rw [if_neg c17] at H
         have c17b0 : decide (x9_3 < (x8_4.size : Int)) = false := decide_eq_false c17
         clear c17
         have H' := Aside0.mk H
         clear H
         go_wp2
         go_roundg k3
         case measure => have := HK1.out; have := HJ4.out; have := HK3.out; omega
         case rel => exact ⟨(x4_3), (x5_3), (x6_3), (wrap64 (x7_1 + 1)), (by first | rfl | (simp; done) | (simp [*]; done)), (by first | rfl | (simp; done) | (simp [*]; done)), (by first | rfl | (simp; done) | (simp [*]; done)), H', ⟨by have := HK1.out; have := HJ4.out; have := HK3.out; omega⟩, ⟨by (with_reducible repeat (first | apply Kd.R_alloc | apply Kd.R_drewN | apply Kd.R_drew)); exact HO_3.out⟩, ⟨by (with_reducible repeat (first | apply Kd.R_alloc | apply Kd.R_drewN | apply Kd.R_drew)); exact HO_4.out⟩, ⟨by repeat (first | (with_reducible first | exact HB.out | apply below_alloc | apply pw_below_drewN | apply below_drew1) | exact HB.out)⟩⟩
   ·
    rw [if_neg c4] at H
    have c4b0 : decide (x7_1 ≤ (a0.size : Int)) = false := decide_eq_false c4
    clear c4
    have H' := Aside0.mk H
    clear H
    go_wp2
    go_loopg [4, 5, 6] k1 (fun kq v4 v5 v6 w' => ∃ (x4_2 : List Int) (x5_2 : Int) (x6_2 : Int), v5 = .int .i64 x5_2 ∧ v6 = .int .i64 x6_2 ∧ Aside0 (nuncioref10_Encode.l2 kq x4_2 x5_2 x6_2 = some r) ∧ Aside0 (kq ≤ k1) ∧ Aside0 (Kd.R (Kd.int .u8) 5 w' w.heap.size (fun _ => True) v4 x4_2) ∧ Aside0 (Below w.heap.size w w'))
    case atStart => exact ⟨(x4_1), (x5_1), (x6_1), (by first | rfl | (simp; done) | (simp [*]; done)), (by first | rfl | (simp; done) | (simp [*]; done)), H', ⟨Nat.le_refl _⟩, ⟨by (with_reducible repeat (first | apply Kd.R_alloc | apply Kd.R_drewN | apply Kd.R_drew)); exact HO_4.out⟩, ⟨by repeat (first | (with_reducible first | exact HB.out | apply below_alloc | apply pw_below_drewN | apply below_drew1) | exact HB.out)⟩⟩
    case round =>
     clear H'
     try clear c1
     try clear p1
     try clear q1
     try clear hx1
     try clear c2
     try clear p2
     try clear q2
     try clear hx2
     try clear c4
     try clear c4b0
     try clear c6
     try clear c6b0
     try clear c6b1
     try clear p6
     try clear c7
     try clear c7b0
     try clear c8
     try clear p8
     try clear q8
     try clear hx8
     try clear c9
     try clear c9b0
     try clear c10
     try clear c10b0
     try clear p11
     try clear q11
     try clear hx11
     try clear c17
     try clear c17b0
     try clear c18
     try clear c18b0
     try clear p19
     try clear q19
     try clear hx19
     try clear c20
     try clear c20b0
     try clear c20b1
     try clear c21
     try clear hx290_0
     try clear p1
     try clear p11
     try clear p19
     try clear p2
     try clear p290
     try clear p6
     try clear p8
     try clear q1
     try clear q11
     try clear q19
     try clear q2
     try clear q290
     try clear q8
     obtain ⟨x4_2, x5_2, x6_2, rfl, rfl, HA, HK2, HO_4, HB⟩ := hrel
     cases gk with
     | zero => exact absurd HA.out (by simp [nuncioref10_Encode.l2])
     | succ k2 =>
      have H := HA.out
      clear HA
      simp only [nuncioref10_Encode.l2] at H
      have HC23 := Aside0.mk H
      clear H
      go_upto_region 20 with (fail)
      go_cut [61] (fun v61 wc => ∃ (kq : Nat) (x61_22 : Bool), v61 = .bool x61_22 ∧ Aside0 (nuncioref10_Encode.j4 kq x4_2 x5_2 x6_2 x61_22 = some r) ∧ Aside0 (kq ≤ k2) ∧ Aside0 (Kd.R (Kd.int .u8) 5 wc w.heap.size (fun _ => True) u4 x4_2) ∧ Aside0 (Below w.heap.size w wc))
      case first =>
       have H := HC23.out
       clear HC23
       by_cases c24 : x6_2 > 0
       ·
        rw [if_pos c24] at H
        have c24b0 : decide (0 < x6_2) = true := decide_eq_true c24
        clear c24
        (first | rw [c24b0] | rw [c24b1] | (simp only [i64_w, i32_w]; rw [c24b0]) | skip)
        have H' := Aside0.mk H
        clear H
        go_wp2
        go_meet
        case rel => exact ⟨_, (decide (x6_2 < 8)), (by first | rfl | (simp; done) | (simp [*]; done)), H', ⟨by have := HK1.out; have := HK2.out; first | omega | exact Nat.le_refl _⟩, ⟨by (with_reducible repeat (first | apply Kd.R_alloc | apply Kd.R_drewN | apply Kd.R_drew)); exact HO_4.out⟩, ⟨by repeat (first | (with_reducible first | exact HB.out | apply below_alloc | apply pw_below_drewN | apply below_drew1) | exact HB.out)⟩⟩
       ·
        rw [if_neg c24] at H
        have c24b0 : decide (0 < x6_2) = false := decide_eq_false c24
        clear c24
        (first | rw [c24b0] | rw [c24b1] | (simp only [i64_w, i32_w]; rw [c24b0]) | skip)
        have H' := Aside0.mk H
        clear H
        go_wp2
        go_meet
        case rel => exact ⟨_, (false), (by first | rfl | (simp; done) | (simp [*]; done)), H', ⟨by have := HK1.out; have := HK2.out; first | omega | exact Nat.le_refl _⟩, ⟨by (with_reducible repeat (first | apply Kd.R_alloc | apply Kd.R_drewN | apply Kd.R_drew)); exact HO_4.out⟩, ⟨by repeat (first | (with_reducible first | exact HB.out | apply below_alloc | apply pw_below_drewN | apply below_drew1) | exact HB.out)⟩⟩
      case rest =>
       clear HC23
       try clear c1
       try clear p1
       try clear q1
       try clear hx1
       try clear c2
       try clear p2
       try clear q2
       try clear hx2
       try clear c4
       try clear c4b0
       try clear c6
       try clear c6b0
       try clear c6b1
       try clear p6
       try clear c7
       try clear c7b0
       try clear c8
       try clear p8
       try clear q8
       try clear hx8
       try clear c9
       try clear c9b0
       try clear c10
       try clear c10b0
       try clear p11
       try clear q11
       try clear hx11
       try clear c17
       try clear c17b0
       try clear c18
       try clear c18b0
       try clear p19
       try clear q19
       try clear hx19
       try clear c20
       try clear c20b0
       try clear c20b1
       try clear c21
       try clear c24
       try clear c24b0
       try clear c24b1
       try clear hx290_0
       try clear p1
       try clear p11
       try clear p19
       try clear p2
       try clear p290
       try clear p6
       try clear p8
       try clear q1
       try clear q11
       try clear q19
       try clear q2
       try clear q290
       try clear q8
       obtain ⟨kq, x61_22, rfl, HA, HJ22, HO_4, HB⟩ := hcut
       cases kq with
       | zero => exact absurd HA.out (by simp [nuncioref10_Encode.j4])
       | succ kj22 =>
        have H := HA.out
        clear HA
        simp only [nuncioref10_Encode.j4] at H
        by_cases c25 : x61_22 = true
        ·
         subst c25
         have H1 : (if (wrap64 (x6_2 + 1)) = 8 then (if x4_2.length < 140737488355328 then (nuncioref10_Encode.l2 kj22 (x4_2 ++ [(wrap64 ((wrap64 (x5_2 * 2)) + 1)) % 256]) (wrap64 ((wrap64 (x5_2 * 2)) + 1)) (wrap64 (x6_2 + 1))) else (none)) else (nuncioref10_Encode.l2 kj22 x4_2 (wrap64 ((wrap64 (x5_2 * 2)) + 1)) (wrap64 (x6_2 + 1)))) = some r := by rw [if_pos rfl] at H; exact H
         clear H
         have H := H1
         clear H1
         by_cases c26 : (wrap64 (x6_2 + 1)) = 8
         ·
          rw [if_pos c26] at H
          have c26b0 : ((wrap64 (x6_2 + 1)) == 8) = true := beq_iff_eq.mpr c26
          have c26b1 : ((wrap64 (x6_2 + 1)) != 8) = false := bne_eq_false_iff_eq.mpr c26
          clear c26
          by_cases c27 : x4_2.length < 140737488355328
          ·
           rw [if_pos c27] at H
           have LMc27 := Aside0.mk c27
           clear c27
           obtain ⟨y296, hy296⟩ : ∃ y_ : List Int, y_ = (x4_2 ++ [(wrap64 ((wrap64 (x5_2 * 2)) + 1)) % 256]) := ⟨_, rfl⟩
           replace H : (nuncioref10_Encode.l2 kj22 y296 (wrap64 ((wrap64 (x5_2 * 2)) + 1)) (wrap64 (x6_2 + 1))) = some r := by first | (rw [hy296]; with_reducible exact H) | (have H2_ := (Option.bind_some _ _).symm.trans H; rw [hy296]; with_reducible exact H2_) | (have H2_ := (Option.bind_some _ _).symm.trans H; with_reducible exact H2_) | with_reducible exact H | (rw [hy296]; exact H) | exact H
           have Ny296 := Aside0.mk hy296
           clear hy296
           have H' := Aside0.mk H
           clear H
           go_wp2_with (first | ((with_reducible refine gate_builtin (b := .append) (xs := #[.tmp 69, .tmp 72]) rfl ?_); at_builtin; refine Kd.R_append (Kd.int .u8) (w0 := w) w.heap.size rfl (.tmp 69) (.tmp 72) 71 5 (.int .u8 0) 1 rfl Tryd.underlying71 info5 rfl (by decide) (by omega) u4 x4_2 ((wrap64 ((wrap64 (x5_2 * 2)) + 1)) % 256) [.int .u8 ((wrap64 ((wrap64 (x5_2 * 2)) + 1)) % 256)] (fun _ => True) (fun _ => False) rfl rfl ?aP (fun _ hk => hk.elim) ?aF ?aO ?aB ?aS ?aL ?_; (case aP => exact rfl); (case aB => exact (by repeat (first | (with_reducible first | exact HB.out | apply below_alloc | apply pw_below_drewN | apply below_drew1) | exact HB.out))); (case aF => exact (fun _ _ => trivial)); (case aO => exact (by (with_reducible repeat (first | apply Kd.R_alloc | apply Kd.R_drewN | apply Kd.R_drew)); exact HO_4.out)); (case aS => exact (below_size (by repeat (first | (with_reducible first | exact HB.out | apply below_alloc | apply pw_below_drewN | apply below_drew1) | exact HB.out)))); (case aL => have := LMc27.out; omega); intro v297 w28 ho hb hg hat; rw [← Ny296.out] at ho; have n0_ := Aside0.mk (hb); have n1_ := Aside0.mk (ho); clear HB; clear HO_4; have HB := n0_; have HO298 := n1_; clear n0_ n1_; clear ho hb hg hat))
           go_roundg kj22
           case measure => have := HK1.out; have := HK2.out; have := HJ22.out; omega
           case rel => exact ⟨(y296), (wrap64 ((wrap64 (x5_2 * 2)) + 1)), (wrap64 (x6_2 + 1)), (by first | rfl | (simp; done) | (simp [*]; done)), (by first | rfl | (simp; done) | (simp [*]; done)), H', ⟨by have := HK1.out; have := HK2.out; have := HJ22.out; omega⟩, ⟨by (with_reducible repeat (first | apply Kd.R_alloc | apply Kd.R_drewN | apply Kd.R_drew)); exact HO298.out⟩, ⟨by repeat (first | (with_reducible first | exact HB.out | apply below_alloc | apply pw_below_drewN | apply below_drew1) | exact HB.out)⟩⟩
          ·
           rw [if_neg c27] at H
           exact absurd H (by simp)
         ·
          rw [if_neg c26] at H
          have c26b0 : ((wrap64 (x6_2 + 1)) == 8) = false := beq_eq_false_iff_ne.mpr c26
          have c26b1 : ((wrap64 (x6_2 + 1)) != 8) = true := bne_iff_ne.mpr c26
          have H' := Aside0.mk H
          clear H
          go_wp2
          go_roundg kj22
          case measure => have := HK1.out; have := HK2.out; have := HJ22.out; omega
          case rel => exact ⟨(x4_2), (wrap64 ((wrap64 (x5_2 * 2)) + 1)), (wrap64 (x6_2 + 1)), (by first | rfl | (simp; done) | (simp [*]; done)), (by first | rfl | (simp; done) | (simp [*]; done)), H', ⟨by have := HK1.out; have := HK2.out; have := HJ22.out; omega⟩, ⟨by (with_reducible repeat (first | apply Kd.R_alloc | apply Kd.R_drewN | apply Kd.R_drew)); exact HO_4.out⟩, ⟨by repeat (first | (with_reducible first | exact HB.out | apply below_alloc | apply pw_below_drewN | apply below_drew1) | exact HB.out)⟩⟩
        ·
         replace c25 := Bool.eq_false_iff.mpr c25
         subst c25
         have H1 : (some (strOfNums x4_2)) = some r := by rw [if_neg (show ¬ (false = true) by decide)] at H; exact H
         clear H
         have H := H1
         clear H1
         obtain rfl := Option.some.inj H
         have hcv29 := own_string (P := Tryd.prog) Tryd.underlying71 Tryd.underlying5 Tryd.underlying9 (Kd.own_of_R HO_4.out)
         go_wp2
         go_ret
         exact ⟨by first | rfl | (simp [errW_none, errW_some] <;> rfl) | (simp [*, errW_none, errW_some] <;> rfl), by repeat (first | (with_reducible first | exact HB.out | apply below_alloc | apply pw_below_drewN | apply below_drew1) | exact HB.out)⟩
end Go.Proofs.YtfkdocmhbmameaaDoor.Mine
