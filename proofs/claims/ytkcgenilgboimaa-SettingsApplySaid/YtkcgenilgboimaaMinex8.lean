-- Written by this repo's own printer (wip/print), which builds on the kit's.
import Derived.Test.YtkcgenilgboimaaMinex0
import Derived.Test.YtkcgenilgboimaaMinex7
namespace Go.Proofs.Ytkcgenilgboimaa.Mine
open Go.RowKit Go.Proofs.YtkcgenilgboimaaW.PrintWords Go.Proofs.YtkcgenilgboimaaW.PrintLast Go.Proofs.YtkcgenilgboimaaW.PrintMore
attribute [local go_sem] max2_int min2_int max_two min_two max_three min_three max_four min_four   -- for this text's walks alone
set_option linter.unusedVariables false
set_option linter.unusedSimpArgs false

/-! ### nuncioref16_Apply: function 11 (by hand) -/
/-- The first setting's code that may not be. -/
def ref16Chk (k : Nat) (c : Bool) : List S42 → Option Int
 | [] => some 0
 | x :: l => (nuncioref16_wrong.f k c x.f0 x.f1).bind fun t => if t = 0 then ref16Chk k c l else some t
/-- Settings told: by their numbers. -/
def ref16Set (v : List Int) : List S42 → List Int
 | [] => v
 | x :: l => ref16Set (if 1 ≤ x.f0 ∧ x.f0 ≤ 6 then v.set x.f0.toNat x.f1 else v) l
def ref16Tup (v : List Int) (c : Int) : Int × Int × Int × Int × Int × Int × Int × Int := (v.getD 0 0, v.getD 1 0, v.getD 2 0, v.getD 3 0, v.getD 4 0, v.getD 5 0, v.getD 6 0, c)
def nuncioref16_Apply.f (k : Nat) (a0_0 : Int) (a0_1 : Int) (a0_2 : Int) (a0_3 : Int) (a0_4 : Int) (a0_5 : Int) (a0_6 : Int) (a1 : Bool) (l2 : List (S42)) : Option (Int × Int × Int × Int × Int × Int × Int × Int) :=
 (ref16Chk k a1 l2).bind fun t => some (ref16Tup (if t = 0 then ref16Set [a0_0, a0_1, a0_2, a0_3, a0_4, a0_5, a0_6] l2 else [a0_0, a0_1, a0_2, a0_3, a0_4, a0_5, a0_6]) t)
theorem ref16Chk_mono (k : Nat) (c : Bool) : ∀ l, LeO (ref16Chk k c l) (ref16Chk (k + 1) c l)
 | [] => LeO.refl _
 | x :: l => by
  unfold ref16Chk
  refine LeO.bind (nuncioref16_wrong.mono c x.f0 x.f1 k) (fun t => ?_)
  by_cases h : t = 0
  · rw [if_pos h, if_pos h]; exact ref16Chk_mono k c l
  · rw [if_neg h, if_neg h]; exact LeO.refl _
theorem nuncioref16_Apply.mono : ∀ a0_0 a0_1 a0_2 a0_3 a0_4 a0_5 a0_6 a1 l2 k, LeO (nuncioref16_Apply.f k a0_0 a0_1 a0_2 a0_3 a0_4 a0_5 a0_6 a1 l2) (nuncioref16_Apply.f (k + 1) a0_0 a0_1 a0_2 a0_3 a0_4 a0_5 a0_6 a1 l2) := by
 intro a0_0 a0_1 a0_2 a0_3 a0_4 a0_5 a0_6 a1 l2 k
 unfold nuncioref16_Apply.f
 exact LeO.bind (ref16Chk_mono k a1 l2) (fun t => LeO.refl _)
theorem ref16Set_length : ∀ (l : List S42) (v : List Int), (ref16Set v l).length = v.length
 | [], v => rfl
 | x :: l, v => by
  rw [ref16Set, ref16Set_length l]
  split <;> simp
def cells16 (v : List Int) : Array Value := (v.map (fun x => Value.int .u32 x)).toArray
theorem cells16_set (v : List Int) (i : Nat) (x : Int) : (cells16 v).setIfInBounds i (.int .u32 x) = cells16 (v.set i x) := by
 simp [cells16, List.map_set]
theorem cells16_get (v : List Int) (i : Nat) (h : i < v.length) : (cells16 v)[i]? = some (.int .u32 (v.getD i 0)) := by
 simp [cells16, h, List.getD_eq_getElem?_getD]
theorem list7 (v : List Int) (h : v.length = 7) : ∃ a b c d e f g, v = [a, b, c, d, e, f, g] := by
 match v, h with
 | [a, b, c, d, e, f, g], _ => exact ⟨a, b, c, d, e, f, g, rfl⟩
set_option maxHeartbeats 8000000 in
set_option maxRecDepth 100000 in
theorem nuncioref16_Apply.calls (k : Nat) (a0_0 : Int) (a0_1 : Int) (a0_2 : Int) (a0_3 : Int) (a0_4 : Int) (a0_5 : Int) (a0_6 : Int) (a1 : Bool) (A2 : Option Addr) (c2 : Nat) (l2 : List (S42)) (r1 : Int) (r2 : Int) (r3 : Int) (r4 : Int) (r5 : Int) (r6 : Int) (r7 : Int) (r8 : Int) (w : World) (hr2 : Kd.C k42 w A2 l2.length l2) (hc2 : l2.length ≤ c2) (h : nuncioref16_Apply.f k a0_0 a0_1 a0_2 a0_3 a0_4 a0_5 a0_6 a1 l2 = some (r1, r2, r3, r4, r5, r6, r7, r8)) :
  Calls Try.prog 11 #[.agg #[.int .u32 a0_0, .int .u32 a0_1, .int .u32 a0_2, .int .u32 a0_3, .int .u32 a0_4, .int .u32 a0_5, .int .u32 a0_6], .bool a1, .slice A2 l2.length c2] w fun e w' => e = .returned (.tuple #[.agg #[.int .u32 r1, .int .u32 r2, .int .u32 r3, .int .u32 r4, .int .u32 r5, .int .u32 r6, .int .u32 r7], .int .i64 r8]) ∧ Below w.heap.size w w' := by
 have hu1 := Try.underlying32
 have hu2 := Try.underlying30
 have hu3 := Try.underlying42
 have HR2 := Aside0.mk hr2
 have hlen : l2.length ≤ 9223372036854775807 := hr2.2.1
 clear hr2
 unfold nuncioref16_Apply.f at h
 obtain ⟨t, ht, H⟩ := Option.bind_eq_some_iff.mp h
 clear h
 have HT := Aside0.mk ht
 clear ht
 obtain ⟨v0, hv0⟩ : ∃ v : List Int, v = [a0_0, a0_1, a0_2, a0_3, a0_4, a0_5, a0_6] := ⟨_, rfl⟩
 rw [← hv0] at H
 have HV0 := Aside0.mk hv0
 have HH := Aside0.mk (Option.some.inj H)
 clear H hv0
 go_enter Try.func11, Try.ntmps11
 go_wp2_with (first | ((with_reducible refine gate_dst (N := 3) rfl ?_); refine box_event ?hg (N := 3) ?hd (cs := #[.int .u32 a0_0, .int .u32 a0_1, .int .u32 a0_2, .int .u32 a0_3, .int .u32 a0_4, .int .u32 a0_5, .int .u32 a0_6]) (t := 32) ?hr ?_; (case hd => rfl); (case hg => rfl); (case hr => first | (go_simp; done) | (go_simp; rfl)); intro g1 hg w3 hbox hb; have BK1 := Aside0.mk hbox; have HB := Aside0.mk hb; have GE1 := Aside0.mk (show w.heap.size ≤ g1 by omega); clear hbox hb hg) | ((with_reducible refine gate_dst (N := 6) rfl ?_); refine box_event ?hg (N := 6) ?hd (cs := #[.int .u32 0, .int .u32 0, .int .u32 0, .int .u32 0, .int .u32 0, .int .u32 0, .int .u32 0]) (t := 32) ?hr ?_; (case hd => rfl); (case hg => rfl); (case hr => first | (go_simp; done) | (go_simp; rfl)); intro g2 hg w6 hbox hb; have GL1 := blk_lt BK1.out; have NB := Aside0.mk (show g1 ≠ g2 by omega); have n1_ := Aside0.mk (blk_below BK1.out hb); have GE2 := Aside0.mk (show w.heap.size ≤ g2 by have := HB.out.size; omega); have n2_ := Aside0.mk (below_step HB.out hb); clear BK1 HB GL1; have BK1 := n1_; have HB := n2_; have BK2 := Aside0.mk hbox; clear n1_ n2_ hbox hb hg))
 go_loopw [8] (fun v8 wr => ∃ j : Nat, j ≤ l2.length ∧ v8 = .int .i64 j ∧ Aside0 (ref16Chk k a1 (l2.drop j) = some t) ∧ Aside0 (wr.heap[g1]? = some (.cells #[.int .u32 a0_0, .int .u32 a0_1, .int .u32 a0_2, .int .u32 a0_3, .int .u32 a0_4, .int .u32 a0_5, .int .u32 a0_6] 32 (0, 0))) ∧ Aside0 (wr.heap[g2]? = some (.cells #[.int .u32 0, .int .u32 0, .int .u32 0, .int .u32 0, .int .u32 0, .int .u32 0, .int .u32 0] 32 (0, 0))) ∧ Aside0 (Below w.heap.size w wr)) (fun v8 _ => l2.length - (intOf v8).toNat)
 case atStart => exact ⟨0, by omega, rfl, by rw [List.drop_zero]; exact HT, BK1, BK2, HB⟩
 case round =>
  obtain ⟨j, hj, rfl, HC, BK1, BK2, HB⟩ := hrel
  by_cases hlt : j < l2.length
  ·
   have hd : l2.drop j = l2[j] :: l2.drop (j + 1) := List.drop_eq_getElem_cons hlt
   have h1 := HC.out
   rw [hd, ref16Chk] at h1
   obtain ⟨q, hq, h2⟩ := Option.bind_eq_some_iff.mp h1
   clear h1 hd
   have hrd : rd_T42 l2 (j : Int) = l2[j] := by simp [rd_T42, hlt]
   obtain ⟨ad, e0, hx0, hx1⟩ := at_T42 HR2.out (j : Int) (by omega) (by omega)
   cases e0
   rw [hrd, Int.toNat_natCast] at hx0 hx1
   clear hrd
   generalize hel : l2[j] = el at *
   clear hel
   have HQ := Aside0.mk hq
   have HN := Aside0.mk h2
   clear hq h2 HC
   replace hx0 := (HB.out.cell (World.block_lt_of_cell? w _ hx0)).trans hx0
   replace hx1 := (HB.out.cell (World.block_lt_of_cell? w _ hx1)).trans hx1
   by_cases hq0 : q = 0
   ·
    subst hq0
    go_wp2_with (first | (go_at_call 19; (with_reducible refine (nuncioref16_wrong.calls k a1 el.f0 el.f1 0 _ HQ.out).mono ?_); rintro e w5 ⟨rfl, hb⟩; have n1_ := Aside0.mk (blk_below BK1.out hb); have n2_ := Aside0.mk (blk_below BK2.out hb); have n3_ := Aside0.mk (below_step HB.out hb); clear BK1 BK2 HB hb hx0 hx1; have BK1 := n1_; have BK2 := n2_; have HB := n3_; clear n1_ n2_ n3_))
    go_roundw
    case rel => exact ⟨j + 1, by omega, by go_num, ⟨by have h_ := HN.out; simpa using h_⟩, BK1, BK2, HB⟩
    case measure => simp [intOf]; omega
   ·
    have hqt : q = t := by have := HN.out; rw [if_neg hq0] at this; exact Option.some.inj this
    subst hqt
    have hqb : (q == 0) = false := beq_eq_false_iff_ne.mpr hq0
    have hqn : (q != 0) = true := bne_iff_ne.mpr hq0
    have HH2 := HH.out
    rw [if_neg hq0, HV0.out] at HH2
    simp only [ref16Tup, Prod.mk.injEq, List.getD_cons_zero, List.getD_cons_succ] at HH2
    obtain ⟨rfl, rfl, rfl, rfl, rfl, rfl, rfl, rfl⟩ := HH2
    clear HH
    go_wp2_with (first | (go_at_call 19; (with_reducible refine (nuncioref16_wrong.calls k a1 el.f0 el.f1 _ _ HQ.out).mono ?_); rintro e w5 ⟨rfl, hb⟩; have n1_ := Aside0.mk (blk_below BK1.out hb); have n2_ := Aside0.mk (blk_below BK2.out hb); have n3_ := Aside0.mk (below_step HB.out hb); clear BK1 BK2 HB hb hx0 hx1; have BK1 := n1_; have BK2 := n2_; have HB := n3_; clear n1_ n2_ n3_; have hnb := NB.out; have hnc := Ne.symm NB.out; have hc1_0 : w5.cell? ⟨g1, 0, none⟩ = some (.int .u32 a0_0) := (blk_cell BK1.out 0).trans rfl; have hc1_1 : w5.cell? ⟨g1, 1, none⟩ = some (.int .u32 a0_1) := (blk_cell BK1.out 1).trans rfl; have hc1_2 : w5.cell? ⟨g1, 2, none⟩ = some (.int .u32 a0_2) := (blk_cell BK1.out 2).trans rfl; have hc1_3 : w5.cell? ⟨g1, 3, none⟩ = some (.int .u32 a0_3) := (blk_cell BK1.out 3).trans rfl; have hc1_4 : w5.cell? ⟨g1, 4, none⟩ = some (.int .u32 a0_4) := (blk_cell BK1.out 4).trans rfl; have hc1_5 : w5.cell? ⟨g1, 5, none⟩ = some (.int .u32 a0_5) := (blk_cell BK1.out 5).trans rfl; have hc1_6 : w5.cell? ⟨g1, 6, none⟩ = some (.int .u32 a0_6) := (blk_cell BK1.out 6).trans rfl; have hc2_0 : w5.cell? ⟨g2, 0, none⟩ = some (.int .u32 0) := (blk_cell BK2.out 0).trans rfl; have hf2_0 := blk_frozen BK2.out 0; have hc2_1 : w5.cell? ⟨g2, 1, none⟩ = some (.int .u32 0) := (blk_cell BK2.out 1).trans rfl; have hf2_1 := blk_frozen BK2.out 1; have hc2_2 : w5.cell? ⟨g2, 2, none⟩ = some (.int .u32 0) := (blk_cell BK2.out 2).trans rfl; have hf2_2 := blk_frozen BK2.out 2; have hc2_3 : w5.cell? ⟨g2, 3, none⟩ = some (.int .u32 0) := (blk_cell BK2.out 3).trans rfl; have hf2_3 := blk_frozen BK2.out 3; have hc2_4 : w5.cell? ⟨g2, 4, none⟩ = some (.int .u32 0) := (blk_cell BK2.out 4).trans rfl; have hf2_4 := blk_frozen BK2.out 4; have hc2_5 : w5.cell? ⟨g2, 5, none⟩ = some (.int .u32 0) := (blk_cell BK2.out 5).trans rfl; have hf2_5 := blk_frozen BK2.out 5; have hc2_6 : w5.cell? ⟨g2, 6, none⟩ = some (.int .u32 0) := (blk_cell BK2.out 6).trans rfl; have hf2_6 := blk_frozen BK2.out 6))
    refine bodyPost_ret (results_ct rfl _ _ g2 32 #[.int .u32 a0_0, .int .u32 a0_1, .int .u32 a0_2, .int .u32 a0_3, .int .u32 a0_4, .int .u32 a0_5, .int .u32 a0_6] (0, 0) _ rfl (by exact blk_set (blk_set (blk_set (blk_set (blk_set (blk_set (blk_set BK2.out 0 _) 1 _) 2 _) 3 _) 4 _) 5 _) 6 _) Try.underlying32 rfl (by kernel_rfl)) rfl ?_
    exact ⟨rfl, below_set (below_set (below_set (below_set (below_set (below_set (below_set HB.out GE2.out) GE2.out) GE2.out) GE2.out) GE2.out) GE2.out) GE2.out⟩
  ·
   obtain rfl : j = l2.length := by omega
   have ht0 : t = 0 := by
    have := HC.out
    rw [List.drop_length] at this
    exact (Option.some.inj this).symm
   subst ht0
   have HH2 := HH.out
   rw [if_pos rfl] at HH2
   have HF := Aside0.mk HH2
   clear HH2 HH HC HT
   have HV := Aside0.mk (show wr.heap[g1]? = some (.cells (cells16 v0) 32 (0, 0)) from by rw [HV0.out]; exact BK1.out)
   have hv7 : v0.length = 7 := by rw [HV0.out]; rfl
   clear BK1 HV0
   go_wp2
   obtain ⟨wo, hwo⟩ : ∃ wo : World, wo = wr := ⟨_, rfl⟩
   rw [← hwo] at HV BK2 HB ⊢
   clear hwo
   go_loopw [10] (fun v10 wr => ∃ (j : Nat) (v : List Int), j ≤ l2.length ∧ v10 = .int .i64 j ∧ v.length = 7 ∧ Aside0 (ref16Set v (l2.drop j) = ref16Set v0 l2) ∧ Aside0 (wr.heap[g1]? = some (.cells (cells16 v) 32 (0, 0))) ∧ Aside0 (wr.heap[g2]? = some (.cells #[.int .u32 0, .int .u32 0, .int .u32 0, .int .u32 0, .int .u32 0, .int .u32 0, .int .u32 0] 32 (0, 0))) ∧ Aside0 (Below w.heap.size w wr)) (fun v10 _ => l2.length - (intOf v10).toNat)
   case atStart => exact ⟨0, v0, by omega, rfl, hv7, ⟨by rw [List.drop_zero]⟩, HV, BK2, HB⟩
   case round =>
    clear HV BK2 HB
    obtain ⟨j, v, hj, rfl, hv, HS, BK1, BK2, HB⟩ := hrel
    by_cases hlt : j < l2.length
    ·
     have hd : l2.drop j = l2[j] :: l2.drop (j + 1) := List.drop_eq_getElem_cons hlt
     have h1 := HS.out
     rw [hd, ref16Set] at h1
     have hrd : rd_T42 l2 (j : Int) = l2[j] := by simp [rd_T42, hlt]
     obtain ⟨ad, e0, hx0, hx1⟩ := at_T42 HR2.out (j : Int) (by omega) (by omega)
     cases e0
     rw [hrd, Int.toNat_natCast] at hx0 hx1
     clear hrd hd
     generalize hel : l2[j] = el at *
     clear hel
     have HN := Aside0.mk h1
     clear h1 HS
     replace hx0 := (HB.out.cell (World.block_lt_of_cell? w _ hx0)).trans hx0
     replace hx1 := (HB.out.cell (World.block_lt_of_cell? w _ hx1)).trans hx1
     by_cases hid : 1 ≤ el.f0 ∧ el.f0 ≤ 6
     ·
      have HN2 := Aside0.mk (show ref16Set (v.set el.f0.toNat el.f1) (l2.drop (j + 1)) = ref16Set v0 l2 from by have := HN.out; rwa [if_pos hid] at this)
      clear HN
      obtain ⟨h1, h6⟩ := hid
      have hcc : wr.cell? ⟨g1, el.f0.toNat, none⟩ = some (.int .u32 (v.getD el.f0.toNat 0)) := by rw [blk_cell BK1.out, cells16_get v _ (by omega)]
      have hfc := blk_frozen BK1.out el.f0.toNat
      have hi0 : 0 ≤ el.f0 := by omega
      have hi7 : el.f0 < 7 := by omega
      go_wp2
      go_region
      have n1_ := Aside0.mk (show (wr.setCell ⟨g1, el.f0.toNat, none⟩ (.int .u32 el.f1)).drew.heap[g1]? = some (.cells (cells16 (v.set el.f0.toNat el.f1)) 32 (0, 0)) from blk_drew (blk_put BK1.out el.f0.toNat _ (cells16_set v _ _)))
      have n2_ := Aside0.mk (show (wr.setCell ⟨g1, el.f0.toNat, none⟩ (.int .u32 el.f1)).drew.heap[g2]? = some (.cells #[.int .u32 0, .int .u32 0, .int .u32 0, .int .u32 0, .int .u32 0, .int .u32 0, .int .u32 0] 32 (0, 0)) from blk_drew (blk_far BK2.out (Ne.symm NB.out) _))
      have n3_ := Aside0.mk (show Below w.heap.size w (wr.setCell ⟨g1, el.f0.toNat, none⟩ (.int .u32 el.f1)).drew from below_drew1 (below_set HB.out GE1.out))
      generalize (wr.setCell ⟨g1, el.f0.toNat, none⟩ (.int .u32 el.f1)).drew = wA at n1_ n2_ n3_ ⊢
      clear hcc hfc hx0 hx1 BK1 BK2 HB
      go_wp2
      go_roundw
      case rel => exact ⟨j + 1, _, by omega, by go_num, by rw [List.length_set]; exact hv, HN2, n1_, n2_, n3_⟩
      case measure => simp [intOf]; omega
     ·
      have HN2 := Aside0.mk (show ref16Set v (l2.drop (j + 1)) = ref16Set v0 l2 from by have := HN.out; rwa [if_neg hid] at this)
      clear HN
      by_cases h1 : 1 ≤ el.f0
      ·
       have h6 : ¬ el.f0 ≤ 6 := fun h_ => hid ⟨h1, h_⟩
       have h6b : decide (el.f0 ≤ 6) = false := decide_eq_false h6
       clear hid h6
       go_wp2
       go_roundw
       case rel => exact ⟨j + 1, v, by omega, by go_num, hv, HN2, BK1, BK2, HB⟩
       case measure => simp [intOf]; omega
      ·
       have h1b : decide (1 ≤ el.f0) = false := decide_eq_false h1
       clear hid h1
       go_wp2
       go_roundw
       case rel => exact ⟨j + 1, v, by omega, by go_num, hv, HN2, BK1, BK2, HB⟩
       case measure => simp [intOf]; omega
    ·
     obtain rfl : j = l2.length := by omega
     have hf := HF.out
     have hs := HS.out
     rw [List.drop_length] at hs
     rw [← hs, ref16Set] at hf
     clear HS hs HF
     obtain ⟨a, b, c, d, e, f, g, rfl⟩ := list7 v hv
     simp only [ref16Tup, Prod.mk.injEq, List.getD_cons_zero, List.getD_cons_succ] at hf
     obtain ⟨rfl, rfl, rfl, rfl, rfl, rfl, rfl, rfl⟩ := hf
     clear hv
     have BK3 := Aside0.mk (show wr.heap[g1]? = some (.cells #[.int .u32 a, .int .u32 b, .int .u32 c, .int .u32 d, .int .u32 e, .int .u32 f, .int .u32 g] 32 (0, 0)) from BK1.out)
     clear BK1
     have hnb := NB.out
     have hnc := Ne.symm NB.out
     have hc1_0 : wr.cell? ⟨g1, 0, none⟩ = some (.int .u32 a) := (blk_cell BK3.out 0).trans rfl
     have hc1_1 : wr.cell? ⟨g1, 1, none⟩ = some (.int .u32 b) := (blk_cell BK3.out 1).trans rfl
     have hc1_2 : wr.cell? ⟨g1, 2, none⟩ = some (.int .u32 c) := (blk_cell BK3.out 2).trans rfl
     have hc1_3 : wr.cell? ⟨g1, 3, none⟩ = some (.int .u32 d) := (blk_cell BK3.out 3).trans rfl
     have hc1_4 : wr.cell? ⟨g1, 4, none⟩ = some (.int .u32 e) := (blk_cell BK3.out 4).trans rfl
     have hc1_5 : wr.cell? ⟨g1, 5, none⟩ = some (.int .u32 f) := (blk_cell BK3.out 5).trans rfl
     have hc1_6 : wr.cell? ⟨g1, 6, none⟩ = some (.int .u32 g) := (blk_cell BK3.out 6).trans rfl
     have hc2_0 : wr.cell? ⟨g2, 0, none⟩ = some (.int .u32 0) := (blk_cell BK2.out 0).trans rfl
     have hf2_0 := blk_frozen BK2.out 0
     have hc2_1 : wr.cell? ⟨g2, 1, none⟩ = some (.int .u32 0) := (blk_cell BK2.out 1).trans rfl
     have hf2_1 := blk_frozen BK2.out 1
     have hc2_2 : wr.cell? ⟨g2, 2, none⟩ = some (.int .u32 0) := (blk_cell BK2.out 2).trans rfl
     have hf2_2 := blk_frozen BK2.out 2
     have hc2_3 : wr.cell? ⟨g2, 3, none⟩ = some (.int .u32 0) := (blk_cell BK2.out 3).trans rfl
     have hf2_3 := blk_frozen BK2.out 3
     have hc2_4 : wr.cell? ⟨g2, 4, none⟩ = some (.int .u32 0) := (blk_cell BK2.out 4).trans rfl
     have hf2_4 := blk_frozen BK2.out 4
     have hc2_5 : wr.cell? ⟨g2, 5, none⟩ = some (.int .u32 0) := (blk_cell BK2.out 5).trans rfl
     have hf2_5 := blk_frozen BK2.out 5
     have hc2_6 : wr.cell? ⟨g2, 6, none⟩ = some (.int .u32 0) := (blk_cell BK2.out 6).trans rfl
     have hf2_6 := blk_frozen BK2.out 6
     go_wp2
     refine bodyPost_ret (results_ct rfl _ _ g2 32 #[.int .u32 a, .int .u32 b, .int .u32 c, .int .u32 d, .int .u32 e, .int .u32 f, .int .u32 g] (0, 0) _ rfl (by exact blk_set (blk_set (blk_set (blk_set (blk_set (blk_set (blk_set BK2.out 0 _) 1 _) 2 _) 3 _) 4 _) 5 _) 6 _) Try.underlying32 rfl (by kernel_rfl)) rfl ?_
     exact ⟨rfl, below_set (below_set (below_set (below_set (below_set (below_set (below_set HB.out GE2.out) GE2.out) GE2.out) GE2.out) GE2.out) GE2.out) GE2.out⟩

/-! ### nuncioref16_Defaults: function 12 -/
def nuncioref16_Defaults.f  : Option (Int × Int × Int × Int × Int × Int × Int) := some (0, 4096, 1, 4294967295, 65535, 16384, 4294967295)
set_option maxHeartbeats 8000000 in
set_option maxRecDepth 100000 in
theorem nuncioref16_Defaults.calls  (r1 : Int) (r2 : Int) (r3 : Int) (r4 : Int) (r5 : Int) (r6 : Int) (r7 : Int) (w : World) (h : nuncioref16_Defaults.f  = some (r1, r2, r3, r4, r5, r6, r7)) :
  Calls Try.prog 12 #[] w fun e w' => e = .returned (.agg #[.int .u32 r1, .int .u32 r2, .int .u32 r3, .int .u32 r4, .int .u32 r5, .int .u32 r6, .int .u32 r7]) ∧ Below w.heap.size w w' := by
 have hu32 := Try.underlying32
 have hu30 := Try.underlying30
 have HB := Aside0.mk (Below.refl w.heap.size w)
 have H : (some (0, 4096, 1, 4294967295, 65535, 16384, 4294967295)) = some (r1, r2, r3, r4, r5, r6, r7) := h
 clear h
 simp only [Option.some.injEq, Prod.mk.injEq] at H
 obtain ⟨rfl, rfl, rfl, rfl, rfl, rfl, rfl⟩ := H
 go_enter Try.func12, Try.ntmps12
 go_wp2_with (first | ((with_reducible refine gate_dst (N := 0) rfl ?_); refine box_event ?hg (N := 0) ?hd (cs := #[.int .u32 0, .int .u32 0, .int .u32 0, .int .u32 0, .int .u32 0, .int .u32 0, .int .u32 0]) (t := 32) ?hr ?_; (case hd => rfl); (case hg => rfl); (case hr => first | (go_simp; done) | (go_simp; rfl)); intro gb160 hg w1 hbox hb; have n0_ := Aside0.mk (below_step (by repeat (first | (with_reducible first | exact HB.out | apply below_alloc | apply pw_below_drewN | apply below_drew1) | exact HB.out)) hb); have n1_ := Aside0.mk (hbox); have n2_ := Aside0.mk ((by rw [hg]; exact (below_size (by repeat (first | (with_reducible first | exact HB.out | apply below_alloc | apply pw_below_drewN | apply below_drew1) | exact HB.out))) : w.heap.size ≤ gb160)); have n3_ := Aside0.mk ((by rw [hg]; exact (below_size (by repeat (first | (with_reducible first | exact HB.out | apply below_alloc | apply pw_below_drewN | apply below_drew1) | exact HB.out))) : w.heap.size ≤ gb160)); clear HB; have HB := n0_; have BK160 := n1_; have GW160 := n2_; have GE160 := n3_; clear n0_ n1_ n2_ n3_; clear hb hbox hg; have hcz2_0 : w1.cell? ⟨gb160, 0, none⟩ = some (.int .u32 0) := (blk_cell BK160.out 0).trans rfl; have hcz2_1 : w1.cell? ⟨gb160, 1, none⟩ = some (.int .u32 0) := (blk_cell BK160.out 1).trans rfl; have hcz2_2 : w1.cell? ⟨gb160, 2, none⟩ = some (.int .u32 0) := (blk_cell BK160.out 2).trans rfl; have hcz2_3 : w1.cell? ⟨gb160, 3, none⟩ = some (.int .u32 0) := (blk_cell BK160.out 3).trans rfl; have hcz2_4 : w1.cell? ⟨gb160, 4, none⟩ = some (.int .u32 0) := (blk_cell BK160.out 4).trans rfl; have hcz2_5 : w1.cell? ⟨gb160, 5, none⟩ = some (.int .u32 0) := (blk_cell BK160.out 5).trans rfl; have hcz2_6 : w1.cell? ⟨gb160, 6, none⟩ = some (.int .u32 0) := (blk_cell BK160.out 6).trans rfl; have hfz2_0 := blk_frozen BK160.out 0; have hfz2_1 := blk_frozen BK160.out 1; have hfz2_2 := blk_frozen BK160.out 2; have hfz2_3 := blk_frozen BK160.out 3; have hfz2_4 := blk_frozen BK160.out 4; have hfz2_5 := blk_frozen BK160.out 5; have hfz2_6 := blk_frozen BK160.out 6))
 refine bodyPost_ret (results_cell_row rfl _ _ gb160 32 #[.int .u32 0, .int .u32 4096, .int .u32 1, .int .u32 4294967295, .int .u32 65535, .int .u32 16384, .int .u32 4294967295] (0, 0) _ rfl (by (with_reducible repeat (first | refine blk_drewN ?_ _ | refine blk_drew ?_ | refine blk_alloc ?_ _)); refine blk_put (cs := #[.int .u32 0, .int .u32 4096, .int .u32 1, .int .u32 4294967295, .int .u32 65535, .int .u32 16384, .int .u32 0]) ?_ 6 _ rfl; (with_reducible repeat (first | refine blk_drewN ?_ _ | refine blk_drew ?_ | refine blk_alloc ?_ _)); refine blk_put (cs := #[.int .u32 0, .int .u32 4096, .int .u32 1, .int .u32 4294967295, .int .u32 65535, .int .u32 0, .int .u32 0]) ?_ 5 _ rfl; (with_reducible repeat (first | refine blk_drewN ?_ _ | refine blk_drew ?_ | refine blk_alloc ?_ _)); refine blk_put (cs := #[.int .u32 0, .int .u32 4096, .int .u32 1, .int .u32 4294967295, .int .u32 0, .int .u32 0, .int .u32 0]) ?_ 4 _ rfl; (with_reducible repeat (first | refine blk_drewN ?_ _ | refine blk_drew ?_ | refine blk_alloc ?_ _)); refine blk_put (cs := #[.int .u32 0, .int .u32 4096, .int .u32 1, .int .u32 0, .int .u32 0, .int .u32 0, .int .u32 0]) ?_ 3 _ rfl; (with_reducible repeat (first | refine blk_drewN ?_ _ | refine blk_drew ?_ | refine blk_alloc ?_ _)); refine blk_put (cs := #[.int .u32 0, .int .u32 4096, .int .u32 0, .int .u32 0, .int .u32 0, .int .u32 0, .int .u32 0]) ?_ 2 _ rfl; (with_reducible repeat (first | refine blk_drewN ?_ _ | refine blk_drew ?_ | refine blk_alloc ?_ _)); refine blk_put (cs := #[.int .u32 0, .int .u32 0, .int .u32 0, .int .u32 0, .int .u32 0, .int .u32 0, .int .u32 0]) ?_ 1 _ rfl; (with_reducible repeat (first | refine blk_drewN ?_ _ | refine blk_drew ?_ | refine blk_alloc ?_ _)); refine blk_put (cs := #[.int .u32 0, .int .u32 0, .int .u32 0, .int .u32 0, .int .u32 0, .int .u32 0, .int .u32 0]) ?_ 0 _ rfl; (with_reducible repeat (first | refine blk_drewN ?_ _ | refine blk_drew ?_ | refine blk_alloc ?_ _)); exact BK160.out) Try.underlying32 rfl (by kernel_rfl)) rfl ?_
 exact ⟨by first | rfl | (simp [errW_none, errW_some] <;> rfl) | (simp [*, errW_none, errW_some] <;> rfl), by repeat (first | (with_reducible first | exact HB.out | apply below_alloc | apply pw_below_drewN | apply below_drew1 | refine below_set ?_ GE160.out) | exact HB.out)⟩

/-! ### nunciolaw16_same: function 13 (by hand) -/
theorem eqNum16 (d : Nat) (W : World) (x y : Int) : (Op.equalIn (d + 1) 24 (.int .u32 x) (.int .u32 y)).run Try.prog W = .ok (x == y) W := by
 simp [Op.equalIn, go_sem]
theorem aggNum16 (W : World) : (isAgg 24).run Try.prog W = .ok false W := by kernel_rfl
set_option maxHeartbeats 1000000 in
set_option maxRecDepth 100000 in
theorem eqArr16 (d : Nat) (W : World) (x0 x1 x2 x3 x4 x5 x6 y0 y1 y2 y3 y4 y5 y6 : Int) : (Op.equalIn (d + 2) 30 (.agg #[.int .u32 x0, .int .u32 x1, .int .u32 x2, .int .u32 x3, .int .u32 x4, .int .u32 x5, .int .u32 x6]) (.agg #[.int .u32 y0, .int .u32 y1, .int .u32 y2, .int .u32 y3, .int .u32 y4, .int .u32 y5, .int .u32 y6])).run Try.prog W = .ok (x0 == y0 && (x1 == y1 && (x2 == y2 && (x3 == y3 && (x4 == y4 && (x5 == y5 && x6 == y6)))))) W := by
 have h30 := Try.underlying30
 have hn := fun W x y => eqNum16 d W x y
 have ha := aggNum16
 unfold Op.equalIn
 simp only [go_sem]
 simp [go_sem, List.range', ha, hn]
 by_cases e0 : x0 = y0
 ·
  by_cases e1 : x1 = y1
  ·
   by_cases e2 : x2 = y2
   ·
    by_cases e3 : x3 = y3
    ·
     by_cases e4 : x4 = y4
     ·
      by_cases e5 : x5 = y5
      ·
       by_cases e6 : x6 = y6
       · simp [go_sem, ha, hn, e0, e1, e2, e3, e4, e5, e6]
       · simp [go_sem, ha, hn, e0, e1, e2, e3, e4, e5, e6]
      · simp [go_sem, ha, hn, e0, e1, e2, e3, e4, e5]
     · simp [go_sem, ha, hn, e0, e1, e2, e3, e4]
    · simp [go_sem, ha, hn, e0, e1, e2, e3]
   · simp [go_sem, ha, hn, e0, e1, e2]
  · simp [go_sem, ha, hn, e0, e1]
 · simp [go_sem, ha, hn, e0]
def nunciolaw16_same.f (a0_0 : Int) (a0_1 : Int) (a0_2 : Int) (a0_3 : Int) (a0_4 : Int) (a0_5 : Bool) (a1_0 : Int) (a1_1 : Int) (a1_2 : Int) (a1_3 : Int) (a1_4 : Int) (a1_5 : Int) (a1_6 : Int) : Option Bool :=
 some (a1_0 == 0 && (a1_1 == a0_0 && (a1_2 == (if a0_5 = true then 1 else 0) && (a1_3 == a0_1 && (a1_4 == a0_2 && (a1_5 == a0_3 && a1_6 == a0_4))))))
set_option maxHeartbeats 4000000 in
set_option maxRecDepth 100000 in
theorem nunciolaw16_same.calls (a0_0 : Int) (a0_1 : Int) (a0_2 : Int) (a0_3 : Int) (a0_4 : Int) (a0_5 : Bool) (a1_0 : Int) (a1_1 : Int) (a1_2 : Int) (a1_3 : Int) (a1_4 : Int) (a1_5 : Int) (a1_6 : Int) (r : Bool) (w : World) (h : nunciolaw16_same.f a0_0 a0_1 a0_2 a0_3 a0_4 a0_5 a1_0 a1_1 a1_2 a1_3 a1_4 a1_5 a1_6 = some r) :
  Calls Try.prog 13 #[.agg #[.int .u32 a0_0, .int .u32 a0_1, .int .u32 a0_2, .int .u32 a0_3, .int .u32 a0_4, .bool a0_5], .agg #[.int .u32 a1_0, .int .u32 a1_1, .int .u32 a1_2, .int .u32 a1_3, .int .u32 a1_4, .int .u32 a1_5, .int .u32 a1_6]] w fun e w' => e = .returned (.bool r) ∧ Below w.heap.size w w' := by
 unfold nunciolaw16_same.f at h
 obtain rfl := Option.some.inj h
 clear h
 have hu1 := Try.underlying26
 have hu2 := Try.underlying32
 have he : ∀ (W : World) (x0 x1 x2 x3 x4 x5 x6 y0 y1 y2 y3 y4 y5 y6 : Int), (Op.equalIn 10000 30 (.agg #[.int .u32 x0, .int .u32 x1, .int .u32 x2, .int .u32 x3, .int .u32 x4, .int .u32 x5, .int .u32 x6]) (.agg #[.int .u32 y0, .int .u32 y1, .int .u32 y2, .int .u32 y3, .int .u32 y4, .int .u32 y5, .int .u32 y6])).run Try.prog W = .ok (x0 == y0 && (x1 == y1 && (x2 == y2 && (x3 == y3 && (x4 == y4 && (x5 == y5 && x6 == y6)))))) W := fun W => eqArr16 9998 W
 cases a0_5
 ·
  go_enter Try.func13, Try.ntmps13
  go_wp2
  go_ret
  exact ⟨by simp, ((Below.refl _ _).alloc (Nat.le_refl _) _).alloc (by simp) _⟩
 ·
  go_enter Try.func13, Try.ntmps13
  go_wp2
  go_ret
  exact ⟨by simp, ((Below.refl _ _).alloc (Nat.le_refl _) _).alloc (by simp) _⟩

end Go.Proofs.Ytkcgenilgboimaa.Mine
