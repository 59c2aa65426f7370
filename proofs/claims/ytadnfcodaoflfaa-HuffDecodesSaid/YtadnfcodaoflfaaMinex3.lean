-- Written by this repo's own printer (wip/print), which builds on the kit's.
import Derived.Test.YtadnfcodaoflfaaMinex0
import Derived.Test.YtadnfcodaoflfaaMinex2
namespace Go.Proofs.Ytadnfcodaoflfaa.Mine
open Go.RowKit Go.Proofs.YtadnfcodaoflfaaW.PrintWords Go.Proofs.YtadnfcodaoflfaaW.PrintLast Go.Proofs.YtadnfcodaoflfaaW.PrintMore
attribute [local go_sem] max2_int min2_int max_two min_two max_three min_three max_four min_four   -- for this text's walks alone
set_option linter.unusedVariables false
set_option linter.unusedSimpArgs false

/-! ### huff_made: function 18 (by hand) -/
theorem hcZeroValue (w : World) : (zeroValue 48).run Try.prog w = .ok (.agg (hcTab 5 0 5 5 0)) w := by kernel_rfl
theorem hb0_at {w0 W : World} {g : Nat} (h : IsS48 w0 W g) (i : Int) (h0 : 0 ≤ i) (h1 : i < 257) : W.cell? ⟨g, i.toNat, none⟩ = some (.int .u32 (hb0 i)) := by
 rw [blk_cell h.1, hcTab_get _ _ _ _ _ _ (by omega), hcCell_code' _ _ _ _ _ _ (by omega), if_pos (show hcLen i.toNat < 31 ∨ (hcLen i.toNat = 31 ∧ i.toNat < 0) from .inl (hcLen_le _ (by omega)))]
 rfl
theorem hb1_at {w0 W : World} {g : Nat} (h : IsS48 w0 W g) (i : Int) (h0 : 0 ≤ i) (h1 : i < 31) : W.cell? ⟨g, 257 + i.toNat, none⟩ = some (.int .u32 (hb1 i)) := by
 rw [blk_cell h.1, hcTab_get _ _ _ _ _ _ (by omega), hcCell_first _ _ _ _ _ _ (by omega), if_pos (by omega)]
 rfl
theorem hb2_at {w0 W : World} {g : Nat} (h : IsS48 w0 W g) (i : Int) (h0 : 0 ≤ i) (h1 : i < 31) : W.cell? ⟨g, 288 + i.toNat, none⟩ = some (.int .i64 (hb2 i)) := by
 rw [blk_cell h.1, hcTab_get _ _ _ _ _ _ (by omega), hcCell_count _ _ _ _ _ _ (by omega), if_pos (by omega)]
 rfl
theorem hb3_at {w0 W : World} {g : Nat} (h : IsS48 w0 W g) (i : Int) (h0 : 0 ≤ i) (h1 : i < 31) : W.cell? ⟨g, 319 + i.toNat, none⟩ = some (.int .i64 (hb3 i)) := by
 rw [blk_cell h.1, hcTab_get _ _ _ _ _ _ (by omega), hcCell_begin _ _ _ _ _ _ (by omega), if_pos (by omega)]
 rfl
theorem hb4_at {w0 W : World} {g : Nat} (h : IsS48 w0 W g) (i : Int) (h0 : 0 ≤ i) (h1 : i < 257) : W.cell? ⟨g, 350 + i.toNat, none⟩ = some (.int .i64 (hb4 i)) := by
 rw [blk_cell h.1, hcTab_get _ _ _ _ _ _ (by omega), hcCell_sign _ _ _ _ _ _, if_pos (by omega)]
 rfl
def huff_made.f : Option Unit := some ()
set_option maxHeartbeats 4000000 in
set_option maxRecDepth 100000 in
theorem huff_made.made (w : World) : Calls Try.prog 18 #[] w fun e w' => ∃ g_ : Nat, e = .returned (.pointer (some ⟨g_, 0, none⟩)) ∧ w'.heap[g_]? = some (.cells (hcTab 31 0 31 31 257) 48 (0, 0)) ∧ w.heap.size ≤ g_ ∧ Below w.heap.size w w' := by
 have hz := hcZeroValue
 obtain ⟨T0, hT0⟩ : ∃ T, T = hcTab 5 0 5 5 0 := ⟨_, rfl⟩
 rw [← hT0] at hz
 have HT := Aside0.mk hT0
 clear hT0
 go_enter Try.func18, Try.ntmps18
 go_wp2_with (first | ((with_reducible refine gate_dst (N := 8) rfl ?_); refine box_event ?hg (N := 8) ?hd (cs := T0) (t := 48) ?hr ?_; (case hd => rfl); (case hg => rfl); (case hr => first | (go_simp; done) | (go_simp; rfl)); intro gb hg w2 hbox hb; have HBox := Aside0.mk hbox; have HB2 := Aside0.mk hb; have HG := Aside0.mk (show w.heap.size ≤ gb by omega); clear hbox hb hg hz))
 go_loopw [2, 3, 4] (fun v2 v3 v4 wr => ∃ n p b : Nat, 5 ≤ n ∧ n ≤ 31 ∧ p = hcPre n ∧ b = hcBeg n ∧ v2 = .int .u32 p ∧ v3 = .int .i64 b ∧ v4 = .int .i64 n ∧ Aside0 (wr.heap[gb]? = some (.cells (hcTab n 0 n n b) 48 (0, 0))) ∧ Aside0 (Below w.heap.size w wr)) (fun _ _ v4 _ => 31 - (intOf v4).toNat)
 case atStart => exact ⟨5, 0, 0, by omega, by omega, rfl, rfl, rfl, rfl, rfl, ⟨by rw [← HT.out]; exact HBox.out⟩, HB2⟩
 case round =>
  obtain ⟨n, p, b, h5, h31, hp, hb, rfl, rfl, rfl, HT1, HB1⟩ := hrel
  clear HBox HB2
  by_cases hn : n ≤ 30
  ·
   obtain ⟨e1, e2, e3, e4, e5, e6, e7, e8⟩ := hcRound n h5 (by omega)
   rw [← hp] at e1
   rw [← hb] at e4 e5 e6 e8
   have hpb : p ≤ 536870912 := by omega
   have E1 := Aside0.mk e1
   have E2 := Aside0.mk e2
   have E4 := Aside0.mk e4
   have E6 := Aside0.mk e6
   have E7 := Aside0.mk e7
   clear e1 e2 e4 e6 e7 hp hb
   have hca : wr.cell? ⟨gb, 257 + n, none⟩ = some (.int .u32 (if n < n then hcFirst n else 0 : Nat)) := by rw [blk_cell HT1.out, hcTab_get _ _ _ _ _ _ (by omega), hcCell_first _ _ _ _ _ _ (by omega)]
   have hfa := blk_frozen HT1.out (257 + n)
   have hcb : wr.cell? ⟨gb, 319 + n, none⟩ = some (.int .i64 (if n < n then hcBegin n else 0 : Nat)) := by rw [blk_cell HT1.out, hcTab_get _ _ _ _ _ _ (by omega), hcCell_begin _ _ _ _ _ _ (by omega)]
   have hfb := blk_frozen HT1.out (319 + n)
   go_wp2
   go_region
   clear hca hfa hcb hfb
   have F1 := Aside0.mk (show (((wr.setCell ⟨gb, 257 + n, none⟩ (.int .u32 ((p : Int) * 2))).setCell ⟨gb, 319 + n, none⟩ (.int .i64 (b : Int))).drew).heap[gb]? = some (.cells (hcTab n 0 (n + 1) n b) 48 (0, 0)) from
    blk_drew (blk_put (blk_set HT1.out (257 + n) _) (319 + n) _ (by
     have h1 := hcStep1 n b (by omega)
     rw [← E4.out, E1.out] at h1
     exact hcTab_set2 (fun j hj => by rw [← h1 j hj, show ((2 * p : Nat) : Int) = (p : Int) * 2 by omega]))))
   have F2 := Aside0.mk (show Below w.heap.size w (((wr.setCell ⟨gb, 257 + n, none⟩ (.int .u32 ((p : Int) * 2))).setCell ⟨gb, 319 + n, none⟩ (.int .i64 (b : Int))).drew) from below_drew1 (below_set (below_set HB1.out HG.out) HG.out))
   generalize ((wr.setCell ⟨gb, 257 + n, none⟩ (.int .u32 ((p : Int) * 2))).setCell ⟨gb, 319 + n, none⟩ (.int .i64 (b : Int))).drew = wA at F1 F2 ⊢
   clear HT1 HB1
   go_wp2
   change Code.wp Try.prog _ _ _ (wA.iter hcText 0)
   have hgi : gb < wA.heap.size := blk_lt F1.out
   have hwi : w.heap.size ≤ wA.heap.size := F2.out.size
   have F3 := Aside0.mk (World.iter_heap wA hcText 0)
   have F4 := Aside0.mk (show (wA.iter hcText 0).heap[gb]? = some (.cells (hcTab n 0 (n + 1) n b) 48 (0, 0)) from blk_alloc F1.out _)
   have F5 := Aside0.mk (show Below w.heap.size w (wA.iter hcText 0) from below_alloc F2.out _)
   clear F1 F2
   generalize wA.heap.size = ib at hgi hwi F3 ⊢
   generalize wA.iter hcText 0 = wI at F3 F4 F5 ⊢
   go_loopw [2, 3] (fun v2 v3 wr => ∃ k q a : Nat, k ≤ 257 ∧ Aside0 (q = 2 * p + hcCnt n k) ∧ Aside0 (a = b + hcCnt n k) ∧ v2 = .int .u32 q ∧ v3 = .int .i64 a ∧ q ≤ 1073742100 ∧ a ≤ 257 ∧ Aside0 (wr.heap[ib]? = some (.stringIter hcText k)) ∧ Aside0 (wr.heap[gb]? = some (.cells (hcTab n k (n + 1) n a) 48 (0, 0))) ∧ Aside0 (Below w.heap.size w wr)) (fun _ _ wr => 257 - wr.iterPos ib)
   case atStart => exact ⟨0, p * 2, b, by omega, ⟨by rw [hcCnt_zero]; omega⟩, ⟨by rw [hcCnt_zero]; omega⟩, by simp, rfl, by omega, by omega, F3, F4, F5⟩
   case round =>
    obtain ⟨k, q, a, hk, HQ, HA, rfl, rfl, hq1, ha1, G3, G4, G5⟩ := hrel
    clear F3 F4 F5
    by_cases hlt : k < 257
    ·
     obtain ⟨l, hl⟩ : ∃ l, l = hcLen k := ⟨_, rfl⟩
     obtain ⟨s1, s2, s3, s4, s5⟩ := hcSigns_all k hlt
     rw [← hl] at s1 s2 s3 s4 s5
     have HL := Aside0.mk hl
     have S1 := Aside0.mk s1
     have S2 := Aside0.mk s2
     have S3 := Aside0.mk s3
     clear s1 s2 s3
     have hby := hcText_at k hlt
     rw [← hl] at hby
     have hnx : ∀ ty, (Instr.next (.pointer (some ⟨ib, 0, none⟩)) true ty).run Try.prog wr = .ok (.tuple #[.bool true, .int .i64 k, .int .i32 ((l + 92 : Nat) : Int)]) (wr.iterAt ib hcText (k + 1)) := by
      intro ty
      have h_ := Lib.run_next_ascii_at (P := Try.prog) wr ib hcText k ty G3.out (by rw [hcText_size]; exact hlt) (by rw [hby]; omega)
      rw [hby] at h_
      exact h_
     clear hby hl
     have G6 := Aside0.mk (Lib.iterAt_heap wr ib hcText k (k + 1) G3.out)
     have G7 := Aside0.mk (show (wr.iterAt ib hcText (k + 1)).heap[gb]? = some (.cells (hcTab n k (n + 1) n a) 48 (0, 0)) from (Lib.iterAt_other wr ib gb hcText (k + 1) (by omega)).trans G4.out)
     have G8 := Aside0.mk (Lib.below_iterAt G5.out (k := ib) (by omega) hcText (k + 1))
     clear G4 G5
     generalize wr.iterAt ib hcText (k + 1) = wB at hnx G6 G7 G8
     by_cases hln : l = n
     ·
      subst hln
      have hcond : (((l : Int) + 92 - 97 + 5) == (l : Int)) = true := by rw [beq_iff_eq]; omega
      have hcc : wB.cell? ⟨gb, k, none⟩ = some (hcCell l k (l + 1) l a k) := by rw [blk_cell G7.out, hcTab_get _ _ _ _ _ _ (by omega)]
      rw [hcCell_code' _ _ _ _ _ _ hlt] at hcc
      have hfc := blk_frozen G7.out k
      have ha2 : a < 257 := by
       have h1 := S3.out
       rw [show hcBegin l = b from E4.out.symm] at h1; have h2 := HA.out
       omega
      have hcs : wB.cell? ⟨gb, 350 + a, none⟩ = some (.int .i64 (if a < a then hcSign a else 0 : Nat)) := by rw [blk_cell G7.out, hcTab_get _ _ _ _ _ _ (by omega), hcCell_sign]
      have hfs := blk_frozen G7.out (350 + a)
      go_wp2
      go_region
      clear hcond hcc hfc hcs hfs
      have H1 := Aside0.mk (show (((wB.setCell ⟨gb, k, none⟩ (.int .u32 (q : Int))).setCell ⟨gb, 350 + a, none⟩ (.int .i64 (k : Int))).drew).heap[gb]? = some (.cells (hcTab l (k + 1) (l + 1) l (a + 1)) 48 (0, 0)) from
       blk_drew (blk_put (blk_set G7.out k _) (350 + a) _ (by
        have h1 := hcStep2 l k (l + 1) l a hlt ha2 HL.out.symm S1.out (by rw [HA.out, E4.out]; exact S2.out)
        rw [show hcCode k = q by rw [S1.out, E1.out, HQ.out]] at h1
        exact hcTab_set2 h1)))
      have H2 := Aside0.mk (show (((wB.setCell ⟨gb, k, none⟩ (.int .u32 (q : Int))).setCell ⟨gb, 350 + a, none⟩ (.int .i64 (k : Int))).drew).heap[ib]? = some (.stringIter hcText (k + 1)) from by
       show (((wB.setCell ⟨gb, k, none⟩ (.int .u32 (q : Int))).setCell ⟨gb, 350 + a, none⟩ (.int .i64 (k : Int)))).heap[ib]? = _
       rw [Below.heap_setCell _ _ _ _ (show ib ≠ gb by omega), Below.heap_setCell _ _ _ _ (show ib ≠ gb by omega)]
       exact G6.out)
      have H3 := Aside0.mk (show Below w.heap.size w (((wB.setCell ⟨gb, k, none⟩ (.int .u32 (q : Int))).setCell ⟨gb, 350 + a, none⟩ (.int .i64 (k : Int))).drew) from below_drew1 (below_set (below_set G8.out HG.out) HG.out))
      generalize ((wB.setCell ⟨gb, k, none⟩ (.int .u32 (q : Int))).setCell ⟨gb, 350 + a, none⟩ (.int .i64 (k : Int))).drew = wC at H1 H2 H3 ⊢
      clear G6 G7 G8 hnx
      go_wp2
      go_roundw
      case rel => exact ⟨k + 1, q + 1, a + 1, by omega, ⟨by rw [hcCnt_yes l k hlt HL.out.symm, HQ.out]; omega⟩, ⟨by rw [hcCnt_yes l k hlt HL.out.symm, HA.out]; omega⟩, by go_num, by go_num, by have := hcCnt_le2 l (k + 1); rw [hcCnt_yes l k hlt HL.out.symm] at this; have := HQ.out; omega, by omega, H2, H1, H3⟩
      case measure => simp only [World.iterPos, H2.out, G3.out]; omega
     ·
      go_wp2
      go_roundw
      case rel => exact ⟨k + 1, q, a, by omega, ⟨by rw [hcCnt_no n k hlt (by rw [← HL.out]; exact hln)]; exact HQ.out⟩, ⟨by rw [hcCnt_no n k hlt (by rw [← HL.out]; exact hln)]; exact HA.out⟩, rfl, rfl, hq1, ha1, G6, ⟨by rw [← hcTab_congr (hcStep3 n k (n + 1) n a (by rw [← HL.out]; exact hln))]; exact G7.out⟩, G8⟩
      case measure => simp only [World.iterPos, G6.out, G3.out]; omega
    ·
     obtain rfl : k = 257 := by omega
     have hnx : ∀ ty, (Instr.next (.pointer (some ⟨ib, 0, none⟩)) true ty).run Try.prog wr = .ok (.tuple #[.bool false]) wr := fun ty => Lib.run_next_end_at (P := Try.prog) wr ib hcText 257 ty G3.out (by rw [hcText_size]; omega)
     have hcb : wr.cell? ⟨gb, 319 + n, none⟩ = some (.int .i64 (b : Int)) := by rw [blk_cell G4.out, hcTab_get _ _ _ _ _ _ (by omega), hcCell_begin _ _ _ _ _ _ (by omega), if_pos (Nat.lt_succ_self n), E4.out]
     have hcd : wr.cell? ⟨gb, 288 + n, none⟩ = some (.int .i64 (if n < n then hcCount n else 0 : Nat)) := by rw [blk_cell G4.out, hcTab_get _ _ _ _ _ _ (by omega), hcCell_count _ _ _ _ _ _ (by omega)]
     have hfd := blk_frozen G4.out (288 + n)
     go_wp2
     go_region
     have H1 := Aside0.mk (show ((wr.setCell ⟨gb, 288 + n, none⟩ (.int .i64 ((a : Int) - (b : Int)))).drew).heap[gb]? = some (.cells (hcTab (n + 1) 0 (n + 1) (n + 1) a) 48 (0, 0)) from
      blk_drew (blk_put G4.out (288 + n) _ (by
       have h1 := hcStep4 n a (by omega)
       rw [show hcCount n = a - b by rw [E2.out, HA.out]; omega] at h1
       exact hcTab_set (fun j hj => by rw [← h1 j hj, show ((a - b : Nat) : Int) = (a : Int) - (b : Int) by have := HA.out; omega]))))
     have H3 := Aside0.mk (show Below w.heap.size w ((wr.setCell ⟨gb, 288 + n, none⟩ (.int .i64 ((a : Int) - (b : Int)))).drew) from below_drew1 (below_set G5.out HG.out))
     generalize (wr.setCell ⟨gb, 288 + n, none⟩ (.int .i64 ((a : Int) - (b : Int)))).drew = wC at H1 H3 ⊢
     clear hcb hcd hfd hnx G3 G4 G5
     go_wp2
     go_roundw
     case rel => exact ⟨n + 1, q, a, by omega, by omega, by rw [E7.out, E1.out]; exact HQ.out, by rw [E6.out]; exact HA.out, rfl, rfl, by go_num, H1, H3⟩
     case measure => simp [intOf]; omega
  ·
   obtain rfl : n = 31 := by omega
   have hb2 : b = 257 := by rw [hb]; rfl
   subst hb2
   clear hp hb
   go_wp2
   go_ret
   exact ⟨gb, rfl, HT1.out, HG.out, HB1.out⟩
theorem huff_made.calls (w0 w : World) (hB : Below w0.heap.size w0 w) (h : huff_made.f = some ()) :
  Calls Try.prog 18 #[] w fun e w' => ∃ g_ : Nat, e = .returned (.pointer (some ⟨g_, 0, none⟩)) ∧ IsS48 w0 w' g_ ∧ Below w0.heap.size w0 w' ∧ Below w.heap.size w w' :=
 (huff_made.made w).mono (fun e w' h_ => by
  obtain ⟨g_, he, hc, hg, hb⟩ := h_
  exact ⟨g_, he, ⟨hc, Nat.le_trans hB.size hg⟩, below_step hB hb, hb⟩)

end Go.Proofs.Ytadnfcodaoflfaa.Mine
