import Derived.Test.YtjdnimgkfkpaeaaDoorMinex0
import Derived.Test.YtjdnimgkfkpaeaaDoorShelf
import Derived.Test.YtjdnimgkfkpaeaaDoorTbT
import Derived.Test.YtjdnimgkfkpaeaaDoorTbA
namespace Go.Proofs.YtjdnimgkfkpaeaaDoor.Mine
open Go.RowKit Go.Proofs Go.Proofs.YtjdnimgkfkpaeaaDoorW.PrintWords Go.Proofs.YtjdnimgkfkpaeaaDoorW.PrintLast Go.Proofs.YtjdnimgkfkpaeaaDoorW.PrintMore
attribute [local go_sem] max2_int min2_int max_two min_two max_three min_three max_four min_four
set_option linter.unusedVariables false
set_option linter.unusedSimpArgs false
set_option maxRecDepth 100000 in
theorem tbText_small : tbText.size < 4294967281 := by decide +kernel
def tbCut (s : ByteArray) : S62 := ⟨⟨(Lib.cut s.data.toList [61]).1.toArray⟩, ⟨(Lib.cut s.data.toList [61]).2.1.toArray⟩⟩
def tbFixed : List S62 := tbPieces.map tbCut
theorem tb_at {PP : List ByteArray} {j : Nat} (hl : j < PP.length) : (PP.map Value.string).toArray[j]? = some (.string PP[j]) := by rw [List.getElem?_toArray, List.getElem?_map, List.getElem?_eq_getElem hl]; rfl
theorem tb_split (m : Int) (w : World) (hm : w.cell? ⟨0, 0, none⟩ = some (.int .i64 m)) :
    Calls Tryd.prog 33 #[.string tbText, .string ⟨#[10]⟩] w fun e w' => e = .returned (.slice (some ⟨w.heap.size, 0, none⟩) 61 61) ∧ w' = w.alloc (.cells (tbPieces.map Value.string).toArray 9) := by
  have h := Tryd.strings_Split tbText ⟨#[10]⟩ m w tbText_small hm (by decide)
  rw [tbCount] at h
  unfold tbPieces
  exact h
theorem tb_info62 : (Tryd.prog.info? 62).map (fun i => (i.zero, i.size, i.bytes)) = some (some (.agg #[.string ⟨#[]⟩, .string ⟨#[]⟩]), k62.sz, 32) := by kernel_rfl
set_option maxHeartbeats 2000000 in
set_option maxRecDepth 100000 in
theorem tb_list (m : Int) (w : World) (hm : w.cell? ⟨0, 0, none⟩ = some (.int .i64 m)) :
    Calls Tryd.prog 25 #[] w fun e w' => ∃ v, e = .returned v ∧ Kd.R k62 62 w' w.heap.size (fun _ => True) v tbFixed ∧ Below w.heap.size w w' := by
  have HM := Aside0.mk hm
  have HB := Aside0.mk (Below.refl w.heap.size w)
  have hs := tb_split m w hm
  have hlen := tbPieces_len
  have hsm := tbSmall
  unfold tbFixed
  unfold tbText at hs
  generalize tbPieces = PP at *
  have HS := Aside0.mk hs
  have HL := Aside0.mk hlen
  have HZ := Aside0.mk hsm
  clear hs hm hlen hsm
  go_enter Tryd.func25, Tryd.ntmps25
  go_wp2_with (first | (go_at_call 33; (refine (HS.out).mono ?_); rintro e w1 ⟨rfl, hw⟩; have BP := Aside0.mk (show w1.heap[w.heap.size]? = some (.cells (PP.map Value.string).toArray 9 (0, 0)) by rw [hw]; exact blk_new _ _); have n1_ := Aside0.mk (show Below w.heap.size w w1 by rw [hw]; exact below_alloc (Below.refl _ _) _); clear HB HS hw; have HB := n1_; clear n1_))
  go_loopw [1, 9] (fun v1 v9 wr => ∃ (j : Nat) (vv : Value), j ≤ 61 ∧ v1 = vv ∧ v9 = .int .i64 j ∧ Aside0 (Kd.R k62 62 wr w.heap.size (fun _ => True) vv ((PP.take j).map tbCut)) ∧ Aside0 (wr.heap[w.heap.size]? = some (.cells (PP.map Value.string).toArray 9 (0, 0))) ∧ Aside0 (Below w.heap.size w wr)) (fun _ v9 _ => 61 - (intOf v9).toNat)
  case atStart => exact ⟨0, _, by omega, rfl, rfl, ⟨by rw [List.take_zero]; exact Kd.R_nil _ _ _ _ _⟩, BP, HB⟩
  case round =>
    clear BP HB
    obtain ⟨j, vv, hj, e1_, rfl, HO, BP, HB⟩ := hrel
    subst e1_
    by_cases hlt : j < 61
    · have hl : j < PP.length := by rw [HL.out]; exact hlt
      have hx : wr.cell? ⟨w.heap.size, j, none⟩ = some (.string PP[j]) := (blk_cell BP.out j).trans (tb_at hl)
      have hsz := Aside0.mk (HZ.out PP[j] (List.getElem_mem hl))
      have ht := Aside0.mk (show (PP.take (j + 1)).map tbCut = (PP.take j).map tbCut ++ [tbCut PP[j]] by rw [List.take_succ_eq_append_getElem hl, List.map_append]; rfl)
      have HT : Aside0 (((PP.take j).map tbCut).length ≤ 61) := ⟨by rw [List.length_map, List.length_take]; omega⟩
      generalize PP[j] = pj at *
      have hm2 := Aside0.mk ((HB.out.cell (World.block_lt_of_cell? w _ HM.out)).trans HM.out)
      have q1 : decide ((j : Int) < 61) = true := decide_eq_true (by omega)
      go_wp2_with (first | (go_at_call 34; (refine (Tryd.strings_Cut pj ⟨#[61]⟩ m wr hsz.out hm2.out).mono ?_); rintro e w2 ⟨rfl, n, hw⟩; have n1_ := Aside0.mk (show Kd.R k62 62 w2 w.heap.size (fun _ => True) _ ((PP.take j).map tbCut) by rw [hw]; exact Kd.R_drewN HO.out n); have n2_ := Aside0.mk (show w2.heap[w.heap.size]? = some (.cells (PP.map Value.string).toArray 9 (0, 0)) by rw [hw]; exact blk_drewN BP.out n); have n3_ := Aside0.mk (show Below w.heap.size w w2 by rw [hw]; exact pw_below_drewN HB.out n); clear HO BP HB hw hx; have HO := n1_; have BP := n2_; have HB := n3_; clear n1_ n2_ n3_) | ((with_reducible refine gate_builtin (b := .append) (xs := #[.tmp 19, .tmp 23]) rfl ?_); at_builtin; refine Kd.R_append k62 (w0 := w) w.heap.size rfl (.tmp 19) (.tmp 23) 54 62 (.agg #[.string ⟨#[]⟩, .string ⟨#[]⟩]) 32 rfl Tryd.underlying54 tb_info62 rfl (by decide) (by omega) _ ((PP.take j).map tbCut) (tbCut pj) [.string (tbCut pj).f0, .string (tbCut pj).f1] (fun _ => True) (fun _ => False) rfl (by first | (go_simp; done) | (go_simp; rfl)) (k62_mkM _ _ _ _) (fun _ hk => hk.elim) (fun _ _ => trivial) HO.out HB.out HB.out.size (by have := HT.out; omega) ?_; intro v2 w3 ho hb hg hat; rw [← ht.out] at ho; have n1_ := Aside0.mk ho; have n2_ := Aside0.mk (blk_grown BP.out hg (Kd.R_ne HO.out BP.out (by decide))); have n3_ := Aside0.mk hb; clear HO BP HB ho hb hg hat; have HO := n1_; have BP := n2_; have HB := n3_; clear n1_ n2_ n3_))
      go_roundw
      case rel => exact ⟨j + 1, _, by omega, rfl, by go_num, HO, BP, HB⟩
      case measure => simp [intOf]; omega
    · have q1 : decide ((j : Int) < 61) = false := decide_eq_false (by omega)
      go_wp2
      go_ret
      exact ⟨_, rfl, by have h_ := HO.out; rw [List.take_of_length_le (by rw [HL.out]; omega)] at h_; exact h_, HB.out⟩

end Go.Proofs.YtjdnimgkfkpaeaaDoor.Mine
