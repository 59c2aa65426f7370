import Derived.Test.YtjdnimgkfkpaeaaDoorMinex0
import Derived.Test.YtjdnimgkfkpaeaaDoorShelf
import Derived.Test.YtjdnimgkfkpaeaaDoorTbT
import Derived.Test.YtjdnimgkfkpaeaaDoorTbA
import Derived.Test.YtjdnimgkfkpaeaaDoorTbB
namespace Go.Proofs.YtjdnimgkfkpaeaaDoor.Mine
open Go.RowKit Go.Proofs Go.Proofs.YtjdnimgkfkpaeaaDoorW.PrintWords Go.Proofs.YtjdnimgkfkpaeaaDoorW.PrintLast Go.Proofs.YtjdnimgkfkpaeaaDoorW.PrintMore
attribute [local go_sem] max2_int min2_int max_two min_two max_three min_three max_four min_four
set_option linter.unusedVariables false
set_option linter.unusedSimpArgs false
/-- A table at block g of W: its greatest size, its size, its entries (the oldest first), the fixed ones. -/
def IsT (w0 W : World) (g : Nat) (most size : Int) (l fx : List S62) : Prop :=
  ∃ (A : Option Addr) (c : Nat) (B : Option Addr) (d : Nat), W.heap[g]? = some (.cells #[.int .i64 most, .int .i64 size, .slice A l.length c, .slice B fx.length d] 57 (0, 0)) ∧ w0.heap.size ≤ g ∧ l.length ≤ c ∧ fx.length ≤ d ∧ Kd.C k62 W A l.length l ∧ Kd.C k62 W B fx.length fx
theorem IsT.below {w0 W W1 : World} {g : Nat} {most size : Int} {l fx : List S62} (h : IsT w0 W g most size l fx) (hb : Below W.heap.size W W1) : IsT w0 W1 g most size l fx := by
  obtain ⟨A, c, B, d, h1, h2, h3, h4, h5, h6⟩ := h
  exact ⟨A, c, B, d, blk_below h1 hb, h2, h3, h4, Kd.C_below h5 hb, Kd.C_below h6 hb⟩
theorem tb_cells {P1 P2 : Option Addr} {m s : Int} {n1 n2 c1 c2 : Nat} {W : World} {g : Nat} (hg : W.heap[g]? = some (.cells #[.int .i64 m, .int .i64 s, .slice P1 n1 c1, .slice P2 n2 c2] 57 (0, 0))) {ad : Addr} (hb : ad.block = g) {x : ByteArray} (h : W.cell? ad = some (.string x)) : False := by
  subst hb
  rw [World.cell?, hg] at h
  simp only at h
  split at h
  · exact absurd h (by simp)
  · rcases Nat.lt_or_ge ad.off 4 with h4 | h4
    · have : ad.off = 0 ∨ ad.off = 1 ∨ ad.off = 2 ∨ ad.off = 3 := by omega
      rcases this with e | e | e | e <;> rw [e] at h <;> exact absurd h (by simp)
    · rw [Array.getElem?_eq_none (by simpa using h4)] at h
      exact absurd h (by simp)
/-- Entries stay what they are where only a table's block is written. -/
theorem tb_keepC {W W' : World} {A : Option Addr} {n : Nat} {xs : List S62} {g : Nat} {P1 P2 : Option Addr} {m s : Int} {n1 n2 c1 c2 : Nat} (h : Kd.C k62 W A n xs) (hg : W.heap[g]? = some (.cells #[.int .i64 m, .int .i64 s, .slice P1 n1 c1, .slice P2 n2 c2] 57 (0, 0))) (hk : ∀ i, i < W.heap.size → i ≠ g → W'.heap[i]? = W.heap[i]?) : Kd.C k62 W' A n xs := by
  obtain ⟨h1, h2, h3⟩ := h
  refine ⟨h1, h2, fun h0 => ?_⟩
  obtain ⟨ad, e, hc⟩ := h3 h0
  refine ⟨ad, e, fun j p hj => ?_⟩
  obtain ⟨c, l1, l2, l3⟩ := hc j p hj
  have lo := k62_open l2
  subst lo
  refine ⟨_, l1, k62_mk _ _, fun i u hu => ?_⟩
  have hx := l3 i u hu
  have hlt := World.block_lt_of_cell? _ _ hx
  have hne : (ad.add (j * k62.sz + i)).block ≠ g := fun hb => by
    have hi : i = 0 ∨ i = 1 := by
      rcases Nat.lt_or_ge i 2 with h | h
      · omega
      · rw [List.getElem?_eq_none (by simpa using h)] at hu
        exact absurd hu (by simp)
    rcases hi with rfl | rfl
    · obtain rfl := Option.some.inj hu
      exact tb_cells hg hb hx
    · obtain rfl := Option.some.inj hu
      exact tb_cells hg hb hx
  exact (World.cell?_of_block (hk _ hlt hne)).trans hx
theorem IsT.drewN {w0 W : World} {g : Nat} {most size : Int} {l fx : List S62} (h : IsT w0 W g most size l fx) (n : Nat) : IsT w0 (W.drewN n) g most size l fx := h
theorem IsT.lt {w0 W : World} {g : Nat} {most size : Int} {l fx : List S62} (h : IsT w0 W g most size l fx) : g < W.heap.size := by
  obtain ⟨A, c, B, d, h1, _⟩ := h
  exact blk_lt h1
theorem IsT.ge {w0 W : World} {g : Nat} {most size : Int} {l fx : List S62} (h : IsT w0 W g most size l fx) : w0.heap.size ≤ g := by
  obtain ⟨A, c, B, d, _, h2, _⟩ := h
  exact h2
theorem tb_setk (W : World) (g j : Nat) (v : Value) : ∀ i, i < W.heap.size → i ≠ g → (W.setCell ⟨g, j, none⟩ v).heap[i]? = W.heap[i]? := fun i _ h => Below.heap_setCell W ⟨g, j, none⟩ v i h
theorem IsT.set1 {w0 W : World} {g : Nat} {most size : Int} {l fx : List S62} (h : IsT w0 W g most size l fx) (z : Int) : IsT w0 (W.setCell ⟨g, 1, none⟩ (.int .i64 z)) g most z l fx := by
  obtain ⟨A, c, B, d, h1, h2, h3, h4, h5, h6⟩ := h
  exact ⟨A, c, B, d, blk_put h1 1 _ rfl, h2, h3, h4, tb_keepC h5 h1 (tb_setk _ _ _ _), tb_keepC h6 h1 (tb_setk _ _ _ _)⟩
theorem IsT.set0 {w0 W : World} {g : Nat} {most size : Int} {l fx : List S62} (h : IsT w0 W g most size l fx) (z : Int) : IsT w0 (W.setCell ⟨g, 0, none⟩ (.int .i64 z)) g z size l fx := by
  obtain ⟨A, c, B, d, h1, h2, h3, h4, h5, h6⟩ := h
  exact ⟨A, c, B, d, blk_put h1 0 _ rfl, h2, h3, h4, tb_keepC h5 h1 (tb_setk _ _ _ _), tb_keepC h6 h1 (tb_setk _ _ _ _)⟩
theorem IsT.set2 {w0 W : World} {g : Nat} {most size : Int} {l fx l' : List S62} {A' : Option Addr} {c' : Nat} (h : IsT w0 W g most size l fx) (hl : l'.length ≤ c') (hC : Kd.C k62 W A' l'.length l') : IsT w0 (W.setCell ⟨g, 2, none⟩ (.slice A' l'.length c')) g most size l' fx := by
  obtain ⟨A, c, B, d, h1, h2, h3, h4, h5, h6⟩ := h
  exact ⟨A', c', B, d, blk_put h1 2 _ rfl, h2, hl, h4, tb_keepC hC h1 (tb_setk _ _ _ _), tb_keepC h6 h1 (tb_setk _ _ _ _)⟩
/-- Another table's state stays where only one's block is written. -/
theorem IsT.other {w0 W W' : World} {g g2 : Nat} {most size : Int} {l fx : List S62} {most2 size2 : Int} {l2 fx2 : List S62} (h : IsT w0 W g most size l fx) (h2 : IsT w0 W g2 most2 size2 l2 fx2) (hne : g ≠ g2) (hk : KeepBut W W' g2 none) : IsT w0 W' g most size l fx := by
  obtain ⟨A, c, B, d, h1, h2_, h3, h4, h5, h6⟩ := h
  obtain ⟨A2, c2, B2, d2, k1, _⟩ := h2
  have hk' : ∀ i, i < W.heap.size → i ≠ g2 → W'.heap[i]? = W.heap[i]? := fun i hi hn => hk.2 i hi hn (by simp)
  exact ⟨A, c, B, d, (hk' g (blk_lt h1) hne).trans h1, h2_, h3, h4, tb_keepC h5 k1 hk', tb_keepC h6 k1 hk'⟩
theorem IsT.apart {w0 W W' : World} {g : Nat} {most size : Int} {l fx : List S62} {A : Option Addr} {n : Nat} {xs : List S62} (h : IsT w0 W g most size l fx) (hC : Kd.C k62 W A n xs) (hk : KeepBut W W' g none) : Kd.C k62 W' A n xs := by
  obtain ⟨A2, c2, B2, d2, k1, _⟩ := h
  exact tb_keepC hC k1 (fun i hi hn => hk.2 i hi hn (by simp))
set_option maxHeartbeats 2000000 in
set_option maxRecDepth 100000 in
theorem tb_new (n m : Int) (w0 w : World) (hm : w.cell? ⟨0, 0, none⟩ = some (.int .i64 m)) (hB : Below w0.heap.size w0 w) :
    Calls Tryd.prog 10 #[.int .i64 n] w fun e w' => ∃ g, e = .returned (.pointer (some ⟨g, 0, none⟩)) ∧ IsT w0 w' g (mx n 0) 0 [] tbFixed ∧ Below w0.heap.size w0 w' ∧ Below w.heap.size w w' ∧ (∀ v, w'.cell? ⟨g, 2, none⟩ = some v → TyV w' v) ∧ ∀ v, w'.cell? ⟨g, 3, none⟩ = some v → TyV w' v := by
  have HM := Aside0.mk hm
  have HB := Aside0.mk hB
  have HC := Aside0.mk (Below.refl w.heap.size w)
  have hu57 := Tryd.underlying57
  obtain ⟨M, hM⟩ : ∃ x, mx n 0 = x := ⟨_, rfl⟩
  have hM_ : (if n < 0 then 0 else n) = M := hM
  rw [hM]
  clear hm hB hM
  go_enter Tryd.func10, Tryd.ntmps10
  go_wp2_with (first | (go_at_call 25; (with_reducible refine (tb_list m w HM.out).mono ?_); rintro e w1 ⟨v, rfl, ho, hb⟩; obtain ⟨A, c, rfl⟩ := Kd.R_slice ho; have HL := Aside0.mk (Kd.R_reads' ho).2.1; have HR := Aside0.mk (Kd.R_reads' ho).2.2; have HT := Aside0.mk (Kd.R_lt ho); have HV := Aside0.mk (TyV.ofR ho); have n1_ := Aside0.mk (below_step HB.out hb); have n2_ := Aside0.mk hb; clear HB HC ho hb; have HB := n1_; have HC := n2_; clear n1_ n2_) | ((with_reducible refine gate_dst (N := 7) rfl ?_); refine box_event ?hg (N := 7) ?hd (cs := #[.int .i64 M, .int .i64 0, .slice none 0 0, .slice A tbFixed.length c]) (t := 57) ?hr ?_; (case hd => rfl); (case hg => rfl); (case hr => first | (go_simp; done) | (go_simp; rfl)); intro g hg w2 hbox hb; have BG := Aside0.mk hbox; have GE := Aside0.mk (show w0.heap.size ≤ g by rw [hg]; exact HB.out.size); have n1_ := Aside0.mk (below_step HB.out hb); have n2_ := Aside0.mk (below_step HC.out hb); have n3_ := Aside0.mk (Kd.C_below HR.out hb); have n4_ := Aside0.mk (TyV.below HV.out hb); clear HB HC HR HV hb hbox hg; have HB := n1_; have HC := n2_; have HR := n3_; have HV := n4_; clear n1_ n2_ n3_ n4_))
  go_ret
  have z2 := (blk_cell BG.out 2).trans (rfl : _ = some (Value.slice none 0 0))
  have z3 := (blk_cell BG.out 3).trans (rfl : _ = some (Value.slice A tbFixed.length c))
  exact ⟨_, rfl, ⟨none, 0, A, c, BG.out, GE.out, Nat.le_refl _, HL.out, Kd.C_nil _ _, HR.out⟩, HB.out, HC.out, fun v hv => by obtain rfl := Option.some.inj (z2.symm.trans hv); exact fun ad n c e _ => by simp at e, fun v hv => by obtain rfl := Option.some.inj (z3.symm.trans hv); exact HV.out⟩

end Go.Proofs.YtjdnimgkfkpaeaaDoor.Mine
