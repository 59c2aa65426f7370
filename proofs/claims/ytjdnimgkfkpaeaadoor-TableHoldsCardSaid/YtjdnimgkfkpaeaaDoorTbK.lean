import Derived.Test.YtjdnimgkfkpaeaaDoorMinex0
import Derived.Test.YtjdnimgkfkpaeaaDoorShelf
import Derived.Test.YtjdnimgkfkpaeaaDoorTbT
import Derived.Test.YtjdnimgkfkpaeaaDoorTbA
import Derived.Test.YtjdnimgkfkpaeaaDoorTbB
import Derived.Test.YtjdnimgkfkpaeaaDoorTbC
import Derived.Test.YtjdnimgkfkpaeaaDoorTbD
import Derived.Test.YtjdnimgkfkpaeaaDoorTbS
import Derived.Test.YtjdnimgkfkpaeaaDoorTbE
namespace Go.Proofs.YtjdnimgkfkpaeaaDoor.Mine
open Go.RowKit Go.Proofs Go.Proofs.YtjdnimgkfkpaeaaDoorW.PrintWords Go.Proofs.YtjdnimgkfkpaeaaDoorW.PrintLast Go.Proofs.YtjdnimgkfkpaeaaDoorW.PrintMore
attribute [local go_sem] max2_int min2_int max_two min_two max_three min_three max_four min_four
set_option linter.unusedVariables false
set_option linter.unusedSimpArgs false
structure TB where
  most : Int
  size : Int
  l : List S62
  fx : List S62
/-- A table at block g. -/
def IsS57 (w0 W : World) (g : Nat) (t : TB) : Prop := IsT w0 W g t.most t.size t.l t.fx ∧ (∀ v, W.cell? ⟨g, 2, none⟩ = some v → TyV W v) ∧ (∀ v, W.cell? ⟨g, 3, none⟩ = some v → TyV W v)
section
variable {w0 W W1 : World} {g : Nat} {t : TB}
theorem IsS57.lt (h : IsS57 w0 W g t) : g < W.heap.size := h.1.lt
theorem IsS57.ge (h : IsS57 w0 W g t) : w0.heap.size ≤ g := h.1.ge
theorem IsS57.ty (h : IsS57 w0 W g t) : TyOf W g 57 := by
  obtain ⟨A, c, B, d, k1, _⟩ := h.1
  exact ⟨_, k1⟩
theorem IsS57.blk (h : IsS57 w0 W g t) : ∃ cs, W.heap[g]? = some (.cells cs 57 (0, 0)) := h.ty
theorem tb_moveC {A : Option Addr} {n : Nat} {xs : List S62} (h : Kd.C k62 W A n xs) (hn : n = xs.length) (ht : ∀ ad, A = some ad → 0 < n → W1.heap[ad.block]? = W.heap[ad.block]?) : Kd.C k62 W1 A n xs := by
  obtain ⟨h1, h2, h3⟩ := h
  refine ⟨h1, h2, fun h0 => ?_⟩
  obtain ⟨ad, e, hc⟩ := h3 h0
  refine ⟨ad, e, fun j p hj => ?_⟩
  obtain ⟨c, l1, l2, l3⟩ := hc j p hj
  have lo := k62_open l2
  subst lo
  refine ⟨_, l1, k62_mk _ _, fun i u hu => ?_⟩
  have hx := l3 i u hu
  have hb : W1.heap[(ad.add (j * k62.sz + i)).block]? = W.heap[(ad.add (j * k62.sz + i)).block]? := by
    rw [add_block]
    refine ht ad e ?_
    rcases Nat.lt_or_ge j xs.length with hl | hl
    · omega
    · rw [List.getElem?_eq_none hl] at hj
      exact absurd hj (by simp)
  exact (World.cell?_of_block hb).trans hx
/-- A table stays where the blocks of tables and of entries that it has are not written. -/
theorem IsS57.step (h : IsS57 w0 W g t) (hk : ∀ i, i < W.heap.size → i = g ∨ TyOf W i 62 → W1.heap[i]? = W.heap[i]?) : IsS57 w0 W1 g t := by
  obtain ⟨hI, h2, h3⟩ := h
  obtain ⟨A, c, B, d, k1, k2, k3, k4, k5, k6⟩ := hI
  have hg : W1.heap[g]? = W.heap[g]? := hk g (blk_lt k1) (.inl rfl)
  have t2 : TyV W (.slice A t.l.length c) := h2 _ ((blk_cell k1 2).trans rfl)
  have t3 : TyV W (.slice B t.fx.length d) := h3 _ ((blk_cell k1 3).trans rfl)
  have m2 : ∀ ad, A = some ad → 0 < t.l.length → W1.heap[ad.block]? = W.heap[ad.block]? := fun ad e hn => by
    have := t2 ad _ c (by rw [e]) hn
    exact hk _ this.lt (.inr this)
  have m3 : ∀ ad, B = some ad → 0 < t.fx.length → W1.heap[ad.block]? = W.heap[ad.block]? := fun ad e hn => by
    have := t3 ad _ d (by rw [e]) hn
    exact hk _ this.lt (.inr this)
  have k1' := hg.trans k1
  refine ⟨⟨A, c, B, d, k1', k2, k3, k4, tb_moveC k5 rfl m2, tb_moveC k6 rfl m3⟩, fun v hv => ?_, fun v hv => ?_⟩
  · obtain rfl := Option.some.inj ((show W1.cell? ⟨g, 2, none⟩ = some (.slice A t.l.length c) from (blk_cell k1' 2).trans rfl).symm.trans hv)
    intro ad n c' e hn
    have := t2 ad n c' e hn
    obtain ⟨cs, hc⟩ := this
    exact ⟨cs, (hk _ (blk_lt hc) (.inr ⟨cs, hc⟩)).trans hc⟩
  · obtain rfl := Option.some.inj ((show W1.cell? ⟨g, 3, none⟩ = some (.slice B t.fx.length d) from (blk_cell k1' 3).trans rfl).symm.trans hv)
    intro ad n c' e hn
    have := t3 ad n c' e hn
    obtain ⟨cs, hc⟩ := this
    exact ⟨cs, (hk _ (blk_lt hc) (.inr ⟨cs, hc⟩)).trans hc⟩
theorem IsS57.below (h : IsS57 w0 W g t) (hw : Below W.heap.size W W1) : IsS57 w0 W1 g t := h.step (fun i hi _ => hw.block i hi)
theorem IsS57.alloc (h : IsS57 w0 W g t) (o : Obj) : IsS57 w0 (W.alloc o) g t := h.below (below_alloc (Below.refl _ _) o)
theorem IsS57.drewN (h : IsS57 w0 W g t) (m : Nat) : IsS57 w0 (W.drewN m) g t := h
theorem IsS57.drew (h : IsS57 w0 W g t) : IsS57 w0 W.drew g t := h
theorem IsS57.at_ {w' : World} {m : Nat} (hq : W.drewN m = w') (h : IsS57 w0 W g t) : IsS57 w0 w' g t := by subst hq; exact h
theorem IsS57.fresh (h : IsS57 w0 W g t) : ∀ k, W.heap.size ≤ k → k ≠ g := fun k hk e => absurd h.lt (by omega)
theorem IsS57.rebase {w1 : World} (h : IsS57 w1 W g t) (hs : w0.heap.size ≤ w1.heap.size) : IsS57 w0 W g t := by
  obtain ⟨⟨A, c, B, d, k1, k2, k3⟩, h2, h3⟩ := h
  exact ⟨⟨A, c, B, d, k1, Nat.le_trans hs k2, k3⟩, h2, h3⟩
theorem IsS57.ne_blk {a : Nat} {cs : Array Value} {u : TypeId} {fr : Nat × Nat} (h : IsS57 w0 W g t) (hb2 : W.heap[a]? = some (.cells cs u fr)) (ht : u ≠ 57) : g ≠ a := by
  obtain ⟨cs1, hb⟩ := h.blk
  rintro rfl
  rw [hb] at hb2
  injection hb2 with hb2
  injection hb2 with _ ht2
  exact ht ht2.symm
/-- A row of another type grows. -/
theorem IsS57.grownT {W2 : World} {α : Type} {d : Kd α} {e : Nat} {base : Nat} {ok : Nat → Prop} {v : Value} {xs : List α} (h : IsS57 w0 W1 g t) (hb : Below W.heap.size W W1) (hw : W1.grownBy W2 v.ownBlock) (ho : d.R e W base ok v xs) (ht : e ≠ 57 ∧ e ≠ 62) : IsS57 w0 W2 g t := by
  refine h.step (fun i hi hx => hw.block i hi (fun he => ?_))
  obtain ⟨cs, hc⟩ := Kd.R_typed ho i he.symm
  have hty : TyOf W1 i e := TyOf.below ⟨cs, hc⟩ hb
  rcases hx with rfl | hx
  · exact hty.ne h.ty ht.1 rfl
  · exact hty.ne hx ht.2 rfl
theorem IsS57.farT {p : Addr} {e : TypeId} (h : IsS57 w0 W g t) (hty : TyOf W p.block e) (ht : e ≠ 57 ∧ e ≠ 62) (u : Value) : IsS57 w0 (W.setCell p u) g t := by
  refine h.step (fun i hi hx => Below.heap_setCell W p u i (fun he => ?_))
  subst he
  rcases hx with hx | hx
  · exact hty.ne (hx ▸ h.ty) ht.1 rfl
  · exact hty.ne hx ht.2 rfl
/-- Another state's method. -/
theorem IsS57.otherT {g2 : Nat} {e : TypeId} (h : IsS57 w0 W g t) (hty : TyOf W g2 e) (hk : KeepBut W W1 g2 none) (hne : g ≠ g2) (ht : e ≠ 62) : IsS57 w0 W1 g t := by
  refine h.step (fun i hi hx => hk.2 i hi (fun he => ?_) (by simp))
  subst he
  rcases hx with hx | hx
  · exact hne hx.symm
  · exact hty.ne hx ht rfl
theorem IsS57.other {w1 : World} {g2 : Nat} {t2 : TB} (h : IsS57 w0 W g t) (h2 : IsS57 w1 W g2 t2) (hk : KeepBut W W1 g2 none) (hne : g ≠ g2) : IsS57 w0 W1 g t := h.otherT h2.ty hk hne (by decide)
section
variable {α : Type} {d : Kd α} {e : Nat} {base : Nat} {ok : Nat → Prop} {v : Value} {xs : List α}
theorem IsS57.apart (h : IsS57 w0 W g t) (ho : d.R e W base ok v xs) (ht : ∀ q, q ∈ e :: d.E → q ≠ 57) : d.R e W base (fun k => ok k ∧ k ≠ g) v xs := by
  obtain ⟨cs, hb⟩ := h.blk
  exact Kd.R_types ho hb ht
theorem IsS57.own_ne (h : IsS57 w0 W g t) (ho : d.R e W base ok v xs) (ht : e ≠ 57) : some g ≠ v.ownBlock := by
  obtain ⟨cs, hb⟩ := h.blk
  exact Kd.R_ne ho hb ht
theorem IsS57.own_neN (h : IsS57 w0 W g t) (ho : Kd.N d e W base ok v xs) (ht : e ≠ 57) : some g ≠ v.ownBlock := by
  obtain ⟨cs, hb⟩ := h.blk
  exact Kd.N_ne ho hb ht
theorem IsS57.apartQ (h : IsS57 w0 W g t) (ho : d.Q e W base ok v xs) (ht : ∀ q, q ∈ e :: d.E → q ≠ 57) : d.Q e W base (fun k => ok k ∧ k ≠ g) v xs := by
  obtain ⟨cs, hb⟩ := h.blk
  exact Kd.Q_types ho hb ht
theorem IsS57.own_neQ (h : IsS57 w0 W g t) (ho : d.Q e W base ok v xs) (ht : e ≠ 57) : some g ≠ v.ownBlock := by
  obtain ⟨cs, hb⟩ := h.blk
  exact Kd.Q_ne ho hb ht
theorem IsS57.apartS (h : IsS57 w0 W g t) (ho : d.S e W base ok v xs) (ht : ∀ q, q ∈ e :: d.E → q ≠ 57) : d.S e W base (fun k => ok k ∧ k ≠ g) v xs := by
  obtain ⟨cs, hb⟩ := h.blk
  exact Kd.S_types ho hb ht
theorem IsS57.own_neS (h : IsS57 w0 W g t) (ho : d.S e W base ok v xs) (ht : e ≠ 57) : some g ≠ v.ownBlock := by
  obtain ⟨cs, hb⟩ := h.blk
  exact Kd.S_ne ho hb ht
end
end

end Go.Proofs.YtjdnimgkfkpaeaaDoor.Mine
