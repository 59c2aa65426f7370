import Derived.Test.YtjdnimgkfkpaeaaDoorMinex0
namespace Go.Proofs.YtjdnimgkfkpaeaaDoor.Mine
open Go.RowKit Go.Proofs Go.Proofs.YtjdnimgkfkpaeaaDoorW.PrintWords Go.Proofs.YtjdnimgkfkpaeaaDoorW.PrintLast Go.Proofs.YtjdnimgkfkpaeaaDoorW.PrintMore
attribute [local go_sem] max2_int min2_int max_two min_two max_three min_three max_four min_four
set_option linter.unusedVariables false
set_option linter.unusedSimpArgs false
/-- A block's element type. -/
def TyOf (W : World) (b : Nat) (t : TypeId) : Prop := ∃ cs, W.heap[b]? = some (.cells cs t (0, 0))
theorem TyOf.mk {W : World} {b : Nat} {cs : Array Value} {t : TypeId} (h : W.heap[b]? = some (.cells cs t (0, 0))) : TyOf W b t := ⟨cs, h⟩
theorem TyOf.lt {W : World} {b : Nat} {t : TypeId} (h : TyOf W b t) : b < W.heap.size := by
  obtain ⟨cs, h⟩ := h
  exact blk_lt h
theorem TyOf.ne {W : World} {a b : Nat} {t u : TypeId} (h : TyOf W a t) (k : TyOf W b u) (hne : t ≠ u) : a ≠ b := by
  rintro rfl
  obtain ⟨cs, h⟩ := h
  obtain ⟨ds, k⟩ := k
  rw [h] at k
  injection k with k
  injection k with _ k
  exact hne k
theorem TyOf.below {W W1 : World} {b : Nat} {t : TypeId} (h : TyOf W b t) (hb : Below W.heap.size W W1) : TyOf W1 b t := by
  obtain ⟨cs, h⟩ := h
  exact ⟨cs, blk_below h hb⟩
theorem TyOf.alloc {W : World} {b : Nat} {t : TypeId} (h : TyOf W b t) (o : Obj) : TyOf (W.alloc o) b t := h.below (below_alloc (Below.refl _ _) o)
theorem TyOf.drewN {W : World} {b : Nat} {t : TypeId} (h : TyOf W b t) (m : Nat) : TyOf (W.drewN m) b t := h
theorem TyOf.drew {W : World} {b : Nat} {t : TypeId} (h : TyOf W b t) : TyOf W.drew b t := h
theorem TyOf.keep {W W1 : World} {b g : Nat} {t : TypeId} (h : TyOf W b t) (hk : KeepBut W W1 g none) (hne : b ≠ g) : TyOf W1 b t := by
  obtain ⟨cs, h⟩ := h
  exact ⟨cs, (hk.2 b (blk_lt h) hne (by simp)).trans h⟩
theorem TyOf.set {W : World} {b : Nat} {t : TypeId} (h : TyOf W b t) (p : Addr) (u : Value) : TyOf (W.setCell p u) b t := by
  obtain ⟨cs, h⟩ := h
  by_cases hp : b = p.block
  · subst hp
    refine ⟨if p.spot.isSome = true then cs else cs.setIfInBounds p.off u, ?_⟩
    unfold World.setCell
    simp [Array.getElem?_modify, h]
  · exact ⟨cs, (Below.heap_setCell W p u b hp).trans h⟩
/-- What a slice leads to lies in a block of entries. -/
def TyV (W : World) (v : Value) : Prop := ∀ ad n c, v = .slice (some ad) n c → 0 < n → TyOf W ad.block 62
theorem TyV.ofR {W : World} {base : Nat} {ok : Nat → Prop} {v : Value} {xs : List S62} (h : Kd.R k62 62 W base ok v xs) : TyV W v := by
  intro ad n c e hn
  subst e
  obtain ⟨inner, ho⟩ := Kd.R_own h
  have hl := (Kd.R_reads' h).1
  exact Kd.R_typed h ad.block (by simp [Value.ownBlock])
theorem TyV.set {W : World} {v : Value} (h : TyV W v) (p : Addr) (u : Value) : TyV (W.setCell p u) v := fun ad n c e hn => (h ad n c e hn).set p u
theorem TyV.below {W W1 : World} {v : Value} (h : TyV W v) (hb : Below W.heap.size W W1) : TyV W1 v := fun ad n c e hn => (h ad n c e hn).below hb
/-- The variable that Split's walk reads. -/
def EnvW (W : World) : Prop := ∃ m : Int, W.cell? ⟨0, 0, none⟩ = some (.int .i64 m)
theorem EnvW.below {W W1 : World} {n : Nat} (h : EnvW W) (hn : n = W.heap.size) (hb : Below n W W1) : EnvW W1 := by
  subst hn
  obtain ⟨m, h⟩ := h
  exact ⟨m, (hb.cell (World.block_lt_of_cell? _ _ h)).trans h⟩

end Go.Proofs.YtjdnimgkfkpaeaaDoor.Mine
