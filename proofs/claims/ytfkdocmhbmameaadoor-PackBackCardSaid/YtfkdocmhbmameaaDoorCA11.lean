/- The walks and the plain laws that the rows come to: merged out of this repo's texts. -/
import Derived.Test.YtfkdocmhbmameaaDoorProg
import Derived.Below
import Derived.Deep.Draws
import Derived.Deep.AppendLies
import Derived.Maps.AppendAt
import Derived.OwnWalk
import Derived.Laws.BytesArg
import Derived.Laws.MakeOwn
import Derived.Laws.OwnMore
import Derived.Deep.OwnRows
import Derived.Tactics
import Derived.Lib.ConvBytes
import Derived.Laws.Slices
import Derived.WalkKit
import Derived.KernelRfl
import Derived.RowKit3
import Derived.Deep.LoopGhost
import Derived.Deep.QuietTactic
import Derived.BigQuiet
import Derived.WideLaws
import Derived.Deep.DeepCutAuto
import Derived.Deep.CutBlock
import Derived.Deep.RegionHeld3
import Derived.Laws.Rows
import Derived.Lib.AppendStr
import Derived.ArgAppend
import Derived.Laws.IdiomCopy
import Derived.RowKit
import Derived.OrdersHeld
import Derived.Laws.BitsLemmas
import Derived.Laws.StructEq
import Derived.Laws.CopyOwn
import Derived.SizedLaws
import Derived.ChangeSlices
import Derived.Deep.Slices
import Derived.Lib.SmallJoins
import Derived.Lib.OthersKept
import Derived.Lib.AppendZerosOnto
import Derived.WalkSpells
import Derived.Shelf.Utf8.RuneCount
import Derived.Shelf.Strings.Search1
import Derived.Shelf.Strings.Search2
import Derived.Shelf.Strings.Search3
import Derived.Shelf.Strings.Cut
import Derived.Shelf.Strings.Count
import Derived.Shelf.LaysM
import Derived.Shelf.Strings.Shaped
import Derived.Shelf.Strings.Split
import Derived.Shelf.Strings.SplitShaped
import Derived.Shelf.Unicode.Decode
import Derived.Shelf.Strings.RuneCount
import Derived.Shelf.Strings.Explode
import Derived.Shelf.Unicode.DecodeSlow
import Derived.Shelf.Unicode.DecodeAny
import Derived.Test.YtfkdocmhbmameaaDoorCA1
import Derived.Test.YtfkdocmhbmameaaDoorCA2
import Derived.Test.YtfkdocmhbmameaaDoorCA3
import Derived.Test.YtfkdocmhbmameaaDoorCA7
import Derived.Test.YtfkdocmhbmameaaDoorCA8
import Derived.Test.YtfkdocmhbmameaaDoorCA9
import Derived.Test.YtfkdocmhbmameaaDoorCA10
namespace Go.Proofs.YtfkdocmhbmameaaDoor.Mine
open Go.RowKit Go.Proofs Go.Proofs.YtfkdocmhbmameaaDoorW.PrintWords Go.Proofs.YtfkdocmhbmameaaDoorW.PrintLast Go.Proofs.YtfkdocmhbmameaaDoorW.PrintMore
attribute [local go_sem] max2_int min2_int max_two min_two max_three min_three max_four min_four
set_option linter.unusedVariables false
set_option linter.unusedSimpArgs false
theorem IsS77.mk_ {w0 w w' : World} {g : Nat} {t : TB} {most size : Int} {l : List S103} (h : IsS77 w0 w g t) (hI : IsT w0 w' g most size l t.fx) (hk : KeepBut w w' g none) (h3 : w'.cell? ⟨g, 3, none⟩ = w.cell? ⟨g, 3, none⟩) {v : Value} (hv : w'.cell? ⟨g, 2, none⟩ = some v) (ht : TyV w' v) : IsS77 w0 w' g ⟨most, size, l, t.fx⟩ := by
  refine ⟨hI, fun u hu => ?_, fun u hu => ?_⟩
  · obtain rfl := Option.some.inj (hv.symm.trans hu)
    exact ht
  · have h4 := h.2.2 u (h3.symm.trans hu)
    intro ad n c e hn
    have h5 := h4 ad n c e hn
    exact h5.keep hk (fun he => (h5.ne h.ty (by decide)) he)
def table_New.f (a0 : Int) : Option TB := some ⟨mx a0 0, 0, [], tbFixed⟩
theorem IsS77.of {w0 w : World} {g : Nat} {most size : Int} {l fx : List S103} (h : IsT w0 w g most size l fx) (h2 : ∀ v, w.cell? ⟨g, 2, none⟩ = some v → TyV w v) (h3 : ∀ v, w.cell? ⟨g, 3, none⟩ = some v → TyV w v) : IsS77 w0 w g ⟨most, size, l, fx⟩ := ⟨h, h2, h3⟩
def table_Table_Most.f (s : TB) : Option Int := some s.most
theorem table_Table_Most.calls {w1 : World} (g : Nat) (s0_0 : TB) (r : Int) (w : World) (hI : IsS77 w1 w g s0_0) (h : table_Table_Most.f s0_0 = some r) :
    Calls Tryd.prog 30 #[.pointer (some ⟨g, 0, none⟩)] w fun e w' => e = .returned (.int .i64 r) ∧ Below w.heap.size w w' := by
  obtain rfl := Option.some.inj h
  refine (tb_most g _ _ _ _ w1 w hI.1).mono ?_
  rintro e w' ⟨rfl, hb⟩
  exact ⟨rfl, hb⟩
def table_Table_Size.f (s : TB) : Option Int := some s.size
theorem table_Table_Size.calls {w1 : World} (g : Nat) (s0_0 : TB) (r : Int) (w : World) (hI : IsS77 w1 w g s0_0) (h : table_Table_Size.f s0_0 = some r) :
    Calls Tryd.prog 14 #[.pointer (some ⟨g, 0, none⟩)] w fun e w' => e = .returned (.int .i64 r) ∧ Below w.heap.size w w' := by
  obtain rfl := Option.some.inj h
  refine (tb_getsize g _ _ _ _ w1 w hI.1).mono ?_
  rintro e w' ⟨rfl, hb⟩
  exact ⟨rfl, hb⟩
def table_Table_Len.f (s : TB) : Option Int := some (s.l.length : Int)
theorem table_Table_Len.calls {w1 : World} (g : Nat) (s0_0 : TB) (r : Int) (w : World) (hI : IsS77 w1 w g s0_0) (h : table_Table_Len.f s0_0 = some r) :
    Calls Tryd.prog 31 #[.pointer (some ⟨g, 0, none⟩)] w fun e w' => e = .returned (.int .i64 r) ∧ Below w.heap.size w w' := by
  obtain rfl := Option.some.inj h
  refine (tb_getlen g _ _ _ _ w1 w hI.1).mono ?_
  rintro e w' ⟨rfl, hb⟩
  exact ⟨rfl, hb⟩
def table_Table_At.f (s : TB) (n : Int) : Option (ByteArray × ByteArray × Bool) :=
  if n ≤ 9223372036854775807 ∧ s.l.length < 4398046511104 ∧ s.fx.length < 4398046511104 then some ((tbAt s.fx s.l n).1, (tbAt s.fx s.l n).2.1, (tbAt s.fx s.l n).2.2) else none
theorem table_Table_At.calls {w1 : World} (g : Nat) (s0_0 : TB) (a1 : Int) (r1 : ByteArray) (r2 : ByteArray) (r3 : Bool) (w : World) (hI : IsS77 w1 w g s0_0) (h : table_Table_At.f s0_0 a1 = some (r1, r2, r3)) :
    Calls Tryd.prog 33 #[.pointer (some ⟨g, 0, none⟩), .int .i64 a1] w fun e w' => e = .returned (.tuple #[.string r1, .string r2, .bool r3]) ∧ Below w.heap.size w w' := by
  unfold table_Table_At.f at h
  split at h
  · rename_i hc
    simp only [Option.some.injEq, Prod.mk.injEq] at h
    obtain ⟨rfl, rfl, rfl⟩ := h
    refine (tb_at14 g _ _ a1 _ _ w1 w hI.1 hc.2.1 hc.2.2 hc.1).mono ?_
    rintro e w' ⟨rfl, hb⟩
    exact ⟨rfl, hb⟩
  · exact absurd h (by simp)
def table_Table_Add.f (s : TB) (nm vl : ByteArray) : Option TB :=
  if s.l.length < 4398046511103 then some ⟨s.most, (tbAdd s.most s.size s.l ⟨nm, vl⟩).1, (tbAdd s.most s.size s.l ⟨nm, vl⟩).2, s.fx⟩ else none
theorem table_Table_Add.calls (g : Nat) (s0_0 : TB) (a1 : ByteArray) (a2 : ByteArray) (r : TB) (w0 w : World) (hI : IsS77 w0 w g s0_0) (hB : Below w0.heap.size w0 w) (h : table_Table_Add.f s0_0 a1 a2 = some r) :
    Calls Tryd.prog 55 #[.pointer (some ⟨g, 0, none⟩), .string a1, .string a2] w fun e w' => e = .returned (.tuple #[]) ∧ IsS77 w0 w' g r ∧ Below w0.heap.size w0 w' ∧ KeepBut w w' g none := by
  unfold table_Table_Add.f at h
  split at h
  · rename_i hc
    obtain rfl := Option.some.inj h
    refine (tb_add g _ _ _ _ ⟨a1, a2⟩ w0 w hI.1 hB hc).mono ?_
    rintro e w' ⟨rfl, h1, h2, h3, h4, v, h5, h6⟩
    exact ⟨rfl, hI.mk_ h1 h3 h4 h5 h6, h2, h3⟩
  · exact absurd h (by simp)
def table_Table_Resize.f (s : TB) (n : Int) : Option TB :=
  if s.l.length < 4398046511104 then some ⟨mx n 0, (tbFit (wrap64 (mx n 0 - 0)) s.size s.l).1, (tbFit (wrap64 (mx n 0 - 0)) s.size s.l).2, s.fx⟩ else none
theorem table_Table_Resize.calls (g : Nat) (s0_0 : TB) (a1 : Int) (r : TB) (w0 w : World) (hI : IsS77 w0 w g s0_0) (hB : Below w0.heap.size w0 w) (h : table_Table_Resize.f s0_0 a1 = some r) :
    Calls Tryd.prog 39 #[.pointer (some ⟨g, 0, none⟩), .int .i64 a1] w fun e w' => e = .returned (.tuple #[]) ∧ IsS77 w0 w' g r ∧ Below w0.heap.size w0 w' ∧ KeepBut w w' g none := by
  unfold table_Table_Resize.f at h
  split at h
  · rename_i hc
    obtain rfl := Option.some.inj h
    refine (tb_resize g _ _ a1 _ _ w0 w hI.1 hB hc).mono ?_
    rintro e w' ⟨rfl, h1, h2, h3, h4, v, h5, h6⟩
    exact ⟨rfl, hI.mk_ h1 h3 h4 h5 h6, h2, h3⟩
  · exact absurd h (by simp)
def table_Table_Copy.f (s : TB) : Option TB := if s.l.length < 4398046511104 then some s else none
theorem table_Table_Copy.calls {w1 : World} (g : Nat) (s0_0 : TB) (r : TB) (w0 w : World) (hI : IsS77 w1 w g s0_0) (hB : Below w0.heap.size w0 w) (h : table_Table_Copy.f s0_0 = some r) :
    Calls Tryd.prog 37 #[.pointer (some ⟨g, 0, none⟩)] w fun e w' => ∃ g_ : Nat, e = .returned (.pointer (some ⟨g_, 0, none⟩)) ∧ IsS77 w0 w' g_ r ∧ Below w0.heap.size w0 w' ∧ Below w.heap.size w w' := by
  unfold table_Table_Copy.f at h
  split at h
  · rename_i hc
    obtain rfl := Option.some.inj h
    refine (tb_copy g _ _ _ _ w1 w hI.1 hc).mono ?_
    rintro e w' ⟨g2, rfl, hg, h1, h2, h3, v, h4, h5⟩
    refine ⟨g2, rfl, ⟨?_, fun u hu => ?_, fun u hu => ?_⟩, below_then hB hB.size h2, h2⟩
    · obtain ⟨A, c, B, d, k1, k2, k3⟩ := h1
      exact ⟨A, c, B, d, k1, Nat.le_trans hB.size hg, k3⟩
    · obtain rfl := Option.some.inj (h4.symm.trans hu)
      exact h5
    · have h6 := hI.2.2 u (h3.symm.trans hu)
      exact fun ad n c e hn => (h6 ad n c e hn).below h2
  · exact absurd h (by simp)
def table_Table_Find.f (s : TB) (nm vl : ByteArray) : Option (Int × Bool × TB) :=
  if s.l.length < 4398046511104 ∧ s.fx.length < 4398046511104 then some ((tbFind s.fx s.l nm vl (s.fx.length + s.l.length) 1 0).1, (tbFind s.fx s.l nm vl (s.fx.length + s.l.length) 1 0).2, s) else none
end Go.Proofs.YtfkdocmhbmameaaDoor.Mine
namespace Go.Proofs.YtfkdocmhbmameaaDoor.Mine
open Go.RowKit Go.Proofs Go.Proofs.YtfkdocmhbmameaaDoorW.PrintWords Go.Proofs.YtfkdocmhbmameaaDoorW.PrintLast Go.Proofs.YtfkdocmhbmameaaDoorW.PrintMore
attribute [local go_sem] max2_int min2_int max_two min_two max_three min_three max_four min_four
set_option linter.unusedVariables false
set_option linter.unusedSimpArgs false
structure TD where
  t : TB
  down : Bool
def IsS90 (w0 W : World) (g : Nat) (d : TD) : Prop := ∃ gt, gt + 1 = g ∧ W.heap[g]? = some (.cells #[.pointer (some ⟨gt, 0, none⟩), .bool d.down] 90 (0, 0)) ∧ IsS77 w0 W gt d.t
theorem Kd.R_keep2 {α : Type} {d : Kd α} {e : Nat} {w w1 : World} {base : Nat} {ok : Nat → Prop} {v : Value} {xs : List α} (h : d.R e w base ok v xs) {g g2 : Nat} (hk : KeepBut w w1 g (some g2)) (hok : ∀ k, ok k → k ≠ g ∧ k ≠ g2) : d.R e w1 base ok v xs := Kd.R_step h (fun k ho hlt => hk.2 k hlt (hok k ho).1 (fun e_ => (hok k ho).2 (Option.some.inj e_)))
theorem Kd.R_oldK2 {α : Type} {d : Kd α} {e : Nat} {W w1 : World} {base : Nat} {ok : Nat → Prop} {u : Value} {xs : List α} {g g2 : Nat} (hu : d.R e W base (fun k => ok k ∧ (k ≠ g ∧ k ≠ g2)) u xs) (hk : KeepBut W w1 g (some g2)) : d.R e w1 base (fun k => ok k ∧ k < W.heap.size) u xs :=
  Kd.R_mono (Kd.R_keep2 (Kd.R_bound hu) hk (fun _ h => h.1.2)) (fun _ h => ⟨h.1.1, h.2.2.1⟩)
section
variable {w0 W W1 : World} {g : Nat} {d : TD}
theorem IsS90.lt (h : IsS90 w0 W g d) : g < W.heap.size := by
  obtain ⟨gt, h1, h2, h3⟩ := h
  exact blk_lt h2
theorem IsS90.ge1 (h : IsS90 w0 W g d) : w0.heap.size ≤ g - 1 := by
  obtain ⟨gt, h1, h2, h3⟩ := h
  have := h3.ge
  omega
theorem IsS90.ge (h : IsS90 w0 W g d) : w0.heap.size ≤ g := by
  have := h.ge1
  omega
theorem IsS90.ty (h : IsS90 w0 W g d) : TyOf W g 90 := by
  obtain ⟨gt, h1, h2, h3⟩ := h
  exact ⟨_, h2⟩
theorem IsS90.tab (h : IsS90 w0 W g d) : IsS77 w0 W (g - 1) d.t := by
  obtain ⟨gt, h1, h2, h3⟩ := h
  obtain rfl : gt = g - 1 := by omega
  exact h3
theorem IsS90.pos (h : IsS90 w0 W g d) : 0 < g := by
  obtain ⟨gt, h1, h2, h3⟩ := h
  omega
theorem IsS90.blk (h : IsS90 w0 W g d) : ∃ cs, W.heap[g]? = some (.cells cs 90 (0, 0)) := h.ty
theorem IsS90.step (h : IsS90 w0 W g d) (hk : ∀ i, i < W.heap.size → i = g ∨ i = g - 1 ∨ TyOf W i 103 → W1.heap[i]? = W.heap[i]?) : IsS90 w0 W1 g d := by
  have ht := h.tab
  obtain ⟨gt, h1, h2, h3⟩ := h
  refine ⟨gt, h1, (hk g (blk_lt h2) (.inl rfl)).trans h2, h3.step (fun i hi hx => hk i hi ?_)⟩
  rcases hx with rfl | hx
  · exact .inr (.inl (by omega))
  · exact .inr (.inr hx)
theorem IsS90.below (h : IsS90 w0 W g d) (hw : Below W.heap.size W W1) : IsS90 w0 W1 g d := h.step (fun i hi _ => hw.block i hi)
theorem IsS90.alloc (h : IsS90 w0 W g d) (o : Obj) : IsS90 w0 (W.alloc o) g d := h.below (below_alloc (Below.refl _ _) o)
theorem IsS90.drewN (h : IsS90 w0 W g d) (m : Nat) : IsS90 w0 (W.drewN m) g d := h
theorem IsS90.drew (h : IsS90 w0 W g d) : IsS90 w0 W.drew g d := h
theorem IsS90.at_ {w' : World} {m : Nat} (hq : W.drewN m = w') (h : IsS90 w0 W g d) : IsS90 w0 w' g d := by subst hq; exact h
theorem IsS90.fresh (h : IsS90 w0 W g d) : ∀ k, W.heap.size ≤ k → k ≠ g := fun k hk e => absurd h.lt (by omega)
theorem IsS90.rebase {w1 : World} (h : IsS90 w1 W g d) (hs : w0.heap.size ≤ w1.heap.size) : IsS90 w0 W g d := by
  obtain ⟨gt, h1, h2, h3⟩ := h
  exact ⟨gt, h1, h2, h3.rebase hs⟩
theorem IsS90.ne_blk {a : Nat} {cs : Array Value} {u : TypeId} {fr : Nat × Nat} (h : IsS90 w0 W g d) (hb2 : W.heap[a]? = some (.cells cs u fr)) (ht : u ≠ 90 ∧ u ≠ 77) : g ≠ a := by
  obtain ⟨cs1, hb⟩ := h.blk
  rintro rfl
  rw [hb] at hb2
  injection hb2 with hb2
  injection hb2 with _ ht2
  exact ht.1 ht2.symm
theorem IsS90.ne_tab {a : Nat} {cs : Array Value} {u : TypeId} {fr : Nat × Nat} (h : IsS90 w0 W g d) (hb2 : W.heap[a]? = some (.cells cs u fr)) (ht : u ≠ 77) : some a ≠ some (g - 1) := by
  intro e
  exact h.tab.ne_blk hb2 ht (Option.some.inj e).symm
theorem IsS90.grownT {W2 : World} {α : Type} {k : Kd α} {e : Nat} {base : Nat} {ok : Nat → Prop} {v : Value} {xs : List α} (h : IsS90 w0 W1 g d) (hb : Below W.heap.size W W1) (hw : W1.grownBy W2 v.ownBlock) (ho : k.R e W base ok v xs) (ht : e ≠ 90 ∧ e ≠ 77 ∧ e ≠ 103) : IsS90 w0 W2 g d := by
  refine h.step (fun i hi hx => hw.block i hi (fun he => ?_))
  obtain ⟨cs, hc⟩ := Kd.R_typed ho i he.symm
  have hty : TyOf W1 i e := TyOf.below ⟨cs, hc⟩ hb
  rcases hx with rfl | rfl | hx
  · exact hty.ne h.ty ht.1 rfl
  · exact hty.ne h.tab.ty ht.2.1 rfl
  · exact hty.ne hx ht.2.2 rfl
theorem IsS90.farT {p : Addr} {e : TypeId} (h : IsS90 w0 W g d) (hty : TyOf W p.block e) (ht : e ≠ 90 ∧ e ≠ 77 ∧ e ≠ 103) (u : Value) : IsS90 w0 (W.setCell p u) g d := by
  refine h.step (fun i hi hx => Below.heap_setCell W p u i (fun he => ?_))
  subst he
  rcases hx with hx | hx | hx
  · exact hty.ne (hx ▸ h.ty) ht.1 rfl
  · exact hty.ne (hx ▸ h.tab.ty) ht.2.1 rfl
  · exact hty.ne hx ht.2.2 rfl
theorem IsS90.other {w1 : World} {g2 : Nat} {d2 : TD} (h : IsS90 w0 W g d) (h2 : IsS90 w1 W g2 d2) (hk : KeepBut W W1 g2 (some (g2 - 1))) (hne : g ≠ g2) : IsS90 w0 W1 g d := by
  have p1 := h.pos
  have p2 := h2.pos
  refine h.step (fun i hi hx => hk.2 i hi (fun he => ?_) (fun he => ?_))
  · subst he
    rcases hx with hx | hx | hx
    · exact hne hx.symm
    · exact h2.ty.ne (hx ▸ h.tab.ty) (by decide) rfl
    · exact h2.ty.ne hx (by decide) rfl
  · have he := Option.some.inj he
    subst he
    rcases hx with hx | hx | hx
    · exact h2.tab.ty.ne (hx ▸ h.ty) (by decide) rfl
    · omega
    · exact h2.tab.ty.ne hx (by decide) rfl
theorem IsS90.tabOther {w1 : World} {g2 : Nat} {t2 : TB} (h2 : IsS90 w1 W g d) (h : IsS77 w0 W g2 t2) (hk : KeepBut W W1 g (some (g - 1))) (hne : g2 ≠ g - 1) : IsS77 w0 W1 g2 t2 := by
  refine h.step (fun i hi hx => hk.2 i hi (fun he => ?_) (fun he => ?_))
  · subst he
    rcases hx with hx | hx
    · exact h2.ty.ne (hx ▸ h.ty) (by decide) rfl
    · exact h2.ty.ne hx (by decide) rfl
  · have he := Option.some.inj he
    subst he
    rcases hx with hx | hx
    · exact hne hx.symm
    · exact h2.tab.ty.ne hx (by decide) rfl
theorem IsS90.blkK {g' : Nat} {o : Obj} {cs : Array Value} {u : TypeId} {fr : Nat × Nat} (hk : KeepBut W W1 g (some (g - 1))) (h : IsS90 w0 W g d) (hb : W.heap[g']? = some o) (hne : g' ≠ g) (ho : o = .cells cs u fr) (ht : u ≠ 77) : W1.heap[g']? = some o := by
  subst ho
  exact KeepBut.blk hk hb hne (h.ne_tab hb ht)
theorem IsS90.otherT {w1 : World} {g2 : Nat} {t2 : TB} (h : IsS90 w0 W g d) (h2 : IsS77 w1 W g2 t2) (hk : KeepBut W W1 g2 none) (hne : g2 ≠ g - 1) : IsS90 w0 W1 g d := by
  refine h.step (fun i hi hx => hk.2 i hi (fun he => ?_) (by simp))
  subst he
  rcases hx with hx | hx | hx
  · exact h2.ty.ne (hx ▸ h.ty) (by decide) rfl
  · exact hne hx
  · exact h2.ty.ne hx (by decide) rfl
section
variable {α : Type} {k : Kd α} {e : Nat} {base : Nat} {ok : Nat → Prop} {v : Value} {xs : List α}
theorem IsS90.apart (h : IsS90 w0 W g d) (ho : k.R e W base ok v xs) (ht : ∀ q, q ∈ e :: k.E → q ≠ 90 ∧ q ≠ 77) : k.R e W base (fun a => ok a ∧ (a ≠ g ∧ a ≠ g - 1)) v xs := by
  obtain ⟨cs, hb⟩ := h.blk
  obtain ⟨cs2, hb2⟩ := h.tab.blk
  exact Kd.R_mono (Kd.R_types (Kd.R_types ho hb (fun q hq => (ht q hq).1)) hb2 (fun q hq => (ht q hq).2)) (fun _ hk => ⟨hk.1.1, hk.1.2, hk.2⟩)
theorem IsS90.own_ne (h : IsS90 w0 W g d) (ho : k.R e W base ok v xs) (ht : e ≠ 90) : some g ≠ v.ownBlock := by
  obtain ⟨cs, hb⟩ := h.blk
  exact Kd.R_ne ho hb ht
end
end
def unpack_New.f : Option TD := some ⟨⟨mx 4096 0, 0, [], tbFixed⟩, false⟩
set_option maxHeartbeats 2000000 in
set_option maxRecDepth 100000 in
theorem unpack_New.calls (r : TD) (w0 w : World) (hB : Below w0.heap.size w0 w) (hE : EnvW w) (h : unpack_New.f = some r) :
    Calls Tryd.prog 23 #[] w fun e w' => ∃ g_ : Nat, e = .returned (.pointer (some ⟨g_, 0, none⟩)) ∧ IsS90 w0 w' g_ r ∧ Below w0.heap.size w0 w' ∧ Below w.heap.size w w' := by
  obtain ⟨m, hm⟩ := hE
  obtain rfl := Option.some.inj h
  have HM := Aside0.mk hm
  have HB := Aside0.mk hB
  clear h hm hB
  go_enter Tryd.func23, Tryd.ntmps23
  go_wp2_with (first | (go_at_call 34; (with_reducible refine (tb_new 4096 m w0 w HM.out HB.out).mono ?_); rintro e w1 ⟨gt, rfl, h1, h2, h3, h4, h5, h6⟩; have HT := Aside0.mk (IsS77.of h1 h4 h5); have HB1 := Aside0.mk h2; have HC1 := Aside0.mk h3; have HZ := Aside0.mk h6; clear h1 h2 h3 h4 h5 h6) | ((with_reducible refine gate_dst (N := 3) rfl ?_); refine box_event ?hg (N := 3) ?hd (cs := #[.pointer (some ⟨gt, 0, none⟩), .bool false]) (t := 90) ?hr ?_; (case hd => rfl); (case hg => rfl); (case hr => first | (go_simp; done) | (go_simp; rfl)); intro g hg w2 hbox hb; have BG := Aside0.mk hbox; have HG := Aside0.mk (show gt + 1 = g by rw [hg]; exact HZ.out.symm); have HT2 := Aside0.mk (HT.out.below hb); have HB2 := Aside0.mk (below_then HB1.out HB1.out.size hb); have HC2 := Aside0.mk (below_step HC1.out hb); clear hb hbox hg))
  go_ret
  exact ⟨_, rfl, ⟨gt, HG.out, BG.out, HT2.out⟩, HB2.out, HC2.out⟩
def unpack_Decoder_Down.f (s : TD) : Option (Bool × TD) := some (s.down, s)
set_option maxHeartbeats 2000000 in
set_option maxRecDepth 100000 in
theorem unpack_Decoder_Down.calls (g : Nat) (s0_0 : TD) (r1 : Bool) (r2 : TD) (w0 w : World) (hI : IsS90 w0 w g s0_0) (hB : Below w0.heap.size w0 w) (h : unpack_Decoder_Down.f s0_0 = some (r1, r2)) :
    Calls Tryd.prog 28 #[.pointer (some ⟨g, 0, none⟩)] w fun e w' => e = .returned (.bool r1) ∧ IsS90 w0 w' g r2 ∧ Below w0.heap.size w0 w' ∧ KeepBut w w' g (some (g - 1)) := by
  obtain ⟨rfl, rfl⟩ := Prod.mk.inj (Option.some.inj h)
  clear h
  obtain ⟨gt, h1, h2, h3⟩ := hI
  have z1 : w.cell? ⟨g, 1, none⟩ = some (.bool s0_0.down) := (blk_cell h2 1).trans rfl
  have HI := Aside0.mk (show IsS90 w0 w g s0_0 from ⟨gt, h1, h2, h3⟩)
  have HB := Aside0.mk hB
  clear h1 h2 h3 hB
  go_enter Tryd.func28, Tryd.ntmps28
  go_wp2
  go_ret
  exact ⟨rfl, HI.out, HB.out, KeepBut.refl w g _⟩
def unpack_Decoder_Table.f (s : TD) : Option TB := table_Table_Copy.f s.t
set_option maxHeartbeats 2000000 in
set_option maxRecDepth 100000 in
theorem unpack_Decoder_Table.calls {w1 : World} (g : Nat) (s0_0 : TD) (r : TB) (w0 w : World) (hI : IsS90 w1 w g s0_0) (hB : Below w0.heap.size w0 w) (h : unpack_Decoder_Table.f s0_0 = some r) :
    Calls Tryd.prog 29 #[.pointer (some ⟨g, 0, none⟩)] w fun e w' => ∃ g_ : Nat, e = .returned (.pointer (some ⟨g_, 0, none⟩)) ∧ IsS77 w0 w' g_ r ∧ Below w0.heap.size w0 w' ∧ Below w.heap.size w w' := by
  obtain ⟨gt, h1, h2, h3⟩ := hI
  have z0 : w.cell? ⟨g, 0, none⟩ = some (.pointer (some ⟨gt, 0, none⟩)) := (blk_cell h2 0).trans rfl
  have HT := Aside0.mk h3
  have HB := Aside0.mk hB
  have HA := Aside0.mk (show table_Table_Copy.f s0_0.t = some r from h)
  clear h1 h2 h3 hB h
  go_enter Tryd.func29, Tryd.ntmps29
  go_wp2_with (first | (go_at_call 37; (with_reducible refine (table_Table_Copy.calls gt s0_0.t r w0 w HT.out HB.out HA.out).mono ?_); rintro e w2 ⟨g2, rfl, h1, h2, h3⟩; have R1 := Aside0.mk h1; have R2 := Aside0.mk h2; have R3 := Aside0.mk h3; clear h1 h2 h3))
  go_ret
  exact ⟨_, rfl, R1.out, R2.out, R3.out⟩
end Go.Proofs.YtfkdocmhbmameaaDoor.Mine
