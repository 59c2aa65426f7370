/- The walks and the plain laws that the rows come to: merged out of this repo's texts. -/
import Derived.Test.YtfkdocmhbmameaaDoorProg
import Derived.Below
import Derived.Deep.Draws
import Derived.Deep.AppendLies
import Derived.Maps.AppendAt
import Derived.OwnWalk
import Derived.Laws.BytesArg
import Derived.Laws.MakeOwn
import Derived.Laws.OwnMore
import Derived.Deep.OwnRows
import Derived.Tactics
import Derived.Lib.ConvBytes
import Derived.Laws.Slices
import Derived.WalkKit
import Derived.KernelRfl
import Derived.RowKit3
import Derived.Deep.LoopGhost
import Derived.Deep.QuietTactic
import Derived.BigQuiet
import Derived.WideLaws
import Derived.Deep.DeepCutAuto
import Derived.Deep.CutBlock
import Derived.Deep.RegionHeld3
import Derived.Laws.Rows
import Derived.Lib.AppendStr
import Derived.ArgAppend
import Derived.Laws.IdiomCopy
import Derived.RowKit
import Derived.OrdersHeld
import Derived.Laws.BitsLemmas
import Derived.Laws.StructEq
import Derived.Laws.CopyOwn
import Derived.SizedLaws
import Derived.ChangeSlices
import Derived.Deep.Slices
import Derived.Lib.SmallJoins
import Derived.Lib.OthersKept
import Derived.Lib.AppendZerosOnto
import Derived.WalkSpells
import Derived.Shelf.Utf8.RuneCount
import Derived.Shelf.Strings.Search1
import Derived.Shelf.Strings.Search2
import Derived.Shelf.Strings.Search3
import Derived.Shelf.Strings.Cut
import Derived.Shelf.Strings.Count
import Derived.Shelf.LaysM
import Derived.Shelf.Strings.Shaped
import Derived.Shelf.Strings.Split
import Derived.Shelf.Strings.SplitShaped
import Derived.Shelf.Unicode.Decode
import Derived.Shelf.Strings.RuneCount
import Derived.Shelf.Strings.Explode
import Derived.Shelf.Unicode.DecodeSlow
import Derived.Shelf.Unicode.DecodeAny
import Derived.Test.YtfkdocmhbmameaaDoorCV1
import Derived.Test.YtfkdocmhbmameaaDoorCV2
import Derived.Test.YtfkdocmhbmameaaDoorCV10
import Derived.Test.YtfkdocmhbmameaaDoorCV12
import Derived.Test.YtfkdocmhbmameaaDoorCV13
import Derived.Test.YtfkdocmhbmameaaDoorCV14
namespace Go.Proofs.YtfkdocmhbmameaaDoor.Mine
open Go.RowKit Go.Proofs Go.Proofs.YtfkdocmhbmameaaDoorW.PrintWords Go.Proofs.YtfkdocmhbmameaaDoorW.PrintLast Go.Proofs.YtfkdocmhbmameaaDoorW.PrintMore
attribute [local go_sem] max2_int min2_int max_two min_two max_three min_three max_four min_four
set_option linter.unusedVariables false
set_option linter.unusedSimpArgs false
theorem IsS77.mk_ {w0 w w' : World} {g : Nat} {t : TB} {most size : Int} {l : List S103} (h : IsS77 w0 w g t) (hI : IsT w0 w' g most size l t.fx) (hk : KeepBut w w' g none) (h3 : w'.cell? ⟨g, 3, none⟩ = w.cell? ⟨g, 3, none⟩) {v : Value} (hv : w'.cell? ⟨g, 2, none⟩ = some v) (ht : TyV w' v) : IsS77 w0 w' g ⟨most, size, l, t.fx⟩ := by
  refine ⟨hI, fun u hu => ?_, fun u hu => ?_⟩
  · obtain rfl := Option.some.inj (hv.symm.trans hu)
    exact ht
  · have h4 := h.2.2 u (h3.symm.trans hu)
    intro ad n c e hn
    have h5 := h4 ad n c e hn
    exact h5.keep hk (fun he => (h5.ne h.ty (by decide)) he)
theorem IsS77.of {w0 w : World} {g : Nat} {most size : Int} {l fx : List S103} (h : IsT w0 w g most size l fx) (h2 : ∀ v, w.cell? ⟨g, 2, none⟩ = some v → TyV w v) (h3 : ∀ v, w.cell? ⟨g, 3, none⟩ = some v → TyV w v) : IsS77 w0 w g ⟨most, size, l, fx⟩ := ⟨h, h2, h3⟩
def table_Table_Most.f (s : TB) : Option Int := some s.most
theorem table_Table_Most.calls {w1 : World} (g : Nat) (s0_0 : TB) (r : Int) (w : World) (hI : IsS77 w1 w g s0_0) (h : table_Table_Most.f s0_0 = some r) :
    Calls Tryd.prog 30 #[.pointer (some ⟨g, 0, none⟩)] w fun e w' => e = .returned (.int .i64 r) ∧ Below w.heap.size w w' := by
  obtain rfl := Option.some.inj h
  refine (tb_most g _ _ _ _ w1 w hI.1).mono ?_
  rintro e w' ⟨rfl, hb⟩
  exact ⟨rfl, hb⟩
def table_Table_Size.f (s : TB) : Option Int := some s.size
theorem table_Table_Size.calls {w1 : World} (g : Nat) (s0_0 : TB) (r : Int) (w : World) (hI : IsS77 w1 w g s0_0) (h : table_Table_Size.f s0_0 = some r) :
    Calls Tryd.prog 14 #[.pointer (some ⟨g, 0, none⟩)] w fun e w' => e = .returned (.int .i64 r) ∧ Below w.heap.size w w' := by
  obtain rfl := Option.some.inj h
  refine (tb_getsize g _ _ _ _ w1 w hI.1).mono ?_
  rintro e w' ⟨rfl, hb⟩
  exact ⟨rfl, hb⟩
def table_Table_Len.f (s : TB) : Option Int := some (s.l.length : Int)
theorem table_Table_Len.calls {w1 : World} (g : Nat) (s0_0 : TB) (r : Int) (w : World) (hI : IsS77 w1 w g s0_0) (h : table_Table_Len.f s0_0 = some r) :
    Calls Tryd.prog 31 #[.pointer (some ⟨g, 0, none⟩)] w fun e w' => e = .returned (.int .i64 r) ∧ Below w.heap.size w w' := by
  obtain rfl := Option.some.inj h
  refine (tb_getlen g _ _ _ _ w1 w hI.1).mono ?_
  rintro e w' ⟨rfl, hb⟩
  exact ⟨rfl, hb⟩
def table_Table_At.f (s : TB) (n : Int) : Option (ByteArray × ByteArray × Bool) :=
  if n ≤ 9223372036854775807 ∧ s.l.length < 4398046511104 ∧ s.fx.length < 4398046511104 then some ((tbAt s.fx s.l n).1, (tbAt s.fx s.l n).2.1, (tbAt s.fx s.l n).2.2) else none
theorem table_Table_At.calls {w1 : World} (g : Nat) (s0_0 : TB) (a1 : Int) (r1 : ByteArray) (r2 : ByteArray) (r3 : Bool) (w : World) (hI : IsS77 w1 w g s0_0) (h : table_Table_At.f s0_0 a1 = some (r1, r2, r3)) :
    Calls Tryd.prog 33 #[.pointer (some ⟨g, 0, none⟩), .int .i64 a1] w fun e w' => e = .returned (.tuple #[.string r1, .string r2, .bool r3]) ∧ Below w.heap.size w w' := by
  unfold table_Table_At.f at h
  split at h
  · rename_i hc
    simp only [Option.some.injEq, Prod.mk.injEq] at h
    obtain ⟨rfl, rfl, rfl⟩ := h
    refine (tb_at14 g _ _ a1 _ _ w1 w hI.1 hc.2.1 hc.2.2 hc.1).mono ?_
    rintro e w' ⟨rfl, hb⟩
    exact ⟨rfl, hb⟩
  · exact absurd h (by simp)
def table_Table_Add.f (s : TB) (nm vl : ByteArray) : Option TB :=
  if s.l.length < 4398046511103 then some ⟨s.most, (tbAdd s.most s.size s.l ⟨nm, vl⟩).1, (tbAdd s.most s.size s.l ⟨nm, vl⟩).2, s.fx⟩ else none
theorem table_Table_Add.calls (g : Nat) (s0_0 : TB) (a1 : ByteArray) (a2 : ByteArray) (r : TB) (w0 w : World) (hI : IsS77 w0 w g s0_0) (hB : Below w0.heap.size w0 w) (h : table_Table_Add.f s0_0 a1 a2 = some r) :
    Calls Tryd.prog 55 #[.pointer (some ⟨g, 0, none⟩), .string a1, .string a2] w fun e w' => e = .returned (.tuple #[]) ∧ IsS77 w0 w' g r ∧ Below w0.heap.size w0 w' ∧ KeepBut w w' g none := by
  unfold table_Table_Add.f at h
  split at h
  · rename_i hc
    obtain rfl := Option.some.inj h
    refine (tb_add g _ _ _ _ ⟨a1, a2⟩ w0 w hI.1 hB hc).mono ?_
    rintro e w' ⟨rfl, h1, h2, h3, h4, v, h5, h6⟩
    exact ⟨rfl, hI.mk_ h1 h3 h4 h5 h6, h2, h3⟩
  · exact absurd h (by simp)
def table_Table_Resize.f (s : TB) (n : Int) : Option TB :=
  if s.l.length < 4398046511104 then some ⟨mx n 0, (tbFit (wrap64 (mx n 0 - 0)) s.size s.l).1, (tbFit (wrap64 (mx n 0 - 0)) s.size s.l).2, s.fx⟩ else none
theorem table_Table_Resize.calls (g : Nat) (s0_0 : TB) (a1 : Int) (r : TB) (w0 w : World) (hI : IsS77 w0 w g s0_0) (hB : Below w0.heap.size w0 w) (h : table_Table_Resize.f s0_0 a1 = some r) :
    Calls Tryd.prog 39 #[.pointer (some ⟨g, 0, none⟩), .int .i64 a1] w fun e w' => e = .returned (.tuple #[]) ∧ IsS77 w0 w' g r ∧ Below w0.heap.size w0 w' ∧ KeepBut w w' g none := by
  unfold table_Table_Resize.f at h
  split at h
  · rename_i hc
    obtain rfl := Option.some.inj h
    refine (tb_resize g _ _ a1 _ _ w0 w hI.1 hB hc).mono ?_
    rintro e w' ⟨rfl, h1, h2, h3, h4, v, h5, h6⟩
    exact ⟨rfl, hI.mk_ h1 h3 h4 h5 h6, h2, h3⟩
  · exact absurd h (by simp)
def table_Table_Copy.f (s : TB) : Option TB := if s.l.length < 4398046511104 then some s else none
theorem table_Table_Copy.calls {w1 : World} (g : Nat) (s0_0 : TB) (r : TB) (w0 w : World) (hI : IsS77 w1 w g s0_0) (hB : Below w0.heap.size w0 w) (h : table_Table_Copy.f s0_0 = some r) :
    Calls Tryd.prog 37 #[.pointer (some ⟨g, 0, none⟩)] w fun e w' => ∃ g_ : Nat, e = .returned (.pointer (some ⟨g_, 0, none⟩)) ∧ IsS77 w0 w' g_ r ∧ Below w0.heap.size w0 w' ∧ Below w.heap.size w w' := by
  unfold table_Table_Copy.f at h
  split at h
  · rename_i hc
    obtain rfl := Option.some.inj h
    refine (tb_copy g _ _ _ _ w1 w hI.1 hc).mono ?_
    rintro e w' ⟨g2, rfl, hg, h1, h2, h3, v, h4, h5⟩
    refine ⟨g2, rfl, ⟨?_, fun u hu => ?_, fun u hu => ?_⟩, below_then hB hB.size h2, h2⟩
    · obtain ⟨A, c, B, d, k1, k2, k3⟩ := h1
      exact ⟨A, c, B, d, k1, Nat.le_trans hB.size hg, k3⟩
    · obtain rfl := Option.some.inj (h4.symm.trans hu)
      exact h5
    · have h6 := hI.2.2 u (h3.symm.trans hu)
      exact fun ad n c e hn => (h6 ad n c e hn).below h2
  · exact absurd h (by simp)
end Go.Proofs.YtfkdocmhbmameaaDoor.Mine
namespace Go.Proofs.YtfkdocmhbmameaaDoor.Mine
open Go.RowKit Go.Proofs Go.Proofs.YtfkdocmhbmameaaDoorW.PrintWords Go.Proofs.YtfkdocmhbmameaaDoorW.PrintLast Go.Proofs.YtfkdocmhbmameaaDoorW.PrintMore
attribute [local go_sem] max2_int min2_int max_two min_two max_three min_three max_four min_four
set_option linter.unusedVariables false
set_option linter.unusedSimpArgs false
structure TD where
  t : TB
  down : Bool
def IsS90 (w0 W : World) (g : Nat) (d : TD) : Prop := ∃ gt, gt + 1 = g ∧ W.heap[g]? = some (.cells #[.pointer (some ⟨gt, 0, none⟩), .bool d.down] 90 (0, 0)) ∧ IsS77 w0 W gt d.t
theorem Kd.R_keep2 {α : Type} {d : Kd α} {e : Nat} {w w1 : World} {base : Nat} {ok : Nat → Prop} {v : Value} {xs : List α} (h : d.R e w base ok v xs) {g g2 : Nat} (hk : KeepBut w w1 g (some g2)) (hok : ∀ k, ok k → k ≠ g ∧ k ≠ g2) : d.R e w1 base ok v xs := Kd.R_step h (fun k ho hlt => hk.2 k hlt (hok k ho).1 (fun e_ => (hok k ho).2 (Option.some.inj e_)))
section
variable {w0 W W1 : World} {g : Nat} {d : TD}
theorem IsS90.lt (h : IsS90 w0 W g d) : g < W.heap.size := by
  obtain ⟨gt, h1, h2, h3⟩ := h
  exact blk_lt h2
theorem IsS90.ge1 (h : IsS90 w0 W g d) : w0.heap.size ≤ g - 1 := by
  obtain ⟨gt, h1, h2, h3⟩ := h
  have := h3.ge
  omega
theorem IsS90.ge (h : IsS90 w0 W g d) : w0.heap.size ≤ g := by
  have := h.ge1
  omega
theorem IsS90.ty (h : IsS90 w0 W g d) : TyOf W g 90 := by
  obtain ⟨gt, h1, h2, h3⟩ := h
  exact ⟨_, h2⟩
theorem IsS90.tab (h : IsS90 w0 W g d) : IsS77 w0 W (g - 1) d.t := by
  obtain ⟨gt, h1, h2, h3⟩ := h
  obtain rfl : gt = g - 1 := by omega
  exact h3
theorem IsS90.blk (h : IsS90 w0 W g d) : ∃ cs, W.heap[g]? = some (.cells cs 90 (0, 0)) := h.ty
theorem IsS90.step (h : IsS90 w0 W g d) (hk : ∀ i, i < W.heap.size → i = g ∨ i = g - 1 ∨ TyOf W i 103 → W1.heap[i]? = W.heap[i]?) : IsS90 w0 W1 g d := by
  have ht := h.tab
  obtain ⟨gt, h1, h2, h3⟩ := h
  refine ⟨gt, h1, (hk g (blk_lt h2) (.inl rfl)).trans h2, h3.step (fun i hi hx => hk i hi ?_)⟩
  rcases hx with rfl | hx
  · exact .inr (.inl (by omega))
  · exact .inr (.inr hx)
theorem IsS90.below (h : IsS90 w0 W g d) (hw : Below W.heap.size W W1) : IsS90 w0 W1 g d := h.step (fun i hi _ => hw.block i hi)
theorem IsS90.alloc (h : IsS90 w0 W g d) (o : Obj) : IsS90 w0 (W.alloc o) g d := h.below (below_alloc (Below.refl _ _) o)
theorem IsS90.drewN (h : IsS90 w0 W g d) (m : Nat) : IsS90 w0 (W.drewN m) g d := h
theorem IsS90.drew (h : IsS90 w0 W g d) : IsS90 w0 W.drew g d := h
theorem IsS90.at_ {w' : World} {m : Nat} (hq : W.drewN m = w') (h : IsS90 w0 W g d) : IsS90 w0 w' g d := by subst hq; exact h
theorem IsS90.fresh (h : IsS90 w0 W g d) : ∀ k, W.heap.size ≤ k → k ≠ g := fun k hk e => absurd h.lt (by omega)
theorem IsS90.rebase {w1 : World} (h : IsS90 w1 W g d) (hs : w0.heap.size ≤ w1.heap.size) : IsS90 w0 W g d := by
  obtain ⟨gt, h1, h2, h3⟩ := h
  exact ⟨gt, h1, h2, h3.rebase hs⟩
theorem IsS90.ne_blk {a : Nat} {cs : Array Value} {u : TypeId} {fr : Nat × Nat} (h : IsS90 w0 W g d) (hb2 : W.heap[a]? = some (.cells cs u fr)) (ht : u ≠ 90 ∧ u ≠ 77) : g ≠ a := by
  obtain ⟨cs1, hb⟩ := h.blk
  rintro rfl
  rw [hb] at hb2
  injection hb2 with hb2
  injection hb2 with _ ht2
  exact ht.1 ht2.symm
theorem IsS90.ne_tab {a : Nat} {cs : Array Value} {u : TypeId} {fr : Nat × Nat} (h : IsS90 w0 W g d) (hb2 : W.heap[a]? = some (.cells cs u fr)) (ht : u ≠ 77) : some a ≠ some (g - 1) := by
  intro e
  exact h.tab.ne_blk hb2 ht (Option.some.inj e).symm
theorem IsS90.grownT {W2 : World} {α : Type} {k : Kd α} {e : Nat} {base : Nat} {ok : Nat → Prop} {v : Value} {xs : List α} (h : IsS90 w0 W1 g d) (hb : Below W.heap.size W W1) (hw : W1.grownBy W2 v.ownBlock) (ho : k.R e W base ok v xs) (ht : e ≠ 90 ∧ e ≠ 77 ∧ e ≠ 103) : IsS90 w0 W2 g d := by
  refine h.step (fun i hi hx => hw.block i hi (fun he => ?_))
  obtain ⟨cs, hc⟩ := Kd.R_typed ho i he.symm
  have hty : TyOf W1 i e := TyOf.below ⟨cs, hc⟩ hb
  rcases hx with rfl | rfl | hx
  · exact hty.ne h.ty ht.1 rfl
  · exact hty.ne h.tab.ty ht.2.1 rfl
  · exact hty.ne hx ht.2.2 rfl
theorem IsS90.farT {p : Addr} {e : TypeId} (h : IsS90 w0 W g d) (hty : TyOf W p.block e) (ht : e ≠ 90 ∧ e ≠ 77 ∧ e ≠ 103) (u : Value) : IsS90 w0 (W.setCell p u) g d := by
  refine h.step (fun i hi hx => Below.heap_setCell W p u i (fun he => ?_))
  subst he
  rcases hx with hx | hx | hx
  · exact hty.ne (hx ▸ h.ty) ht.1 rfl
  · exact hty.ne (hx ▸ h.tab.ty) ht.2.1 rfl
  · exact hty.ne hx ht.2.2 rfl
theorem IsS90.blkK {g' : Nat} {o : Obj} {cs : Array Value} {u : TypeId} {fr : Nat × Nat} (hk : KeepBut W W1 g (some (g - 1))) (h : IsS90 w0 W g d) (hb : W.heap[g']? = some o) (hne : g' ≠ g) (ho : o = .cells cs u fr) (ht : u ≠ 77) : W1.heap[g']? = some o := by
  subst ho
  exact KeepBut.blk hk hb hne (h.ne_tab hb ht)
theorem IsS90.keptT {S : Nat → Prop} (h : IsS90 w0 W g d) (hk : Kept W W1 S) (hS : ∀ k, S k → ∃ e, TyOf W k e ∧ e ≠ 90 ∧ e ≠ 77 ∧ e ≠ 103) : IsS90 w0 W1 g d := by
  refine h.step (fun i hi hx => hk.2 i hi (fun hs => ?_))
  obtain ⟨e, he, h1, h2, h3⟩ := hS i hs
  rcases hx with hx | hx | hx
  · exact he.ne (hx ▸ h.ty) h1 rfl
  · exact he.ne (hx ▸ h.tab.ty) h2 rfl
  · exact he.ne hx h3 rfl
theorem IsS90.otherT {w1 : World} {g2 : Nat} {t2 : TB} (h : IsS90 w0 W g d) (h2 : IsS77 w1 W g2 t2) (hk : KeepBut W W1 g2 none) (hne : g2 ≠ g - 1) : IsS90 w0 W1 g d := by
  refine h.step (fun i hi hx => hk.2 i hi (fun he => ?_) (by simp))
  subst he
  rcases hx with hx | hx | hx
  · exact h2.ty.ne (hx ▸ h.ty) (by decide) rfl
  · exact hne hx
  · exact h2.ty.ne hx (by decide) rfl
section
variable {α : Type} {k : Kd α} {e : Nat} {base : Nat} {ok : Nat → Prop} {v : Value} {xs : List α}
theorem IsS90.apart (h : IsS90 w0 W g d) (ho : k.R e W base ok v xs) (ht : ∀ q, q ∈ e :: k.E → q ≠ 90 ∧ q ≠ 77) : k.R e W base (fun a => ok a ∧ (a ≠ g ∧ a ≠ g - 1)) v xs := by
  obtain ⟨cs, hb⟩ := h.blk
  obtain ⟨cs2, hb2⟩ := h.tab.blk
  exact Kd.R_mono (Kd.R_types (Kd.R_types ho hb (fun q hq => (ht q hq).1)) hb2 (fun q hq => (ht q hq).2)) (fun _ hk => ⟨hk.1.1, hk.1.2, hk.2⟩)
theorem IsS90.own_ne (h : IsS90 w0 W g d) (ho : k.R e W base ok v xs) (ht : e ≠ 90) : some g ≠ v.ownBlock := by
  obtain ⟨cs, hb⟩ := h.blk
  exact Kd.R_ne ho hb ht
end
end
end Go.Proofs.YtfkdocmhbmameaaDoor.Mine
namespace Go.Proofs.YtfkdocmhbmameaaDoor.Mine
open Go.RowKit Go.Proofs Go.Proofs.YtfkdocmhbmameaaDoorW.PrintWords Go.Proofs.YtfkdocmhbmameaaDoorW.PrintLast Go.Proofs.YtfkdocmhbmameaaDoorW.PrintMore
attribute [local go_sem] max2_int min2_int max_two min_two max_three min_three max_four min_four
set_option linter.unusedVariables false
set_option linter.unusedSimpArgs false
def IsB (W : World) (g gt : Nat) (s : ByteArray) (at_ : Int) : Prop := W.heap[g]? = some (.cells #[.pointer (some ⟨gt, 0, none⟩), .string s, .int .i64 at_] 94 (0, 0))
theorem IsB.below {W W1 : World} {g gt : Nat} {s : ByteArray} {a : Int} (h : IsB W g gt s a) (hb : Below W.heap.size W W1) : IsB W1 g gt s a := blk_below h hb
theorem IsB.keep {W W1 : World} {g gt g2 : Nat} {s : ByteArray} {a : Int} (h : IsB W g gt s a) (hk : KeepBut W W1 g2 none) (hne : g ≠ g2) : IsB W1 g gt s a := (hk.2 g (blk_lt h) hne (by simp)).trans h
theorem IsB.c0 {W : World} {g gt : Nat} {s : ByteArray} {a : Int} (h : IsB W g gt s a) : W.cell? ⟨g, 0, none⟩ = some (.pointer (some ⟨gt, 0, none⟩)) := (blk_cell h 0).trans rfl
theorem IsB.c1 {W : World} {g gt : Nat} {s : ByteArray} {a : Int} (h : IsB W g gt s a) : W.cell? ⟨g, 1, none⟩ = some (.string s) := (blk_cell h 1).trans rfl
theorem IsB.c2 {W : World} {g gt : Nat} {s : ByteArray} {a : Int} (h : IsB W g gt s a) : W.cell? ⟨g, 2, none⟩ = some (.int .i64 a) := (blk_cell h 2).trans rfl
theorem IsB.set2 {W : World} {g gt : Nat} {s : ByteArray} {a : Int} (h : IsB W g gt s a) (z : Int) : IsB (W.setCell ⟨g, 2, none⟩ (.int .i64 z)) g gt s z := blk_put h 2 _ rfl
end Go.Proofs.YtfkdocmhbmameaaDoor.Mine
namespace Go.Proofs.YtfkdocmhbmameaaDoor.Mine
open Go.RowKit Go.Proofs.YtfkdocmhbmameaaDoorW.PrintWords Go.Proofs.YtfkdocmhbmameaaDoorW.PrintLast Go.Proofs.YtfkdocmhbmameaaDoorW.PrintMore
attribute [local go_sem] max2_int min2_int max_two min_two max_three min_three max_four min_four
set_option linter.unusedVariables false
set_option linter.unusedSimpArgs false
def prefix_full.f (a0 : Int) : Option (Int) := some (IntKind.u64.wrap ((IntKind.u64.wrap (2 ^ (mn (mx a0 1) 8).toNat)) - 1))
set_option maxHeartbeats 8000000 in
set_option maxRecDepth 100000 in
theorem prefix_full.calls (a0 : Int) (r : Int) (w : World) (h : prefix_full.f a0 = some r) :
  Calls Tryd.prog 52 #[.int .i64 a0] w fun e w' => e = .returned (.int .u64 r) ∧ Below w.heap.size w w' := by
 have HB := Aside0.mk (Below.refl w.heap.size w)
 have H : (some (IntKind.u64.wrap ((IntKind.u64.wrap (2 ^ (mn (mx a0 1) 8).toNat)) - 1))) = some r := h
 clear h
 obtain ⟨ji2, hji2⟩ : ∃ j_ : Int, (mx a0 1) = j_ := ⟨_, rfl⟩
 replace H : (some (IntKind.u64.wrap ((IntKind.u64.wrap (2 ^ (mn (ji2) 8).toNat)) - 1))) = some r := by first | (rw [hji2] at H; exact H) | (simp only [hji2] at H ⊢; exact H)
 (try (have hji2l : 1 ≤ ji2 := by (rw [← hji2]; unfold mx; (repeat' split) <;> omega)))
 (try (have hji2m : 0 ≤ ji2 := by omega))
 have hji2_ : (if a0 < 1 then 1 else a0) = ji2 := hji2
 obtain ⟨ji3, hji3⟩ : ∃ j_ : Int, (mn (ji2) 8) = j_ := ⟨_, rfl⟩
 replace H : (some (IntKind.u64.wrap ((IntKind.u64.wrap (2 ^ (ji3).toNat)) - 1))) = some r := by first | (rw [hji3] at H; exact H) | (simp only [hji3] at H ⊢; exact H)
 have hji3_ : (if 8 < (ji2) then 8 else (ji2)) = ji3 := hji3
 obtain rfl := Option.some.inj H
 go_enter Tryd.func52, Tryd.ntmps52
 go_wp2
 go_ret
 exact ⟨by first | rfl | (simp [errW_none, errW_some] <;> rfl) | (simp only [← hji2, ← hji3]; first | rfl | (simp [errW_none, errW_some] <;> rfl)) | (simp [*, errW_none, errW_some] <;> rfl), by repeat (first | (with_reducible first | exact HB.out | apply below_alloc | apply pw_below_drewN | apply below_drew1) | exact HB.out)⟩
def prefix_Put.l0 : Nat → Int → List Int → Option (List Int)
 | 0, _, _ => none
 | k + 1, x3, x9 => if x3 ≥ 128 then (if x9.length < 140737488355328 then (prefix_Put.l0 k (x3 / 128) (x9 ++ [Go.bits .or .u8 ((x3) % 256) 128])) else (none)) else (if x9.length < 140737488355328 then (some (x9 ++ [(x3) % 256])) else (none))
def prefix_Put.f (k : Nat) (l0 : List Int) (a1 : Int) (a2 : Int) (a3 : Int) : Option (List Int) := (prefix_full.f a2).bind fun t104 => (if a3 < t104 then (if l0.length < 140737488355328 then (some (l0 ++ [Go.bits .or .u8 (Go.bits .andNot .u8 a1 ((t104) % 256)) ((a3) % 256)])) else (none)) else (if l0.length < 140737488355328 then (prefix_Put.l0 k (IntKind.u64.wrap (a3 - t104)) (l0 ++ [Go.bits .or .u8 (Go.bits .andNot .u8 a1 ((t104) % 256)) ((t104) % 256)])) else (none)))
theorem prefix_Put.mono_l : ∀ k, (∀ y0 y1, LeO (prefix_Put.l0 k y0 y1) (prefix_Put.l0 (k + 1) y0 y1))
 | 0 => fun _ _ r h => by simp [prefix_Put.l0] at h
 | k + 1 => by
  have ih0 := prefix_Put.mono_l k
  ·
   intro y0 y1
   unfold prefix_Put.l0
   repeat' first
   | (with_reducible exact ih0 _ _)
   | (with_reducible exact LeO.refl _)
   | (with_reducible exact LeO.none _)
   | (with_reducible refine LeO.ite ?_ ?_)
   | (with_reducible refine LeO.bind ?_ (fun _ => ?_))
   | exact ih0 _ _
   | exact LeO.none _
   | refine LeO.ite ?_ ?_
   | refine LeO.bind ?_ (fun _ => ?_)
theorem prefix_Put.mono : ∀ a0 a1 a2 a3 k, LeO (prefix_Put.f k a0 a1 a2 a3) (prefix_Put.f (k + 1) a0 a1 a2 a3) := by
 intro a0 a1 a2 a3 k
 have ih0 := prefix_Put.mono_l k
 unfold prefix_Put.f
 repeat' first
   | (with_reducible exact ih0 _ _)
   | (with_reducible exact LeO.refl _)
   | (with_reducible exact LeO.none _)
   | (with_reducible refine LeO.ite ?_ ?_)
   | (with_reducible refine LeO.bind ?_ (fun _ => ?_))
   | exact ih0 _ _
   | exact LeO.none _
   | refine LeO.ite ?_ ?_
   | refine LeO.bind ?_ (fun _ => ?_)
set_option maxHeartbeats 8000000 in
set_option maxRecDepth 100000 in
theorem prefix_Put.calls (k : Nat) (A0 : Option Addr) (c0 : Nat) (l0 : List Int) (a1 : Int) (a2 : Int) (a3 : Int) (r : List Int) (w : World) (hr0 : Kd.C (Kd.int .u8) w A0 l0.length l0) (hc0 : l0.length ≤ c0) (h : prefix_Put.f k l0 a1 a2 a3 = some r) :
  Calls Tryd.prog 35 #[.slice A0 l0.length c0, .int .u8 a1, .int .i64 a2, .int .u64 a3] w fun e w' => ∃ v0_ : Value, e = .returned (v0_) ∧ Kd.R (Kd.int .u8) 5 w' w.heap.size (fun _ => True) v0_ r ∧ Below w.heap.size w w' := by
 have HR0 := Aside0.mk hr0
 have HC0 := Aside0.mk hc0
 clear hr0 hc0
 have HB := Aside0.mk (Below.refl w.heap.size w)
 have H : ((prefix_full.f a2).bind fun t104 => (if a3 < t104 then (if l0.length < 140737488355328 then (some (l0 ++ [Go.bits .or .u8 (Go.bits .andNot .u8 a1 ((t104) % 256)) ((a3) % 256)])) else (none)) else (if l0.length < 140737488355328 then (prefix_Put.l0 k (IntKind.u64.wrap (a3 - t104)) (l0 ++ [Go.bits .or .u8 (Go.bits .andNot .u8 a1 ((t104) % 256)) ((t104) % 256)])) else (none)))) = some r := h
 clear h
 replace H := Option.bind_eq_some_iff.mp H
 obtain ⟨t104, A50, H⟩ := H
 replace H : (if a3 < t104 then (if l0.length < 140737488355328 then (some (l0 ++ [Go.bits .or .u8 (Go.bits .andNot .u8 a1 ((t104) % 256)) ((a3) % 256)])) else (none)) else (if l0.length < 140737488355328 then (prefix_Put.l0 k (IntKind.u64.wrap (a3 - t104)) (l0 ++ [Go.bits .or .u8 (Go.bits .andNot .u8 a1 ((t104) % 256)) ((t104) % 256)])) else (none))) = some r := H
 have A5 := Aside0.mk A50
 clear A50
 by_cases c6 : a3 < t104
 ·
  rw [if_pos c6] at H
  have c6b0 : decide (a3 < t104) = true := decide_eq_true c6
  clear c6
  by_cases c7 : l0.length < 140737488355328
  ·
   rw [if_pos c7] at H
   have c7b0 := eq_true c7
   have c7b1 : decide (l0.length < 140737488355328) = true := decide_eq_true c7
   clear c7
   obtain ⟨y105, hy105⟩ : ∃ y_ : List Int, y_ = (l0 ++ [Go.bits .or .u8 (Go.bits .andNot .u8 a1 ((t104) % 256)) ((a3) % 256)]) := ⟨_, rfl⟩
   replace H : (some y105) = some r := by first | (rw [hy105]; with_reducible exact H) | (have H2_ := (Option.bind_some _ _).symm.trans H; rw [hy105]; with_reducible exact H2_) | (have H2_ := (Option.bind_some _ _).symm.trans H; with_reducible exact H2_) | with_reducible exact H | (rw [hy105]; exact H) | exact H
   have Ny105 := Aside0.mk hy105
   clear hy105
   obtain rfl := Option.some.inj H
   have hfull8 := print_full_of (P := Tryd.prog) 71 5 Tryd.underlying71 info5 A0 l0.length c0 (Nat.le_trans (Nat.le_of_eq rfl) HC0.out)
   go_enter Tryd.func35, Tryd.ntmps35
   go_wp2_with (first | ((with_reducible refine gate_callee (f := 52) rfl ?_); refine goesL_ (some 19) rfl rfl Tryd.func52 (by kernel_rfl) rfl #[.int .i64 a2] rfl (by (try simp only [List.map_toArray, List.map_cons, List.map_nil]); first | done | rfl | (simp only [List.length_drop, List.length_take]; rfl)) ?_; (with_reducible refine (prefix_full.calls a2 t104 _ A5.out).mono ?_); rintro e w9 ⟨rfl, hb⟩; refine ⟨_, rfl, ?_⟩; have n0_ := Aside0.mk (below_step (by repeat (first | (with_reducible first | exact HB.out | apply below_alloc | apply pw_below_drewN | apply below_drew1) | exact HB.out)) hb); clear HB; have HB := n0_; clear n0_; (try clear hb); (try clear hb2); (try clear hk); (try clear hi)) | ((with_reducible refine gate_builtin (b := .append) (xs := #[.tmp 27, .tmp 32]) rfl ?_); at_builtin; refine Kd.R_append_full (enc := Value.int .u8) (h1 := fun _ => rfl) (P := Tryd.prog) _ rfl (.tmp 27) (.tmp 32) 71 5 (.int .u8 0) 1 rfl Tryd.underlying71 info5 rfl (by omega) A0 l0 (Go.bits .or .u8 (Go.bits .andNot .u8 a1 ((t104) % 256)) ((a3) % 256)) (ok := fun _ => True) rfl rfl ?aC (fun _ _ => trivial) (by have h_ : l0.length < 140737488355328 := of_decide_eq_true (by first | (with_reducible assumption) | assumption); omega) (Below.refl _ _) (Nat.le_refl _) ?_; (case aC => repeat (first | exact (Kd.C_below HR0.out HB.out) | (with_reducible refine Kd.C_alloc ?_ _) | (with_reducible refine Kd.C_drewN ?_ _) | (with_reducible refine Kd.C_drew ?_))); intro v106 w10 ho11 hb hg_ hnew_; clear hg_ hnew_; (first | rw [← Ny105.out] at ho11 | (simp only [Int.reduceToNat] at ho11; rw [← Ny105.out] at ho11)); have n0_ := Aside0.mk (Kd.R_lower ho11 (below_size (by repeat (first | (with_reducible first | exact HB.out | apply below_alloc | apply pw_below_drewN | apply below_drew1) | exact HB.out)))); have n1_ := Aside0.mk (below_step (by repeat (first | (with_reducible first | exact HB.out | apply below_alloc | apply pw_below_drewN | apply below_drew1) | exact HB.out)) hb); clear HB; have HO107 := n0_; have HB := n1_; clear n0_ n1_; clear hb ho11))
   go_ret
   exact ⟨_, by first | rfl | (simp [errW_none, errW_some] <;> rfl) | (simp [*, errW_none, errW_some] <;> rfl), by (with_reducible repeat (first | apply Kd.R_alloc | apply Kd.R_drewN | apply Kd.R_drew)); exact HO107.out, by repeat (first | (with_reducible first | exact HB.out | apply below_alloc | apply pw_below_drewN | apply below_drew1) | exact HB.out)⟩
  ·
   rw [if_neg c7] at H
   exact absurd H (by simp)
 ·
  rw [if_neg c6] at H
  have c6b0 : decide (a3 < t104) = false := decide_eq_false c6
  clear c6
  by_cases c12 : l0.length < 140737488355328
  ·
   rw [if_pos c12] at H
   have c12b0 := eq_true c12
   have c12b1 : decide (l0.length < 140737488355328) = true := decide_eq_true c12
   clear c12
   obtain ⟨y108, hy108⟩ : ∃ y_ : List Int, y_ = (l0 ++ [Go.bits .or .u8 (Go.bits .andNot .u8 a1 ((t104) % 256)) ((t104) % 256)]) := ⟨_, rfl⟩
   replace H : (prefix_Put.l0 k (IntKind.u64.wrap (a3 - t104)) y108) = some r := by first | (rw [hy108]; with_reducible exact H) | (have H2_ := (Option.bind_some _ _).symm.trans H; rw [hy108]; with_reducible exact H2_) | (have H2_ := (Option.bind_some _ _).symm.trans H; with_reducible exact H2_) | with_reducible exact H | (rw [hy108]; exact H) | exact H
   have Ny108 := Aside0.mk hy108
   clear hy108
   have H' := Aside0.mk H
   clear H
   have hfull13 := print_full_of (P := Tryd.prog) 71 5 Tryd.underlying71 info5 A0 l0.length c0 (Nat.le_trans (Nat.le_of_eq rfl) HC0.out)
   go_enter Tryd.func35, Tryd.ntmps35
   go_wp2_with (first | ((with_reducible refine gate_callee (f := 52) rfl ?_); refine goesL_ (some 19) rfl rfl Tryd.func52 (by kernel_rfl) rfl #[.int .i64 a2] rfl (by (try simp only [List.map_toArray, List.map_cons, List.map_nil]); first | done | rfl | (simp only [List.length_drop, List.length_take]; rfl)) ?_; (with_reducible refine (prefix_full.calls a2 t104 _ A5.out).mono ?_); rintro e w14 ⟨rfl, hb⟩; refine ⟨_, rfl, ?_⟩; have n0_ := Aside0.mk (below_step (by repeat (first | (with_reducible first | exact HB.out | apply below_alloc | apply pw_below_drewN | apply below_drew1) | exact HB.out)) hb); clear HB; have HB := n0_; clear n0_; (try clear hb); (try clear hb2); (try clear hk); (try clear hi)) | ((with_reducible refine gate_builtin (b := .append) (xs := #[.tmp 34, .tmp 39]) rfl ?_); at_builtin; refine Kd.R_append_full (enc := Value.int .u8) (h1 := fun _ => rfl) (P := Tryd.prog) _ rfl (.tmp 34) (.tmp 39) 71 5 (.int .u8 0) 1 rfl Tryd.underlying71 info5 rfl (by omega) A0 l0 (Go.bits .or .u8 (Go.bits .andNot .u8 a1 ((t104) % 256)) ((t104) % 256)) (ok := fun _ => True) rfl rfl ?aC (fun _ _ => trivial) (by have h_ : l0.length < 140737488355328 := of_decide_eq_true (by first | (with_reducible assumption) | assumption); omega) (Below.refl _ _) (Nat.le_refl _) ?_; (case aC => repeat (first | exact (Kd.C_below HR0.out HB.out) | (with_reducible refine Kd.C_alloc ?_ _) | (with_reducible refine Kd.C_drewN ?_ _) | (with_reducible refine Kd.C_drew ?_))); intro v109 w15 ho16 hb hg_ hnew_; clear hg_ hnew_; (first | rw [← Ny108.out] at ho16 | (simp only [Int.reduceToNat] at ho16; rw [← Ny108.out] at ho16)); have n0_ := Aside0.mk (Kd.R_lower ho16 (below_size (by repeat (first | (with_reducible first | exact HB.out | apply below_alloc | apply pw_below_drewN | apply below_drew1) | exact HB.out)))); have n1_ := Aside0.mk (below_step (by repeat (first | (with_reducible first | exact HB.out | apply below_alloc | apply pw_below_drewN | apply below_drew1) | exact HB.out)) hb); clear HB; have HO110 := n0_; have HB := n1_; clear n0_ n1_; clear hb ho16))
   go_loopg [3, 9] k (fun kq v3 v9 w' => ∃ (x3_1 : Int) (x9_1 : List Int), v3 = .int .u64 x3_1 ∧ Aside0 (prefix_Put.l0 kq x3_1 x9_1 = some r) ∧ Aside0 (kq ≤ k) ∧ Aside0 (Kd.R (Kd.int .u8) 5 w' w.heap.size (fun _ => True) v9 x9_1) ∧ Aside0 (Below w.heap.size w w'))
   case atStart => exact ⟨(IntKind.u64.wrap (a3 - t104)), (y108), (by first | rfl | (simp; done) | (simp [*]; done)), H', ⟨Nat.le_refl _⟩, ⟨by (with_reducible repeat (first | apply Kd.R_alloc | apply Kd.R_drewN | apply Kd.R_drew)); exact HO110.out⟩, ⟨by repeat (first | (with_reducible first | exact HB.out | apply below_alloc | apply pw_below_drewN | apply below_drew1) | exact HB.out)⟩⟩
   case round =>
    clear H'
    try clear c1
    try clear p2
    try clear c3
    try clear c5
    try clear c6
    try clear c6b0
    try clear c7
    try clear c7b0
    try clear c7b1
    try clear c12
    try clear c12b0
    try clear c12b1
    obtain ⟨x3_1, x9_1, rfl, HA, HK1, HO_9, HB⟩ := hrel
    cases gk with
    | zero => exact absurd HA.out (by simp [prefix_Put.l0])
    | succ k1 =>
     have H := HA.out
     clear HA
     simp only [prefix_Put.l0] at H
     by_cases c17 : x3_1 ≥ 128
     ·
      rw [if_pos c17] at H
      have c17b0 : decide (128 ≤ x3_1) = true := decide_eq_true c17
      clear c17
      by_cases c18 : x9_1.length < 140737488355328
      ·
       rw [if_pos c18] at H
       have LMc18 := Aside0.mk c18
       clear c18
       obtain ⟨y111, hy111⟩ : ∃ y_ : List Int, y_ = (x9_1 ++ [Go.bits .or .u8 ((x3_1) % 256) 128]) := ⟨_, rfl⟩
       replace H : (prefix_Put.l0 k1 (x3_1 / 128) y111) = some r := by first | (rw [hy111]; with_reducible exact H) | (have H2_ := (Option.bind_some _ _).symm.trans H; rw [hy111]; with_reducible exact H2_) | (have H2_ := (Option.bind_some _ _).symm.trans H; with_reducible exact H2_) | with_reducible exact H | (rw [hy111]; exact H) | exact H
       have Ny111 := Aside0.mk hy111
       clear hy111
       have H' := Aside0.mk H
       clear H
       go_wp2_with (first | ((with_reducible refine gate_builtin (b := .append) (xs := #[.tmp 48, .tmp 52]) rfl ?_); at_builtin; refine Kd.R_append (Kd.int .u8) (w0 := w) w.heap.size rfl (.tmp 48) (.tmp 52) 71 5 (.int .u8 0) 1 rfl Tryd.underlying71 info5 rfl (by decide) (by omega) u9 x9_1 (Go.bits .or .u8 ((x3_1) % 256) 128) [.int .u8 (Go.bits .or .u8 ((x3_1) % 256) 128)] (fun _ => True) (fun _ => False) rfl rfl ?aP (fun _ hk => hk.elim) ?aF ?aO ?aB ?aS ?aL ?_; (case aP => exact rfl); (case aB => exact (by repeat (first | (with_reducible first | exact HB.out | apply below_alloc | apply pw_below_drewN | apply below_drew1) | exact HB.out))); (case aF => exact (fun _ _ => trivial)); (case aO => exact (by (with_reducible repeat (first | apply Kd.R_alloc | apply Kd.R_drewN | apply Kd.R_drew)); exact HO_9.out)); (case aS => exact (below_size (by repeat (first | (with_reducible first | exact HB.out | apply below_alloc | apply pw_below_drewN | apply below_drew1) | exact HB.out)))); (case aL => have := LMc18.out; omega); intro v112 w19 ho hb hg hat; rw [← Ny111.out] at ho; have n0_ := Aside0.mk (hb); have n1_ := Aside0.mk (ho); clear HB; clear HO_9; have HB := n0_; have HO113 := n1_; clear n0_ n1_; clear ho hb hg hat))
       go_roundg k1
       case measure => have := HK1.out; omega
       case rel => exact ⟨(x3_1 / 128), (y111), (by first | rfl | (simp; done) | (simp [*]; done)), H', ⟨by have := HK1.out; omega⟩, ⟨by (with_reducible repeat (first | apply Kd.R_alloc | apply Kd.R_drewN | apply Kd.R_drew)); exact HO113.out⟩, ⟨by repeat (first | (with_reducible first | exact HB.out | apply below_alloc | apply pw_below_drewN | apply below_drew1) | exact HB.out)⟩⟩
      ·
       rw [if_neg c18] at H
       exact absurd H (by simp)
     ·
      rw [if_neg c17] at H
      have c17b0 : decide (128 ≤ x3_1) = false := decide_eq_false c17
      clear c17
      by_cases c20 : x9_1.length < 140737488355328
      ·
       rw [if_pos c20] at H
       have LMc20 := Aside0.mk c20
       clear c20
       obtain ⟨y114, hy114⟩ : ∃ y_ : List Int, y_ = (x9_1 ++ [(x3_1) % 256]) := ⟨_, rfl⟩
       replace H : (some y114) = some r := by first | (rw [hy114]; with_reducible exact H) | (have H2_ := (Option.bind_some _ _).symm.trans H; rw [hy114]; with_reducible exact H2_) | (have H2_ := (Option.bind_some _ _).symm.trans H; with_reducible exact H2_) | with_reducible exact H | (rw [hy114]; exact H) | exact H
       have Ny114 := Aside0.mk hy114
       clear hy114
       obtain rfl := Option.some.inj H
       go_wp2_with (first | ((with_reducible refine gate_builtin (b := .append) (xs := #[.tmp 54, .tmp 57]) rfl ?_); at_builtin; refine Kd.R_append (Kd.int .u8) (w0 := w) w.heap.size rfl (.tmp 54) (.tmp 57) 71 5 (.int .u8 0) 1 rfl Tryd.underlying71 info5 rfl (by decide) (by omega) u9 x9_1 ((x3_1) % 256) [.int .u8 ((x3_1) % 256)] (fun _ => True) (fun _ => False) rfl rfl ?aP (fun _ hk => hk.elim) ?aF ?aO ?aB ?aS ?aL ?_; (case aP => exact rfl); (case aB => exact (by repeat (first | (with_reducible first | exact HB.out | apply below_alloc | apply pw_below_drewN | apply below_drew1) | exact HB.out))); (case aF => exact (fun _ _ => trivial)); (case aO => exact (by (with_reducible repeat (first | apply Kd.R_alloc | apply Kd.R_drewN | apply Kd.R_drew)); exact HO_9.out)); (case aS => exact (below_size (by repeat (first | (with_reducible first | exact HB.out | apply below_alloc | apply pw_below_drewN | apply below_drew1) | exact HB.out)))); (case aL => have := LMc20.out; omega); intro v115 w21 ho hb hg hat; rw [← Ny114.out] at ho; have n0_ := Aside0.mk (hb); have n1_ := Aside0.mk (ho); clear HB; clear HO_9; have HB := n0_; have HO116 := n1_; clear n0_ n1_; clear ho hb hg hat))
       go_ret
       exact ⟨_, by first | rfl | (simp [errW_none, errW_some] <;> rfl) | (simp [*, errW_none, errW_some] <;> rfl), by (with_reducible repeat (first | apply Kd.R_alloc | apply Kd.R_drewN | apply Kd.R_drew)); exact HO116.out, by repeat (first | (with_reducible first | exact HB.out | apply below_alloc | apply pw_below_drewN | apply below_drew1) | exact HB.out)⟩
      ·
       rw [if_neg c20] at H
       exact absurd H (by simp)
  ·
   rw [if_neg c12] at H
   exact absurd H (by simp)
def huff_bits.f (a0 : Int) : Option (Int) := if 0 ≤ a0 then (if a0 < 257 then (some ((((bt (⟨#[105, 115, 120, 120, 120, 120, 120, 120, 120, 116, 122, 120, 120, 122, 120, 120, 120, 120, 120, 120, 120, 120, 122, 120, 120, 120, 120, 120, 120, 120, 120, 120, 98, 102, 102, 104, 105, 98, 100, 103, 102, 102, 100, 103, 100, 98, 98, 98, 97, 97, 97, 98, 98, 98, 98, 98, 98, 98, 99, 100, 107, 98, 104, 102, 105, 98, 99, 99, 99, 99, 99, 99, 99, 99, 99, 99, 99, 99, 99, 99, 99, 99, 99, 99, 99, 99, 99, 99, 100, 99, 100, 105, 111, 105, 106, 98, 107, 97, 98, 97, 98, 97, 98, 98, 98, 97, 99, 99, 98, 98, 98, 97, 98, 99, 98, 97, 97, 98, 99, 99, 99, 99, 99, 107, 103, 106, 105, 120, 112, 114, 112, 112, 114, 114, 114, 115, 114, 115, 115, 115, 115, 115, 116, 115, 116, 116, 114, 115, 116, 115, 115, 115, 115, 113, 114, 115, 114, 115, 115, 116, 114, 113, 112, 114, 114, 115, 115, 113, 115, 114, 114, 116, 113, 114, 115, 115, 113, 113, 114, 113, 115, 114, 115, 115, 112, 114, 114, 114, 115, 114, 114, 115, 118, 118, 112, 111, 114, 115, 114, 117, 118, 118, 118, 119, 119, 118, 116, 117, 111, 113, 118, 119, 119, 118, 119, 116, 113, 113, 118, 118, 120, 119, 119, 119, 112, 116, 112, 113, 114, 113, 113, 115, 114, 114, 117, 117, 116, 116, 118, 115, 118, 119, 118, 118, 119, 119, 119, 119, 119, 120, 119, 119, 119, 119, 119, 118, 122]⟩ : ByteArray) a0) - 97) % 256) + 5)) else (none)) else (none)
set_option maxHeartbeats 8000000 in
set_option maxRecDepth 100000 in
theorem huff_bits.calls (a0 : Int) (r : Int) (w : World) (h : huff_bits.f a0 = some r) :
  Calls Tryd.prog 92 #[.int .i64 a0] w fun e w' => e = .returned (.int .i64 r) ∧ Drawn0 w w' := by
 have H : (if 0 ≤ a0 then (if a0 < 257 then (some ((((bt (⟨#[105, 115, 120, 120, 120, 120, 120, 120, 120, 116, 122, 120, 120, 122, 120, 120, 120, 120, 120, 120, 120, 120, 122, 120, 120, 120, 120, 120, 120, 120, 120, 120, 98, 102, 102, 104, 105, 98, 100, 103, 102, 102, 100, 103, 100, 98, 98, 98, 97, 97, 97, 98, 98, 98, 98, 98, 98, 98, 99, 100, 107, 98, 104, 102, 105, 98, 99, 99, 99, 99, 99, 99, 99, 99, 99, 99, 99, 99, 99, 99, 99, 99, 99, 99, 99, 99, 99, 99, 100, 99, 100, 105, 111, 105, 106, 98, 107, 97, 98, 97, 98, 97, 98, 98, 98, 97, 99, 99, 98, 98, 98, 97, 98, 99, 98, 97, 97, 98, 99, 99, 99, 99, 99, 107, 103, 106, 105, 120, 112, 114, 112, 112, 114, 114, 114, 115, 114, 115, 115, 115, 115, 115, 116, 115, 116, 116, 114, 115, 116, 115, 115, 115, 115, 113, 114, 115, 114, 115, 115, 116, 114, 113, 112, 114, 114, 115, 115, 113, 115, 114, 114, 116, 113, 114, 115, 115, 113, 113, 114, 113, 115, 114, 115, 115, 112, 114, 114, 114, 115, 114, 114, 115, 118, 118, 112, 111, 114, 115, 114, 117, 118, 118, 118, 119, 119, 118, 116, 117, 111, 113, 118, 119, 119, 118, 119, 116, 113, 113, 118, 118, 120, 119, 119, 119, 112, 116, 112, 113, 114, 113, 113, 115, 114, 114, 117, 117, 116, 116, 118, 115, 118, 119, 118, 118, 119, 119, 119, 119, 119, 120, 119, 119, 119, 119, 119, 118, 122]⟩ : ByteArray) a0) - 97) % 256) + 5)) else (none)) else (none)) = some r := h
 clear h
 by_cases c2 : 0 ≤ a0
 ·
  rw [if_pos c2] at H
  have c2b0 : decide (0 ≤ a0) = true := decide_eq_true c2
  clear c2
  by_cases c3 : a0 < 257
  ·
   rw [if_pos c3] at H
   have c3b0 : decide (a0 < 257) = true := decide_eq_true c3
   clear c3
   obtain rfl := Option.some.inj H
   have p4 : 0 ≤ (a0 : Int) := of_decide_eq_true (by first | (with_reducible assumption) | assumption)
   have q4 : a0 < (257 : Int) := of_decide_eq_true (by first | (with_reducible assumption) | assumption)
   have hx4 := bt_at (⟨#[105, 115, 120, 120, 120, 120, 120, 120, 120, 116, 122, 120, 120, 122, 120, 120, 120, 120, 120, 120, 120, 120, 122, 120, 120, 120, 120, 120, 120, 120, 120, 120, 98, 102, 102, 104, 105, 98, 100, 103, 102, 102, 100, 103, 100, 98, 98, 98, 97, 97, 97, 98, 98, 98, 98, 98, 98, 98, 99, 100, 107, 98, 104, 102, 105, 98, 99, 99, 99, 99, 99, 99, 99, 99, 99, 99, 99, 99, 99, 99, 99, 99, 99, 99, 99, 99, 99, 99, 100, 99, 100, 105, 111, 105, 106, 98, 107, 97, 98, 97, 98, 97, 98, 98, 98, 97, 99, 99, 98, 98, 98, 97, 98, 99, 98, 97, 97, 98, 99, 99, 99, 99, 99, 107, 103, 106, 105, 120, 112, 114, 112, 112, 114, 114, 114, 115, 114, 115, 115, 115, 115, 115, 116, 115, 116, 116, 114, 115, 116, 115, 115, 115, 115, 113, 114, 115, 114, 115, 115, 116, 114, 113, 112, 114, 114, 115, 115, 113, 115, 114, 114, 116, 113, 114, 115, 115, 113, 113, 114, 113, 115, 114, 115, 115, 112, 114, 114, 114, 115, 114, 114, 115, 118, 118, 112, 111, 114, 115, 114, 117, 118, 118, 118, 119, 119, 118, 116, 117, 111, 113, 118, 119, 119, 118, 119, 116, 113, 113, 118, 118, 120, 119, 119, 119, 112, 116, 112, 113, 114, 113, 113, 115, 114, 114, 117, 117, 116, 116, 118, 115, 118, 119, 118, 118, 119, 119, 119, 119, 119, 120, 119, 119, 119, 119, 119, 118, 122]⟩ : ByteArray) a0
   replace p4 := eq_true p4
   replace q4 := eq_true q4
   go_enter Tryd.func92, Tryd.ntmps92
   go_wp2
   go_ret
   exact ⟨by first | rfl | (simp; done) | (simp [*]; done), by repeat (first | exact Drawn0.refl _ | apply Drawn0.step)⟩
  ·
   rw [if_neg c3] at H
   exact absurd H (by simp)
 ·
  rw [if_neg c2] at H
  exact absurd H (by simp)
def huff_Size.l0 : Nat → Int → List Int → Int → Int → Option (Int)
 | 0, _, _, _, _ => none
 | k + 1, x3, x7, x8, x9 => if x9 < x8 then (if 0 ≤ x9 then (if x9 < (x7.length : Int) then ((huff_bits.f (wrap64 (rd x7 x9))).bind fun t121 => (huff_Size.l0 k (wrap64 (x3 + t121)) x7 x8 (wrap64 (x9 + 1)))) else (none)) else (none)) else (some (wrap64 (Int.tdiv (wrap64 (x3 + 7)) 8)))
def huff_Size.f (k : Nat) (a0 : ByteArray) : Option (Int) := if (a0.size : Int) ≤ 9223372036854775807 then ((some (bytesOf a0 : List Int)).bind fun y117 => (huff_Size.l0 k 0 y117 (y117.length : Int) 0)) else (none)
theorem huff_Size.mono_l : ∀ k, (∀ y0 y1 y2 y3, LeO (huff_Size.l0 k y0 y1 y2 y3) (huff_Size.l0 (k + 1) y0 y1 y2 y3))
 | 0 => fun _ _ _ _ r h => by simp [huff_Size.l0] at h
 | k + 1 => by
  have ih0 := huff_Size.mono_l k
  ·
   intro y0 y1 y2 y3
   unfold huff_Size.l0
   repeat' first
   | (with_reducible exact ih0 _ _ _ _)
   | (with_reducible exact LeO.refl _)
   | (with_reducible exact LeO.none _)
   | (with_reducible refine LeO.ite ?_ ?_)
   | (with_reducible refine LeO.bind ?_ (fun _ => ?_))
   | exact ih0 _ _ _ _
   | exact LeO.none _
   | refine LeO.ite ?_ ?_
   | refine LeO.bind ?_ (fun _ => ?_)
theorem huff_Size.mono : ∀ a0 k, LeO (huff_Size.f k a0) (huff_Size.f (k + 1) a0) := by
 intro a0 k
 have ih0 := huff_Size.mono_l k
 unfold huff_Size.f
 repeat' first
   | (with_reducible exact ih0 _ _ _ _)
   | (with_reducible exact LeO.refl _)
   | (with_reducible exact LeO.none _)
   | (with_reducible refine LeO.ite ?_ ?_)
   | (with_reducible refine LeO.bind ?_ (fun _ => ?_))
   | exact ih0 _ _ _ _
   | exact LeO.none _
   | refine LeO.ite ?_ ?_
   | refine LeO.bind ?_ (fun _ => ?_)
set_option maxHeartbeats 8000000 in
set_option maxRecDepth 100000 in
theorem huff_Size.calls (k : Nat) (a0 : ByteArray) (r : Int) (w : World) (h : huff_Size.f k a0 = some r) :
  Calls Tryd.prog 81 #[.string a0] w fun e w' => e = .returned (.int .i64 r) ∧ Below w.heap.size w w' := by
 have HB := Aside0.mk (Below.refl w.heap.size w)
 have H : (if (a0.size : Int) ≤ 9223372036854775807 then ((some (bytesOf a0 : List Int)).bind fun y117 => (huff_Size.l0 k 0 y117 (y117.length : Int) 0)) else (none)) = some r := h
 clear h
 by_cases c2 : (a0.size : Int) ≤ 9223372036854775807
 ·
  rw [if_pos c2] at H
  have c2b0 := eq_true c2
  have c2b1 : decide ((a0.size : Int) ≤ 9223372036854775807) = true := decide_eq_true c2
  try have c2b2 : (9223372036854775807 < (a0.size : Int)) = False := eq_false (Nat.not_lt.2 c2)
  clear c2
  obtain ⟨y117, hy117⟩ : ∃ y_ : List Int, y_ = (bytesOf a0) := ⟨_, rfl⟩
  replace H : (huff_Size.l0 k 0 y117 (y117.length : Int) 0) = some r := by first | (rw [hy117]; with_reducible exact H) | (have H2_ := (Option.bind_some _ _).symm.trans H; rw [hy117]; with_reducible exact H2_) | (have H2_ := (Option.bind_some _ _).symm.trans H; with_reducible exact H2_) | with_reducible exact H | (rw [hy117]; exact H) | exact H
  have Ny117 := Aside0.mk hy117
  clear hy117
  have H' := Aside0.mk H
  clear H
  go_enter Tryd.func81, Tryd.ntmps81
  go_wp2_with (first | ((with_reducible refine gate_dst (N := 7) rfl ?_); refine Kd.V_conv _ 5 rfl (N' := 7) rfl 9 71 _ rfl a0 rfl Tryd.underlying9 Tryd.underlying71 Tryd.underlying5 (by have h_ : ((a0.size : Int) : Int) ≤ 9223372036854775807 := of_decide_eq_true (by first | (with_reducible assumption) | assumption); omega) (Below.refl _ _) (Nat.le_refl _) ?_; intro v118 w3 ho4 hb hg_ hnew_; clear hg_ hnew_; (first | rw [← Ny117.out] at ho4 | (simp only [Int.reduceToNat] at ho4; rw [← Ny117.out] at ho4)); have n0_ := Aside0.mk (Kd.V_lower (Kd.V_mono (ok' := fun k_ => True) ho4 (fun k_ hk_ => trivial)) (below_size (by repeat (first | (with_reducible first | exact HB.out | apply below_alloc | apply pw_below_drewN | apply below_drew1) | exact HB.out)))); have n1_ := Aside0.mk (below_step (by repeat (first | (with_reducible first | exact HB.out | apply below_alloc | apply pw_below_drewN | apply below_drew1) | exact HB.out)) hb); clear HB; have HO119 := n0_; have HB := n1_; clear n0_ n1_; clear hb ho4; obtain ⟨Ao5, co5, eo5⟩ := Kd.V_slice HO119.out; subst eo5))
  go_loopg [3, 9] k (fun kq v3 v9 w' => ∃ (x3_1 : Int) (x9_1 : Int), v3 = .int .i64 x3_1 ∧ v9 = .int .i64 x9_1 ∧ Aside0 (huff_Size.l0 kq x3_1 y117 (y117.length : Int) x9_1 = some r) ∧ Aside0 (kq ≤ k) ∧ Aside0 (Kd.V (Kd.int .u8) 5 w' w.heap.size (fun _ => True) (.slice Ao5 y117.length co5) y117) ∧ Aside0 (Below w.heap.size w w'))
  case atStart => exact ⟨(0), (0), (by first | rfl | (simp; done) | (simp [*]; done)), (by first | rfl | (simp; done) | (simp [*]; done)), H', ⟨Nat.le_refl _⟩, ⟨by (with_reducible repeat (first | apply Kd.V_alloc | apply Kd.V_drewN | apply Kd.V_drew)); exact HO119.out⟩, ⟨by repeat (first | (with_reducible first | exact HB.out | apply below_alloc | apply pw_below_drewN | apply below_drew1) | exact HB.out)⟩⟩
  case round =>
   clear H'
   try clear c2
   try clear c2b0
   try clear c2b1
   try clear c2b2
   try clear p2
   obtain ⟨x3_1, x9_1, rfl, rfl, HA, HK1, HO_7, HB⟩ := hrel
   cases gk with
   | zero => exact absurd HA.out (by simp [huff_Size.l0])
   | succ k1 =>
    have H := HA.out
    clear HA
    simp only [huff_Size.l0] at H
    by_cases c6 : x9_1 < (y117.length : Int)
    ·
     rw [if_pos c6] at H
     have c6b0 : decide (x9_1 < (y117.length : Int)) = true := decide_eq_true c6
     clear c6
     by_cases c7 : 0 ≤ x9_1
     ·
      rw [if_pos c7] at H
      have c7b0 : decide (0 ≤ x9_1) = true := decide_eq_true c7
      clear c7
      by_cases c8 : x9_1 < (y117.length : Int)
      ·
       rw [if_pos c8] at H
       have c8b0 : decide (x9_1 < (y117.length : Int)) = true := decide_eq_true c8
       clear c8
       replace H := Option.bind_eq_some_iff.mp H
       obtain ⟨t121, A90, H⟩ := H
       replace H : (huff_Size.l0 k1 (wrap64 (x3_1 + t121)) y117 (y117.length : Int) (wrap64 (x9_1 + 1))) = some r := H
       have A9 := Aside0.mk A90
       clear A90
       have H' := Aside0.mk H
       clear H
       have p120 : 0 ≤ (x9_1 : Int) := of_decide_eq_true (by first | (with_reducible assumption) | assumption)
       have q120 : x9_1 < (y117.length : Int) := of_decide_eq_true (by first | (with_reducible assumption) | assumption)
       obtain ⟨ad120, e120, hx120_0⟩ := Kd.at_int (Kd.V_reads' HO_7.out).2.2 x9_1 p120 q120
       cases e120
       replace p120 := eq_true p120
       replace q120 := eq_true q120
       go_wp2_with (first | ((with_reducible refine gate_callee (f := 92) rfl ?_); refine goesL_ (some 16) rfl rfl Tryd.func92 (by kernel_rfl) rfl #[.int .i64 (wrap64 (rd y117 x9_1))] rfl (by (try simp only [List.map_toArray, List.map_cons, List.map_nil]); first | done | rfl | (simp only [List.length_drop, List.length_take]; rfl)) ?_; (with_reducible refine (huff_bits.calls (wrap64 (rd y117 x9_1)) t121 _ A9.out).mono ?_); rintro e w' ⟨rfl, ⟨nd, rfl⟩⟩; refine ⟨_, rfl, ?_⟩))
       go_roundg k1
       case measure => have := HK1.out; omega
       case rel => exact ⟨(wrap64 (x3_1 + t121)), (wrap64 (x9_1 + 1)), (by first | rfl | (simp; done) | (simp [*]; done)), (by first | rfl | (simp; done) | (simp [*]; done)), H', ⟨by have := HK1.out; omega⟩, ⟨by (with_reducible repeat (first | apply Kd.V_alloc | apply Kd.V_drewN | apply Kd.V_drew)); exact HO_7.out⟩, ⟨by repeat (first | (with_reducible first | exact HB.out | apply below_alloc | apply pw_below_drewN | apply below_drew1) | exact HB.out)⟩⟩
      ·
       rw [if_neg c8] at H
       exact absurd H (by simp)
     ·
      rw [if_neg c7] at H
      exact absurd H (by simp)
    ·
     rw [if_neg c6] at H
     have c6b0 : decide (x9_1 < (y117.length : Int)) = false := decide_eq_false c6
     clear c6
     obtain rfl := Option.some.inj H
     go_wp2
     go_ret
     exact ⟨by first | rfl | (simp [errW_none, errW_some] <;> rfl) | (simp [*, errW_none, errW_some] <;> rfl), by repeat (first | (with_reducible first | exact HB.out | apply below_alloc | apply pw_below_drewN | apply below_drew1) | exact HB.out)⟩
 ·
  rw [if_neg c2] at H
  exact absurd H (by simp)
end Go.Proofs.YtfkdocmhbmameaaDoor.Mine
namespace Go.Proofs.YtfkdocmhbmameaaDoor.Mine
open Go.RowKit Go.Proofs Go.Proofs.YtfkdocmhbmameaaDoorW.PrintWords Go.Proofs.YtfkdocmhbmameaaDoorW.PrintLast Go.Proofs.YtfkdocmhbmameaaDoorW.PrintMore
attribute [local go_sem] max2_int min2_int max_two min_two max_three min_three max_four min_four
set_option linter.unusedVariables false
set_option linter.unusedSimpArgs false
theorem keep_two {w w1 w2 : World} {g gt : Nat} (h : KeepBut w w1 g none) (k : KeepBut w1 w2 gt none) : KeepBut w w2 g (some gt) :=
  ⟨Nat.le_trans h.1 k.1, fun i hi hg hr => (k.2 i (Nat.lt_of_lt_of_le hi h.1) (fun q => hr (congrArg some q)) (by simp)).trans (h.2 i hi hg (by simp))⟩
end Go.Proofs.YtfkdocmhbmameaaDoor.Mine
namespace Go.Proofs.YtfkdocmhbmameaaDoor.Mine
open Go.RowKit Go.Proofs.YtfkdocmhbmameaaDoorW.PrintWords Go.Proofs.YtfkdocmhbmameaaDoorW.PrintLast Go.Proofs.YtfkdocmhbmameaaDoorW.PrintMore
attribute [local go_sem] max2_int min2_int max_two min_two max_three min_three max_four min_four
set_option linter.unusedVariables false
set_option linter.unusedSimpArgs false
theorem hcZeroValue (w : World) : (zeroValue 149).run Tryd.prog w = .ok (.agg (hcTab 5 0 5 5 0)) w := by kernel_rfl
theorem hb0_at {w0 W : World} {g : Nat} (h : IsS149 w0 W g) (i : Int) (h0 : 0 ≤ i) (h1 : i < 257) : W.cell? ⟨g, i.toNat, none⟩ = some (.int .u32 (hb0 i)) := by
 rw [blk_cell h.1, hcTab_get _ _ _ _ _ _ (by omega), hcCell_code' _ _ _ _ _ _ (by omega), if_pos (show hcLen i.toNat < 31 ∨ (hcLen i.toNat = 31 ∧ i.toNat < 0) from .inl (hcLen_le _ (by omega)))]
 rfl
def huff_made.f : Option Unit := some ()
set_option maxHeartbeats 4000000 in
set_option maxRecDepth 100000 in
theorem huff_made.made (w : World) : Calls Tryd.prog 93 #[] w fun e w' => ∃ g_ : Nat, e = .returned (.pointer (some ⟨g_, 0, none⟩)) ∧ w'.heap[g_]? = some (.cells (hcTab 31 0 31 31 257) 149 (0, 0)) ∧ w.heap.size ≤ g_ ∧ Below w.heap.size w w' := by
 have hz := hcZeroValue
 obtain ⟨T0, hT0⟩ : ∃ T, T = hcTab 5 0 5 5 0 := ⟨_, rfl⟩
 rw [← hT0] at hz
 have HT := Aside0.mk hT0
 clear hT0
 go_enter Tryd.func93, Tryd.ntmps93
 go_wp2_with (first | ((with_reducible refine gate_dst (N := 8) rfl ?_); refine box_event ?hg (N := 8) ?hd (cs := T0) (t := 149) ?hr ?_; (case hd => rfl); (case hg => rfl); (case hr => first | (go_simp; done) | (go_simp; rfl)); intro gb hg w2 hbox hb; have HBox := Aside0.mk hbox; have HB2 := Aside0.mk hb; have HG := Aside0.mk (show w.heap.size ≤ gb by omega); clear hbox hb hg hz))
 go_loopw [2, 3, 4] (fun v2 v3 v4 wr => ∃ n p b : Nat, 5 ≤ n ∧ n ≤ 31 ∧ p = hcPre n ∧ b = hcBeg n ∧ v2 = .int .u32 p ∧ v3 = .int .i64 b ∧ v4 = .int .i64 n ∧ Aside0 (wr.heap[gb]? = some (.cells (hcTab n 0 n n b) 149 (0, 0))) ∧ Aside0 (Below w.heap.size w wr)) (fun _ _ v4 _ => 31 - (intOf v4).toNat)
 case atStart => exact ⟨5, 0, 0, by omega, by omega, rfl, rfl, rfl, rfl, rfl, ⟨by rw [← HT.out]; exact HBox.out⟩, HB2⟩
 case round =>
  obtain ⟨n, p, b, h5, h31, hp, hb, rfl, rfl, rfl, HT1, HB1⟩ := hrel
  clear HBox HB2
  by_cases hn : n ≤ 30
  ·
   obtain ⟨e1, e2, e3, e4, e5, e6, e7, e8⟩ := hcRound n h5 (by omega)
   rw [← hp] at e1
   rw [← hb] at e4 e5 e6 e8
   have hpb : p ≤ 536870912 := by omega
   have E1 := Aside0.mk e1
   have E2 := Aside0.mk e2
   have E4 := Aside0.mk e4
   have E6 := Aside0.mk e6
   have E7 := Aside0.mk e7
   clear e1 e2 e4 e6 e7 hp hb
   have hca : wr.cell? ⟨gb, 257 + n, none⟩ = some (.int .u32 (if n < n then hcFirst n else 0 : Nat)) := by rw [blk_cell HT1.out, hcTab_get _ _ _ _ _ _ (by omega), hcCell_first _ _ _ _ _ _ (by omega)]
   have hfa := blk_frozen HT1.out (257 + n)
   have hcb : wr.cell? ⟨gb, 319 + n, none⟩ = some (.int .i64 (if n < n then hcBegin n else 0 : Nat)) := by rw [blk_cell HT1.out, hcTab_get _ _ _ _ _ _ (by omega), hcCell_begin _ _ _ _ _ _ (by omega)]
   have hfb := blk_frozen HT1.out (319 + n)
   go_wp2
   go_region
   clear hca hfa hcb hfb
   have F1 := Aside0.mk (show (((wr.setCell ⟨gb, 257 + n, none⟩ (.int .u32 ((p : Int) * 2))).setCell ⟨gb, 319 + n, none⟩ (.int .i64 (b : Int))).drew).heap[gb]? = some (.cells (hcTab n 0 (n + 1) n b) 149 (0, 0)) from
    blk_drew (blk_put (blk_set HT1.out (257 + n) _) (319 + n) _ (by
     have h1 := hcStep1 n b (by omega)
     rw [← E4.out, E1.out] at h1
     exact hcTab_set2 (fun j hj => by rw [← h1 j hj, show ((2 * p : Nat) : Int) = (p : Int) * 2 by omega]))))
   have F2 := Aside0.mk (show Below w.heap.size w (((wr.setCell ⟨gb, 257 + n, none⟩ (.int .u32 ((p : Int) * 2))).setCell ⟨gb, 319 + n, none⟩ (.int .i64 (b : Int))).drew) from below_drew1 (below_set (below_set HB1.out HG.out) HG.out))
   generalize ((wr.setCell ⟨gb, 257 + n, none⟩ (.int .u32 ((p : Int) * 2))).setCell ⟨gb, 319 + n, none⟩ (.int .i64 (b : Int))).drew = wA at F1 F2 ⊢
   clear HT1 HB1
   go_wp2
   change Code.wp Tryd.prog _ _ _ (wA.iter hcText 0)
   have hgi : gb < wA.heap.size := blk_lt F1.out
   have hwi : w.heap.size ≤ wA.heap.size := F2.out.size
   have F3 := Aside0.mk (World.iter_heap wA hcText 0)
   have F4 := Aside0.mk (show (wA.iter hcText 0).heap[gb]? = some (.cells (hcTab n 0 (n + 1) n b) 149 (0, 0)) from blk_alloc F1.out _)
   have F5 := Aside0.mk (show Below w.heap.size w (wA.iter hcText 0) from below_alloc F2.out _)
   clear F1 F2
   generalize wA.heap.size = ib at hgi hwi F3 ⊢
   generalize wA.iter hcText 0 = wI at F3 F4 F5 ⊢
   go_loopw [2, 3] (fun v2 v3 wr => ∃ k q a : Nat, k ≤ 257 ∧ Aside0 (q = 2 * p + hcCnt n k) ∧ Aside0 (a = b + hcCnt n k) ∧ v2 = .int .u32 q ∧ v3 = .int .i64 a ∧ q ≤ 1073742100 ∧ a ≤ 257 ∧ Aside0 (wr.heap[ib]? = some (.stringIter hcText k)) ∧ Aside0 (wr.heap[gb]? = some (.cells (hcTab n k (n + 1) n a) 149 (0, 0))) ∧ Aside0 (Below w.heap.size w wr)) (fun _ _ wr => 257 - wr.iterPos ib)
   case atStart => exact ⟨0, p * 2, b, by omega, ⟨by rw [hcCnt_zero]; omega⟩, ⟨by rw [hcCnt_zero]; omega⟩, by simp, rfl, by omega, by omega, F3, F4, F5⟩
   case round =>
    obtain ⟨k, q, a, hk, HQ, HA, rfl, rfl, hq1, ha1, G3, G4, G5⟩ := hrel
    clear F3 F4 F5
    by_cases hlt : k < 257
    ·
     obtain ⟨l, hl⟩ : ∃ l, l = hcLen k := ⟨_, rfl⟩
     obtain ⟨s1, s2, s3, s4, s5⟩ := hcSigns_all k hlt
     rw [← hl] at s1 s2 s3 s4 s5
     have HL := Aside0.mk hl
     have S1 := Aside0.mk s1
     have S2 := Aside0.mk s2
     have S3 := Aside0.mk s3
     clear s1 s2 s3
     have hby := hcText_at k hlt
     rw [← hl] at hby
     have hnx : ∀ ty, (Instr.next (.pointer (some ⟨ib, 0, none⟩)) true ty).run Tryd.prog wr = .ok (.tuple #[.bool true, .int .i64 k, .int .i32 ((l + 92 : Nat) : Int)]) (wr.iterAt ib hcText (k + 1)) := by
      intro ty
      have h_ := Lib.run_next_ascii_at (P := Tryd.prog) wr ib hcText k ty G3.out (by rw [hcText_size]; exact hlt) (by rw [hby]; omega)
      rw [hby] at h_
      exact h_
     clear hby hl
     have G6 := Aside0.mk (Lib.iterAt_heap wr ib hcText k (k + 1) G3.out)
     have G7 := Aside0.mk (show (wr.iterAt ib hcText (k + 1)).heap[gb]? = some (.cells (hcTab n k (n + 1) n a) 149 (0, 0)) from (Lib.iterAt_other wr ib gb hcText (k + 1) (by omega)).trans G4.out)
     have G8 := Aside0.mk (Lib.below_iterAt G5.out (k := ib) (by omega) hcText (k + 1))
     clear G4 G5
     generalize wr.iterAt ib hcText (k + 1) = wB at hnx G6 G7 G8
     by_cases hln : l = n
     ·
      subst hln
      have hcond : (((l : Int) + 92 - 97 + 5) == (l : Int)) = true := by rw [beq_iff_eq]; omega
      have hcc : wB.cell? ⟨gb, k, none⟩ = some (hcCell l k (l + 1) l a k) := by rw [blk_cell G7.out, hcTab_get _ _ _ _ _ _ (by omega)]
      rw [hcCell_code' _ _ _ _ _ _ hlt] at hcc
      have hfc := blk_frozen G7.out k
      have ha2 : a < 257 := by
       have h1 := S3.out
       rw [show hcBegin l = b from E4.out.symm] at h1; have h2 := HA.out
       omega
      have hcs : wB.cell? ⟨gb, 350 + a, none⟩ = some (.int .i64 (if a < a then hcSign a else 0 : Nat)) := by rw [blk_cell G7.out, hcTab_get _ _ _ _ _ _ (by omega), hcCell_sign]
      have hfs := blk_frozen G7.out (350 + a)
      go_wp2
      go_region
      clear hcond hcc hfc hcs hfs
      have H1 := Aside0.mk (show (((wB.setCell ⟨gb, k, none⟩ (.int .u32 (q : Int))).setCell ⟨gb, 350 + a, none⟩ (.int .i64 (k : Int))).drew).heap[gb]? = some (.cells (hcTab l (k + 1) (l + 1) l (a + 1)) 149 (0, 0)) from
       blk_drew (blk_put (blk_set G7.out k _) (350 + a) _ (by
        have h1 := hcStep2 l k (l + 1) l a hlt ha2 HL.out.symm S1.out (by rw [HA.out, E4.out]; exact S2.out)
        rw [show hcCode k = q by rw [S1.out, E1.out, HQ.out]] at h1
        exact hcTab_set2 h1)))
      have H2 := Aside0.mk (show (((wB.setCell ⟨gb, k, none⟩ (.int .u32 (q : Int))).setCell ⟨gb, 350 + a, none⟩ (.int .i64 (k : Int))).drew).heap[ib]? = some (.stringIter hcText (k + 1)) from by
       show (((wB.setCell ⟨gb, k, none⟩ (.int .u32 (q : Int))).setCell ⟨gb, 350 + a, none⟩ (.int .i64 (k : Int)))).heap[ib]? = _
       rw [Below.heap_setCell _ _ _ _ (show ib ≠ gb by omega), Below.heap_setCell _ _ _ _ (show ib ≠ gb by omega)]
       exact G6.out)
      have H3 := Aside0.mk (show Below w.heap.size w (((wB.setCell ⟨gb, k, none⟩ (.int .u32 (q : Int))).setCell ⟨gb, 350 + a, none⟩ (.int .i64 (k : Int))).drew) from below_drew1 (below_set (below_set G8.out HG.out) HG.out))
      generalize ((wB.setCell ⟨gb, k, none⟩ (.int .u32 (q : Int))).setCell ⟨gb, 350 + a, none⟩ (.int .i64 (k : Int))).drew = wC at H1 H2 H3 ⊢
      clear G6 G7 G8 hnx
      go_wp2
      go_roundw
      case rel => exact ⟨k + 1, q + 1, a + 1, by omega, ⟨by rw [hcCnt_yes l k hlt HL.out.symm, HQ.out]; omega⟩, ⟨by rw [hcCnt_yes l k hlt HL.out.symm, HA.out]; omega⟩, by go_num, by go_num, by have := hcCnt_le2 l (k + 1); rw [hcCnt_yes l k hlt HL.out.symm] at this; have := HQ.out; omega, by omega, H2, H1, H3⟩
      case measure => simp only [World.iterPos, H2.out, G3.out]; omega
     ·
      go_wp2
      go_roundw
      case rel => exact ⟨k + 1, q, a, by omega, ⟨by rw [hcCnt_no n k hlt (by rw [← HL.out]; exact hln)]; exact HQ.out⟩, ⟨by rw [hcCnt_no n k hlt (by rw [← HL.out]; exact hln)]; exact HA.out⟩, rfl, rfl, hq1, ha1, G6, ⟨by rw [← hcTab_congr (hcStep3 n k (n + 1) n a (by rw [← HL.out]; exact hln))]; exact G7.out⟩, G8⟩
      case measure => simp only [World.iterPos, G6.out, G3.out]; omega
    ·
     obtain rfl : k = 257 := by omega
     have hnx : ∀ ty, (Instr.next (.pointer (some ⟨ib, 0, none⟩)) true ty).run Tryd.prog wr = .ok (.tuple #[.bool false]) wr := fun ty => Lib.run_next_end_at (P := Tryd.prog) wr ib hcText 257 ty G3.out (by rw [hcText_size]; omega)
     have hcb : wr.cell? ⟨gb, 319 + n, none⟩ = some (.int .i64 (b : Int)) := by rw [blk_cell G4.out, hcTab_get _ _ _ _ _ _ (by omega), hcCell_begin _ _ _ _ _ _ (by omega), if_pos (Nat.lt_succ_self n), E4.out]
     have hcd : wr.cell? ⟨gb, 288 + n, none⟩ = some (.int .i64 (if n < n then hcCount n else 0 : Nat)) := by rw [blk_cell G4.out, hcTab_get _ _ _ _ _ _ (by omega), hcCell_count _ _ _ _ _ _ (by omega)]
     have hfd := blk_frozen G4.out (288 + n)
     go_wp2
     go_region
     have H1 := Aside0.mk (show ((wr.setCell ⟨gb, 288 + n, none⟩ (.int .i64 ((a : Int) - (b : Int)))).drew).heap[gb]? = some (.cells (hcTab (n + 1) 0 (n + 1) (n + 1) a) 149 (0, 0)) from
      blk_drew (blk_put G4.out (288 + n) _ (by
       have h1 := hcStep4 n a (by omega)
       rw [show hcCount n = a - b by rw [E2.out, HA.out]; omega] at h1
       exact hcTab_set (fun j hj => by rw [← h1 j hj, show ((a - b : Nat) : Int) = (a : Int) - (b : Int) by have := HA.out; omega]))))
     have H3 := Aside0.mk (show Below w.heap.size w ((wr.setCell ⟨gb, 288 + n, none⟩ (.int .i64 ((a : Int) - (b : Int)))).drew) from below_drew1 (below_set G5.out HG.out))
     generalize (wr.setCell ⟨gb, 288 + n, none⟩ (.int .i64 ((a : Int) - (b : Int)))).drew = wC at H1 H3 ⊢
     clear hcb hcd hfd hnx G3 G4 G5
     go_wp2
     go_roundw
     case rel => exact ⟨n + 1, q, a, by omega, by omega, by rw [E7.out, E1.out]; exact HQ.out, by rw [E6.out]; exact HA.out, rfl, rfl, by go_num, H1, H3⟩
     case measure => simp [intOf]; omega
  ·
   obtain rfl : n = 31 := by omega
   have hb2 : b = 257 := by rw [hb]; rfl
   subst hb2
   clear hp hb
   go_wp2
   go_ret
   exact ⟨gb, rfl, HT1.out, HG.out, HB1.out⟩
theorem huff_made.calls (w0 w : World) (hB : Below w0.heap.size w0 w) (h : huff_made.f = some ()) :
  Calls Tryd.prog 93 #[] w fun e w' => ∃ g_ : Nat, e = .returned (.pointer (some ⟨g_, 0, none⟩)) ∧ IsS149 w0 w' g_ ∧ Below w0.heap.size w0 w' ∧ Below w.heap.size w w' :=
 (huff_made.made w).mono (fun e w' h_ => by
  obtain ⟨g_, he, hc, hg, hb⟩ := h_
  exact ⟨g_, he, ⟨hc, Nat.le_trans hB.size hg⟩, below_step hB hb, hb⟩)
end Go.Proofs.YtfkdocmhbmameaaDoor.Mine
