/- The walks and the plain laws that the rows come to: merged out of this repo's texts. -/
import Derived.Test.YtfkdocmhbmameaaDoorProg
import Derived.Below
import Derived.Deep.Draws
import Derived.Deep.AppendLies
import Derived.Maps.AppendAt
import Derived.OwnWalk
import Derived.Laws.BytesArg
import Derived.Laws.MakeOwn
import Derived.Laws.OwnMore
import Derived.Deep.OwnRows
import Derived.Tactics
import Derived.Lib.ConvBytes
import Derived.Laws.Slices
import Derived.WalkKit
import Derived.KernelRfl
import Derived.RowKit3
import Derived.Deep.LoopGhost
import Derived.Deep.QuietTactic
import Derived.BigQuiet
import Derived.WideLaws
import Derived.Deep.DeepCutAuto
import Derived.Deep.CutBlock
import Derived.Deep.RegionHeld3
import Derived.Laws.Rows
import Derived.Lib.AppendStr
import Derived.ArgAppend
import Derived.Laws.IdiomCopy
import Derived.RowKit
import Derived.OrdersHeld
import Derived.Laws.BitsLemmas
import Derived.Laws.StructEq
import Derived.Laws.CopyOwn
import Derived.SizedLaws
import Derived.ChangeSlices
import Derived.Deep.Slices
import Derived.Lib.SmallJoins
import Derived.Lib.OthersKept
import Derived.Lib.AppendZerosOnto
import Derived.WalkSpells
import Derived.Shelf.Utf8.RuneCount
import Derived.Shelf.Strings.Search1
import Derived.Shelf.Strings.Search2
import Derived.Shelf.Strings.Search3
import Derived.Shelf.Strings.Cut
import Derived.Shelf.Strings.Count
import Derived.Shelf.LaysM
import Derived.Shelf.Strings.Shaped
import Derived.Shelf.Strings.Split
import Derived.Shelf.Strings.SplitShaped
import Derived.Shelf.Unicode.Decode
import Derived.Shelf.Strings.RuneCount
import Derived.Shelf.Strings.Explode
import Derived.Shelf.Unicode.DecodeSlow
import Derived.Shelf.Unicode.DecodeAny
import Derived.Test.YtfkdocmhbmameaaDoorCA1
import Derived.Test.YtfkdocmhbmameaaDoorCA2
namespace Go.Proofs.YtfkdocmhbmameaaDoor.Mine
open Go.RowKit Go.Proofs Go.Proofs.YtfkdocmhbmameaaDoorW.PrintWords Go.Proofs.YtfkdocmhbmameaaDoorW.PrintLast Go.Proofs.YtfkdocmhbmameaaDoorW.PrintMore
attribute [local go_sem] max2_int min2_int max_two min_two max_three min_three max_four min_four
set_option linter.unusedVariables false
set_option linter.unusedSimpArgs false
structure TB where
  most : Int
  size : Int
  l : List S103
  fx : List S103
def IsS77 (w0 W : World) (g : Nat) (t : TB) : Prop := IsT w0 W g t.most t.size t.l t.fx ∧ (∀ v, W.cell? ⟨g, 2, none⟩ = some v → TyV W v) ∧ (∀ v, W.cell? ⟨g, 3, none⟩ = some v → TyV W v)
section
variable {w0 W W1 : World} {g : Nat} {t : TB}
theorem IsS77.lt (h : IsS77 w0 W g t) : g < W.heap.size := h.1.lt
theorem IsS77.ge (h : IsS77 w0 W g t) : w0.heap.size ≤ g := h.1.ge
theorem IsS77.ty (h : IsS77 w0 W g t) : TyOf W g 77 := by
  obtain ⟨A, c, B, d, k1, _⟩ := h.1
  exact ⟨_, k1⟩
theorem IsS77.blk (h : IsS77 w0 W g t) : ∃ cs, W.heap[g]? = some (.cells cs 77 (0, 0)) := h.ty
theorem tb_moveC {A : Option Addr} {n : Nat} {xs : List S103} (h : Kd.C k103 W A n xs) (hn : n = xs.length) (ht : ∀ ad, A = some ad → 0 < n → W1.heap[ad.block]? = W.heap[ad.block]?) : Kd.C k103 W1 A n xs := by
  obtain ⟨h1, h2, h3⟩ := h
  refine ⟨h1, h2, fun h0 => ?_⟩
  obtain ⟨ad, e, hc⟩ := h3 h0
  refine ⟨ad, e, fun j p hj => ?_⟩
  obtain ⟨c, l1, l2, l3⟩ := hc j p hj
  have lo := k103_open l2
  subst lo
  refine ⟨_, l1, k103_mk _ _, fun i u hu => ?_⟩
  have hx := l3 i u hu
  have hb : W1.heap[(ad.add (j * k103.sz + i)).block]? = W.heap[(ad.add (j * k103.sz + i)).block]? := by
    rw [add_block]
    refine ht ad e ?_
    rcases Nat.lt_or_ge j xs.length with hl | hl
    · omega
    · rw [List.getElem?_eq_none hl] at hj
      exact absurd hj (by simp)
  exact (World.cell?_of_block hb).trans hx
theorem IsS77.step (h : IsS77 w0 W g t) (hk : ∀ i, i < W.heap.size → i = g ∨ TyOf W i 103 → W1.heap[i]? = W.heap[i]?) : IsS77 w0 W1 g t := by
  obtain ⟨hI, h2, h3⟩ := h
  obtain ⟨A, c, B, d, k1, k2, k3, k4, k5, k6⟩ := hI
  have hg : W1.heap[g]? = W.heap[g]? := hk g (blk_lt k1) (.inl rfl)
  have t2 : TyV W (.slice A t.l.length c) := h2 _ ((blk_cell k1 2).trans rfl)
  have t3 : TyV W (.slice B t.fx.length d) := h3 _ ((blk_cell k1 3).trans rfl)
  have m2 : ∀ ad, A = some ad → 0 < t.l.length → W1.heap[ad.block]? = W.heap[ad.block]? := fun ad e hn => by
    have := t2 ad _ c (by rw [e]) hn
    exact hk _ this.lt (.inr this)
  have m3 : ∀ ad, B = some ad → 0 < t.fx.length → W1.heap[ad.block]? = W.heap[ad.block]? := fun ad e hn => by
    have := t3 ad _ d (by rw [e]) hn
    exact hk _ this.lt (.inr this)
  have k1' := hg.trans k1
  refine ⟨⟨A, c, B, d, k1', k2, k3, k4, tb_moveC k5 rfl m2, tb_moveC k6 rfl m3⟩, fun v hv => ?_, fun v hv => ?_⟩
  · obtain rfl := Option.some.inj ((show W1.cell? ⟨g, 2, none⟩ = some (.slice A t.l.length c) from (blk_cell k1' 2).trans rfl).symm.trans hv)
    intro ad n c' e hn
    have := t2 ad n c' e hn
    obtain ⟨cs, hc⟩ := this
    exact ⟨cs, (hk _ (blk_lt hc) (.inr ⟨cs, hc⟩)).trans hc⟩
  · obtain rfl := Option.some.inj ((show W1.cell? ⟨g, 3, none⟩ = some (.slice B t.fx.length d) from (blk_cell k1' 3).trans rfl).symm.trans hv)
    intro ad n c' e hn
    have := t3 ad n c' e hn
    obtain ⟨cs, hc⟩ := this
    exact ⟨cs, (hk _ (blk_lt hc) (.inr ⟨cs, hc⟩)).trans hc⟩
theorem IsS77.below (h : IsS77 w0 W g t) (hw : Below W.heap.size W W1) : IsS77 w0 W1 g t := h.step (fun i hi _ => hw.block i hi)
theorem IsS77.alloc (h : IsS77 w0 W g t) (o : Obj) : IsS77 w0 (W.alloc o) g t := h.below (below_alloc (Below.refl _ _) o)
theorem IsS77.drewN (h : IsS77 w0 W g t) (m : Nat) : IsS77 w0 (W.drewN m) g t := h
theorem IsS77.drew (h : IsS77 w0 W g t) : IsS77 w0 W.drew g t := h
theorem IsS77.at_ {w' : World} {m : Nat} (hq : W.drewN m = w') (h : IsS77 w0 W g t) : IsS77 w0 w' g t := by subst hq; exact h
theorem IsS77.fresh (h : IsS77 w0 W g t) : ∀ k, W.heap.size ≤ k → k ≠ g := fun k hk e => absurd h.lt (by omega)
theorem IsS77.rebase {w1 : World} (h : IsS77 w1 W g t) (hs : w0.heap.size ≤ w1.heap.size) : IsS77 w0 W g t := by
  obtain ⟨⟨A, c, B, d, k1, k2, k3⟩, h2, h3⟩ := h
  exact ⟨⟨A, c, B, d, k1, Nat.le_trans hs k2, k3⟩, h2, h3⟩
theorem IsS77.ne_blk {a : Nat} {cs : Array Value} {u : TypeId} {fr : Nat × Nat} (h : IsS77 w0 W g t) (hb2 : W.heap[a]? = some (.cells cs u fr)) (ht : u ≠ 77) : g ≠ a := by
  obtain ⟨cs1, hb⟩ := h.blk
  rintro rfl
  rw [hb] at hb2
  injection hb2 with hb2
  injection hb2 with _ ht2
  exact ht ht2.symm
theorem IsS77.grownT {W2 : World} {α : Type} {d : Kd α} {e : Nat} {base : Nat} {ok : Nat → Prop} {v : Value} {xs : List α} (h : IsS77 w0 W1 g t) (hb : Below W.heap.size W W1) (hw : W1.grownBy W2 v.ownBlock) (ho : d.R e W base ok v xs) (ht : e ≠ 77 ∧ e ≠ 103) : IsS77 w0 W2 g t := by
  refine h.step (fun i hi hx => hw.block i hi (fun he => ?_))
  obtain ⟨cs, hc⟩ := Kd.R_typed ho i he.symm
  have hty : TyOf W1 i e := TyOf.below ⟨cs, hc⟩ hb
  rcases hx with rfl | hx
  · exact hty.ne h.ty ht.1 rfl
  · exact hty.ne hx ht.2 rfl
theorem IsS77.farT {p : Addr} {e : TypeId} (h : IsS77 w0 W g t) (hty : TyOf W p.block e) (ht : e ≠ 77 ∧ e ≠ 103) (u : Value) : IsS77 w0 (W.setCell p u) g t := by
  refine h.step (fun i hi hx => Below.heap_setCell W p u i (fun he => ?_))
  subst he
  rcases hx with hx | hx
  · exact hty.ne (hx ▸ h.ty) ht.1 rfl
  · exact hty.ne hx ht.2 rfl
theorem IsS77.otherT {g2 : Nat} {e : TypeId} (h : IsS77 w0 W g t) (hty : TyOf W g2 e) (hk : KeepBut W W1 g2 none) (hne : g ≠ g2) (ht : e ≠ 103) : IsS77 w0 W1 g t := by
  refine h.step (fun i hi hx => hk.2 i hi (fun he => ?_) (by simp))
  subst he
  rcases hx with hx | hx
  · exact hne hx.symm
  · exact hty.ne hx ht rfl
theorem IsS77.other {w1 : World} {g2 : Nat} {t2 : TB} (h : IsS77 w0 W g t) (h2 : IsS77 w1 W g2 t2) (hk : KeepBut W W1 g2 none) (hne : g ≠ g2) : IsS77 w0 W1 g t := h.otherT h2.ty hk hne (by decide)
section
variable {α : Type} {d : Kd α} {e : Nat} {base : Nat} {ok : Nat → Prop} {v : Value} {xs : List α}
theorem IsS77.apart (h : IsS77 w0 W g t) (ho : d.R e W base ok v xs) (ht : ∀ q, q ∈ e :: d.E → q ≠ 77) : d.R e W base (fun k => ok k ∧ k ≠ g) v xs := by
  obtain ⟨cs, hb⟩ := h.blk
  exact Kd.R_types ho hb ht
theorem IsS77.own_ne (h : IsS77 w0 W g t) (ho : d.R e W base ok v xs) (ht : e ≠ 77) : some g ≠ v.ownBlock := by
  obtain ⟨cs, hb⟩ := h.blk
  exact Kd.R_ne ho hb ht
end
end
end Go.Proofs.YtfkdocmhbmameaaDoor.Mine
namespace Go.Proofs.YtfkdocmhbmameaaDoor.Mine
open Go.RowKit Go.Proofs Go.Proofs.YtfkdocmhbmameaaDoorW.PrintWords Go.Proofs.YtfkdocmhbmameaaDoorW.PrintLast Go.Proofs.YtfkdocmhbmameaaDoorW.PrintMore
attribute [local go_sem] max2_int min2_int max_two min_two max_three min_three max_four min_four
set_option linter.unusedVariables false
set_option linter.unusedSimpArgs false
def tbAt (fx l : List S103) (n : Int) : ByteArray × ByteArray × Bool :=
  if n < 1 then (⟨#[]⟩, ⟨#[]⟩, false) else if n > fx.length + l.length then (⟨#[]⟩, ⟨#[]⟩, false) else if n ≤ fx.length then ((rd_T103 fx (n - 1)).f0, (rd_T103 fx (n - 1)).f1, true) else ((rd_T103 l (l.length - (n - fx.length))).f0, (rd_T103 l (l.length - (n - fx.length))).f1, true)
set_option maxHeartbeats 4000000 in
set_option maxRecDepth 100000 in
theorem tb_at14 (g : Nat) (most size n : Int) (l fx : List S103) (w0 w : World) (hI : IsT w0 w g most size l fx) (hl : l.length < 4398046511104) (hf : fx.length < 4398046511104) (hn : n ≤ 9223372036854775807) :
    Calls Tryd.prog 33 #[.pointer (some ⟨g, 0, none⟩), .int .i64 n] w fun en w' => en = .returned (.tuple #[.string (tbAt fx l n).1, .string (tbAt fx l n).2.1, .bool (tbAt fx l n).2.2]) ∧ Below w.heap.size w w' := by
  have HI := Aside0.mk hI
  have HL := Aside0.mk hl
  have HF := Aside0.mk hf
  have HN := Aside0.mk hn
  have hu_57_ := Tryd.underlying77
  have hu_62_ := Tryd.underlying103
  clear hI hl hf hn
  obtain ⟨A, c, B, d, k1, k2, k3, k4, k5, k6⟩ := HI.out
  have z2 : w.cell? ⟨g, 2, none⟩ = some (.slice A l.length c) := (blk_cell k1 2).trans rfl
  have z3 : w.cell? ⟨g, 3, none⟩ = some (.slice B fx.length d) := (blk_cell k1 3).trans rfl
  have K5 := Aside0.mk k5
  have K6 := Aside0.mk k6
  have K1 := Aside0.mk k1
  clear k1 k2 k3 k4 k5 k6
  have hw1 : wrap64 ((fx.length : Int) + (l.length : Int)) = (fx.length : Int) + l.length := tb_wrap _ (by omega) (by have := HL.out; have := HF.out; omega)
  go_enter Tryd.func33, Tryd.ntmps33
  by_cases h1 : n < 1
  · have HT := Aside0.mk (show tbAt fx l n = (⟨#[]⟩, ⟨#[]⟩, false) by unfold tbAt; rw [if_pos h1])
    have q1 : decide (n < 1) = true := decide_eq_true h1
    rw [HT.out]
    go_wp2
    go_quiet (fail)
    go_wp2
    go_ret3
    exact ⟨rfl, pw_below_drewN (Below.refl _ _) _⟩
  · have q1 : decide (n < 1) = false := decide_eq_false h1
    by_cases h2 : n > fx.length + l.length
    · have HT := Aside0.mk (show tbAt fx l n = (⟨#[]⟩, ⟨#[]⟩, false) by unfold tbAt; rw [if_neg h1, if_pos h2])
      have q2 : decide ((fx.length : Int) + l.length < n) = true := decide_eq_true h2
      rw [HT.out]
      go_wp2
      go_quiet (fail)
      go_wp2
      go_ret3
      exact ⟨rfl, pw_below_drewN (Below.refl _ _) _⟩
    · have q2 : decide ((fx.length : Int) + l.length < n) = false := decide_eq_false h2
      by_cases h3 : n ≤ fx.length
      · obtain ⟨m, hm⟩ : ∃ m : Nat, n - 1 = m := ⟨(n - 1).toNat, by omega⟩
        obtain ⟨XX, hXX⟩ : ∃ x, rd_T103 fx (m : Int) = x := ⟨_, rfl⟩
        have HT := Aside0.mk (show tbAt fx l n = (XX.f0, XX.f1, true) by unfold tbAt; rw [if_neg h1, if_neg h2, if_pos h3, hm, hXX])
        have HM := Aside0.mk hm
        have HX := Aside0.mk hXX
        have p1 : m < fx.length := by omega
        clear hm hXX
        have q3 : decide (n ≤ (fx.length : Int)) = true := decide_eq_true h3
        rw [HT.out]
        go_wp2
        go_quiet (fail)
        go_upto_region 4 with fail
        have HD := Aside0.mk (below_alloc (pw_below_drewN (Below.refl w.heap.size w) nq) (.cells #[.string ⟨#[]⟩, .string ⟨#[]⟩] 103))
        have BE := Aside0.mk (blk_new (w.drewN nq) (.cells #[.string ⟨#[]⟩, .string ⟨#[]⟩] 103))
        generalize (w.drewN nq).alloc (.cells #[.string ⟨#[]⟩, .string ⟨#[]⟩] 103) = wA at HD BE ⊢
        have BE := Aside0.mk (show wA.heap[w.heap.size]? = some (.cells #[.string ⟨#[]⟩, .string ⟨#[]⟩] 103 (0, 0)) from BE.out)
        obtain ⟨ge, hge⟩ : ∃ x, w.heap.size = x := ⟨_, rfl⟩
        rw [hge] at BE ⊢
        have HG := Aside0.mk (show w.heap.size ≤ ge by omega)
        clear hge
        replace z2 : wA.cell? ⟨g, 2, none⟩ = some (.slice A l.length c) := (HD.out.cell (World.block_lt_of_cell? _ _ z2)).trans z2
        replace z3 : wA.cell? ⟨g, 3, none⟩ = some (.slice B fx.length d) := (HD.out.cell (World.block_lt_of_cell? _ _ z3)).trans z3
        have y0 : wA.cell? ⟨ge, 0, none⟩ = some (.string ⟨#[]⟩) := (blk_cell BE.out 0).trans rfl
        have y1 : wA.cell? ⟨ge, 1, none⟩ = some (.string ⟨#[]⟩) := (blk_cell BE.out 1).trans rfl
        have f0 := blk_frozen BE.out 0
        have f1 := blk_frozen BE.out 1
        have hw2 : wrap64 (n - 1) = (m : Int) := by rw [HM.out]; exact tb_wrap _ (by omega) (by have := HF.out; omega)
        obtain ⟨ad, e1_, x0, x1⟩ := at_T103 K6.out (m : Int) (by omega) (by omega)
        subst e1_
        rw [HX.out, Int.toNat_natCast] at x0 x1
        replace x0 := (HD.out.cell (World.block_lt_of_cell? _ _ x0)).trans x0
        replace x1 := (HD.out.cell (World.block_lt_of_cell? _ _ x1)).trans x1
        go_upto_region 7 with fail
        have HD2 := Aside0.mk (below_set (g := ge) (j := 1) (v := .string XX.f1) (below_set (g := ge) (j := 0) (v := .string XX.f0) HD.out HG.out) HG.out)
        have BE2 := Aside0.mk (blk_put (blk_put BE.out 0 (.string XX.f0) rfl) 1 (.string XX.f1) rfl)
        clear y0 y1 f0 f1 z2 z3 x0 x1
        generalize (wA.setCell ⟨ge, 0, none⟩ (.string XX.f0)).setCell ⟨ge, 1, none⟩ (.string XX.f1) = wB at HD2 BE2 ⊢
        have y0 : wB.cell? ⟨ge, 0, none⟩ = some (.string XX.f0) := (blk_cell BE2.out 0).trans rfl
        have y1 : wB.cell? ⟨ge, 1, none⟩ = some (.string XX.f1) := (blk_cell BE2.out 1).trans rfl
        go_quiet (fail)
        go_wp2
        go_ret3
        exact ⟨rfl, pw_below_drewN HD2.out _⟩
      · obtain ⟨m, hm⟩ : ∃ m : Nat, (l.length : Int) - (n - fx.length) = m := ⟨((l.length : Int) - (n - fx.length)).toNat, by omega⟩
        obtain ⟨XX, hXX⟩ : ∃ x, rd_T103 l (m : Int) = x := ⟨_, rfl⟩
        have HT := Aside0.mk (show tbAt fx l n = (XX.f0, XX.f1, true) by unfold tbAt; rw [if_neg h1, if_neg h2, if_neg h3, hm, hXX])
        have HM := Aside0.mk hm
        have HX := Aside0.mk hXX
        have p1 : m < l.length := by omega
        clear hm hXX
        have q3 : decide (n ≤ (fx.length : Int)) = false := decide_eq_false h3
        rw [HT.out]
        go_wp2
        go_quiet (fail)
        go_upto_region 4 with fail
        have HD := Aside0.mk (below_alloc (pw_below_drewN (Below.refl w.heap.size w) nq) (.cells #[.string ⟨#[]⟩, .string ⟨#[]⟩] 103))
        have BE := Aside0.mk (blk_new (w.drewN nq) (.cells #[.string ⟨#[]⟩, .string ⟨#[]⟩] 103))
        generalize (w.drewN nq).alloc (.cells #[.string ⟨#[]⟩, .string ⟨#[]⟩] 103) = wA at HD BE ⊢
        have BE := Aside0.mk (show wA.heap[w.heap.size]? = some (.cells #[.string ⟨#[]⟩, .string ⟨#[]⟩] 103 (0, 0)) from BE.out)
        obtain ⟨ge, hge⟩ : ∃ x, w.heap.size = x := ⟨_, rfl⟩
        rw [hge] at BE ⊢
        have HG := Aside0.mk (show w.heap.size ≤ ge by omega)
        clear hge
        replace z2 : wA.cell? ⟨g, 2, none⟩ = some (.slice A l.length c) := (HD.out.cell (World.block_lt_of_cell? _ _ z2)).trans z2
        replace z3 : wA.cell? ⟨g, 3, none⟩ = some (.slice B fx.length d) := (HD.out.cell (World.block_lt_of_cell? _ _ z3)).trans z3
        have y0 : wA.cell? ⟨ge, 0, none⟩ = some (.string ⟨#[]⟩) := (blk_cell BE.out 0).trans rfl
        have y1 : wA.cell? ⟨ge, 1, none⟩ = some (.string ⟨#[]⟩) := (blk_cell BE.out 1).trans rfl
        have f0 := blk_frozen BE.out 0
        have f1 := blk_frozen BE.out 1
        have hw2 : wrap64 (n - fx.length) = n - fx.length := tb_wrap _ (by omega) (by have := HL.out; omega)
        have hw3 : wrap64 ((l.length : Int) - (n - fx.length)) = m := by rw [HM.out]; exact tb_wrap _ (by omega) (by have := HL.out; omega)
        obtain ⟨ad, e1_, x0, x1⟩ := at_T103 K5.out (m : Int) (by omega) (by omega)
        subst e1_
        rw [HX.out, Int.toNat_natCast] at x0 x1
        replace x0 := (HD.out.cell (World.block_lt_of_cell? _ _ x0)).trans x0
        replace x1 := (HD.out.cell (World.block_lt_of_cell? _ _ x1)).trans x1
        go_wp2
        go_region
        all_goals
          have HD2 := Aside0.mk (below_drew1 (below_set (g := ge) (j := 1) (v := .string XX.f1) (below_set (g := ge) (j := 0) (v := .string XX.f0) HD.out HG.out) HG.out))
          have BE2 := Aside0.mk (show ((wA.setCell ⟨ge, 0, none⟩ (.string XX.f0)).setCell ⟨ge, 1, none⟩ (.string XX.f1)).drew.heap[ge]? = _ from blk_put (blk_put BE.out 0 (.string XX.f0) rfl) 1 (.string XX.f1) rfl)
          clear y0 y1 f0 f1 z2 z3 x0 x1
          generalize ((wA.setCell ⟨ge, 0, none⟩ (.string XX.f0)).setCell ⟨ge, 1, none⟩ (.string XX.f1)).drew = wB at HD2 BE2 ⊢
          have y0 : wB.cell? ⟨ge, 0, none⟩ = some (.string XX.f0) := (blk_cell BE2.out 0).trans rfl
          have y1 : wB.cell? ⟨ge, 1, none⟩ = some (.string XX.f1) := (blk_cell BE2.out 1).trans rfl
          go_wp2
          go_quiet (fail)
          go_wp2
          go_ret3
          exact ⟨rfl, pw_below_drewN HD2.out _⟩
end Go.Proofs.YtfkdocmhbmameaaDoor.Mine
namespace Go.Proofs.YtfkdocmhbmameaaDoor.Mine
open Go.RowKit Go.Proofs Go.Proofs.YtfkdocmhbmameaaDoorW.PrintWords Go.Proofs.YtfkdocmhbmameaaDoorW.PrintLast Go.Proofs.YtfkdocmhbmameaaDoorW.PrintMore
attribute [local go_sem] max2_int min2_int max_two min_two max_three min_three max_four min_four
set_option linter.unusedVariables false
set_option linter.unusedSimpArgs false
def IsB (W : World) (g gt : Nat) (s : ByteArray) (at_ : Int) : Prop := W.heap[g]? = some (.cells #[.pointer (some ⟨gt, 0, none⟩), .string s, .int .i64 at_] 94 (0, 0))
abbrev UP (e : Int) : Ending := .panicked [{ v := .iface 58 (.int .i64 e), recovered := false }]
theorem IsB.below {W W1 : World} {g gt : Nat} {s : ByteArray} {a : Int} (h : IsB W g gt s a) (hb : Below W.heap.size W W1) : IsB W1 g gt s a := blk_below h hb
theorem IsB.keep {W W1 : World} {g gt g2 : Nat} {s : ByteArray} {a : Int} (h : IsB W g gt s a) (hk : KeepBut W W1 g2 none) (hne : g ≠ g2) : IsB W1 g gt s a := (hk.2 g (blk_lt h) hne (by simp)).trans h
theorem IsB.c0 {W : World} {g gt : Nat} {s : ByteArray} {a : Int} (h : IsB W g gt s a) : W.cell? ⟨g, 0, none⟩ = some (.pointer (some ⟨gt, 0, none⟩)) := (blk_cell h 0).trans rfl
theorem IsB.c1 {W : World} {g gt : Nat} {s : ByteArray} {a : Int} (h : IsB W g gt s a) : W.cell? ⟨g, 1, none⟩ = some (.string s) := (blk_cell h 1).trans rfl
theorem IsB.c2 {W : World} {g gt : Nat} {s : ByteArray} {a : Int} (h : IsB W g gt s a) : W.cell? ⟨g, 2, none⟩ = some (.int .i64 a) := (blk_cell h 2).trans rfl
theorem IsB.set2 {W : World} {g gt : Nat} {s : ByteArray} {a : Int} (h : IsB W g gt s a) (z : Int) : IsB (W.setCell ⟨g, 2, none⟩ (.int .i64 z)) g gt s z := blk_put h 2 _ rfl
end Go.Proofs.YtfkdocmhbmameaaDoor.Mine
namespace Go.Proofs.YtfkdocmhbmameaaDoor.Mine
open Go.RowKit Go.Proofs.YtfkdocmhbmameaaDoorW.PrintWords Go.Proofs.YtfkdocmhbmameaaDoorW.PrintLast Go.Proofs.YtfkdocmhbmameaaDoorW.PrintMore
attribute [local go_sem] max2_int min2_int max_two min_two max_three min_three max_four min_four
set_option linter.unusedVariables false
set_option linter.unusedSimpArgs false
def hcLenL : List Nat := [13, 23, 28, 28, 28, 28, 28, 28, 28, 24, 30, 28, 28, 30, 28, 28, 28, 28, 28, 28, 28, 28, 30, 28, 28, 28, 28, 28, 28, 28, 28, 28, 6, 10, 10, 12, 13, 6, 8, 11, 10, 10, 8, 11, 8, 6, 6, 6, 5, 5, 5, 6, 6, 6, 6, 6, 6, 6, 7, 8, 15, 6, 12, 10, 13, 6, 7, 7, 7, 7, 7, 7, 7, 7, 7, 7, 7, 7, 7, 7, 7, 7, 7, 7, 7, 7, 7, 7, 8, 7, 8, 13, 19, 13, 14, 6, 15, 5, 6, 5, 6, 5, 6, 6, 6, 5, 7, 7, 6, 6, 6, 5, 6, 7, 6, 5, 5, 6, 7, 7, 7, 7, 7, 15, 11, 14, 13, 28, 20, 22, 20, 20, 22, 22, 22, 23, 22, 23, 23, 23, 23, 23, 24, 23, 24, 24, 22, 23, 24, 23, 23, 23, 23, 21, 22, 23, 22, 23, 23, 24, 22, 21, 20, 22, 22, 23, 23, 21, 23, 22, 22, 24, 21, 22, 23, 23, 21, 21, 22, 21, 23, 22, 23, 23, 20, 22, 22, 22, 23, 22, 22, 23, 26, 26, 20, 19, 22, 23, 22, 25, 26, 26, 26, 27, 27, 26, 24, 25, 19, 21, 26, 27, 27, 26, 27, 24, 21, 21, 26, 26, 28, 27, 27, 27, 20, 24, 20, 21, 22, 21, 21, 23, 22, 22, 25, 25, 24, 24, 26, 23, 26, 27, 26, 26, 27, 27, 27, 27, 27, 28, 27, 27, 27, 27, 27, 26, 30]
def hcCodeL : List Nat := [8184, 8388568, 268435426, 268435427, 268435428, 268435429, 268435430, 268435431, 268435432, 16777194, 1073741820, 268435433, 268435434, 1073741821, 268435435, 268435436, 268435437, 268435438, 268435439, 268435440, 268435441, 268435442, 1073741822, 268435443, 268435444, 268435445, 268435446, 268435447, 268435448, 268435449, 268435450, 268435451, 20, 1016, 1017, 4090, 8185, 21, 248, 2042, 1018, 1019, 249, 2043, 250, 22, 23, 24, 0, 1, 2, 25, 26, 27, 28, 29, 30, 31, 92, 251, 32764, 32, 4091, 1020, 8186, 33, 93, 94, 95, 96, 97, 98, 99, 100, 101, 102, 103, 104, 105, 106, 107, 108, 109, 110, 111, 112, 113, 114, 252, 115, 253, 8187, 524272, 8188, 16380, 34, 32765, 3, 35, 4, 36, 5, 37, 38, 39, 6, 116, 117, 40, 41, 42, 7, 43, 118, 44, 8, 9, 45, 119, 120, 121, 122, 123, 32766, 2044, 16381, 8189, 268435452, 1048550, 4194258, 1048551, 1048552, 4194259, 4194260, 4194261, 8388569, 4194262, 8388570, 8388571, 8388572, 8388573, 8388574, 16777195, 8388575, 16777196, 16777197, 4194263, 8388576, 16777198, 8388577, 8388578, 8388579, 8388580, 2097116, 4194264, 8388581, 4194265, 8388582, 8388583, 16777199, 4194266, 2097117, 1048553, 4194267, 4194268, 8388584, 8388585, 2097118, 8388586, 4194269, 4194270, 16777200, 2097119, 4194271, 8388587, 8388588, 2097120, 2097121, 4194272, 2097122, 8388589, 4194273, 8388590, 8388591, 1048554, 4194274, 4194275, 4194276, 8388592, 4194277, 4194278, 8388593, 67108832, 67108833, 1048555, 524273, 4194279, 8388594, 4194280, 33554412, 67108834, 67108835, 67108836, 134217694, 134217695, 67108837, 16777201, 33554413, 524274, 2097123, 67108838, 134217696, 134217697, 67108839, 134217698, 16777202, 2097124, 2097125, 67108840, 67108841, 268435453, 134217699, 134217700, 134217701, 1048556, 16777203, 1048557, 2097126, 4194281, 2097127, 2097128, 8388595, 4194282, 4194283, 33554414, 33554415, 16777204, 16777205, 67108842, 8388596, 67108843, 134217702, 67108844, 67108845, 134217703, 134217704, 134217705, 134217706, 134217707, 268435454, 134217708, 134217709, 134217710, 134217711, 134217712, 67108846, 1073741823]
def hcSignL : List Nat := [48, 49, 50, 97, 99, 101, 105, 111, 115, 116, 32, 37, 45, 46, 47, 51, 52, 53, 54, 55, 56, 57, 61, 65, 95, 98, 100, 102, 103, 104, 108, 109, 110, 112, 114, 117, 58, 66, 67, 68, 69, 70, 71, 72, 73, 74, 75, 76, 77, 78, 79, 80, 81, 82, 83, 84, 85, 86, 87, 89, 106, 107, 113, 118, 119, 120, 121, 122, 38, 42, 44, 59, 88, 90, 33, 34, 40, 41, 63, 39, 43, 124, 35, 62, 0, 36, 64, 91, 93, 126, 94, 125, 60, 96, 123, 92, 195, 208, 128, 130, 131, 162, 184, 194, 224, 226, 153, 161, 167, 172, 176, 177, 179, 209, 216, 217, 227, 229, 230, 129, 132, 133, 134, 136, 146, 154, 156, 160, 163, 164, 169, 170, 173, 178, 181, 185, 186, 187, 189, 190, 196, 198, 228, 232, 233, 1, 135, 137, 138, 139, 140, 141, 143, 147, 149, 150, 151, 152, 155, 157, 158, 165, 166, 168, 174, 175, 180, 182, 183, 188, 191, 197, 231, 239, 9, 142, 144, 145, 148, 159, 171, 206, 215, 225, 236, 237, 199, 207, 234, 235, 192, 193, 200, 201, 202, 205, 210, 213, 218, 219, 238, 240, 242, 243, 255, 203, 204, 211, 212, 214, 221, 222, 223, 241, 244, 245, 246, 247, 248, 250, 251, 252, 253, 254, 2, 3, 4, 5, 6, 7, 8, 11, 12, 14, 15, 16, 17, 18, 19, 20, 21, 23, 24, 25, 26, 27, 28, 29, 30, 31, 127, 220, 249, 10, 13, 22, 256]
def hcFirstL : List Nat := [0, 0, 0, 0, 0, 0, 20, 92, 248, 508, 1016, 2042, 4090, 8184, 16380, 32764, 65534, 131068, 262136, 524272, 1048550, 2097116, 4194258, 8388568, 16777194, 33554412, 67108832, 134217694, 268435426, 536870910, 1073741820]
def hcCountL : List Nat := [0, 0, 0, 0, 0, 10, 26, 32, 6, 0, 5, 3, 2, 6, 2, 3, 0, 0, 0, 3, 8, 13, 26, 29, 12, 4, 15, 19, 29, 0, 4]
def hcBeginL : List Nat := [0, 0, 0, 0, 0, 0, 10, 36, 68, 74, 74, 79, 82, 84, 90, 92, 95, 95, 95, 95, 98, 106, 119, 145, 174, 186, 190, 205, 224, 253, 253]
def hcLen (k : Nat) : Nat := hcLenL.getD k 0
def hcCode (k : Nat) : Nat := hcCodeL.getD k 0
def hcSign (k : Nat) : Nat := hcSignL.getD k 0
def hcFirst (k : Nat) : Nat := hcFirstL.getD k 0
def hcCount (k : Nat) : Nat := hcCountL.getD k 0
def hcBegin (k : Nat) : Nat := hcBeginL.getD k 0
def hcCnt (n k : Nat) : Nat := (hcLenL.take k).countP (· == n)
theorem hcLenL_length : hcLenL.length = 257 := by decide +kernel
theorem hcCnt_zero (n : Nat) : hcCnt n 0 = 0 := rfl
theorem hcCnt_le2 (n k : Nat) : hcCnt n k ≤ 257 := by
 unfold hcCnt
 exact Nat.le_trans List.countP_le_length (by rw [List.length_take, hcLenL_length]; omega)
theorem hcLenL_get (k : Nat) (h : k < 257) : hcLenL[k]'(by rw [hcLenL_length]; exact h) = hcLen k := by
 unfold hcLen
 rw [List.getD_eq_getElem?_getD, List.getElem?_eq_getElem (by rw [hcLenL_length]; exact h), Option.getD_some]
theorem hcCnt_yes (n k : Nat) (h : k < 257) (e : hcLen k = n) : hcCnt n (k + 1) = hcCnt n k + 1 := by
 unfold hcCnt
 rw [List.take_succ_eq_append_getElem (by rw [hcLenL_length]; exact h), List.countP_append, hcLenL_get k h, e]
 simp
theorem hcCnt_no (n k : Nat) (h : k < 257) (e : ¬ hcLen k = n) : hcCnt n (k + 1) = hcCnt n k := by
 unfold hcCnt
 rw [List.take_succ_eq_append_getElem (by rw [hcLenL_length]; exact h), List.countP_append, hcLenL_get k h]
 simp [e]
theorem hcSigns_all : ∀ k, k < 257 → (hcCode k = hcFirst (hcLen k) + hcCnt (hcLen k) k ∧ hcSign (hcBegin (hcLen k) + hcCnt (hcLen k) k) = k ∧ hcBegin (hcLen k) + hcCnt (hcLen k) k < 257 ∧ 5 ≤ hcLen k ∧ hcLen k ≤ 30) := by decide +kernel
def hcPre (n : Nat) : Nat := if n ≤ 5 then 0 else hcFirst (n - 1) + hcCnt (n - 1) 257
def hcCell (n k f c at_ j : Nat) : Value :=
 if j < 257 then .int .u32 (if hcLen j < n ∨ (hcLen j = n ∧ j < k) then hcCode j else 0 : Nat)
 else if j < 288 then .int .u32 (if j - 257 < f then hcFirst (j - 257) else 0 : Nat)
 else if j < 319 then .int .i64 (if j - 288 < c then hcCount (j - 288) else 0 : Nat)
 else if j < 350 then .int .i64 (if j - 319 < f then hcBegin (j - 319) else 0 : Nat)
 else .int .i64 (if j - 350 < at_ then hcSign (j - 350) else 0 : Nat)
def hcTab (n k f c at_ : Nat) : Array Value := ((List.range 607).map (hcCell n k f c at_)).toArray
theorem hcTab_size (n k f c at_ : Nat) : (hcTab n k f c at_).size = 607 := by simp [hcTab]
theorem hcTab_get (n k f c at_ j : Nat) (h : j < 607) : (hcTab n k f c at_)[j]? = some (hcCell n k f c at_ j) := by
 simp [hcTab, h]
theorem hcTab_congr {n k f c at_ n' k' f' c' at' : Nat} (h : ∀ j, j < 607 → hcCell n k f c at_ j = hcCell n' k' f' c' at' j) : hcTab n k f c at_ = hcTab n' k' f' c' at' := by
 exact congrArg List.toArray (List.map_congr_left (fun j hj => h j (List.mem_range.1 hj)))
theorem hcTab_set {n k f c at_ n' k' f' c' at' i : Nat} {u : Value} (h : ∀ j, j < 607 → (if j = i then u else hcCell n k f c at_ j) = hcCell n' k' f' c' at' j) : (hcTab n k f c at_).setIfInBounds i u = hcTab n' k' f' c' at' := by
 apply Array.ext
 · simp [hcTab]
 ·
  intro j h1 h2
  have hj : j < 607 := by rw [hcTab_size] at h2; exact h2
  have e2 := hcTab_get n' k' f' c' at' j hj
  rw [Array.getElem?_eq_getElem h2] at e2
  have e1 := hcTab_get n k f c at_ j hj
  rw [Array.getElem?_eq_getElem (by rw [hcTab_size]; exact hj)] at e1
  rw [Option.some.inj e2, Array.getElem_setIfInBounds (by rw [hcTab_size]; exact hj), ← h j hj]
  by_cases e : i = j
  · subst e; simp
  · rw [if_neg e, if_neg (Ne.symm e), Option.some.inj e1]
theorem hcTab_set2 {n k f c at_ n' k' f' c' at' i i' : Nat} {u u' : Value} (h : ∀ j, j < 607 → (if j = i' then u' else if j = i then u else hcCell n k f c at_ j) = hcCell n' k' f' c' at' j) : ((hcTab n k f c at_).setIfInBounds i u).setIfInBounds i' u' = hcTab n' k' f' c' at' := by
 apply Array.ext
 · simp [hcTab]
 ·
  intro j h1 h2
  have hj : j < 607 := by rw [hcTab_size] at h2; exact h2
  have e2 := hcTab_get n' k' f' c' at' j hj
  rw [Array.getElem?_eq_getElem h2] at e2
  have e1 := hcTab_get n k f c at_ j hj
  rw [Array.getElem?_eq_getElem (by rw [hcTab_size]; exact hj)] at e1
  rw [Option.some.inj e2, Array.getElem_setIfInBounds (by rw [Array.size_setIfInBounds, hcTab_size]; exact hj), ← h j hj]
  by_cases e : i' = j
  · subst e; simp
  ·
   rw [if_neg e, if_neg (Ne.symm e), Array.getElem_setIfInBounds (by rw [hcTab_size]; exact hj)]
   by_cases e3 : i = j
   · subst e3; simp
   · rw [if_neg e3, if_neg (Ne.symm e3), Option.some.inj e1]
theorem hcStep1 (n at_ : Nat) (hn : n < 31) : ∀ j, j < 607 → (if j = 319 + n then .int .i64 (hcBegin n : Nat) else if j = 257 + n then .int .u32 (hcFirst n : Nat) else hcCell n 0 n n at_ j) = hcCell n 0 (n + 1) n at_ j := by
 intro j hj
 unfold hcCell
 by_cases h1 : j < 257
 · simp only [if_neg (show ¬ j = 319 + n by omega), if_neg (show ¬ j = 257 + n by omega), if_pos h1]
 by_cases h2 : j < 288
 ·
  simp only [if_neg (show ¬ j = 319 + n by omega), if_neg h1, if_pos h2]
  by_cases e : j = 257 + n
  · simp only [if_pos e, show j - 257 = n by omega, if_pos (Nat.lt_succ_self n)]
  ·
   simp only [if_neg e]
   by_cases e2 : j - 257 < n
   · simp only [if_pos e2, if_pos (show j - 257 < n + 1 by omega)]
   · simp only [if_neg e2, if_neg (show ¬ j - 257 < n + 1 by omega)]
 by_cases h3 : j < 319
 · simp only [if_neg (show ¬ j = 319 + n by omega), if_neg (show ¬ j = 257 + n by omega), if_neg h1, if_neg h2, if_pos h3]
 by_cases h4 : j < 350
 ·
  simp only [if_neg (show ¬ j = 257 + n by omega), if_neg h1, if_neg h2, if_neg h3, if_pos h4]
  by_cases e : j = 319 + n
  · simp only [if_pos e, show j - 319 = n by omega, if_pos (Nat.lt_succ_self n)]
  ·
   simp only [if_neg e]
   by_cases e2 : j - 319 < n
   · simp only [if_pos e2, if_pos (show j - 319 < n + 1 by omega)]
   · simp only [if_neg e2, if_neg (show ¬ j - 319 < n + 1 by omega)]
 · simp only [if_neg (show ¬ j = 319 + n by omega), if_neg (show ¬ j = 257 + n by omega), if_neg h1, if_neg h2, if_neg h3, if_neg h4]
theorem hcStep2 (n k f c at_ : Nat) (hk : k < 257) (ha : at_ < 257) (e : hcLen k = n) (hc : hcCode k = hcFirst n + hcCnt n k) (hs : hcSign at_ = k) : ∀ j, j < 607 → (if j = 350 + at_ then .int .i64 (k : Nat) else if j = k then .int .u32 (hcCode k : Nat) else hcCell n k f c at_ j) = hcCell n (k + 1) f c (at_ + 1) j := by
 intro j hj
 unfold hcCell
 by_cases h1 : j < 257
 ·
  simp only [if_neg (show ¬ j = 350 + at_ by omega), if_pos h1]
  by_cases e1 : j = k
  ·
   subst e1
   simp only [if_pos, if_pos (show hcLen j < n ∨ hcLen j = n ∧ j < j + 1 from .inr ⟨e, by omega⟩)]
  ·
   simp only [if_neg e1]
   by_cases e2 : hcLen j < n ∨ hcLen j = n ∧ j < k
   · simp only [if_pos e2, if_pos (show hcLen j < n ∨ hcLen j = n ∧ j < k + 1 by omega)]
   · simp only [if_neg e2, if_neg (show ¬ (hcLen j < n ∨ hcLen j = n ∧ j < k + 1) by omega)]
 by_cases h2 : j < 288
 · simp only [if_neg (show ¬ j = 350 + at_ by omega), if_neg (show ¬ j = k by omega), if_neg h1, if_pos h2]
 by_cases h3 : j < 319
 · simp only [if_neg (show ¬ j = 350 + at_ by omega), if_neg (show ¬ j = k by omega), if_neg h1, if_neg h2, if_pos h3]
 by_cases h4 : j < 350
 · simp only [if_neg (show ¬ j = 350 + at_ by omega), if_neg (show ¬ j = k by omega), if_neg h1, if_neg h2, if_neg h3, if_pos h4]
 ·
  simp only [if_neg (show ¬ j = k by omega), if_neg h1, if_neg h2, if_neg h3, if_neg h4]
  by_cases e1 : j = 350 + at_
  · simp only [if_pos e1, show j - 350 = at_ by omega, if_pos (Nat.lt_succ_self at_), hs]
  ·
   simp only [if_neg e1]
   by_cases e2 : j - 350 < at_
   · simp only [if_pos e2, if_pos (show j - 350 < at_ + 1 by omega)]
   · simp only [if_neg e2, if_neg (show ¬ j - 350 < at_ + 1 by omega)]
theorem hcStep3 (n k f c at_ : Nat) (e : ¬ hcLen k = n) : ∀ j, j < 607 → hcCell n k f c at_ j = hcCell n (k + 1) f c at_ j := by
 intro j hj
 unfold hcCell
 by_cases h1 : j < 257
 ·
  simp only [if_pos h1]
  by_cases e1 : j = k
  ·
   subst e1
   by_cases e2 : hcLen j < n
   · simp only [if_pos (show hcLen j < n ∨ hcLen j = n ∧ j < j from .inl e2), if_pos (show hcLen j < n ∨ hcLen j = n ∧ j < j + 1 from .inl e2)]
   · simp only [if_neg (show ¬ (hcLen j < n ∨ hcLen j = n ∧ j < j) by omega), if_neg (show ¬ (hcLen j < n ∨ hcLen j = n ∧ j < j + 1) by omega)]
  ·
   by_cases e2 : hcLen j < n ∨ hcLen j = n ∧ j < k
   · simp only [if_pos e2, if_pos (show hcLen j < n ∨ hcLen j = n ∧ j < k + 1 by omega)]
   · simp only [if_neg e2, if_neg (show ¬ (hcLen j < n ∨ hcLen j = n ∧ j < k + 1) by omega)]
 · simp only [if_neg h1]
theorem hcStep4 (n at_ : Nat) (hn : n < 31) : ∀ j, j < 607 → (if j = 288 + n then .int .i64 (hcCount n : Nat) else hcCell n 257 (n + 1) n at_ j) = hcCell (n + 1) 0 (n + 1) (n + 1) at_ j := by
 intro j hj
 unfold hcCell
 by_cases h1 : j < 257
 ·
  simp only [if_neg (show ¬ j = 288 + n by omega), if_pos h1]
  by_cases e2 : hcLen j < n ∨ hcLen j = n ∧ j < 257
  · simp only [if_pos e2, if_pos (show hcLen j < n + 1 ∨ hcLen j = n + 1 ∧ j < 0 by omega)]
  · simp only [if_neg e2, if_neg (show ¬ (hcLen j < n + 1 ∨ hcLen j = n + 1 ∧ j < 0) by omega)]
 by_cases h2 : j < 288
 · simp only [if_neg (show ¬ j = 288 + n by omega), if_neg h1, if_pos h2]
 by_cases h3 : j < 319
 ·
  simp only [if_neg h1, if_neg h2, if_pos h3]
  by_cases e1 : j = 288 + n
  · simp only [if_pos e1, show j - 288 = n by omega, if_pos (Nat.lt_succ_self n)]
  ·
   simp only [if_neg e1]
   by_cases e2 : j - 288 < n
   · simp only [if_pos e2, if_pos (show j - 288 < n + 1 by omega)]
   · simp only [if_neg e2, if_neg (show ¬ j - 288 < n + 1 by omega)]
 · simp only [if_neg (show ¬ j = 288 + n by omega), if_neg h1, if_neg h2, if_neg h3]
def hcBeg (n : Nat) : Nat := if n < 31 then hcBegin n else 257
theorem hcRound (n : Nat) (h5 : 5 ≤ n) (h : n < 31) : hcFirst n = 2 * hcPre n ∧ hcCount n = hcCnt n 257 ∧ hcFirst n ≤ 1073741824 ∧ hcBeg n = hcBegin n ∧ hcBeg n ≤ 257 ∧ hcBeg (n + 1) = hcBeg n + hcCnt n 257 ∧ hcPre (n + 1) = hcFirst n + hcCnt n 257 ∧ hcBeg n + hcCnt n 257 ≤ 257 := by
 have := (by decide +kernel : ∀ n, n < 31 → 5 ≤ n → hcFirst n = 2 * hcPre n ∧ hcCount n = hcCnt n 257 ∧ hcFirst n ≤ 1073741824 ∧ hcBeg n = hcBegin n ∧ hcBeg n ≤ 257 ∧ hcBeg (n + 1) = hcBeg n + hcCnt n 257 ∧ hcPre (n + 1) = hcFirst n + hcCnt n 257 ∧ hcBeg n + hcCnt n 257 ≤ 257)
 exact this n h h5
theorem hcCell_first (n k f c at_ j : Nat) (h : j < 31) : hcCell n k f c at_ (257 + j) = .int .u32 (if j < f then hcFirst j else 0 : Nat) := by
 unfold hcCell; rw [if_neg (by omega), if_pos (by omega), show 257 + j - 257 = j by omega]
theorem hcCell_count (n k f c at_ j : Nat) (h : j < 31) : hcCell n k f c at_ (288 + j) = .int .i64 (if j < c then hcCount j else 0 : Nat) := by
 unfold hcCell; rw [if_neg (by omega), if_neg (by omega), if_pos (by omega), show 288 + j - 288 = j by omega]
theorem hcCell_begin (n k f c at_ j : Nat) (h : j < 31) : hcCell n k f c at_ (319 + j) = .int .i64 (if j < f then hcBegin j else 0 : Nat) := by
 unfold hcCell; rw [if_neg (by omega), if_neg (by omega), if_neg (by omega), if_pos (by omega), show 319 + j - 319 = j by omega]
theorem hcCell_sign (n k f c at_ j : Nat) : hcCell n k f c at_ (350 + j) = .int .i64 (if j < at_ then hcSign j else 0 : Nat) := by
 unfold hcCell; rw [if_neg (by omega), if_neg (by omega), if_neg (by omega), if_neg (by omega), show 350 + j - 350 = j by omega]
theorem hcCell_code' (n k f c at_ j : Nat) (h : j < 257) : hcCell n k f c at_ j = .int .u32 (if hcLen j < n ∨ (hcLen j = n ∧ j < k) then hcCode j else 0 : Nat) := by
 unfold hcCell; rw [if_pos h]
def hcText : ByteArray := ⟨#[105, 115, 120, 120, 120, 120, 120, 120, 120, 116, 122, 120, 120, 122, 120, 120, 120, 120, 120, 120, 120, 120, 122, 120, 120, 120, 120, 120, 120, 120, 120, 120, 98, 102, 102, 104, 105, 98, 100, 103, 102, 102, 100, 103, 100, 98, 98, 98, 97, 97, 97, 98, 98, 98, 98, 98, 98, 98, 99, 100, 107, 98, 104, 102, 105, 98, 99, 99, 99, 99, 99, 99, 99, 99, 99, 99, 99, 99, 99, 99, 99, 99, 99, 99, 99, 99, 99, 99, 100, 99, 100, 105, 111, 105, 106, 98, 107, 97, 98, 97, 98, 97, 98, 98, 98, 97, 99, 99, 98, 98, 98, 97, 98, 99, 98, 97, 97, 98, 99, 99, 99, 99, 99, 107, 103, 106, 105, 120, 112, 114, 112, 112, 114, 114, 114, 115, 114, 115, 115, 115, 115, 115, 116, 115, 116, 116, 114, 115, 116, 115, 115, 115, 115, 113, 114, 115, 114, 115, 115, 116, 114, 113, 112, 114, 114, 115, 115, 113, 115, 114, 114, 116, 113, 114, 115, 115, 113, 113, 114, 113, 115, 114, 115, 115, 112, 114, 114, 114, 115, 114, 114, 115, 118, 118, 112, 111, 114, 115, 114, 117, 118, 118, 118, 119, 119, 118, 116, 117, 111, 113, 118, 119, 119, 118, 119, 116, 113, 113, 118, 118, 120, 119, 119, 119, 112, 116, 112, 113, 114, 113, 113, 115, 114, 114, 117, 117, 116, 116, 118, 115, 118, 119, 118, 118, 119, 119, 119, 119, 119, 120, 119, 119, 119, 119, 119, 118, 122]⟩
theorem hcText_size : hcText.size = 257 := by decide +kernel
theorem hcText_at (k : Nat) (h : k < 257) : (hcText[k]'(by rw [hcText_size]; exact h)).toNat = hcLen k + 92 := by
 have := (by decide +kernel : ∀ k : Fin 257, (hcText.data.toList.getD k.1 0).toNat = hcLen k.1 + 92) ⟨k, h⟩
 rw [← this]
 have h2 : k < hcText.data.toList.length := by rw [Array.length_toList]; have h3 : hcText.data.size = 257 := hcText_size; omega
 rw [List.getD_eq_getElem?_getD, List.getElem?_eq_getElem h2, Option.getD_some]
 rfl
def hb0 (i : Int) : Int := (hcCode i.toNat : Nat)
def hb1 (i : Int) : Int := (hcFirst i.toNat : Nat)
def hb2 (i : Int) : Int := (hcCount i.toNat : Nat)
def hb3 (i : Int) : Int := (hcBegin i.toNat : Nat)
def hb4 (i : Int) : Int := (hcSign i.toNat : Nat)
theorem hcLen_le : ∀ k, k < 257 → hcLen k < 31 := by decide +kernel
def IsS149 (w0 W : World) (g : Nat) : Prop := W.heap[g]? = some (.cells (hcTab 31 0 31 31 257) 149 (0, 0)) ∧ w0.heap.size ≤ g
theorem IsS149.grown {w0 W : World} {g : Nat} {W1 : World} {row : Option Nat} (h : IsS149 w0 W g) (hw : W.grownBy W1 row) (hne : some g ≠ row) : IsS149 w0 W1 g := ⟨blk_grown h.1 hw hne, h.2⟩
theorem IsS149.fresh {w0 W : World} {g : Nat} (h : IsS149 w0 W g) : ∀ k, W.heap.size ≤ k → k ≠ g := Kd.freshB h.1
theorem IsS149.kept {w0 W : World} {g : Nat} {W1 : World} {S : Nat → Prop} (h : IsS149 w0 W g) (hk : Kept W W1 S) (hne : ¬ S g) : IsS149 w0 W1 g := ⟨blk_kept h.1 hk hne, h.2⟩
theorem IsS149.below {w0 W : World} {g : Nat} {W1 : World} (h : IsS149 w0 W g) (hw : Below W.heap.size W W1) : IsS149 w0 W1 g := h.grown (grown_of_below hw none) (by simp)
theorem IsS149.alloc {w0 W : World} {g : Nat} (h : IsS149 w0 W g) (o : Obj) : IsS149 w0 (W.alloc o) g := h.below (below_alloc (Below.refl _ _) o)
theorem IsS149.drewN {w0 W : World} {g : Nat} (h : IsS149 w0 W g) (m : Nat) : IsS149 w0 (W.drewN m) g := h
theorem IsS149.drew {w0 W : World} {g : Nat} (h : IsS149 w0 W g) : IsS149 w0 W.drew g := h
theorem IsS149.at_ {w0 W : World} {g : Nat} {w' : World} {m : Nat} (hq : W.drewN m = w') (h : IsS149 w0 W g) : IsS149 w0 w' g := by subst hq; exact IsS149.drewN h m
theorem IsS149.apart {w0 W : World} {g : Nat} {α : Type} {d : Kd α} {e : Nat} {base : Nat} {ok : Nat → Prop} {v : Value} {xs : List α} (h : IsS149 w0 W g) (ho : d.R e W base ok v xs) (ht : ∀ q, q ∈ e :: d.E → q ≠ 149) : d.R e W base (fun k => ok k ∧ k ≠ g) v xs := Kd.R_types ho h.1 ht
theorem IsS149.own_ne {w0 W : World} {g : Nat} {α : Type} {d : Kd α} {e : Nat} {base : Nat} {ok : Nat → Prop} {v : Value} {xs : List α} (h : IsS149 w0 W g) (ho : d.R e W base ok v xs) (ht : e ≠ 149) : some g ≠ v.ownBlock := Kd.R_ne ho h.1 ht
theorem IsS149.lt {w0 W : World} {g : Nat} (h : IsS149 w0 W g) : g < W.heap.size := blk_lt h.1
theorem IsS149.ge {w0 W : World} {g : Nat} (h : IsS149 w0 W g) : w0.heap.size ≤ g := h.2
end Go.Proofs.YtfkdocmhbmameaaDoor.Mine
