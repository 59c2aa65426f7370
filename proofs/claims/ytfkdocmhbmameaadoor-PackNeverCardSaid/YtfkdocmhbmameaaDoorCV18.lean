/- The walks and the plain laws that the rows come to: merged out of this repo's texts. -/
import Derived.Test.YtfkdocmhbmameaaDoorProg
import Derived.Below
import Derived.Deep.Draws
import Derived.Deep.AppendLies
import Derived.Maps.AppendAt
import Derived.OwnWalk
import Derived.Laws.BytesArg
import Derived.Laws.MakeOwn
import Derived.Laws.OwnMore
import Derived.Deep.OwnRows
import Derived.Tactics
import Derived.Lib.ConvBytes
import Derived.Laws.Slices
import Derived.WalkKit
import Derived.KernelRfl
import Derived.RowKit3
import Derived.Deep.LoopGhost
import Derived.Deep.QuietTactic
import Derived.BigQuiet
import Derived.WideLaws
import Derived.Deep.DeepCutAuto
import Derived.Deep.CutBlock
import Derived.Deep.RegionHeld3
import Derived.Laws.Rows
import Derived.Lib.AppendStr
import Derived.ArgAppend
import Derived.Laws.IdiomCopy
import Derived.RowKit
import Derived.OrdersHeld
import Derived.Laws.BitsLemmas
import Derived.Laws.StructEq
import Derived.Laws.CopyOwn
import Derived.SizedLaws
import Derived.ChangeSlices
import Derived.Deep.Slices
import Derived.Lib.SmallJoins
import Derived.Lib.OthersKept
import Derived.Lib.AppendZerosOnto
import Derived.WalkSpells
import Derived.Shelf.Utf8.RuneCount
import Derived.Shelf.Strings.Search1
import Derived.Shelf.Strings.Search2
import Derived.Shelf.Strings.Search3
import Derived.Shelf.Strings.Cut
import Derived.Shelf.Strings.Count
import Derived.Shelf.LaysM
import Derived.Shelf.Strings.Shaped
import Derived.Shelf.Strings.Split
import Derived.Shelf.Strings.SplitShaped
import Derived.Shelf.Unicode.Decode
import Derived.Shelf.Strings.RuneCount
import Derived.Shelf.Strings.Explode
import Derived.Shelf.Unicode.DecodeSlow
import Derived.Shelf.Unicode.DecodeAny
import Derived.Test.YtfkdocmhbmameaaDoorCV1
import Derived.Test.YtfkdocmhbmameaaDoorCV2
import Derived.Test.YtfkdocmhbmameaaDoorCV10
import Derived.Test.YtfkdocmhbmameaaDoorCV12
import Derived.Test.YtfkdocmhbmameaaDoorCV13
import Derived.Test.YtfkdocmhbmameaaDoorCV14
import Derived.Test.YtfkdocmhbmameaaDoorCV15
import Derived.Test.YtfkdocmhbmameaaDoorCV16
import Derived.Test.YtfkdocmhbmameaaDoorCV17
namespace Go.Proofs.YtfkdocmhbmameaaDoor.Mine
open Go.RowKit Go.Proofs Go.Proofs.YtfkdocmhbmameaaDoorW.PrintWords Go.Proofs.YtfkdocmhbmameaaDoorW.PrintLast Go.Proofs.YtfkdocmhbmameaaDoorW.PrintMore
attribute [local go_sem] max2_int min2_int max_two min_two max_three min_three max_four min_four
set_option linter.unusedVariables false
set_option linter.unusedSimpArgs false
structure TE where
  t : TB
  least : Int
  changed : Bool
def IsS70 (w0 W : World) (g : Nat) (d : TE) : Prop := ∃ gt, gt + 1 = g ∧ W.heap[g]? = some (.cells #[.pointer (some ⟨gt, 0, none⟩), .int .i64 d.least, .bool d.changed] 70 (0, 0)) ∧ IsS77 w0 W gt d.t
section
variable {w0 W W1 : World} {g : Nat} {d : TE}
theorem IsS70.lt (h : IsS70 w0 W g d) : g < W.heap.size := by
  obtain ⟨gt, h1, h2, h3⟩ := h
  exact blk_lt h2
theorem IsS70.ge1 (h : IsS70 w0 W g d) : w0.heap.size ≤ g - 1 := by
  obtain ⟨gt, h1, h2, h3⟩ := h
  have := h3.ge
  omega
theorem IsS70.ge (h : IsS70 w0 W g d) : w0.heap.size ≤ g := by
  have := h.ge1
  omega
theorem IsS70.ty (h : IsS70 w0 W g d) : TyOf W g 70 := by
  obtain ⟨gt, h1, h2, h3⟩ := h
  exact ⟨_, h2⟩
theorem IsS70.tab (h : IsS70 w0 W g d) : IsS77 w0 W (g - 1) d.t := by
  obtain ⟨gt, h1, h2, h3⟩ := h
  obtain rfl : gt = g - 1 := by omega
  exact h3
theorem IsS70.blk (h : IsS70 w0 W g d) : ∃ cs, W.heap[g]? = some (.cells cs 70 (0, 0)) := h.ty
theorem IsS70.step (h : IsS70 w0 W g d) (hk : ∀ i, i < W.heap.size → i = g ∨ i = g - 1 ∨ TyOf W i 103 → W1.heap[i]? = W.heap[i]?) : IsS70 w0 W1 g d := by
  have ht := h.tab
  obtain ⟨gt, h1, h2, h3⟩ := h
  refine ⟨gt, h1, (hk g (blk_lt h2) (.inl rfl)).trans h2, h3.step (fun i hi hx => hk i hi ?_)⟩
  rcases hx with rfl | hx
  · exact .inr (.inl (by omega))
  · exact .inr (.inr hx)
theorem IsS70.below (h : IsS70 w0 W g d) (hw : Below W.heap.size W W1) : IsS70 w0 W1 g d := h.step (fun i hi _ => hw.block i hi)
theorem IsS70.alloc (h : IsS70 w0 W g d) (o : Obj) : IsS70 w0 (W.alloc o) g d := h.below (below_alloc (Below.refl _ _) o)
theorem IsS70.drewN (h : IsS70 w0 W g d) (m : Nat) : IsS70 w0 (W.drewN m) g d := h
theorem IsS70.drew (h : IsS70 w0 W g d) : IsS70 w0 W.drew g d := h
theorem IsS70.at_ {w' : World} {m : Nat} (hq : W.drewN m = w') (h : IsS70 w0 W g d) : IsS70 w0 w' g d := by subst hq; exact h
theorem IsS70.fresh (h : IsS70 w0 W g d) : ∀ k, W.heap.size ≤ k → k ≠ g := fun k hk e => absurd h.lt (by omega)
theorem IsS70.rebase {w1 : World} (h : IsS70 w1 W g d) (hs : w0.heap.size ≤ w1.heap.size) : IsS70 w0 W g d := by
  obtain ⟨gt, h1, h2, h3⟩ := h
  exact ⟨gt, h1, h2, h3.rebase hs⟩
theorem IsS70.ne_blk {a : Nat} {cs : Array Value} {u : TypeId} {fr : Nat × Nat} (h : IsS70 w0 W g d) (hb2 : W.heap[a]? = some (.cells cs u fr)) (ht : u ≠ 70 ∧ u ≠ 77) : g ≠ a := by
  obtain ⟨cs1, hb⟩ := h.blk
  rintro rfl
  rw [hb] at hb2
  injection hb2 with hb2
  injection hb2 with _ ht2
  exact ht.1 ht2.symm
theorem IsS70.ne_tab {a : Nat} {cs : Array Value} {u : TypeId} {fr : Nat × Nat} (h : IsS70 w0 W g d) (hb2 : W.heap[a]? = some (.cells cs u fr)) (ht : u ≠ 77) : some a ≠ some (g - 1) := by
  intro e
  exact h.tab.ne_blk hb2 ht (Option.some.inj e).symm
theorem IsS70.grownT {W2 : World} {α : Type} {k : Kd α} {e : Nat} {base : Nat} {ok : Nat → Prop} {v : Value} {xs : List α} (h : IsS70 w0 W1 g d) (hb : Below W.heap.size W W1) (hw : W1.grownBy W2 v.ownBlock) (ho : k.R e W base ok v xs) (ht : e ≠ 70 ∧ e ≠ 77 ∧ e ≠ 103) : IsS70 w0 W2 g d := by
  refine h.step (fun i hi hx => hw.block i hi (fun he => ?_))
  obtain ⟨cs, hc⟩ := Kd.R_typed ho i he.symm
  have hty : TyOf W1 i e := TyOf.below ⟨cs, hc⟩ hb
  rcases hx with rfl | rfl | hx
  · exact hty.ne h.ty ht.1 rfl
  · exact hty.ne h.tab.ty ht.2.1 rfl
  · exact hty.ne hx ht.2.2 rfl
theorem IsS70.farT {p : Addr} {e : TypeId} (h : IsS70 w0 W g d) (hty : TyOf W p.block e) (ht : e ≠ 70 ∧ e ≠ 77 ∧ e ≠ 103) (u : Value) : IsS70 w0 (W.setCell p u) g d := by
  refine h.step (fun i hi hx => Below.heap_setCell W p u i (fun he => ?_))
  subst he
  rcases hx with hx | hx | hx
  · exact hty.ne (hx ▸ h.ty) ht.1 rfl
  · exact hty.ne (hx ▸ h.tab.ty) ht.2.1 rfl
  · exact hty.ne hx ht.2.2 rfl
theorem IsS70.blkK {g' : Nat} {o : Obj} {cs : Array Value} {u : TypeId} {fr : Nat × Nat} (hk : KeepBut W W1 g (some (g - 1))) (h : IsS70 w0 W g d) (hb : W.heap[g']? = some o) (hne : g' ≠ g) (ho : o = .cells cs u fr) (ht : u ≠ 77) : W1.heap[g']? = some o := by
  subst ho
  exact KeepBut.blk hk hb hne (h.ne_tab hb ht)
theorem IsS70.keptT {S : Nat → Prop} (h : IsS70 w0 W g d) (hk : Kept W W1 S) (hS : ∀ k, S k → ∃ e, TyOf W k e ∧ e ≠ 70 ∧ e ≠ 77 ∧ e ≠ 103) : IsS70 w0 W1 g d := by
  refine h.step (fun i hi hx => hk.2 i hi (fun hs => ?_))
  obtain ⟨e, he, h1, h2, h3⟩ := hS i hs
  rcases hx with hx | hx | hx
  · exact he.ne (hx ▸ h.ty) h1 rfl
  · exact he.ne (hx ▸ h.tab.ty) h2 rfl
  · exact he.ne hx h3 rfl
theorem IsS70.otherT {w1 : World} {g2 : Nat} {t2 : TB} (h : IsS70 w0 W g d) (h2 : IsS77 w1 W g2 t2) (hk : KeepBut W W1 g2 none) (hne : g2 ≠ g - 1) : IsS70 w0 W1 g d := by
  refine h.step (fun i hi hx => hk.2 i hi (fun he => ?_) (by simp))
  subst he
  rcases hx with hx | hx | hx
  · exact h2.ty.ne (hx ▸ h.ty) (by decide) rfl
  · exact hne hx
  · exact h2.ty.ne hx (by decide) rfl
section
variable {α : Type} {k : Kd α} {e : Nat} {base : Nat} {ok : Nat → Prop} {v : Value} {xs : List α}
theorem IsS70.apart (h : IsS70 w0 W g d) (ho : k.R e W base ok v xs) (ht : ∀ q, q ∈ e :: k.E → q ≠ 70 ∧ q ≠ 77) : k.R e W base (fun a => ok a ∧ (a ≠ g ∧ a ≠ g - 1)) v xs := by
  obtain ⟨cs, hb⟩ := h.blk
  obtain ⟨cs2, hb2⟩ := h.tab.blk
  exact Kd.R_mono (Kd.R_types (Kd.R_types ho hb (fun q hq => (ht q hq).1)) hb2 (fun q hq => (ht q hq).2)) (fun _ hk => ⟨hk.1.1, hk.1.2, hk.2⟩)
theorem IsS70.own_ne (h : IsS70 w0 W g d) (ho : k.R e W base ok v xs) (ht : e ≠ 70) : some g ≠ v.ownBlock := by
  obtain ⟨cs, hb⟩ := h.blk
  exact Kd.R_ne ho hb ht
end
end
def pack_New.f : Option TE := some ⟨⟨mx 4096 0, 0, [], tbFixed⟩, 4096, false⟩
set_option maxHeartbeats 2000000 in
set_option maxRecDepth 100000 in
theorem pack_New.calls (r : TE) (w0 w : World) (hB : Below w0.heap.size w0 w) (hE : EnvW w) (h : pack_New.f = some r) :
    Calls Tryd.prog 11 #[] w fun e w' => ∃ g_ : Nat, e = .returned (.pointer (some ⟨g_, 0, none⟩)) ∧ IsS70 w0 w' g_ r ∧ Below w0.heap.size w0 w' ∧ Below w.heap.size w w' := by
  obtain ⟨m, hm⟩ := hE
  obtain rfl := Option.some.inj h
  have HM := Aside0.mk hm
  have HB := Aside0.mk hB
  clear h hm hB
  go_enter Tryd.func11, Tryd.ntmps11
  go_wp2_with (first | (go_at_call 34; (with_reducible refine (tb_new 4096 m w0 w HM.out HB.out).mono ?_); rintro e w1 ⟨gt, rfl, h1, h2, h3, h4, h5, h6⟩; have HT := Aside0.mk (IsS77.of h1 h4 h5); have HB1 := Aside0.mk h2; have HC1 := Aside0.mk h3; have HZ := Aside0.mk h6; clear h1 h2 h3 h4 h5 h6) | ((with_reducible refine gate_dst (N := 3) rfl ?_); refine box_event ?hg (N := 3) ?hd (cs := #[.pointer (some ⟨gt, 0, none⟩), .int .i64 4096, .bool false]) (t := 70) ?hr ?_; (case hd => rfl); (case hg => rfl); (case hr => first | (go_simp; done) | (go_simp; rfl)); intro g hg w2 hbox hb; have BG := Aside0.mk hbox; have HG := Aside0.mk (show gt + 1 = g by rw [hg]; exact HZ.out.symm); have HT2 := Aside0.mk (HT.out.below hb); have HB2 := Aside0.mk (below_then HB1.out HB1.out.size hb); have HC2 := Aside0.mk (below_step HC1.out hb); clear hb hbox hg))
  go_ret
  exact ⟨_, rfl, ⟨gt, HG.out, BG.out, HT2.out⟩, HB2.out, HC2.out⟩
def pack_Encoder_Table.f (s : TE) : Option TB := table_Table_Copy.f s.t
set_option maxHeartbeats 2000000 in
set_option maxRecDepth 100000 in
theorem pack_Encoder_Table.calls {w1 : World} (g : Nat) (s0_0 : TE) (r : TB) (w0 w : World) (hI : IsS70 w1 w g s0_0) (hB : Below w0.heap.size w0 w) (h : pack_Encoder_Table.f s0_0 = some r) :
    Calls Tryd.prog 13 #[.pointer (some ⟨g, 0, none⟩)] w fun e w' => ∃ g_ : Nat, e = .returned (.pointer (some ⟨g_, 0, none⟩)) ∧ IsS77 w0 w' g_ r ∧ Below w0.heap.size w0 w' ∧ Below w.heap.size w w' := by
  obtain ⟨gt, h1, h2, h3⟩ := hI
  have z0 : w.cell? ⟨g, 0, none⟩ = some (.pointer (some ⟨gt, 0, none⟩)) := (blk_cell h2 0).trans rfl
  have HT := Aside0.mk h3
  have HB := Aside0.mk hB
  have HA := Aside0.mk (show table_Table_Copy.f s0_0.t = some r from h)
  clear h1 h2 h3 hB h
  go_enter Tryd.func13, Tryd.ntmps13
  go_wp2_with (first | (go_at_call 37; (with_reducible refine (table_Table_Copy.calls gt s0_0.t r w0 w HT.out HB.out HA.out).mono ?_); rintro e w2 ⟨g2, rfl, h1, h2, h3⟩; have R1 := Aside0.mk h1; have R2 := Aside0.mk h2; have R3 := Aside0.mk h3; clear h1 h2 h3))
  go_ret
  exact ⟨_, rfl, R1.out, R2.out, R3.out⟩
theorem IsT.drew1 {w0 W : World} {g : Nat} {most size : Int} {l fx : List S103} (h : IsT w0 W g most size l fx) : IsT w0 W.drew g most size l fx := h
theorem up_keepset {w W : World} {g j : Nat} {r : Option Nat} {v : Value} (h : KeepBut w W g r) : KeepBut w (W.setCell ⟨g, j, none⟩ v) g r := ⟨by simpa [World.setCell] using h.1, fun i hi hg hr => (Below.heap_setCell W ⟨g, j, none⟩ v i hg).trans (h.2 i hi hg hr)⟩
theorem pk_keepb {w wX w3 : World} {g : Nat} {r : Option Nat} (h : KeepBut w wX g r) (hb : Below w.heap.size wX w3) : KeepBut w w3 g r := ⟨Nat.le_trans h.1 hb.size, fun i hi h1 h2 => (hb.block i hi).trans (h.2 i hi h1 h2)⟩
theorem pk_keepg {w w1 w2 : World} {g gt : Nat} (h : KeepBut w w1 g (some gt)) (k : KeepBut w1 w2 gt none) : KeepBut w w2 g (some gt) := ⟨Nat.le_trans h.1 k.1, fun i hi hg hr => (k.2 i (Nat.lt_of_lt_of_le hi h.1) (fun q => hr (congrArg some q)) (by simp)).trans (h.2 i hi hg hr)⟩
theorem pk_rows {w0 W W1 : World} {gt base : Nat} {t : TB} {ok : Nat → Prop} {v : Value} {b : List Int} (h : Kd.R (Kd.int .u8) 5 W base ok v b) (hT : IsS77 w0 W gt t) (hk : KeepBut W W1 gt none) : Kd.R (Kd.int .u8) 5 W1 base ok v b := by
  obtain ⟨cs, hb⟩ := hT.blk
  exact Kd.R_mono (Kd.R_keep (Kd.R_types h hb (by decide)) hk (fun _ h => h.2)) (fun _ h => h.1)
theorem up_keepx {w W : World} {g gt : Nat} (h : KeepBut w W g (some gt)) (_ : g ≠ gt) : KeepBut w W g (some gt) := h
def pack_Encoder_Limit.f (s : TE) (n : Int) : Option TE :=
  if wrap64 (mn n 4096) = s.t.most then some s else (table_Table_Resize.f s.t (wrap64 (mn n 4096))).map fun t => ⟨t, mn s.least (wrap64 (mn n 4096)), true⟩
set_option maxHeartbeats 4000000 in
set_option maxRecDepth 100000 in
theorem pack_Encoder_Limit.calls (g : Nat) (s0_0 : TE) (a1 : Int) (r : TE) (w0 w : World) (hI : IsS70 w0 w g s0_0) (hB : Below w0.heap.size w0 w) (h : pack_Encoder_Limit.f s0_0 a1 = some r) :
    Calls Tryd.prog 17 #[.pointer (some ⟨g, 0, none⟩), .int .u32 a1] w fun e w' => e = .returned (.tuple #[]) ∧ IsS70 w0 w' g r ∧ Below w0.heap.size w0 w' ∧ KeepBut w w' g (some (g - 1)) := by
  have HG := Aside0.mk hI.lt
  have HGE := Aside0.mk hI.ge
  obtain ⟨gt, hgt, hD, hT⟩ := hI
  obtain ⟨t, least, ch⟩ := s0_0
  have GT := Aside0.mk hgt
  have HD := Aside0.mk hD
  have HT := Aside0.mk hT
  have HB := Aside0.mk hB
  have hg1 : g - 1 = gt := by omega
  rw [hg1]
  have NE := Aside0.mk (show g ≠ gt by omega)
  have c0 := (blk_cell hD 0).trans (rfl : _ = some (Value.pointer (some ⟨gt, 0, none⟩)))
  have HM := Aside0.mk (show IsT w0 w gt t.most t.size t.l t.fx from hT.1)
  unfold pack_Encoder_Limit.f at h
  obtain ⟨z0, hz⟩ : ∃ z, mn a1 4096 = z := ⟨_, rfl⟩
  have hz2 : (if 4096 < a1 then 4096 else a1) = z0 := hz
  rw [hz] at h
  obtain ⟨z, hzw⟩ : ∃ z, wrap64 z0 = z := ⟨_, rfl⟩
  rw [hzw] at h
  simp only at h
  clear hgt hD hT hB hz
  by_cases hm : z = t.most
  · rw [if_pos hm] at h
    obtain rfl := Option.some.inj h
    have q1 : (z == t.most) = true := beq_iff_eq.mpr hm
    have HI := Aside0.mk (show IsS70 w0 w g ⟨t, least, ch⟩ from ⟨gt, GT.out, HD.out, HT.out⟩)
    clear h hm
    go_enter Tryd.func17, Tryd.ntmps17
    go_wp2_with (first | (go_at_call 30; (with_reducible refine (tb_most gt _ _ _ _ w0 _ HM.out).mono ?_); rintro e w1 ⟨rfl, hb⟩; have HB1 := Aside0.mk hb; clear hb))
    refine bodyPost_ret (results_none rfl _ _ _) rfl ?_
    exact ⟨rfl, HI.out.below HB1.out, below_then HB.out HB.out.size HB1.out, KeepBut.of_below HB1.out g _⟩
  · rw [if_neg hm] at h
    obtain ⟨t2, h1, rfl⟩ := Option.map_eq_some_iff.mp h
    have A1 := Aside0.mk h1
    have q1 : (z == t.most) = false := beq_eq_false_iff_ne.mpr hm
    clear h h1 hm
    obtain ⟨y, hy⟩ : ∃ y, mn least z = y := ⟨_, rfl⟩
    have hy2 : (if z < least then z else least) = y := hy
    rw [hy]
    clear hy
    go_enter Tryd.func17, Tryd.ntmps17
    go_wp2_with (first | (go_at_call 30; (with_reducible refine (tb_most gt _ _ _ _ w0 _ HM.out).mono ?_); rintro e w1 ⟨rfl, hb⟩; have HB1 := Aside0.mk hb; have HT1 := Aside0.mk (HT.out.below hb); have HC1 := Aside0.mk (below_then HB.out HB.out.size hb); have HD1 := Aside0.mk (blk_below HD.out hb); clear hb c0; have c0 := (blk_cell HD1.out 0).trans (rfl : _ = some (Value.pointer (some ⟨gt, 0, none⟩)))) | (go_at_call 39; (with_reducible refine (table_Table_Resize.calls gt t z t2 w0 _ HT1.out HC1.out A1.out).mono ?_); rintro en w2 ⟨rfl, hi, hb, hk⟩; have HT2 := Aside0.mk hi; have HC2 := Aside0.mk hb; have HK2 := Aside0.mk (keep_two (KeepBut.of_below HB1.out g none) hk); have HD2 := Aside0.mk ((hk.2 g (blk_lt HD1.out) NE.out (by simp)).trans HD1.out); clear hi hb hk c0; have c1 := (blk_cell HD2.out 1).trans (rfl : _ = some (Value.int .i64 least)); have c2 := (blk_cell (blk_put HD2.out 1 (.int .i64 y) rfl) 2).trans (rfl : _ = some (Value.bool ch)); have f1 := blk_frozen HD2.out 1; have f2 := blk_frozen (blk_put HD2.out 1 (.int .i64 y) rfl) 2))
    go_end0
    have D3 := blk_put (blk_put HD2.out 1 (.int .i64 y) rfl) 2 (.bool true) rfl
    have T3 := IsS77.farT (p := ⟨g, 2, none⟩) (IsS77.farT (p := ⟨g, 1, none⟩) HT2.out (TyOf.mk HD2.out) (by decide) (.int .i64 y)) (TyOf.mk (blk_put HD2.out 1 (.int .i64 y) rfl)) (by decide) (.bool true)
    exact ⟨rfl, ⟨gt, GT.out, D3, T3⟩, below_set (below_set HC2.out HGE.out) HGE.out, up_keepset (up_keepset (up_keepx HK2.out NE.out))⟩
def pkField (k : Nat) (e : TE) (b : List Int) (f : S26) : Option (List Int × TE) :=
  if e.t.l.length < 4398046511103 ∧ e.t.fx.length < 4398046511103 then
    (if f.f2 = true then (pack_literal.f k b 16 4 (tbFind e.t.fx e.t.l f.f0 f.f1 (e.t.fx.length + e.t.l.length) 1 0).1 f.f0 f.f1 f.f2).map fun x => (x, e)
    else if (tbFind e.t.fx e.t.l f.f0 f.f1 (e.t.fx.length + e.t.l.length) 1 0).2 = true then (prefix_Put.f k b 128 7 (IntKind.u64.wrap (tbFind e.t.fx e.t.l f.f0 f.f1 (e.t.fx.length + e.t.l.length) 1 0).1)).map fun x => (x, e)
    else if wrap64 ((f.f0.size : Int) + (f.f1.size : Int)) ≤ wrap64 (e.t.most - 32) then (table_Table_Add.f e.t f.f0 f.f1).bind fun t2 => (pack_literal.f k b 64 6 (tbFind e.t.fx e.t.l f.f0 f.f1 (e.t.fx.length + e.t.l.length) 1 0).1 f.f0 f.f1 f.f2).map fun x => (x, ⟨t2, e.least, e.changed⟩)
    else (pack_literal.f k b 0 4 (tbFind e.t.fx e.t.l f.f0 f.f1 (e.t.fx.length + e.t.l.length) 1 0).1 f.f0 f.f1 f.f2).map fun x => (x, e)) else none
set_option maxHeartbeats 4000000 in
set_option maxRecDepth 100000 in
theorem pk_field (k g : Nat) (e : TE) (A : Option Addr) (c : Nat) (b : List Int) (f : S26) (r : List Int) (e2 : TE) (bs : Nat) (ok : Nat → Prop) (w0 w : World) (hI : IsS70 w0 w g e) (hB : Below w0.heap.size w0 w) (hb : Kd.R (Kd.int .u8) 5 w bs ok (.slice A b.length c) b) (h : pkField k e b f = some (r, e2)) :
    Calls Tryd.prog 36 #[.pointer (some ⟨g, 0, none⟩), .slice A b.length c, .agg #[.string f.f0, .string f.f1, .bool f.f2]] w fun en w' => ∃ v, en = .returned v ∧ Kd.R (Kd.int .u8) 5 w' w.heap.size (fun _ => True) v r ∧ IsS70 w0 w' g e2 ∧ Below w0.heap.size w0 w' ∧ KeepBut w w' g (some (g - 1)) := by
  obtain ⟨f0, f1, nv⟩ := f
  have HI := Aside0.mk hI
  have HG := Aside0.mk hI.lt
  have HGE := Aside0.mk hI.ge
  obtain ⟨gt, hgt, hD, hT⟩ := hI
  obtain ⟨t, least, ch⟩ := e
  have GT := Aside0.mk hgt
  have HD := Aside0.mk hD
  have HT := Aside0.mk hT
  have HB := Aside0.mk hB
  have HR := Aside0.mk hb
  have hg1 : g - 1 = gt := by omega
  rw [hg1]
  have NE := Aside0.mk (show g ≠ gt by omega)
  have hu26_ := Tryd.underlying26
  unfold pkField at h
  simp only at h
  obtain ⟨⟨n, whole⟩, hf⟩ : ∃ R, tbFind t.fx t.l f0 f1 (t.fx.length + t.l.length) 1 0 = R := ⟨_, rfl⟩
  rw [hf] at h
  simp only at h
  have HF := Aside0.mk hf
  have A0 := Aside0.mk h
  clear hgt hD hT hB hb hf h
  by_cases hc : t.l.length < 4398046511103 ∧ t.fx.length < 4398046511103
  · have h := A0.out
    rw [if_pos hc] at h
    have HC := Aside0.mk hc
    have A1 := Aside0.mk h
    clear A0 hc h
    go_enter Tryd.func36, Tryd.ntmps36
    go_upto_region 1 with (first | ((with_reducible refine gate_dst (N := 5) rfl ?_); refine box_event ?hg (N := 5) ?hd (cs := #[.string f0, .string f1, .bool nv]) (t := 26) ?hr ?_; (case hd => rfl); (case hg => rfl); (case hr => first | (go_simp; done) | (go_simp; rfl)); intro g5 hg5 w1 hbox hb; have W5 := Aside0.mk (show w.heap.size ≤ g5 by omega); have B5 := Aside0.mk hbox; have HB1 := Aside0.mk hb; have HT1 := Aside0.mk (HT.out.below hb); have HD1 := Aside0.mk (blk_below HD.out hb); have HR1 := Aside0.mk (Kd.R_below HR.out hb); clear hg5 hbox hb; have c0 := (blk_cell HD1.out 0).trans (rfl : _ = some (Value.pointer (some ⟨gt, 0, none⟩))); have y0 := (blk_cell B5.out 0).trans (rfl : _ = some (Value.string f0)); have y1 := (blk_cell B5.out 1).trans (rfl : _ = some (Value.string f1)); have y2 := (blk_cell B5.out 2).trans (rfl : _ = some (Value.bool nv))))
    go_cut [7, 8] (fun v7 v8 wc => v7 = .int .i64 n ∧ v8 = .bool whole ∧ Aside0 (Below w.heap.size w wc) ∧ Aside0 (IsS77 w0 wc gt t) ∧ Aside0 (wc.heap[g]? = some (.cells #[.pointer (some ⟨gt, 0, none⟩), .int .i64 least, .bool ch] 70 (0, 0))) ∧ Aside0 (Kd.R (Kd.int .u8) 5 wc bs ok (.slice A b.length c) b) ∧ Aside0 (wc.heap[g5]? = some (.cells #[.string f0, .string f1, .bool nv] 26 (0, 0))))
    case first =>
      go_region_with (first | (go_at_call 53; (with_reducible refine (tb_find gt t.most t.size f0 f1 t.l t.fx w0 _ ?sI ?sL ?sF).mono ?_); (case sI => exact HT1.out.1); (case sL => exact Nat.lt_of_lt_of_le HC.out.1 (by decide)); (case sF => exact Nat.lt_of_lt_of_le HC.out.2 (by decide)); rintro en w2 ⟨rfl, hb⟩; rw [HF.out]; have HB2 := Aside0.mk (below_step (below_drew1 HB1.out) hb); have HT2 := Aside0.mk ((IsS77.drew HT1.out).below hb); have HD2 := Aside0.mk (blk_below (blk_drew HD1.out) hb); have HR2 := Aside0.mk (Kd.R_below (Kd.R_drew HR1.out) hb); have B52 := Aside0.mk (blk_below (blk_drew B5.out) hb); clear hb c0 y0 y1 y2))
      all_goals
        go_wp2_with fail
        go_meet
        case rel => exact ⟨rfl, rfl, HB2, HT2, HD2, HR2, B52⟩
    case rest =>
      obtain ⟨rfl, rfl, HB2, HT2, HD2, HR2, B52⟩ := hcut
      have C2 := Aside0.mk (below_then HB.out HB.out.size HB2.out)
      have K2 := Aside0.mk (KeepBut.of_below HB2.out g (some gt))
      have HM := Aside0.mk (show IsT w0 wc gt t.most t.size t.l t.fx from HT2.out.1)
      have c0 := (blk_cell HD2.out 0).trans (rfl : _ = some (Value.pointer (some ⟨gt, 0, none⟩)))
      have y0 := (blk_cell B52.out 0).trans (rfl : _ = some (Value.string f0))
      have y1 := (blk_cell B52.out 1).trans (rfl : _ = some (Value.string f1))
      have y2 := (blk_cell B52.out 2).trans (rfl : _ = some (Value.bool nv))
      have h := A1.out
      cases nv with
      | true =>
        rw [if_pos rfl] at h
        obtain ⟨x, h1, h2⟩ := Option.map_eq_some_iff.mp h
        simp only [Prod.mk.injEq] at h2
        obtain ⟨rfl, rfl⟩ := h2
        have A2 := Aside0.mk h1
        clear h h1 A1
        go_wp2_with (first | (go_at_call 54; (with_reducible refine (pack_literal.calls k _ _ b 16 4 n f0 f1 true x _ (Kd.R_reads' HR2.out).2.2 (Kd.R_reads' HR2.out).2.1 A2.out).mono ?_); rintro en w9 ⟨v, rfl, ho, hb⟩; have HO9 := Aside0.mk ho; have HB9 := Aside0.mk hb; clear ho hb))
        go_ret
        exact ⟨v, rfl, Kd.R_lower HO9.out HB2.out.size, ⟨gt, GT.out, blk_below HD2.out HB9.out, HT2.out.below HB9.out⟩, below_then C2.out C2.out.size HB9.out, pk_keepb K2.out ⟨HB9.out.os, HB9.out.tape, HB9.out.output, HB9.out.size, fun k hk => HB9.out.block k (Nat.lt_of_lt_of_le hk HB2.out.size)⟩⟩
      | false =>
        rw [if_neg (by decide)] at h
        cases whole with
        | true =>
          rw [if_pos rfl] at h
          obtain ⟨x, h1, h2⟩ := Option.map_eq_some_iff.mp h
          simp only [Prod.mk.injEq] at h2
          obtain ⟨rfl, rfl⟩ := h2
          have A2 := Aside0.mk h1
          clear h h1 A1
          go_wp2_with (first | (go_at_call 35; (with_reducible refine (prefix_Put.calls k _ _ b 128 7 (IntKind.u64.wrap n) x _ (Kd.R_reads' HR2.out).2.2 (Kd.R_reads' HR2.out).2.1 A2.out).mono ?_); rintro en w9 ⟨v, rfl, ho, hb⟩; have HO9 := Aside0.mk ho; have HB9 := Aside0.mk hb; clear ho hb))
          go_ret
          exact ⟨v, rfl, Kd.R_lower HO9.out HB2.out.size, ⟨gt, GT.out, blk_below HD2.out HB9.out, HT2.out.below HB9.out⟩, below_then C2.out C2.out.size HB9.out, pk_keepb K2.out ⟨HB9.out.os, HB9.out.tape, HB9.out.output, HB9.out.size, fun k hk => HB9.out.block k (Nat.lt_of_lt_of_le hk HB2.out.size)⟩⟩
        | false =>
          rw [if_neg (by decide)] at h
          obtain ⟨fits, hfit⟩ : ∃ q, decide (wrap64 ((f0.size : Int) + (f1.size : Int)) ≤ wrap64 (t.most - 32)) = q := ⟨_, rfl⟩
          have A1 := Aside0.mk h
          clear h
          go_upto_region 6 with fail
          go_cut [34] (fun v34 wc => v34 = .bool fits ∧ Aside0 (Below w.heap.size w wc) ∧ Aside0 (IsS77 w0 wc gt t) ∧ Aside0 (wc.heap[g]? = some (.cells #[.pointer (some ⟨gt, 0, none⟩), .int .i64 least, .bool ch] 70 (0, 0))) ∧ Aside0 (Kd.R (Kd.int .u8) 5 wc bs ok (.slice A b.length c) b) ∧ Aside0 (wc.heap[g5]? = some (.cells #[.string f0, .string f1, .bool false] 26 (0, 0))))
          case first =>
           go_region_with (first | (go_at_call 30; (with_reducible refine (tb_most gt t.most t.size t.l t.fx w0 _ ?sM).mono ?_); (case sM => exact HM.out.drew1); rintro en w3 ⟨rfl, hb⟩; have HB3 := Aside0.mk (below_step (below_drew1 HB2.out) hb); have HT3 := Aside0.mk ((IsS77.drew HT2.out).below hb); have HD3 := Aside0.mk (blk_below (blk_drew HD2.out) hb); have HR3 := Aside0.mk (Kd.R_below (Kd.R_drew HR2.out) hb); have B53 := Aside0.mk (blk_below (blk_drew B52.out) hb); clear hb; have y0' := (blk_cell B53.out 0).trans (rfl : _ = some (Value.string f0)); have y1' := (blk_cell B53.out 1).trans (rfl : _ = some (Value.string f1))))
           all_goals
            go_wp2_with fail
            go_meet
            case rel => exact ⟨by rw [IntKind.wrap_i64, IntKind.wrap_i64]; first | rw [hfit] | (simp only [wrap64] at hfit ⊢; rw [hfit]), HB3, HT3, HD3, HR3, B53⟩
          case rest =>
           obtain ⟨rfl, HB3, HT3, HD3, HR3, B53⟩ := hcut
           have C3 := Aside0.mk (below_then HB.out HB.out.size HB3.out)
           have K3 := Aside0.mk (KeepBut.of_below HB3.out g (some gt))
           have z0 := (blk_cell HD3.out 0).trans (rfl : _ = some (Value.pointer (some ⟨gt, 0, none⟩)))
           have x0 := (blk_cell B53.out 0).trans (rfl : _ = some (Value.string f0))
           have x1 := (blk_cell B53.out 1).trans (rfl : _ = some (Value.string f1))
           have x2 := (blk_cell B53.out 2).trans (rfl : _ = some (Value.bool false))
           have h := A1.out
           cases fits with
           | true =>
            rw [if_pos (of_decide_eq_true hfit)] at h
            obtain ⟨t2, h1, h2⟩ := Option.bind_eq_some_iff.mp h
            obtain ⟨x, h3, h4⟩ := Option.map_eq_some_iff.mp h2
            simp only [Prod.mk.injEq] at h4
            obtain ⟨rfl, rfl⟩ := h4
            have A2 := Aside0.mk h3
            have A3 := Aside0.mk h1
            clear h h1 h2 h3 A1 hfit
            go_upto_region 7 with fail
            go_cut [7] (fun v7 wd => v7 = .int .i64 n ∧ Aside0 (Below w0.heap.size w0 wd) ∧ Aside0 (KeepBut w wd g (some gt)) ∧ Aside0 (IsS77 w0 wd gt t2) ∧ Aside0 (wd.heap[g]? = some (.cells #[.pointer (some ⟨gt, 0, none⟩), .int .i64 least, .bool ch] 70 (0, 0))) ∧ Aside0 (Kd.R (Kd.int .u8) 5 wd bs ok (.slice A b.length c) b) ∧ Aside0 (wd.heap[g5]? = some (.cells #[.string f0, .string f1, .bool false] 26 (0, 0))))
            case first =>
             go_region_with (first | (go_at_call 55; (with_reducible refine (table_Table_Add.calls gt t f0 f1 t2 w0 _ ?sI ?sB A3.out).mono ?_); (case sI => exact IsS77.drew HT3.out); (case sB => exact below_drew1 C3.out); rintro en w4 ⟨rfl, hi, hb, hk⟩; have HT4 := Aside0.mk hi; have HC4 := Aside0.mk hb; have HK4 := Aside0.mk (pk_keepg (keep_drew K3.out) hk); have HD4 := Aside0.mk ((hk.2 g (blk_lt (blk_drew HD3.out)) NE.out (by simp)).trans (blk_drew HD3.out)); have HR4 := Aside0.mk (pk_rows (Kd.R_drew HR3.out) (IsS77.drew HT3.out) hk); have B54 := Aside0.mk ((hk.2 g5 (blk_lt (blk_drew B53.out)) (by have := HT.out.lt; have := W5.out; omega) (by simp)).trans (blk_drew B53.out)); clear hi hb hk))
             all_goals
              go_wp2_with fail
              go_meet
              case rel => exact ⟨rfl, HC4, HK4, HT4, HD4, HR4, B54⟩
            case rest =>
             obtain ⟨rfl, HC4, HK4, HT4, HD4, HR4, B54⟩ := hcut
             have u0 := (blk_cell B54.out 0).trans (rfl : _ = some (Value.string f0))
             have u1 := (blk_cell B54.out 1).trans (rfl : _ = some (Value.string f1))
             have u2 := (blk_cell B54.out 2).trans (rfl : _ = some (Value.bool false))
             go_wp2_with (first | (go_at_call 54; (with_reducible refine (pack_literal.calls k _ _ b 64 6 n f0 f1 false x _ (Kd.R_reads' HR4.out).2.2 (Kd.R_reads' HR4.out).2.1 A2.out).mono ?_); rintro en w9 ⟨v, rfl, ho, hb⟩; have HO9 := Aside0.mk ho; have HB9 := Aside0.mk hb; clear ho hb))
             go_ret
             exact ⟨v, rfl, Kd.R_lower HO9.out HK4.out.1, ⟨gt, GT.out, blk_below HD4.out HB9.out, HT4.out.below HB9.out⟩, below_then HC4.out HC4.out.size HB9.out, pk_keepb HK4.out ⟨HB9.out.os, HB9.out.tape, HB9.out.output, HB9.out.size, fun k hk => HB9.out.block k (Nat.lt_of_lt_of_le hk HK4.out.1)⟩⟩
           | false =>
            rw [if_neg (of_decide_eq_false hfit)] at h
            obtain ⟨x, h3, h4⟩ := Option.map_eq_some_iff.mp h
            simp only [Prod.mk.injEq] at h4
            obtain ⟨rfl, rfl⟩ := h4
            have A2 := Aside0.mk h3
            clear h h3 A1 hfit
            go_wp2_with (first | (go_at_call 54; (with_reducible refine (pack_literal.calls k _ _ b 0 4 n f0 f1 false x _ (Kd.R_reads' HR3.out).2.2 (Kd.R_reads' HR3.out).2.1 A2.out).mono ?_); rintro en w9 ⟨v, rfl, ho, hb⟩; have HO9 := Aside0.mk ho; have HB9 := Aside0.mk hb; clear ho hb))
            go_ret
            exact ⟨v, rfl, Kd.R_lower HO9.out HB3.out.size, ⟨gt, GT.out, blk_below HD3.out HB9.out, HT3.out.below HB9.out⟩, below_then C3.out C3.out.size HB9.out, pk_keepb K3.out ⟨HB9.out.os, HB9.out.tape, HB9.out.output, HB9.out.size, fun k hk => HB9.out.block k (Nat.lt_of_lt_of_le hk HB3.out.size)⟩⟩
  · have h := A0.out
    rw [if_neg hc] at h
    exact absurd h (by simp)
end Go.Proofs.YtfkdocmhbmameaaDoor.Mine
