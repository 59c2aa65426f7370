/- The walks and the plain laws that the rows come to: merged out of this repo's texts. -/
import Derived.Test.YtfkdocmhbmameaaDoorProg
import Derived.Below
import Derived.Deep.Draws
import Derived.Deep.AppendLies
import Derived.Maps.AppendAt
import Derived.OwnWalk
import Derived.Laws.BytesArg
import Derived.Laws.MakeOwn
import Derived.Laws.OwnMore
import Derived.Deep.OwnRows
import Derived.Tactics
import Derived.Lib.ConvBytes
import Derived.Laws.Slices
import Derived.WalkKit
import Derived.KernelRfl
import Derived.RowKit3
import Derived.Deep.LoopGhost
import Derived.Deep.QuietTactic
import Derived.BigQuiet
import Derived.WideLaws
import Derived.Deep.DeepCutAuto
import Derived.Deep.CutBlock
import Derived.Deep.RegionHeld3
import Derived.Laws.Rows
import Derived.Lib.AppendStr
import Derived.ArgAppend
import Derived.Laws.IdiomCopy
import Derived.RowKit
import Derived.OrdersHeld
import Derived.Laws.BitsLemmas
import Derived.Laws.StructEq
import Derived.Laws.CopyOwn
import Derived.SizedLaws
import Derived.ChangeSlices
import Derived.Deep.Slices
import Derived.Lib.SmallJoins
import Derived.Lib.OthersKept
import Derived.Lib.AppendZerosOnto
import Derived.WalkSpells
import Derived.Shelf.Utf8.RuneCount
import Derived.Shelf.Strings.Search1
import Derived.Shelf.Strings.Search2
import Derived.Shelf.Strings.Search3
import Derived.Shelf.Strings.Cut
import Derived.Shelf.Strings.Count
import Derived.Shelf.LaysM
import Derived.Shelf.Strings.Shaped
import Derived.Shelf.Strings.Split
import Derived.Shelf.Strings.SplitShaped
import Derived.Shelf.Unicode.Decode
import Derived.Shelf.Strings.RuneCount
import Derived.Shelf.Strings.Explode
import Derived.Shelf.Unicode.DecodeSlow
import Derived.Shelf.Unicode.DecodeAny
import Derived.Test.YtfkdocmhbmameaaDoorCV1
import Derived.Test.YtfkdocmhbmameaaDoorCV2
import Derived.Test.YtfkdocmhbmameaaDoorCV10
import Derived.Test.YtfkdocmhbmameaaDoorCV12
namespace Go.Proofs.YtfkdocmhbmameaaDoor.Mine
open Go.RowKit Go.Proofs Go.Proofs.YtfkdocmhbmameaaDoorW.PrintWords Go.Proofs.YtfkdocmhbmameaaDoorW.PrintLast Go.Proofs.YtfkdocmhbmameaaDoorW.PrintMore
attribute [local go_sem] max2_int min2_int max_two min_two max_three min_three max_four min_four
set_option linter.unusedVariables false
set_option linter.unusedSimpArgs false
theorem tb_most (g : Nat) (most size : Int) (l fx : List S103) (w0 w : World) (hI : IsT w0 w g most size l fx) : Calls Tryd.prog 30 #[.pointer (some ⟨g, 0, none⟩)] w fun en w' => en = .returned (.int .i64 most) ∧ Below w.heap.size w w' := by
  have hu_57_ := Tryd.underlying77
  obtain ⟨A, c, B, d, k1, _⟩ := hI
  have z0 : w.cell? ⟨g, 0, none⟩ = some (.int .i64 most) := (blk_cell k1 0).trans rfl
  go_enter Tryd.func30, Tryd.ntmps30
  go_wp2
  go_ret
  exact ⟨rfl, Below.refl _ _⟩
theorem tb_getsize (g : Nat) (most size : Int) (l fx : List S103) (w0 w : World) (hI : IsT w0 w g most size l fx) : Calls Tryd.prog 14 #[.pointer (some ⟨g, 0, none⟩)] w fun en w' => en = .returned (.int .i64 size) ∧ Below w.heap.size w w' := by
  have hu_57_ := Tryd.underlying77
  obtain ⟨A, c, B, d, k1, _⟩ := hI
  have z1 : w.cell? ⟨g, 1, none⟩ = some (.int .i64 size) := (blk_cell k1 1).trans rfl
  go_enter Tryd.func14, Tryd.ntmps14
  go_wp2
  go_ret
  exact ⟨rfl, Below.refl _ _⟩
theorem tb_getlen (g : Nat) (most size : Int) (l fx : List S103) (w0 w : World) (hI : IsT w0 w g most size l fx) : Calls Tryd.prog 31 #[.pointer (some ⟨g, 0, none⟩)] w fun en w' => en = .returned (.int .i64 l.length) ∧ Below w.heap.size w w' := by
  have hu_57_ := Tryd.underlying77
  obtain ⟨A, c, B, d, k1, _⟩ := hI
  have z2 : w.cell? ⟨g, 2, none⟩ = some (.slice A l.length c) := (blk_cell k1 2).trans rfl
  go_enter Tryd.func31, Tryd.ntmps31
  go_wp2
  go_ret
  exact ⟨rfl, Below.refl _ _⟩
set_option maxHeartbeats 4000000 in
set_option maxRecDepth 100000 in
theorem tb_copy (g : Nat) (most size : Int) (l fx : List S103) (w0 w : World) (hI : IsT w0 w g most size l fx) (hl : l.length < 4398046511104) : Calls Tryd.prog 37 #[.pointer (some ⟨g, 0, none⟩)] w fun en w' => ∃ g2, en = .returned (.pointer (some ⟨g2, 0, none⟩)) ∧ w.heap.size ≤ g2 ∧ IsT w0 w' g2 most size l fx ∧ Below w.heap.size w w' ∧ w'.cell? ⟨g2, 3, none⟩ = w.cell? ⟨g, 3, none⟩ ∧ ∃ v, w'.cell? ⟨g2, 2, none⟩ = some v ∧ TyV w' v := by
  have hu_57_ := Tryd.underlying77
  have HB := Aside0.mk (Nat.le_of_lt (Nat.lt_of_le_of_lt hI.ge hI.lt))
  have HL := Aside0.mk hl
  obtain ⟨A, c, B, d, k1, k2, k3, k4, k5, k6⟩ := hI
  have z0 : w.cell? ⟨g, 0, none⟩ = some (.int .i64 most) := (blk_cell k1 0).trans rfl
  have z1 : w.cell? ⟨g, 1, none⟩ = some (.int .i64 size) := (blk_cell k1 1).trans rfl
  have z2 : w.cell? ⟨g, 2, none⟩ = some (.slice A l.length c) := (blk_cell k1 2).trans rfl
  have z3 : w.cell? ⟨g, 3, none⟩ = some (.slice B fx.length d) := (blk_cell k1 3).trans rfl
  have K5 := Aside0.mk k5
  have K6 := Aside0.mk k6
  have K1 := Aside0.mk k1
  have K2 := Aside0.mk k2
  have K3 := Aside0.mk k3
  have K4 := Aside0.mk k4
  clear hl k1 k2 k3 k4 k5 k6
  go_enter Tryd.func37, Tryd.ntmps37
  go_wp2
  go_region_with (first | (go_at_call 56; refine (tb_Clone.calls A c l l _ (Kd.C_below K5.out (below_drew1 (Below.refl w.heap.size w))) K3.out (by unfold tb_Clone.f; rw [if_pos HL.out])).mono ?_; rintro e w1 ⟨v, rfl, ho, hb⟩; obtain ⟨A9, c9, rfl⟩ := Kd.R_slice ho; have HO := Aside0.mk ho; have HD := Aside0.mk (below_step (below_drew1 (Below.refl w.heap.size w)) hb); clear ho hb; have z0' : w1.cell? ⟨g, 0, none⟩ = some (.int .i64 most) := (HD.out.cell (World.block_lt_of_cell? _ _ z0)).trans z0; have z1' : w1.cell? ⟨g, 1, none⟩ = some (.int .i64 size) := (HD.out.cell (World.block_lt_of_cell? _ _ z1)).trans z1; have z3' : w1.cell? ⟨g, 3, none⟩ = some (.slice B fx.length d) := (HD.out.cell (World.block_lt_of_cell? _ _ z3)).trans z3))
  all_goals
    have HR9 := Kd.R_reads' HO.out
    have HA := Aside0.mk (below_alloc (Below.refl w1.heap.size w1) (.cells #[.int .i64 most, .int .i64 size, .slice A9 l.length c9, .slice B fx.length d] 77))
    have C9 := Aside0.mk (Kd.C_below HR9.2.2 HA.out)
    have C6 := Aside0.mk (Kd.C_below (Kd.C_below K6.out HD.out) HA.out)
    have L9 := Aside0.mk HR9.2.1
    have BN := Aside0.mk (blk_new w1 (.cells #[.int .i64 most, .int .i64 size, .slice A9 l.length c9, .slice B fx.length d] 77))
    have HS := Aside0.mk (Nat.le_trans HB.out HD.out.size)
    have HW := Aside0.mk (HD.out.size)
    have HF := Aside0.mk (below_step HD.out HA.out)
    have HT9 := Aside0.mk (TyV.below (TyV.ofR HO.out) HA.out)
    have H39 := Aside0.mk (((blk_cell BN.out 3).trans rfl : _ = some (Value.slice B fx.length d)).trans z3.symm)
    have H29 := Aside0.mk ((blk_cell BN.out 2).trans rfl : _ = some (Value.slice A9 l.length c9))
    clear HR9 z0' z1' z3'
    go_wp2
    first | go_ret | go_end0
    exact ⟨_, rfl, HW.out, ⟨A9, c9, B, d, BN.out, HS.out, L9.out, K4.out, C9.out, C6.out⟩, HF.out, H39.out, _, H29.out, HT9.out⟩
end Go.Proofs.YtfkdocmhbmameaaDoor.Mine
