/- The walks and the plain laws that the row comes to: merged out of this repo's texts. -/
import Derived.Test.YtfkdocmhbmameaaDoorProg
import Derived.Below
import Derived.Deep.Draws
import Derived.Deep.AppendLies
import Derived.Maps.AppendAt
import Derived.OwnWalk
import Derived.Laws.BytesArg
import Derived.Laws.MakeOwn
import Derived.Laws.OwnMore
import Derived.Deep.OwnRows
import Derived.Tactics
import Derived.Lib.ConvBytes
import Derived.Laws.Slices
import Derived.WalkKit
import Derived.KernelRfl
import Derived.RowKit3
import Derived.Deep.LoopGhost
import Derived.Deep.QuietTactic
import Derived.BigQuiet
import Derived.WideLaws
import Derived.Deep.DeepCutAuto
import Derived.Deep.CutBlock
import Derived.Deep.RegionHeld3
import Derived.Laws.Rows
import Derived.Lib.AppendStr
import Derived.ArgAppend
import Derived.Laws.IdiomCopy
import Derived.RowKit
import Derived.OrdersHeld
import Derived.Laws.BitsLemmas
import Derived.Laws.StructEq
import Derived.Laws.CopyOwn
import Derived.SizedLaws
import Derived.ChangeSlices
import Derived.Deep.Slices
import Derived.Lib.SmallJoins
import Derived.Lib.OthersKept
import Derived.Lib.AppendZerosOnto
import Derived.WalkSpells
import Derived.Shelf.Utf8.RuneCount
import Derived.Shelf.Strings.Search1
import Derived.Shelf.Strings.Search2
import Derived.Shelf.Strings.Search3
import Derived.Shelf.Strings.Cut
import Derived.Shelf.Strings.Count
import Derived.Shelf.LaysM
import Derived.Shelf.Strings.Shaped
import Derived.Shelf.Strings.Split
import Derived.Shelf.Strings.SplitShaped
import Derived.Shelf.Unicode.Decode
import Derived.Shelf.Strings.RuneCount
import Derived.Shelf.Strings.Explode
import Derived.Shelf.Unicode.DecodeSlow
import Derived.Shelf.Unicode.DecodeAny
import Derived.Test.YtfkdocmhbmameaaDoorCUnpackReads1
import Derived.Test.YtfkdocmhbmameaaDoorCUnpackReads2
import Derived.Test.YtfkdocmhbmameaaDoorCUnpackReads3
namespace Go.Proofs.YtfkdocmhbmameaaDoor.Mine
open Go.RowKit Go.Proofs Go.Proofs.YtfkdocmhbmameaaDoorW.PrintWords Go.Proofs.YtfkdocmhbmameaaDoorW.PrintLast Go.Proofs.YtfkdocmhbmameaaDoorW.PrintMore
attribute [local go_sem] max2_int min2_int max_two min_two max_three min_three max_four min_four
set_option linter.unusedVariables false
set_option linter.unusedSimpArgs false
set_option maxHeartbeats 2000000 in
set_option maxRecDepth 100000 in
theorem tb_resize (g : Nat) (most size n : Int) (l fx : List S103) (w0 w : World) (hI : IsT w0 w g most size l fx) (hB : Below w0.heap.size w0 w) (hl : l.length < 4398046511104) :
    Calls Tryd.prog 39 #[.pointer (some ⟨g, 0, none⟩), .int .i64 n] w fun en w' => en = .returned (.tuple #[]) ∧ IsT w0 w' g (mx n 0) (tbFit (wrap64 (mx n 0 - 0)) size l).1 (tbFit (wrap64 (mx n 0 - 0)) size l).2 fx ∧ Below w0.heap.size w0 w' ∧ KeepBut w w' g none ∧ w'.cell? ⟨g, 3, none⟩ = w.cell? ⟨g, 3, none⟩ ∧ ∃ v, w'.cell? ⟨g, 2, none⟩ = some v ∧ TyV w' v := by
  have HI := Aside0.mk hI
  have HB := Aside0.mk hB
  have HL := Aside0.mk hl
  have hu_57_ := Tryd.underlying77
  clear hI hB hl
  obtain ⟨M, hM⟩ : ∃ x, mx n 0 = x := ⟨_, rfl⟩
  have hM_ : (if n < 0 then 0 else n) = M := hM
  rw [hM]
  clear hM
  obtain ⟨A, c, B, d, k1, k2, k3, k4, k5, k6⟩ := HI.out
  have z0 : w.cell? ⟨g, 0, none⟩ = some (.int .i64 most) := (blk_cell k1 0).trans rfl
  have f0 := blk_frozen k1 0
  go_enter Tryd.func39, Tryd.ntmps39
  go_upto_region 1 with fail
  have HI2 := Aside0.mk (HI.out.set0 M)
  have HB2 := Aside0.mk (below_set (g := g) (j := 0) (v := .int .i64 M) HB.out k2)
  have HK2 := Aside0.mk (tb_keeps (j := 0) (v := .int .i64 M) (KeepBut.refl w g none))
  have H3 := Aside0.mk (show (w.setCell ⟨g, 0, none⟩ (.int .i64 M)).cell? ⟨g, 3, none⟩ = w.cell? ⟨g, 3, none⟩ from (blk_cell (blk_put k1 0 (.int .i64 M) rfl) 3).trans (blk_cell k1 3).symm)
  clear z0 f0 k1 k2 k3 k4 k5 k6 HI HB
  generalize w.setCell ⟨g, 0, none⟩ (.int .i64 M) = w1 at HI2 HB2 HK2 H3 ⊢
  go_wp2_with (first | (go_at_call 57; (with_reducible refine (tb_fit g M size 0 l fx w0 _ HI2.out HB2.out HL.out).mono ?_); rintro en w2 ⟨rfl, hi, hb, hk, h3, v, hv, hr⟩; have HI3 := Aside0.mk hi; have HB3 := Aside0.mk hb; have HK3 := Aside0.mk (tb_keep2 HK2.out hk); have H33 := Aside0.mk (h3.trans H3.out); have HV3 := Aside0.mk hv; have HT3 := Aside0.mk (TyV.ofR hr); clear hi hb hk h3 hv hr))
  go_end0
  exact ⟨rfl, HI3.out, HB3.out, HK3.out, H33.out, v, HV3.out, HT3.out⟩
end Go.Proofs.YtfkdocmhbmameaaDoor.Mine
