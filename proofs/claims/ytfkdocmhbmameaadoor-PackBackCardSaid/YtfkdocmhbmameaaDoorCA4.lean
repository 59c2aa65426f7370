/- The walks and the plain laws that the rows come to: merged out of this repo's texts. -/
import Derived.Test.YtfkdocmhbmameaaDoorProg
import Derived.Below
import Derived.Deep.Draws
import Derived.Deep.AppendLies
import Derived.Maps.AppendAt
import Derived.OwnWalk
import Derived.Laws.BytesArg
import Derived.Laws.MakeOwn
import Derived.Laws.OwnMore
import Derived.Deep.OwnRows
import Derived.Tactics
import Derived.Lib.ConvBytes
import Derived.Laws.Slices
import Derived.WalkKit
import Derived.KernelRfl
import Derived.RowKit3
import Derived.Deep.LoopGhost
import Derived.Deep.QuietTactic
import Derived.BigQuiet
import Derived.WideLaws
import Derived.Deep.DeepCutAuto
import Derived.Deep.CutBlock
import Derived.Deep.RegionHeld3
import Derived.Laws.Rows
import Derived.Lib.AppendStr
import Derived.ArgAppend
import Derived.Laws.IdiomCopy
import Derived.RowKit
import Derived.OrdersHeld
import Derived.Laws.BitsLemmas
import Derived.Laws.StructEq
import Derived.Laws.CopyOwn
import Derived.SizedLaws
import Derived.ChangeSlices
import Derived.Deep.Slices
import Derived.Lib.SmallJoins
import Derived.Lib.OthersKept
import Derived.Lib.AppendZerosOnto
import Derived.WalkSpells
import Derived.Shelf.Utf8.RuneCount
import Derived.Shelf.Strings.Search1
import Derived.Shelf.Strings.Search2
import Derived.Shelf.Strings.Search3
import Derived.Shelf.Strings.Cut
import Derived.Shelf.Strings.Count
import Derived.Shelf.LaysM
import Derived.Shelf.Strings.Shaped
import Derived.Shelf.Strings.Split
import Derived.Shelf.Strings.SplitShaped
import Derived.Shelf.Unicode.Decode
import Derived.Shelf.Strings.RuneCount
import Derived.Shelf.Strings.Explode
import Derived.Shelf.Unicode.DecodeSlow
import Derived.Shelf.Unicode.DecodeAny
import Derived.Test.YtfkdocmhbmameaaDoorCA1
import Derived.Test.YtfkdocmhbmameaaDoorCA2
import Derived.Test.YtfkdocmhbmameaaDoorCA3
namespace Go.Proofs.YtfkdocmhbmameaaDoor.Mine
open Go.RowKit Go.Proofs Go.Proofs.YtfkdocmhbmameaaDoorW.PrintWords Go.Proofs.YtfkdocmhbmameaaDoorW.PrintLast Go.Proofs.YtfkdocmhbmameaaDoorW.PrintMore
attribute [local go_sem] max2_int min2_int max_two min_two max_three min_three max_four min_four
set_option linter.unusedVariables false
set_option linter.unusedSimpArgs false
set_option maxHeartbeats 4000000 in
set_option maxRecDepth 100000 in
theorem up_entry_ok (g gt : Nat) (s nm vl : ByteArray) (at_ n : Int) (t : TB) (w0 w : World) (hI : IsB w g gt s at_) (hT : IsS77 w0 w gt t) (hl : t.l.length < 4398046511104) (hf : t.fx.length < 4398046511104) (h0 : 0 ≤ n) (hn : n ≤ 9223372036854775807) (h : tbAt t.fx t.l n = (nm, vl, true)) :
    Calls Tryd.prog 63 #[.pointer (some ⟨g, 0, none⟩), .int .u64 n] w fun en w' => en = .returned (.tuple #[.string nm, .string vl]) ∧ Below w.heap.size w w' := by
  have A3 := Aside0.mk h
  have HT := Aside0.mk hT.1
  have HL := Aside0.mk hl
  have HF := Aside0.mk hf
  have HN := Aside0.mk hn
  have c0 := hI.c0
  have hw : wrap64 n = n := tb_wrap n (by omega) hn
  clear h hI hT hl hf
  go_enter Tryd.func63, Tryd.ntmps63
  go_wp2_with (first | (go_at_call 33; (with_reducible refine (tb_at14 gt _ _ n _ _ w0 _ HT.out HL.out HF.out HN.out).mono ?_); rintro en w' ⟨rfl, hb⟩; rw [A3.out]; have HD := Aside0.mk hb; clear hb))
  go_ret2
  exact ⟨rfl, HD.out⟩
set_option maxHeartbeats 4000000 in
set_option maxRecDepth 100000 in
theorem up_entry_no (g gt : Nat) (s nm vl : ByteArray) (at_ n : Int) (t : TB) (w0 w : World) (hI : IsB w g gt s at_) (hT : IsS77 w0 w gt t) (hl : t.l.length < 4398046511104) (hf : t.fx.length < 4398046511104) (h0 : 0 ≤ n) (hn : n ≤ 9223372036854775807) (h : tbAt t.fx t.l n = (nm, vl, false)) :
    Calls Tryd.prog 63 #[.pointer (some ⟨g, 0, none⟩), .int .u64 n] w fun en w' => en = UP 92 ∧ Below w.heap.size w w' := by
  have A3 := Aside0.mk h
  have HT := Aside0.mk hT.1
  have HL := Aside0.mk hl
  have HF := Aside0.mk hf
  have HN := Aside0.mk hn
  have c0 := hI.c0
  have hw : wrap64 n = n := tb_wrap n (by omega) hn
  clear h hI hT hl hf
  go_enter Tryd.func63, Tryd.ntmps63
  go_wp2_with (first | (go_at_call 33; (with_reducible refine (tb_at14 gt _ _ n _ _ w0 _ HT.out HL.out HF.out HN.out).mono ?_); rintro en w' ⟨rfl, hb⟩; rw [A3.out]; have HD := Aside0.mk hb; clear hb))
  exact ⟨rfl, rfl, HD.out⟩
end Go.Proofs.YtfkdocmhbmameaaDoor.Mine
