/- The walks and the plain laws that the rows come to: merged out of this repo's texts. -/
import Derived.Test.YtfkdocmhbmameaaDoorProg
import Derived.Below
import Derived.Deep.Draws
import Derived.Deep.AppendLies
import Derived.Maps.AppendAt
import Derived.OwnWalk
import Derived.Laws.BytesArg
import Derived.Laws.MakeOwn
import Derived.Laws.OwnMore
import Derived.Deep.OwnRows
import Derived.Tactics
import Derived.Lib.ConvBytes
import Derived.Laws.Slices
import Derived.WalkKit
import Derived.KernelRfl
import Derived.RowKit3
import Derived.Deep.LoopGhost
import Derived.Deep.QuietTactic
import Derived.BigQuiet
import Derived.WideLaws
import Derived.Deep.DeepCutAuto
import Derived.Deep.CutBlock
import Derived.Deep.RegionHeld3
import Derived.Laws.Rows
import Derived.Lib.AppendStr
import Derived.ArgAppend
import Derived.Laws.IdiomCopy
import Derived.RowKit
import Derived.OrdersHeld
import Derived.Laws.BitsLemmas
import Derived.Laws.StructEq
import Derived.Laws.CopyOwn
import Derived.SizedLaws
import Derived.ChangeSlices
import Derived.Deep.Slices
import Derived.Lib.SmallJoins
import Derived.Lib.OthersKept
import Derived.Lib.AppendZerosOnto
import Derived.WalkSpells
import Derived.Shelf.Utf8.RuneCount
import Derived.Shelf.Strings.Search1
import Derived.Shelf.Strings.Search2
import Derived.Shelf.Strings.Search3
import Derived.Shelf.Strings.Cut
import Derived.Shelf.Strings.Count
import Derived.Shelf.LaysM
import Derived.Shelf.Strings.Shaped
import Derived.Shelf.Strings.Split
import Derived.Shelf.Strings.SplitShaped
import Derived.Shelf.Unicode.Decode
import Derived.Shelf.Strings.RuneCount
import Derived.Shelf.Strings.Explode
import Derived.Shelf.Unicode.DecodeSlow
import Derived.Shelf.Unicode.DecodeAny
import Derived.Recover
import Derived.WalkLawsBesides
import Derived.Laws.BitsAllLaws
import Derived.Test.YtfkdocmhbmameaaDoorCV1
import Derived.Test.YtfkdocmhbmameaaDoorCV2
import Derived.Test.YtfkdocmhbmameaaDoorCV3
import Derived.Test.YtfkdocmhbmameaaDoorCV4
import Derived.Test.YtfkdocmhbmameaaDoorCV6
import Derived.Test.YtfkdocmhbmameaaDoorCV7
import Derived.Test.YtfkdocmhbmameaaDoorCV8
import Derived.Test.YtfkdocmhbmameaaDoorCV10
import Derived.Test.YtfkdocmhbmameaaDoorCV12
import Derived.Test.YtfkdocmhbmameaaDoorCV13
import Derived.Test.YtfkdocmhbmameaaDoorCV14
import Derived.Test.YtfkdocmhbmameaaDoorCV15
import Derived.Test.YtfkdocmhbmameaaDoorCV16
import Derived.Test.YtfkdocmhbmameaaDoorCV17
import Derived.Test.YtfkdocmhbmameaaDoorCV18
import Derived.Test.YtfkdocmhbmameaaDoorCV19
import Derived.Test.YtfkdocmhbmameaaDoorCV20
import Derived.Test.YtfkdocmhbmameaaDoorCV21
import Derived.Test.YtfkdocmhbmameaaDoorCV24
import Derived.Test.YtfkdocmhbmameaaDoorCV25
namespace Go.Proofs.YtfkdocmhbmameaaDoor.Pure
open Go.RowKit Go.Proofs.YtfkdocmhbmameaaDoor.Mine Go.Proofs.YtfkdocmhbmameaaDoorW.PrintWords Go.Proofs.YtfkdocmhbmameaaDoorW.PrintLast Go.Proofs.YtfkdocmhbmameaaDoorW.PrintMore
set_option linter.unusedVariables false
theorem PT_len {t : ByteArray} {x : List Int} (h : PT t x) : x.length ≤ t.size + 11 := by
  rcases h with ⟨o, h1, h2, h3⟩ | h
  · have := encI_len 128 (ful 7) (o.length : Int)
    rw [h3, List.length_append]
    omega
  · have := encI_len 0 (ful 7) (t.size : Int)
    rw [h, List.length_append, bytesOf_length]
    omega
theorem PL_len {nm vl : ByteArray} {first bits n : Int} {x : List Int} (hn : nm.size ≤ 3000) (hv : vl.size ≤ 3000) (h : PL nm vl first bits n x) : 1 ≤ x.length ∧ x.length ≤ 6033 := by
  obtain ⟨u, v, h1, h2, h3, h4⟩ := h
  have e := encI_len first (ful bits) n
  have e2 := PT_len h2
  have e3 : u.length ≤ 3011 := by
    by_cases hz : n = 0
    · have := PT_len (h3 hz)
      omega
    · rw [h4 hz]
      simp
  rw [h1, List.length_append, List.length_append]
  omega
theorem PF_len {m : M} {f : FP} {x : List Int} (hf : Sml f) (h : PF m f x) : 1 ≤ x.length ∧ x.length ≤ 6033 := by
  unfold PF at h
  split at h
  · exact PL_len hf.1 hf.2 h
  · split at h
    · have := encI_len 128 (ful 7) (fdM m f.f0 f.f1).1
      rw [h]
      omega
    · split at h
      · exact PL_len hf.1 hf.2 h
      · exact PL_len hf.1 hf.2 h
end Go.Proofs.YtfkdocmhbmameaaDoor.Pure
