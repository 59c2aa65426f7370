/- The walks and the plain laws that the row comes to: merged out of this repo's texts. -/
import Derived.Test.YtfkdocmhbmameaaDoorProg
import Derived.Below
import Derived.Deep.Draws
import Derived.Deep.AppendLies
import Derived.Maps.AppendAt
import Derived.OwnWalk
import Derived.Laws.BytesArg
import Derived.Laws.MakeOwn
import Derived.Laws.OwnMore
import Derived.Deep.OwnRows
import Derived.Tactics
import Derived.Lib.ConvBytes
import Derived.Laws.Slices
import Derived.WalkKit
import Derived.KernelRfl
import Derived.RowKit3
import Derived.Deep.LoopGhost
import Derived.Deep.QuietTactic
import Derived.BigQuiet
import Derived.WideLaws
import Derived.Deep.DeepCutAuto
import Derived.Deep.CutBlock
import Derived.Deep.RegionHeld3
import Derived.Laws.Rows
import Derived.Lib.AppendStr
import Derived.ArgAppend
import Derived.Laws.IdiomCopy
import Derived.RowKit
import Derived.OrdersHeld
import Derived.Laws.BitsLemmas
import Derived.Laws.StructEq
import Derived.Laws.CopyOwn
import Derived.SizedLaws
import Derived.ChangeSlices
import Derived.Deep.Slices
import Derived.Lib.SmallJoins
import Derived.Lib.OthersKept
import Derived.Lib.AppendZerosOnto
import Derived.WalkSpells
import Derived.Shelf.Utf8.RuneCount
import Derived.Shelf.Strings.Search1
import Derived.Shelf.Strings.Search2
import Derived.Shelf.Strings.Search3
import Derived.Shelf.Strings.Cut
import Derived.Shelf.Strings.Count
import Derived.Shelf.LaysM
import Derived.Shelf.Strings.Shaped
import Derived.Shelf.Strings.Split
import Derived.Shelf.Strings.SplitShaped
import Derived.Shelf.Unicode.Decode
import Derived.Shelf.Strings.RuneCount
import Derived.Shelf.Strings.Explode
import Derived.Shelf.Unicode.DecodeSlow
import Derived.Shelf.Unicode.DecodeAny
import Derived.Recover
import Derived.WalkLawsBesides
import Derived.Test.YtfkdocmhbmameaaDoorCUnpackReads1
import Derived.Test.YtfkdocmhbmameaaDoorCUnpackReads2
import Derived.Test.YtfkdocmhbmameaaDoorCUnpackReads3
import Derived.Test.YtfkdocmhbmameaaDoorCUnpackReads4
import Derived.Test.YtfkdocmhbmameaaDoorCUnpackReads5
import Derived.Test.YtfkdocmhbmameaaDoorCUnpackReads6
import Derived.Test.YtfkdocmhbmameaaDoorCUnpackReads7
import Derived.Test.YtfkdocmhbmameaaDoorCUnpackReads8
import Derived.Test.YtfkdocmhbmameaaDoorCUnpackReads9
import Derived.Test.YtfkdocmhbmameaaDoorCUnpackReads10
import Derived.Test.YtfkdocmhbmameaaDoorCUnpackReads11
import Derived.Test.YtfkdocmhbmameaaDoorCUnpackReads12
import Derived.Test.YtfkdocmhbmameaaDoorCUnpackReads13
import Derived.Test.YtfkdocmhbmameaaDoorCUnpackReads14
import Derived.Test.YtfkdocmhbmameaaDoorCUnpackReads15
import Derived.Test.YtfkdocmhbmameaaDoorCUnpackReads16
import Derived.Test.YtfkdocmhbmameaaDoorCUnpackReads17
import Derived.Test.YtfkdocmhbmameaaDoorCUnpackReads18
namespace Go.Proofs.YtfkdocmhbmameaaDoor.Mine
open Go.RowKit Go.Proofs Go.Proofs.YtfkdocmhbmameaaDoorW.PrintWords Go.Proofs.YtfkdocmhbmameaaDoorW.PrintLast Go.Proofs.YtfkdocmhbmameaaDoorW.PrintMore
def awL : List S103 := [⟨⟨#[58, 97, 117, 116, 104, 111, 114, 105, 116, 121]⟩, ⟨#[]⟩⟩, ⟨⟨#[58, 109, 101, 116, 104, 111, 100]⟩, ⟨#[71, 69, 84]⟩⟩, ⟨⟨#[58, 109, 101, 116, 104, 111, 100]⟩, ⟨#[80, 79, 83, 84]⟩⟩, ⟨⟨#[58, 112, 97, 116, 104]⟩, ⟨#[47]⟩⟩, ⟨⟨#[58, 112, 97, 116, 104]⟩, ⟨#[47, 105, 110, 100, 101, 120, 46, 104, 116, 109, 108]⟩⟩, ⟨⟨#[58, 115, 99, 104, 101, 109, 101]⟩, ⟨#[104, 116, 116, 112]⟩⟩, ⟨⟨#[58, 115, 99, 104, 101, 109, 101]⟩, ⟨#[104, 116, 116, 112, 115]⟩⟩, ⟨⟨#[58, 115, 116, 97, 116, 117, 115]⟩, ⟨#[50, 48, 48]⟩⟩, ⟨⟨#[58, 115, 116, 97, 116, 117, 115]⟩, ⟨#[50, 48, 52]⟩⟩, ⟨⟨#[58, 115, 116, 97, 116, 117, 115]⟩, ⟨#[50, 48, 54]⟩⟩, ⟨⟨#[58, 115, 116, 97, 116, 117, 115]⟩, ⟨#[51, 48, 52]⟩⟩, ⟨⟨#[58, 115, 116, 97, 116, 117, 115]⟩, ⟨#[52, 48, 48]⟩⟩, ⟨⟨#[58, 115, 116, 97, 116, 117, 115]⟩, ⟨#[52, 48, 52]⟩⟩, ⟨⟨#[58, 115, 116, 97, 116, 117, 115]⟩, ⟨#[53, 48, 48]⟩⟩, ⟨⟨#[97, 99, 99, 101, 112, 116, 45, 99, 104, 97, 114, 115, 101, 116]⟩, ⟨#[]⟩⟩, ⟨⟨#[97, 99, 99, 101, 112, 116, 45, 101, 110, 99, 111, 100, 105, 110, 103]⟩, ⟨#[103, 122, 105, 112, 44, 32, 100, 101, 102, 108, 97, 116, 101]⟩⟩, ⟨⟨#[97, 99, 99, 101, 112, 116, 45, 108, 97, 110, 103, 117, 97, 103, 101]⟩, ⟨#[]⟩⟩, ⟨⟨#[97, 99, 99, 101, 112, 116, 45, 114, 97, 110, 103, 101, 115]⟩, ⟨#[]⟩⟩, ⟨⟨#[97, 99, 99, 101, 112, 116]⟩, ⟨#[]⟩⟩, ⟨⟨#[97, 99, 99, 101, 115, 115, 45, 99, 111, 110, 116, 114, 111, 108, 45, 97, 108, 108, 111, 119, 45, 111, 114, 105, 103, 105, 110]⟩, ⟨#[]⟩⟩, ⟨⟨#[97, 103, 101]⟩, ⟨#[]⟩⟩, ⟨⟨#[97, 108, 108, 111, 119]⟩, ⟨#[]⟩⟩, ⟨⟨#[97, 117, 116, 104, 111, 114, 105, 122, 97, 116, 105, 111, 110]⟩, ⟨#[]⟩⟩, ⟨⟨#[99, 97, 99, 104, 101, 45, 99, 111, 110, 116, 114, 111, 108]⟩, ⟨#[]⟩⟩, ⟨⟨#[99, 111, 110, 116, 101, 110, 116, 45, 100, 105, 115, 112, 111, 115, 105, 116, 105, 111, 110]⟩, ⟨#[]⟩⟩, ⟨⟨#[99, 111, 110, 116, 101, 110, 116, 45, 101, 110, 99, 111, 100, 105, 110, 103]⟩, ⟨#[]⟩⟩, ⟨⟨#[99, 111, 110, 116, 101, 110, 116, 45, 108, 97, 110, 103, 117, 97, 103, 101]⟩, ⟨#[]⟩⟩, ⟨⟨#[99, 111, 110, 116, 101, 110, 116, 45, 108, 101, 110, 103, 116, 104]⟩, ⟨#[]⟩⟩, ⟨⟨#[99, 111, 110, 116, 101, 110, 116, 45, 108, 111, 99, 97, 116, 105, 111, 110]⟩, ⟨#[]⟩⟩, ⟨⟨#[99, 111, 110, 116, 101, 110, 116, 45, 114, 97, 110, 103, 101]⟩, ⟨#[]⟩⟩, ⟨⟨#[99, 111, 110, 116, 101, 110, 116, 45, 116, 121, 112, 101]⟩, ⟨#[]⟩⟩, ⟨⟨#[99, 111, 111, 107, 105, 101]⟩, ⟨#[]⟩⟩, ⟨⟨#[100, 97, 116, 101]⟩, ⟨#[]⟩⟩, ⟨⟨#[101, 116, 97, 103]⟩, ⟨#[]⟩⟩, ⟨⟨#[101, 120, 112, 101, 99, 116]⟩, ⟨#[]⟩⟩, ⟨⟨#[101, 120, 112, 105, 114, 101, 115]⟩, ⟨#[]⟩⟩, ⟨⟨#[102, 114, 111, 109]⟩, ⟨#[]⟩⟩, ⟨⟨#[104, 111, 115, 116]⟩, ⟨#[]⟩⟩, ⟨⟨#[105, 102, 45, 109, 97, 116, 99, 104]⟩, ⟨#[]⟩⟩, ⟨⟨#[105, 102, 45, 109, 111, 100, 105, 102, 105, 101, 100, 45, 115, 105, 110, 99, 101]⟩, ⟨#[]⟩⟩, ⟨⟨#[105, 102, 45, 110, 111, 110, 101, 45, 109, 97, 116, 99, 104]⟩, ⟨#[]⟩⟩, ⟨⟨#[105, 102, 45, 114, 97, 110, 103, 101]⟩, ⟨#[]⟩⟩, ⟨⟨#[105, 102, 45, 117, 110, 109, 111, 100, 105, 102, 105, 101, 100, 45, 115, 105, 110, 99, 101]⟩, ⟨#[]⟩⟩, ⟨⟨#[108, 97, 115, 116, 45, 109, 111, 100, 105, 102, 105, 101, 100]⟩, ⟨#[]⟩⟩, ⟨⟨#[108, 105, 110, 107]⟩, ⟨#[]⟩⟩, ⟨⟨#[108, 111, 99, 97, 116, 105, 111, 110]⟩, ⟨#[]⟩⟩, ⟨⟨#[109, 97, 120, 45, 102, 111, 114, 119, 97, 114, 100, 115]⟩, ⟨#[]⟩⟩, ⟨⟨#[112, 114, 111, 120, 121, 45, 97, 117, 116, 104, 101, 110, 116, 105, 99, 97, 116, 101]⟩, ⟨#[]⟩⟩, ⟨⟨#[112, 114, 111, 120, 121, 45, 97, 117, 116, 104, 111, 114, 105, 122, 97, 116, 105, 111, 110]⟩, ⟨#[]⟩⟩, ⟨⟨#[114, 97, 110, 103, 101]⟩, ⟨#[]⟩⟩, ⟨⟨#[114, 101, 102, 101, 114, 101, 114]⟩, ⟨#[]⟩⟩, ⟨⟨#[114, 101, 102, 114, 101, 115, 104]⟩, ⟨#[]⟩⟩, ⟨⟨#[114, 101, 116, 114, 121, 45, 97, 102, 116, 101, 114]⟩, ⟨#[]⟩⟩, ⟨⟨#[115, 101, 114, 118, 101, 114]⟩, ⟨#[]⟩⟩, ⟨⟨#[115, 101, 116, 45, 99, 111, 111, 107, 105, 101]⟩, ⟨#[]⟩⟩, ⟨⟨#[115, 116, 114, 105, 99, 116, 45, 116, 114, 97, 110, 115, 112, 111, 114, 116, 45, 115, 101, 99, 117, 114, 105, 116, 121]⟩, ⟨#[]⟩⟩, ⟨⟨#[116, 114, 97, 110, 115, 102, 101, 114, 45, 101, 110, 99, 111, 100, 105, 110, 103]⟩, ⟨#[]⟩⟩, ⟨⟨#[117, 115, 101, 114, 45, 97, 103, 101, 110, 116]⟩, ⟨#[]⟩⟩, ⟨⟨#[118, 97, 114, 121]⟩, ⟨#[]⟩⟩, ⟨⟨#[118, 105, 97]⟩, ⟨#[]⟩⟩, ⟨⟨#[119, 119, 119, 45, 97, 117, 116, 104, 101, 110, 116, 105, 99, 97, 116, 101]⟩, ⟨#[]⟩⟩]
def awP (l : List S103) : List (List UInt8 × List UInt8) := l.map fun x => (x.f0.data.toList, x.f1.data.toList)
set_option maxRecDepth 100000 in
theorem awL_parts : awP awL = (tbParts 10 tbText.data.toList).map (fun l => ((Lib.cut l [61]).1, (Lib.cut l [61]).2.1)) := by decide +kernel
theorem awP_inj : ∀ (a b : List S103), awP a = awP b → a = b
  | [], [], _ => rfl
  | [], y :: b, h => by simp [awP] at h
  | x :: a, [], h => by simp [awP] at h
  | x :: a, y :: b, h => by
    simp only [awP, List.map_cons, List.cons.injEq, Prod.mk.injEq] at h
    obtain ⟨⟨h1, h2⟩, h3⟩ := h
    obtain ⟨⟨⟨x0⟩⟩, ⟨⟨x1⟩⟩⟩ := x
    obtain ⟨⟨⟨y0⟩⟩, ⟨⟨y1⟩⟩⟩ := y
    simp only at h1 h2
    subst h1 h2
    rw [awP_inj a b h3]
theorem awFixed : tbFixed = awL := by
  refine awP_inj _ _ ?_
  rw [awL_parts, ← tbPieces_eq, List.map_map]
  unfold tbFixed awP
  rw [List.map_map]
  refine List.map_congr_left (fun x _ => ?_)
  simp [tbCut]
set_option maxRecDepth 100000 in
theorem nunciolaw12_awake_t : ((unpack_New.f).bind fun t391 => ((unpack_Decoder_Read.f 400 t391 (⟨#[130, 134, 132, 65, 15, 119, 119, 119, 46, 101, 120, 97, 109, 112, 108, 101, 46, 99, 111, 109]⟩ : ByteArray)).bind fun bt393 => ((unpack_Decoder_Read.f 400 bt393.2.2 (⟨#[130, 134, 132, 190, 88, 8, 110, 111, 45, 99, 97, 99, 104, 101]⟩ : ByteArray)).bind fun bt398 => (if (bt393.1.length : Int) = 4 then (if bt393.2.1 = 0 then (if 3 < (bt393.1.length : Int) then (if ((rd_T26 bt393.1 3).f1).toList = ([119, 119, 119, 46, 101, 120, 97, 109, 112, 108, 101, 46, 99, 111, 109] : List UInt8) then (if (bt398.1.length : Int) = 5 then (if bt398.2.1 = 0 then (if 3 < (bt398.1.length : Int) then (if ((((rd_T26 bt398.1 3).f0).toList) == (((rd_T26 bt393.1 3).f0).toList) && ((((rd_T26 bt398.1 3).f1).toList) == (((rd_T26 bt393.1 3).f1).toList) && (((rd_T26 bt398.1 3).f2) == ((rd_T26 bt393.1 3).f2)))) = true then (if 4 < (bt398.1.length : Int) then (if ((rd_T26 bt398.1 4).f0).toList = ([99, 97, 99, 104, 101, 45, 99, 111, 110, 116, 114, 111, 108] : List UInt8) then ((unpack_Decoder_Down.f bt398.2.2).bind fun bt407 => (some (!bt407.1))) else (some false)) else (none)) else (some false)) else (none)) else (some false)) else (some false)) else (some false)) else (none)) else (some false)) else (some false))))) = some true := by
  unfold unpack_New.f
  rw [awFixed]
  decide +kernel
end Go.Proofs.YtfkdocmhbmameaaDoor.Mine
