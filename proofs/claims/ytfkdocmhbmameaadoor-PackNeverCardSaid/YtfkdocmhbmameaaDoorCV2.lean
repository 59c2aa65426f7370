/- The walks and the plain laws that the rows come to: merged out of this repo's texts. -/
import Derived.Test.YtfkdocmhbmameaaDoorProg
import Derived.Below
import Derived.Deep.Draws
import Derived.Deep.AppendLies
import Derived.Maps.AppendAt
import Derived.OwnWalk
import Derived.Laws.BytesArg
import Derived.Laws.MakeOwn
import Derived.Laws.OwnMore
import Derived.Deep.OwnRows
import Derived.Tactics
import Derived.Lib.ConvBytes
import Derived.Laws.Slices
import Derived.WalkKit
import Derived.KernelRfl
import Derived.RowKit3
import Derived.Deep.LoopGhost
import Derived.Deep.QuietTactic
import Derived.BigQuiet
import Derived.WideLaws
import Derived.Deep.DeepCutAuto
import Derived.Deep.CutBlock
import Derived.Deep.RegionHeld3
import Derived.Laws.Rows
import Derived.Lib.AppendStr
import Derived.ArgAppend
import Derived.Laws.IdiomCopy
import Derived.RowKit
import Derived.OrdersHeld
import Derived.Laws.BitsLemmas
import Derived.Laws.StructEq
import Derived.Laws.CopyOwn
import Derived.SizedLaws
import Derived.ChangeSlices
import Derived.Deep.Slices
import Derived.Lib.SmallJoins
import Derived.Lib.OthersKept
import Derived.Lib.AppendZerosOnto
import Derived.WalkSpells
import Derived.Test.YtfkdocmhbmameaaDoorCV1
namespace Go.Proofs.YtfkdocmhbmameaaDoor.Mine
open Go.RowKit Go.Proofs.YtfkdocmhbmameaaDoorW.PrintWords Go.Proofs.YtfkdocmhbmameaaDoorW.PrintLast Go.Proofs.YtfkdocmhbmameaaDoorW.PrintMore
attribute [local go_sem] max2_int min2_int max_two min_two max_three min_three max_four min_four
set_option linter.unusedVariables false
set_option linter.unusedSimpArgs false
def errW : Option Int → Value
  | none => .nilIface
  | some c => .iface 0 (.int .i64 c)
theorem errW_none : errW none = .nilIface := rfl
theorem errW_some (c : Int) : errW (some c) = .iface 0 (.int .i64 c) := rfl
theorem info3 : (Tryd.prog.info? 3).map (fun i => (i.zero, i.size, i.bytes)) = some (some (.int .i64 0), 1, 8) := by kernel_rfl
theorem info5 : (Tryd.prog.info? 5).map (fun i => (i.zero, i.size, i.bytes)) = some (some (.int .u8 0), 1, 1) := by kernel_rfl
theorem info26 : (Tryd.prog.info? 26).map (fun i => (i.zero, i.size, i.bytes)) = some (some (.agg #[(.string ⟨#[]⟩), (.string ⟨#[]⟩), (.bool false)]), 3, 40) := by kernel_rfl
theorem info73 : (Tryd.prog.info? 73).map (fun i => (i.zero, i.size, i.bytes)) = some (some (.int .u64 0), 1, 8) := by kernel_rfl
theorem info88 : (Tryd.prog.info? 88).map (fun i => (i.zero, i.size, i.bytes)) = some (some (.agg #[(.string ⟨#[]⟩), (.string ⟨#[]⟩)]), 2, 32) := by kernel_rfl
structure S103 where
  f0 : ByteArray
  f1 : ByteArray
def z103 : S103 := ⟨(⟨#[]⟩ : ByteArray), (⟨#[]⟩ : ByteArray)⟩
def k103 : Kd S103 := Kd.iso (Kd.pair Kd.string Kd.string) (fun x : S103 => (x.f0, x.f1))
theorem k103_open {w : World} {x : S103} {cs : List Value} (h : k103.K w x cs) : cs = [.string x.f0, .string x.f1] := by
  obtain ⟨_, _, rfl, rfl, rfl⟩ := h
  exact rfl
theorem k103_mk (w : World) (x : S103)  : k103.K w x [.string x.f0, .string x.f1] := ⟨[.string x.f0], [.string x.f1], rfl, rfl, rfl⟩
theorem k103_mkM (w : World) (base : Nat) (ok : Nat → Prop) (x : S103)  : k103.M w base ok x [.string x.f0, .string x.f1] := ⟨[.string x.f0], [.string x.f1], rfl, rfl, rfl⟩
def rd_T103 (xs : List S103) (i : Int) : S103 := xs.getD i.toNat z103
theorem at_T103 {w : World} {A : Option Addr} {n : Nat} {xs : List S103} (h : Kd.C k103 w A n xs) (i : Int) (h0 : 0 ≤ i) (h1 : i < n) : ∃ ad , A = some ad ∧ w.cell? (ad.add (i.toNat * 2)) = some (.string (rd_T103 xs i).f0) ∧ w.cell? ⟨(ad.add (i.toNat * 2)).block, (ad.add (i.toNat * 2)).off + 1, none⟩ = some (.string (rd_T103 xs i).f1) := by
  obtain ⟨ad, c, e, _, hK, hc0⟩ := Kd.C_get h z103 i h0 h1
  have hc : ∀ j u, c[j]? = some u → w.cell? (ad.add (i.toNat * 2 + j)) = some u := hc0
  obtain rfl := k103_open hK
  exact ⟨ad, e, hc 0 _ rfl, by rw [← add_field _ _ 1 (by omega)]; exact hc 1 _ rfl⟩
structure S26 where
  f0 : ByteArray
  f1 : ByteArray
  f2 : Bool
def z26 : S26 := ⟨(⟨#[]⟩ : ByteArray), (⟨#[]⟩ : ByteArray), false⟩
def k26 : Kd S26 := Kd.iso (Kd.pair Kd.string (Kd.pair Kd.string Kd.bool)) (fun x : S26 => (x.f0, x.f1, x.f2))
theorem k26_heap : Kd.Heap k26 := Kd.heap_iso _ (Kd.heap_pair Kd.heap_string (Kd.heap_pair Kd.heap_string Kd.heap_bool))
theorem k26_open {w : World} {x : S26} {cs : List Value} (h : k26.K w x cs) : cs = [.string x.f0, .string x.f1, .bool x.f2] := by
  obtain ⟨_, _, rfl, rfl, ⟨_, _, rfl, rfl, rfl⟩⟩ := h
  exact rfl
theorem k26_mk (w : World) (x : S26)  : k26.K w x [.string x.f0, .string x.f1, .bool x.f2] := ⟨[.string x.f0], [.string x.f1, .bool x.f2], rfl, rfl, ⟨[.string x.f1], [.bool x.f2], rfl, rfl, rfl⟩⟩
theorem k26_mkM (w : World) (base : Nat) (ok : Nat → Prop) (x : S26)  : k26.M w base ok x [.string x.f0, .string x.f1, .bool x.f2] := ⟨[.string x.f0], [.string x.f1, .bool x.f2], rfl, rfl, ⟨[.string x.f1], [.bool x.f2], rfl, rfl, rfl⟩⟩
def rd_T26 (xs : List S26) (i : Int) : S26 := xs.getD i.toNat z26
theorem at_T26 {w : World} {A : Option Addr} {n : Nat} {xs : List S26} (h : Kd.C k26 w A n xs) (i : Int) (h0 : 0 ≤ i) (h1 : i < n) : ∃ ad , A = some ad ∧ w.cell? (ad.add (i.toNat * 3)) = some (.string (rd_T26 xs i).f0) ∧ w.cell? ⟨(ad.add (i.toNat * 3)).block, (ad.add (i.toNat * 3)).off + 1, none⟩ = some (.string (rd_T26 xs i).f1) ∧ w.cell? ⟨(ad.add (i.toNat * 3)).block, (ad.add (i.toNat * 3)).off + 2, none⟩ = some (.bool (rd_T26 xs i).f2) := by
  obtain ⟨ad, c, e, _, hK, hc0⟩ := Kd.C_get h z26 i h0 h1
  have hc : ∀ j u, c[j]? = some u → w.cell? (ad.add (i.toNat * 3 + j)) = some u := hc0
  obtain rfl := k26_open hK
  exact ⟨ad, e, hc 0 _ rfl, by rw [← add_field _ _ 1 (by omega)]; exact hc 1 _ rfl, by rw [← add_field _ _ 2 (by omega)]; exact hc 2 _ rfl⟩
structure S44 where
  f0 : Bool
  f1 : Int
  f2 : (List S26)
def z44 : S44 := ⟨false, (0 : Int), ([] : List S26)⟩
def k44 : Kd S44 := Kd.iso (Kd.pair Kd.bool (Kd.pair (Kd.int .u32) (Kd.slice 26 k26))) (fun x : S44 => (x.f0, x.f1, x.f2))
theorem k44_open {w : World} {x : S44} {cs : List Value} (h : k44.K w x cs) : ∃ A2 c2, cs = [.bool x.f0, .int .u32 x.f1, .slice A2 x.f2.length c2] ∧ x.f2.length ≤ c2 ∧ k26.C w A2 x.f2.length x.f2 := by
  obtain ⟨_, _, rfl, rfl, ⟨_, _, rfl, rfl, ⟨A2, c2, rfl, l2, g2⟩⟩⟩ := h
  exact ⟨A2, c2, rfl, l2, g2⟩
def rd_T44 (xs : List S44) (i : Int) : S44 := xs.getD i.toNat z44
theorem at_T44 {w : World} {A : Option Addr} {n : Nat} {xs : List S44} (h : Kd.C k44 w A n xs) (i : Int) (h0 : 0 ≤ i) (h1 : i < n) : ∃ ad A2 c2, A = some ad ∧ w.cell? (ad.add (i.toNat * 3)) = some (.bool (rd_T44 xs i).f0) ∧ w.cell? ⟨(ad.add (i.toNat * 3)).block, (ad.add (i.toNat * 3)).off + 1, none⟩ = some (.int .u32 (rd_T44 xs i).f1) ∧ w.cell? ⟨(ad.add (i.toNat * 3)).block, (ad.add (i.toNat * 3)).off + 2, none⟩ = some (.slice A2 (rd_T44 xs i).f2.length c2) ∧ (rd_T44 xs i).f2.length ≤ c2 ∧ k26.C w A2 (rd_T44 xs i).f2.length (rd_T44 xs i).f2 := by
  obtain ⟨ad, c, e, _, hK, hc0⟩ := Kd.C_get h z44 i h0 h1
  have hc : ∀ j u, c[j]? = some u → w.cell? (ad.add (i.toNat * 3 + j)) = some u := hc0
  obtain ⟨A2, c2, rfl, l2, g2⟩ := k44_open hK
  exact ⟨ad, A2, c2, e, hc 0 _ rfl, by rw [← add_field _ _ 1 (by omega)]; exact hc 1 _ rfl, by rw [← add_field _ _ 2 (by omega)]; exact hc 2 _ rfl, l2, g2⟩
structure S88 where
  f0 : ByteArray
  f1 : ByteArray
def z88 : S88 := ⟨(⟨#[]⟩ : ByteArray), (⟨#[]⟩ : ByteArray)⟩
def k88 : Kd S88 := Kd.iso (Kd.pair Kd.string Kd.string) (fun x : S88 => (x.f0, x.f1))
theorem k88_open {w : World} {x : S88} {cs : List Value} (h : k88.K w x cs) : cs = [.string x.f0, .string x.f1] := by
  obtain ⟨_, _, rfl, rfl, rfl⟩ := h
  exact rfl
theorem k88_mkM (w : World) (base : Nat) (ok : Nat → Prop) (x : S88)  : k88.M w base ok x [.string x.f0, .string x.f1] := ⟨[.string x.f0], [.string x.f1], rfl, rfl, rfl⟩
def rd_T88 (xs : List S88) (i : Int) : S88 := xs.getD i.toNat z88
theorem at_T88 {w : World} {A : Option Addr} {n : Nat} {xs : List S88} (h : Kd.C k88 w A n xs) (i : Int) (h0 : 0 ≤ i) (h1 : i < n) : ∃ ad , A = some ad ∧ w.cell? (ad.add (i.toNat * 2)) = some (.string (rd_T88 xs i).f0) ∧ w.cell? ⟨(ad.add (i.toNat * 2)).block, (ad.add (i.toNat * 2)).off + 1, none⟩ = some (.string (rd_T88 xs i).f1) := by
  obtain ⟨ad, c, e, _, hK, hc0⟩ := Kd.C_get h z88 i h0 h1
  have hc : ∀ j u, c[j]? = some u → w.cell? (ad.add (i.toNat * 2 + j)) = some u := hc0
  obtain rfl := k88_open hK
  exact ⟨ad, e, hc 0 _ rfl, by rw [← add_field _ _ 1 (by omega)]; exact hc 1 _ rfl⟩
end Go.Proofs.YtfkdocmhbmameaaDoor.Mine
namespace Go.Proofs.YtfkdocmhbmameaaDoor.Mine
open Go.RowKit Go.Proofs.YtfkdocmhbmameaaDoorW.PrintWords Go.Proofs.YtfkdocmhbmameaaDoorW.PrintLast Go.Proofs.YtfkdocmhbmameaaDoorW.PrintMore
def k26_wf (x : S26) : Prop := (x.f0.size ≤ 140737488351232) ∧ (x.f1.size ≤ 140737488351232) ∧ (True)
set_option maxRecDepth 100000 in
theorem k26_opens : Opens Tryd.prog 26 k26 k26_wf := by
 refine Opens.struct (P := Tryd.prog) (d := (Kd.pair Kd.string (Kd.pair Kd.string Kd.bool))) (wf := (fun x => (x.1.size ≤ 140737488351232) ∧ (fun x => (x.1.size ≤ 140737488351232) ∧ (fun x => True) x.2) x.2)) (f := fun x : S26 => (x.f0, x.f1, x.f2)) (g := fun y => (⟨y.1, y.2.1, y.2.2⟩ : S26)) ?_ Tryd.underlying26 (by kernel_rfl) (fun _ => rfl)
 exact (OpensCells.cons (Opens.string Tryd.underlying9) (by kernel_rfl) (OpensCells.cons (Opens.string Tryd.underlying9) (by kernel_rfl) (OpensCells.one (Opens.bool Tryd.underlying4) (by kernel_rfl)) rfl) rfl)
def k44_wf (x : S44) : Prop := (True) ∧ ((Lit.int .u32 x.f1).wf = true) ∧ (x.f2.length ≤ 9223372036854775807 ∧ x.f2.length * 40 ≤ 140737488351232 ∧ ∀ x_ ∈ x.f2, k26_wf x_)
set_option maxRecDepth 100000 in
theorem k44_opens : Opens Tryd.prog 44 k44 k44_wf := by
 refine Opens.struct (P := Tryd.prog) (d := (Kd.pair Kd.bool (Kd.pair (Kd.int .u32) (Kd.slice 26 k26)))) (wf := (fun x => (True) ∧ (fun x => ((Lit.int .u32 x.1).wf = true) ∧ (fun x => x.length ≤ 9223372036854775807 ∧ x.length * 40 ≤ 140737488351232 ∧ ∀ x_ ∈ x, k26_wf x_) x.2) x.2)) (f := fun x : S44 => (x.f0, x.f1, x.f2)) (g := fun y => (⟨y.1, y.2.1, y.2.2⟩ : S44)) ?_ Tryd.underlying44 (by kernel_rfl) (fun _ => rfl)
 exact (OpensCells.cons (Opens.bool Tryd.underlying4) (by kernel_rfl) (OpensCells.cons (Opens.int Tryd.underlying42) (by kernel_rfl) (OpensCells.one (Opens.slice (d := k26) k26_opens Tryd.underlying22 (by kernel_rfl) (B := 40) (by kernel_rfl)) (by kernel_rfl)) rfl) rfl)
end Go.Proofs.YtfkdocmhbmameaaDoor.Mine
namespace Go.Proofs.YtfkdocmhbmameaaDoor.Mine
open Go.RowKit Go.Proofs.YtfkdocmhbmameaaDoorW.PrintWords Go.Proofs.YtfkdocmhbmameaaDoorW.PrintLast Go.Proofs.YtfkdocmhbmameaaDoorW.PrintMore
attribute [local go_sem] max2_int min2_int max_two min_two max_three min_three max_four min_four
set_option linter.unusedVariables false
set_option linter.unusedSimpArgs false
def hcLenL : List Nat := [13, 23, 28, 28, 28, 28, 28, 28, 28, 24, 30, 28, 28, 30, 28, 28, 28, 28, 28, 28, 28, 28, 30, 28, 28, 28, 28, 28, 28, 28, 28, 28, 6, 10, 10, 12, 13, 6, 8, 11, 10, 10, 8, 11, 8, 6, 6, 6, 5, 5, 5, 6, 6, 6, 6, 6, 6, 6, 7, 8, 15, 6, 12, 10, 13, 6, 7, 7, 7, 7, 7, 7, 7, 7, 7, 7, 7, 7, 7, 7, 7, 7, 7, 7, 7, 7, 7, 7, 8, 7, 8, 13, 19, 13, 14, 6, 15, 5, 6, 5, 6, 5, 6, 6, 6, 5, 7, 7, 6, 6, 6, 5, 6, 7, 6, 5, 5, 6, 7, 7, 7, 7, 7, 15, 11, 14, 13, 28, 20, 22, 20, 20, 22, 22, 22, 23, 22, 23, 23, 23, 23, 23, 24, 23, 24, 24, 22, 23, 24, 23, 23, 23, 23, 21, 22, 23, 22, 23, 23, 24, 22, 21, 20, 22, 22, 23, 23, 21, 23, 22, 22, 24, 21, 22, 23, 23, 21, 21, 22, 21, 23, 22, 23, 23, 20, 22, 22, 22, 23, 22, 22, 23, 26, 26, 20, 19, 22, 23, 22, 25, 26, 26, 26, 27, 27, 26, 24, 25, 19, 21, 26, 27, 27, 26, 27, 24, 21, 21, 26, 26, 28, 27, 27, 27, 20, 24, 20, 21, 22, 21, 21, 23, 22, 22, 25, 25, 24, 24, 26, 23, 26, 27, 26, 26, 27, 27, 27, 27, 27, 28, 27, 27, 27, 27, 27, 26, 30]
def hcCodeL : List Nat := [8184, 8388568, 268435426, 268435427, 268435428, 268435429, 268435430, 268435431, 268435432, 16777194, 1073741820, 268435433, 268435434, 1073741821, 268435435, 268435436, 268435437, 268435438, 268435439, 268435440, 268435441, 268435442, 1073741822, 268435443, 268435444, 268435445, 268435446, 268435447, 268435448, 268435449, 268435450, 268435451, 20, 1016, 1017, 4090, 8185, 21, 248, 2042, 1018, 1019, 249, 2043, 250, 22, 23, 24, 0, 1, 2, 25, 26, 27, 28, 29, 30, 31, 92, 251, 32764, 32, 4091, 1020, 8186, 33, 93, 94, 95, 96, 97, 98, 99, 100, 101, 102, 103, 104, 105, 106, 107, 108, 109, 110, 111, 112, 113, 114, 252, 115, 253, 8187, 524272, 8188, 16380, 34, 32765, 3, 35, 4, 36, 5, 37, 38, 39, 6, 116, 117, 40, 41, 42, 7, 43, 118, 44, 8, 9, 45, 119, 120, 121, 122, 123, 32766, 2044, 16381, 8189, 268435452, 1048550, 4194258, 1048551, 1048552, 4194259, 4194260, 4194261, 8388569, 4194262, 8388570, 8388571, 8388572, 8388573, 8388574, 16777195, 8388575, 16777196, 16777197, 4194263, 8388576, 16777198, 8388577, 8388578, 8388579, 8388580, 2097116, 4194264, 8388581, 4194265, 8388582, 8388583, 16777199, 4194266, 2097117, 1048553, 4194267, 4194268, 8388584, 8388585, 2097118, 8388586, 4194269, 4194270, 16777200, 2097119, 4194271, 8388587, 8388588, 2097120, 2097121, 4194272, 2097122, 8388589, 4194273, 8388590, 8388591, 1048554, 4194274, 4194275, 4194276, 8388592, 4194277, 4194278, 8388593, 67108832, 67108833, 1048555, 524273, 4194279, 8388594, 4194280, 33554412, 67108834, 67108835, 67108836, 134217694, 134217695, 67108837, 16777201, 33554413, 524274, 2097123, 67108838, 134217696, 134217697, 67108839, 134217698, 16777202, 2097124, 2097125, 67108840, 67108841, 268435453, 134217699, 134217700, 134217701, 1048556, 16777203, 1048557, 2097126, 4194281, 2097127, 2097128, 8388595, 4194282, 4194283, 33554414, 33554415, 16777204, 16777205, 67108842, 8388596, 67108843, 134217702, 67108844, 67108845, 134217703, 134217704, 134217705, 134217706, 134217707, 268435454, 134217708, 134217709, 134217710, 134217711, 134217712, 67108846, 1073741823]
def hcSignL : List Nat := [48, 49, 50, 97, 99, 101, 105, 111, 115, 116, 32, 37, 45, 46, 47, 51, 52, 53, 54, 55, 56, 57, 61, 65, 95, 98, 100, 102, 103, 104, 108, 109, 110, 112, 114, 117, 58, 66, 67, 68, 69, 70, 71, 72, 73, 74, 75, 76, 77, 78, 79, 80, 81, 82, 83, 84, 85, 86, 87, 89, 106, 107, 113, 118, 119, 120, 121, 122, 38, 42, 44, 59, 88, 90, 33, 34, 40, 41, 63, 39, 43, 124, 35, 62, 0, 36, 64, 91, 93, 126, 94, 125, 60, 96, 123, 92, 195, 208, 128, 130, 131, 162, 184, 194, 224, 226, 153, 161, 167, 172, 176, 177, 179, 209, 216, 217, 227, 229, 230, 129, 132, 133, 134, 136, 146, 154, 156, 160, 163, 164, 169, 170, 173, 178, 181, 185, 186, 187, 189, 190, 196, 198, 228, 232, 233, 1, 135, 137, 138, 139, 140, 141, 143, 147, 149, 150, 151, 152, 155, 157, 158, 165, 166, 168, 174, 175, 180, 182, 183, 188, 191, 197, 231, 239, 9, 142, 144, 145, 148, 159, 171, 206, 215, 225, 236, 237, 199, 207, 234, 235, 192, 193, 200, 201, 202, 205, 210, 213, 218, 219, 238, 240, 242, 243, 255, 203, 204, 211, 212, 214, 221, 222, 223, 241, 244, 245, 246, 247, 248, 250, 251, 252, 253, 254, 2, 3, 4, 5, 6, 7, 8, 11, 12, 14, 15, 16, 17, 18, 19, 20, 21, 23, 24, 25, 26, 27, 28, 29, 30, 31, 127, 220, 249, 10, 13, 22, 256]
def hcFirstL : List Nat := [0, 0, 0, 0, 0, 0, 20, 92, 248, 508, 1016, 2042, 4090, 8184, 16380, 32764, 65534, 131068, 262136, 524272, 1048550, 2097116, 4194258, 8388568, 16777194, 33554412, 67108832, 134217694, 268435426, 536870910, 1073741820]
def hcCountL : List Nat := [0, 0, 0, 0, 0, 10, 26, 32, 6, 0, 5, 3, 2, 6, 2, 3, 0, 0, 0, 3, 8, 13, 26, 29, 12, 4, 15, 19, 29, 0, 4]
def hcBeginL : List Nat := [0, 0, 0, 0, 0, 0, 10, 36, 68, 74, 74, 79, 82, 84, 90, 92, 95, 95, 95, 95, 98, 106, 119, 145, 174, 186, 190, 205, 224, 253, 253]
def hcLen (k : Nat) : Nat := hcLenL.getD k 0
def hcCode (k : Nat) : Nat := hcCodeL.getD k 0
def hcSign (k : Nat) : Nat := hcSignL.getD k 0
def hcFirst (k : Nat) : Nat := hcFirstL.getD k 0
def hcCount (k : Nat) : Nat := hcCountL.getD k 0
def hcBegin (k : Nat) : Nat := hcBeginL.getD k 0
def hcCnt (n k : Nat) : Nat := (hcLenL.take k).countP (· == n)
theorem hcLenL_length : hcLenL.length = 257 := by decide +kernel
theorem hcCnt_zero (n : Nat) : hcCnt n 0 = 0 := rfl
theorem hcCnt_le2 (n k : Nat) : hcCnt n k ≤ 257 := by
 unfold hcCnt
 exact Nat.le_trans List.countP_le_length (by rw [List.length_take, hcLenL_length]; omega)
theorem hcLenL_get (k : Nat) (h : k < 257) : hcLenL[k]'(by rw [hcLenL_length]; exact h) = hcLen k := by
 unfold hcLen
 rw [List.getD_eq_getElem?_getD, List.getElem?_eq_getElem (by rw [hcLenL_length]; exact h), Option.getD_some]
theorem hcCnt_yes (n k : Nat) (h : k < 257) (e : hcLen k = n) : hcCnt n (k + 1) = hcCnt n k + 1 := by
 unfold hcCnt
 rw [List.take_succ_eq_append_getElem (by rw [hcLenL_length]; exact h), List.countP_append, hcLenL_get k h, e]
 simp
theorem hcCnt_no (n k : Nat) (h : k < 257) (e : ¬ hcLen k = n) : hcCnt n (k + 1) = hcCnt n k := by
 unfold hcCnt
 rw [List.take_succ_eq_append_getElem (by rw [hcLenL_length]; exact h), List.countP_append, hcLenL_get k h]
 simp [e]
theorem hcSigns_all : ∀ k, k < 257 → (hcCode k = hcFirst (hcLen k) + hcCnt (hcLen k) k ∧ hcSign (hcBegin (hcLen k) + hcCnt (hcLen k) k) = k ∧ hcBegin (hcLen k) + hcCnt (hcLen k) k < 257 ∧ 5 ≤ hcLen k ∧ hcLen k ≤ 30) := by decide +kernel
def hcPre (n : Nat) : Nat := if n ≤ 5 then 0 else hcFirst (n - 1) + hcCnt (n - 1) 257
def hcCell (n k f c at_ j : Nat) : Value :=
 if j < 257 then .int .u32 (if hcLen j < n ∨ (hcLen j = n ∧ j < k) then hcCode j else 0 : Nat)
 else if j < 288 then .int .u32 (if j - 257 < f then hcFirst (j - 257) else 0 : Nat)
 else if j < 319 then .int .i64 (if j - 288 < c then hcCount (j - 288) else 0 : Nat)
 else if j < 350 then .int .i64 (if j - 319 < f then hcBegin (j - 319) else 0 : Nat)
 else .int .i64 (if j - 350 < at_ then hcSign (j - 350) else 0 : Nat)
def hcTab (n k f c at_ : Nat) : Array Value := ((List.range 607).map (hcCell n k f c at_)).toArray
theorem hcTab_size (n k f c at_ : Nat) : (hcTab n k f c at_).size = 607 := by simp [hcTab]
theorem hcTab_get (n k f c at_ j : Nat) (h : j < 607) : (hcTab n k f c at_)[j]? = some (hcCell n k f c at_ j) := by
 simp [hcTab, h]
theorem hcTab_congr {n k f c at_ n' k' f' c' at' : Nat} (h : ∀ j, j < 607 → hcCell n k f c at_ j = hcCell n' k' f' c' at' j) : hcTab n k f c at_ = hcTab n' k' f' c' at' := by
 exact congrArg List.toArray (List.map_congr_left (fun j hj => h j (List.mem_range.1 hj)))
theorem hcTab_set {n k f c at_ n' k' f' c' at' i : Nat} {u : Value} (h : ∀ j, j < 607 → (if j = i then u else hcCell n k f c at_ j) = hcCell n' k' f' c' at' j) : (hcTab n k f c at_).setIfInBounds i u = hcTab n' k' f' c' at' := by
 apply Array.ext
 · simp [hcTab]
 ·
  intro j h1 h2
  have hj : j < 607 := by rw [hcTab_size] at h2; exact h2
  have e2 := hcTab_get n' k' f' c' at' j hj
  rw [Array.getElem?_eq_getElem h2] at e2
  have e1 := hcTab_get n k f c at_ j hj
  rw [Array.getElem?_eq_getElem (by rw [hcTab_size]; exact hj)] at e1
  rw [Option.some.inj e2, Array.getElem_setIfInBounds (by rw [hcTab_size]; exact hj), ← h j hj]
  by_cases e : i = j
  · subst e; simp
  · rw [if_neg e, if_neg (Ne.symm e), Option.some.inj e1]
theorem hcTab_set2 {n k f c at_ n' k' f' c' at' i i' : Nat} {u u' : Value} (h : ∀ j, j < 607 → (if j = i' then u' else if j = i then u else hcCell n k f c at_ j) = hcCell n' k' f' c' at' j) : ((hcTab n k f c at_).setIfInBounds i u).setIfInBounds i' u' = hcTab n' k' f' c' at' := by
 apply Array.ext
 · simp [hcTab]
 ·
  intro j h1 h2
  have hj : j < 607 := by rw [hcTab_size] at h2; exact h2
  have e2 := hcTab_get n' k' f' c' at' j hj
  rw [Array.getElem?_eq_getElem h2] at e2
  have e1 := hcTab_get n k f c at_ j hj
  rw [Array.getElem?_eq_getElem (by rw [hcTab_size]; exact hj)] at e1
  rw [Option.some.inj e2, Array.getElem_setIfInBounds (by rw [Array.size_setIfInBounds, hcTab_size]; exact hj), ← h j hj]
  by_cases e : i' = j
  · subst e; simp
  ·
   rw [if_neg e, if_neg (Ne.symm e), Array.getElem_setIfInBounds (by rw [hcTab_size]; exact hj)]
   by_cases e3 : i = j
   · subst e3; simp
   · rw [if_neg e3, if_neg (Ne.symm e3), Option.some.inj e1]
theorem hcStep1 (n at_ : Nat) (hn : n < 31) : ∀ j, j < 607 → (if j = 319 + n then .int .i64 (hcBegin n : Nat) else if j = 257 + n then .int .u32 (hcFirst n : Nat) else hcCell n 0 n n at_ j) = hcCell n 0 (n + 1) n at_ j := by
 intro j hj
 unfold hcCell
 by_cases h1 : j < 257
 · simp only [if_neg (show ¬ j = 319 + n by omega), if_neg (show ¬ j = 257 + n by omega), if_pos h1]
 by_cases h2 : j < 288
 ·
  simp only [if_neg (show ¬ j = 319 + n by omega), if_neg h1, if_pos h2]
  by_cases e : j = 257 + n
  · simp only [if_pos e, show j - 257 = n by omega, if_pos (Nat.lt_succ_self n)]
  ·
   simp only [if_neg e]
   by_cases e2 : j - 257 < n
   · simp only [if_pos e2, if_pos (show j - 257 < n + 1 by omega)]
   · simp only [if_neg e2, if_neg (show ¬ j - 257 < n + 1 by omega)]
 by_cases h3 : j < 319
 · simp only [if_neg (show ¬ j = 319 + n by omega), if_neg (show ¬ j = 257 + n by omega), if_neg h1, if_neg h2, if_pos h3]
 by_cases h4 : j < 350
 ·
  simp only [if_neg (show ¬ j = 257 + n by omega), if_neg h1, if_neg h2, if_neg h3, if_pos h4]
  by_cases e : j = 319 + n
  · simp only [if_pos e, show j - 319 = n by omega, if_pos (Nat.lt_succ_self n)]
  ·
   simp only [if_neg e]
   by_cases e2 : j - 319 < n
   · simp only [if_pos e2, if_pos (show j - 319 < n + 1 by omega)]
   · simp only [if_neg e2, if_neg (show ¬ j - 319 < n + 1 by omega)]
 · simp only [if_neg (show ¬ j = 319 + n by omega), if_neg (show ¬ j = 257 + n by omega), if_neg h1, if_neg h2, if_neg h3, if_neg h4]
theorem hcStep2 (n k f c at_ : Nat) (hk : k < 257) (ha : at_ < 257) (e : hcLen k = n) (hc : hcCode k = hcFirst n + hcCnt n k) (hs : hcSign at_ = k) : ∀ j, j < 607 → (if j = 350 + at_ then .int .i64 (k : Nat) else if j = k then .int .u32 (hcCode k : Nat) else hcCell n k f c at_ j) = hcCell n (k + 1) f c (at_ + 1) j := by
 intro j hj
 unfold hcCell
 by_cases h1 : j < 257
 ·
  simp only [if_neg (show ¬ j = 350 + at_ by omega), if_pos h1]
  by_cases e1 : j = k
  ·
   subst e1
   simp only [if_pos, if_pos (show hcLen j < n ∨ hcLen j = n ∧ j < j + 1 from .inr ⟨e, by omega⟩)]
  ·
   simp only [if_neg e1]
   by_cases e2 : hcLen j < n ∨ hcLen j = n ∧ j < k
   · simp only [if_pos e2, if_pos (show hcLen j < n ∨ hcLen j = n ∧ j < k + 1 by omega)]
   · simp only [if_neg e2, if_neg (show ¬ (hcLen j < n ∨ hcLen j = n ∧ j < k + 1) by omega)]
 by_cases h2 : j < 288
 · simp only [if_neg (show ¬ j = 350 + at_ by omega), if_neg (show ¬ j = k by omega), if_neg h1, if_pos h2]
 by_cases h3 : j < 319
 · simp only [if_neg (show ¬ j = 350 + at_ by omega), if_neg (show ¬ j = k by omega), if_neg h1, if_neg h2, if_pos h3]
 by_cases h4 : j < 350
 · simp only [if_neg (show ¬ j = 350 + at_ by omega), if_neg (show ¬ j = k by omega), if_neg h1, if_neg h2, if_neg h3, if_pos h4]
 ·
  simp only [if_neg (show ¬ j = k by omega), if_neg h1, if_neg h2, if_neg h3, if_neg h4]
  by_cases e1 : j = 350 + at_
  · simp only [if_pos e1, show j - 350 = at_ by omega, if_pos (Nat.lt_succ_self at_), hs]
  ·
   simp only [if_neg e1]
   by_cases e2 : j - 350 < at_
   · simp only [if_pos e2, if_pos (show j - 350 < at_ + 1 by omega)]
   · simp only [if_neg e2, if_neg (show ¬ j - 350 < at_ + 1 by omega)]
theorem hcStep3 (n k f c at_ : Nat) (e : ¬ hcLen k = n) : ∀ j, j < 607 → hcCell n k f c at_ j = hcCell n (k + 1) f c at_ j := by
 intro j hj
 unfold hcCell
 by_cases h1 : j < 257
 ·
  simp only [if_pos h1]
  by_cases e1 : j = k
  ·
   subst e1
   by_cases e2 : hcLen j < n
   · simp only [if_pos (show hcLen j < n ∨ hcLen j = n ∧ j < j from .inl e2), if_pos (show hcLen j < n ∨ hcLen j = n ∧ j < j + 1 from .inl e2)]
   · simp only [if_neg (show ¬ (hcLen j < n ∨ hcLen j = n ∧ j < j) by omega), if_neg (show ¬ (hcLen j < n ∨ hcLen j = n ∧ j < j + 1) by omega)]
  ·
   by_cases e2 : hcLen j < n ∨ hcLen j = n ∧ j < k
   · simp only [if_pos e2, if_pos (show hcLen j < n ∨ hcLen j = n ∧ j < k + 1 by omega)]
   · simp only [if_neg e2, if_neg (show ¬ (hcLen j < n ∨ hcLen j = n ∧ j < k + 1) by omega)]
 · simp only [if_neg h1]
theorem hcStep4 (n at_ : Nat) (hn : n < 31) : ∀ j, j < 607 → (if j = 288 + n then .int .i64 (hcCount n : Nat) else hcCell n 257 (n + 1) n at_ j) = hcCell (n + 1) 0 (n + 1) (n + 1) at_ j := by
 intro j hj
 unfold hcCell
 by_cases h1 : j < 257
 ·
  simp only [if_neg (show ¬ j = 288 + n by omega), if_pos h1]
  by_cases e2 : hcLen j < n ∨ hcLen j = n ∧ j < 257
  · simp only [if_pos e2, if_pos (show hcLen j < n + 1 ∨ hcLen j = n + 1 ∧ j < 0 by omega)]
  · simp only [if_neg e2, if_neg (show ¬ (hcLen j < n + 1 ∨ hcLen j = n + 1 ∧ j < 0) by omega)]
 by_cases h2 : j < 288
 · simp only [if_neg (show ¬ j = 288 + n by omega), if_neg h1, if_pos h2]
 by_cases h3 : j < 319
 ·
  simp only [if_neg h1, if_neg h2, if_pos h3]
  by_cases e1 : j = 288 + n
  · simp only [if_pos e1, show j - 288 = n by omega, if_pos (Nat.lt_succ_self n)]
  ·
   simp only [if_neg e1]
   by_cases e2 : j - 288 < n
   · simp only [if_pos e2, if_pos (show j - 288 < n + 1 by omega)]
   · simp only [if_neg e2, if_neg (show ¬ j - 288 < n + 1 by omega)]
 · simp only [if_neg (show ¬ j = 288 + n by omega), if_neg h1, if_neg h2, if_neg h3]
def hcBeg (n : Nat) : Nat := if n < 31 then hcBegin n else 257
theorem hcRound (n : Nat) (h5 : 5 ≤ n) (h : n < 31) : hcFirst n = 2 * hcPre n ∧ hcCount n = hcCnt n 257 ∧ hcFirst n ≤ 1073741824 ∧ hcBeg n = hcBegin n ∧ hcBeg n ≤ 257 ∧ hcBeg (n + 1) = hcBeg n + hcCnt n 257 ∧ hcPre (n + 1) = hcFirst n + hcCnt n 257 ∧ hcBeg n + hcCnt n 257 ≤ 257 := by
 have := (by decide +kernel : ∀ n, n < 31 → 5 ≤ n → hcFirst n = 2 * hcPre n ∧ hcCount n = hcCnt n 257 ∧ hcFirst n ≤ 1073741824 ∧ hcBeg n = hcBegin n ∧ hcBeg n ≤ 257 ∧ hcBeg (n + 1) = hcBeg n + hcCnt n 257 ∧ hcPre (n + 1) = hcFirst n + hcCnt n 257 ∧ hcBeg n + hcCnt n 257 ≤ 257)
 exact this n h h5
theorem hcCell_first (n k f c at_ j : Nat) (h : j < 31) : hcCell n k f c at_ (257 + j) = .int .u32 (if j < f then hcFirst j else 0 : Nat) := by
 unfold hcCell; rw [if_neg (by omega), if_pos (by omega), show 257 + j - 257 = j by omega]
theorem hcCell_count (n k f c at_ j : Nat) (h : j < 31) : hcCell n k f c at_ (288 + j) = .int .i64 (if j < c then hcCount j else 0 : Nat) := by
 unfold hcCell; rw [if_neg (by omega), if_neg (by omega), if_pos (by omega), show 288 + j - 288 = j by omega]
theorem hcCell_begin (n k f c at_ j : Nat) (h : j < 31) : hcCell n k f c at_ (319 + j) = .int .i64 (if j < f then hcBegin j else 0 : Nat) := by
 unfold hcCell; rw [if_neg (by omega), if_neg (by omega), if_neg (by omega), if_pos (by omega), show 319 + j - 319 = j by omega]
theorem hcCell_sign (n k f c at_ j : Nat) : hcCell n k f c at_ (350 + j) = .int .i64 (if j < at_ then hcSign j else 0 : Nat) := by
 unfold hcCell; rw [if_neg (by omega), if_neg (by omega), if_neg (by omega), if_neg (by omega), show 350 + j - 350 = j by omega]
theorem hcCell_code' (n k f c at_ j : Nat) (h : j < 257) : hcCell n k f c at_ j = .int .u32 (if hcLen j < n ∨ (hcLen j = n ∧ j < k) then hcCode j else 0 : Nat) := by
 unfold hcCell; rw [if_pos h]
def hcText : ByteArray := ⟨#[105, 115, 120, 120, 120, 120, 120, 120, 120, 116, 122, 120, 120, 122, 120, 120, 120, 120, 120, 120, 120, 120, 122, 120, 120, 120, 120, 120, 120, 120, 120, 120, 98, 102, 102, 104, 105, 98, 100, 103, 102, 102, 100, 103, 100, 98, 98, 98, 97, 97, 97, 98, 98, 98, 98, 98, 98, 98, 99, 100, 107, 98, 104, 102, 105, 98, 99, 99, 99, 99, 99, 99, 99, 99, 99, 99, 99, 99, 99, 99, 99, 99, 99, 99, 99, 99, 99, 99, 100, 99, 100, 105, 111, 105, 106, 98, 107, 97, 98, 97, 98, 97, 98, 98, 98, 97, 99, 99, 98, 98, 98, 97, 98, 99, 98, 97, 97, 98, 99, 99, 99, 99, 99, 107, 103, 106, 105, 120, 112, 114, 112, 112, 114, 114, 114, 115, 114, 115, 115, 115, 115, 115, 116, 115, 116, 116, 114, 115, 116, 115, 115, 115, 115, 113, 114, 115, 114, 115, 115, 116, 114, 113, 112, 114, 114, 115, 115, 113, 115, 114, 114, 116, 113, 114, 115, 115, 113, 113, 114, 113, 115, 114, 115, 115, 112, 114, 114, 114, 115, 114, 114, 115, 118, 118, 112, 111, 114, 115, 114, 117, 118, 118, 118, 119, 119, 118, 116, 117, 111, 113, 118, 119, 119, 118, 119, 116, 113, 113, 118, 118, 120, 119, 119, 119, 112, 116, 112, 113, 114, 113, 113, 115, 114, 114, 117, 117, 116, 116, 118, 115, 118, 119, 118, 118, 119, 119, 119, 119, 119, 120, 119, 119, 119, 119, 119, 118, 122]⟩
theorem hcText_size : hcText.size = 257 := by decide +kernel
theorem hcText_at (k : Nat) (h : k < 257) : (hcText[k]'(by rw [hcText_size]; exact h)).toNat = hcLen k + 92 := by
 have := (by decide +kernel : ∀ k : Fin 257, (hcText.data.toList.getD k.1 0).toNat = hcLen k.1 + 92) ⟨k, h⟩
 rw [← this]
 have h2 : k < hcText.data.toList.length := by rw [Array.length_toList]; have h3 : hcText.data.size = 257 := hcText_size; omega
 rw [List.getD_eq_getElem?_getD, List.getElem?_eq_getElem h2, Option.getD_some]
 rfl
def hb0 (i : Int) : Int := (hcCode i.toNat : Nat)
def hb1 (i : Int) : Int := (hcFirst i.toNat : Nat)
def hb2 (i : Int) : Int := (hcCount i.toNat : Nat)
theorem hcLen_le : ∀ k, k < 257 → hcLen k < 31 := by decide +kernel
def IsS149 (w0 W : World) (g : Nat) : Prop := W.heap[g]? = some (.cells (hcTab 31 0 31 31 257) 149 (0, 0)) ∧ w0.heap.size ≤ g
theorem IsS149.grown {w0 W : World} {g : Nat} {W1 : World} {row : Option Nat} (h : IsS149 w0 W g) (hw : W.grownBy W1 row) (hne : some g ≠ row) : IsS149 w0 W1 g := ⟨blk_grown h.1 hw hne, h.2⟩
theorem IsS149.fresh {w0 W : World} {g : Nat} (h : IsS149 w0 W g) : ∀ k, W.heap.size ≤ k → k ≠ g := Kd.freshB h.1
theorem IsS149.kept {w0 W : World} {g : Nat} {W1 : World} {S : Nat → Prop} (h : IsS149 w0 W g) (hk : Kept W W1 S) (hne : ¬ S g) : IsS149 w0 W1 g := ⟨blk_kept h.1 hk hne, h.2⟩
theorem IsS149.below {w0 W : World} {g : Nat} {W1 : World} (h : IsS149 w0 W g) (hw : Below W.heap.size W W1) : IsS149 w0 W1 g := h.grown (grown_of_below hw none) (by simp)
theorem IsS149.alloc {w0 W : World} {g : Nat} (h : IsS149 w0 W g) (o : Obj) : IsS149 w0 (W.alloc o) g := h.below (below_alloc (Below.refl _ _) o)
theorem IsS149.drewN {w0 W : World} {g : Nat} (h : IsS149 w0 W g) (m : Nat) : IsS149 w0 (W.drewN m) g := h
theorem IsS149.drew {w0 W : World} {g : Nat} (h : IsS149 w0 W g) : IsS149 w0 W.drew g := h
theorem IsS149.at_ {w0 W : World} {g : Nat} {w' : World} {m : Nat} (hq : W.drewN m = w') (h : IsS149 w0 W g) : IsS149 w0 w' g := by subst hq; exact IsS149.drewN h m
theorem IsS149.apart {w0 W : World} {g : Nat} {α : Type} {d : Kd α} {e : Nat} {base : Nat} {ok : Nat → Prop} {v : Value} {xs : List α} (h : IsS149 w0 W g) (ho : d.R e W base ok v xs) (ht : ∀ q, q ∈ e :: d.E → q ≠ 149) : d.R e W base (fun k => ok k ∧ k ≠ g) v xs := Kd.R_types ho h.1 ht
theorem IsS149.own_ne {w0 W : World} {g : Nat} {α : Type} {d : Kd α} {e : Nat} {base : Nat} {ok : Nat → Prop} {v : Value} {xs : List α} (h : IsS149 w0 W g) (ho : d.R e W base ok v xs) (ht : e ≠ 149) : some g ≠ v.ownBlock := Kd.R_ne ho h.1 ht
theorem IsS149.lt {w0 W : World} {g : Nat} (h : IsS149 w0 W g) : g < W.heap.size := blk_lt h.1
theorem IsS149.ge {w0 W : World} {g : Nat} (h : IsS149 w0 W g) : w0.heap.size ≤ g := h.2
end Go.Proofs.YtfkdocmhbmameaaDoor.Mine
