/- The walks and the plain laws that the rows come to: merged out of this repo's texts. -/
import Derived.Test.YtfkdocmhbmameaaDoorProg
import Derived.Below
import Derived.Deep.Draws
import Derived.Deep.AppendLies
import Derived.Maps.AppendAt
import Derived.OwnWalk
import Derived.Laws.BytesArg
import Derived.Laws.MakeOwn
import Derived.Laws.OwnMore
import Derived.Deep.OwnRows
import Derived.Tactics
import Derived.Lib.ConvBytes
import Derived.Laws.Slices
import Derived.WalkKit
import Derived.KernelRfl
import Derived.RowKit3
import Derived.Deep.LoopGhost
import Derived.Deep.QuietTactic
import Derived.BigQuiet
import Derived.WideLaws
import Derived.Deep.DeepCutAuto
import Derived.Deep.CutBlock
import Derived.Deep.RegionHeld3
import Derived.Laws.Rows
import Derived.Lib.AppendStr
import Derived.ArgAppend
import Derived.Laws.IdiomCopy
import Derived.RowKit
import Derived.OrdersHeld
import Derived.Laws.BitsLemmas
import Derived.Laws.StructEq
import Derived.Laws.CopyOwn
import Derived.SizedLaws
import Derived.ChangeSlices
import Derived.Deep.Slices
import Derived.Lib.SmallJoins
import Derived.Lib.OthersKept
import Derived.Lib.AppendZerosOnto
import Derived.WalkSpells
import Derived.Shelf.Utf8.RuneCount
import Derived.Shelf.Strings.Search1
import Derived.Shelf.Strings.Search2
import Derived.Shelf.Strings.Search3
import Derived.Shelf.Strings.Cut
import Derived.Shelf.Strings.Count
import Derived.Shelf.LaysM
import Derived.Shelf.Strings.Shaped
import Derived.Shelf.Strings.Split
import Derived.Shelf.Strings.SplitShaped
import Derived.Shelf.Unicode.Decode
import Derived.Shelf.Strings.RuneCount
import Derived.Shelf.Strings.Explode
import Derived.Shelf.Unicode.DecodeSlow
import Derived.Shelf.Unicode.DecodeAny
import Derived.Laws.BitsAllLaws
import Derived.Test.YtfkdocmhbmameaaDoorCA1
import Derived.Test.YtfkdocmhbmameaaDoorCA2
import Derived.Test.YtfkdocmhbmameaaDoorCA3
import Derived.Test.YtfkdocmhbmameaaDoorCA5
import Derived.Test.YtfkdocmhbmameaaDoorCA12
import Derived.Test.YtfkdocmhbmameaaDoorCA13
import Derived.Test.YtfkdocmhbmameaaDoorCA15
namespace Go.Proofs.YtfkdocmhbmameaaDoor.Mine
open Go.RowKit Go.Proofs.YtfkdocmhbmameaaDoorW.PrintWords Go.Proofs.YtfkdocmhbmameaaDoorW.PrintLast Go.Proofs.YtfkdocmhbmameaaDoorW.PrintMore
attribute [local go_sem] max2_int min2_int max_two min_two max_three min_three max_four min_four
set_option linter.unusedVariables false
set_option linter.unusedSimpArgs false
def IsS98 (w0 W : World) (g : Nat) (f0 : Int) (f1 : List (S88)) (f2 : ByteArray) (f3 : Int) (f4 : Int) : Prop := ∃ A1 c1, W.heap[g]? = some (.cells #[.int .i64 f0, .slice A1 f1.length c1, .string f2, .int .i64 f3, .int .i64 f4] 98 (0, 0)) ∧ w0.heap.size ≤ g ∧ Kd.C k88 w0 A1 f1.length f1
theorem IsS98.grown {w0 W : World} {g : Nat} {f0 : Int} {f1 : List (S88)} {f2 : ByteArray} {f3 : Int} {f4 : Int} {W1 : World} {row : Option Nat} (h : IsS98 w0 W g f0 f1 f2 f3 f4) (hw : W.grownBy W1 row) (hne : some g ≠ row) : IsS98 w0 W1 g f0 f1 f2 f3 f4 := by
 obtain ⟨A1, c1, hb, hg, hr1⟩ := h
 exact ⟨A1, c1, blk_grown hb hw hne, hg, hr1⟩
theorem IsS98.fresh {w0 W : World} {g : Nat} {f0 : Int} {f1 : List (S88)} {f2 : ByteArray} {f3 : Int} {f4 : Int} (h : IsS98 w0 W g f0 f1 f2 f3 f4) : ∀ k, W.heap.size ≤ k → k ≠ g := by
 obtain ⟨A1, c1, hb, hg, hr1⟩ := h
 exact Kd.freshB hb
theorem IsS98.kept {w0 W : World} {g : Nat} {f0 : Int} {f1 : List (S88)} {f2 : ByteArray} {f3 : Int} {f4 : Int} {W1 : World} {S : Nat → Prop} (h : IsS98 w0 W g f0 f1 f2 f3 f4) (hk : Kept W W1 S) (hne : ¬ S g) : IsS98 w0 W1 g f0 f1 f2 f3 f4 := by
 obtain ⟨A1, c1, hb, hg, hr1⟩ := h
 exact ⟨A1, c1, blk_kept hb hk hne, hg, hr1⟩
theorem IsS98.below {w0 W : World} {g : Nat} {f0 : Int} {f1 : List (S88)} {f2 : ByteArray} {f3 : Int} {f4 : Int} {W1 : World} (h : IsS98 w0 W g f0 f1 f2 f3 f4) (hw : Below W.heap.size W W1) : IsS98 w0 W1 g f0 f1 f2 f3 f4 := h.grown (grown_of_below hw none) (by simp)
theorem IsS98.alloc {w0 W : World} {g : Nat} {f0 : Int} {f1 : List (S88)} {f2 : ByteArray} {f3 : Int} {f4 : Int} (h : IsS98 w0 W g f0 f1 f2 f3 f4) (o : Obj) : IsS98 w0 (W.alloc o) g f0 f1 f2 f3 f4 := h.below (below_alloc (Below.refl _ _) o)
theorem IsS98.drewN {w0 W : World} {g : Nat} {f0 : Int} {f1 : List (S88)} {f2 : ByteArray} {f3 : Int} {f4 : Int} (h : IsS98 w0 W g f0 f1 f2 f3 f4) (m : Nat) : IsS98 w0 (W.drewN m) g f0 f1 f2 f3 f4 := h
theorem IsS98.drew {w0 W : World} {g : Nat} {f0 : Int} {f1 : List (S88)} {f2 : ByteArray} {f3 : Int} {f4 : Int} (h : IsS98 w0 W g f0 f1 f2 f3 f4) : IsS98 w0 W.drew g f0 f1 f2 f3 f4 := h
theorem IsS98.at_ {w0 W : World} {g : Nat} {f0 : Int} {f1 : List (S88)} {f2 : ByteArray} {f3 : Int} {f4 : Int} {w' : World} {m : Nat} (hq : W.drewN m = w') (h : IsS98 w0 W g f0 f1 f2 f3 f4) : IsS98 w0 w' g f0 f1 f2 f3 f4 := by subst hq; exact IsS98.drewN h m
theorem IsS98.apart {w0 W : World} {g : Nat} {f0 : Int} {f1 : List (S88)} {f2 : ByteArray} {f3 : Int} {f4 : Int} {α : Type} {d : Kd α} {e : Nat} {base : Nat} {ok : Nat → Prop} {v : Value} {xs : List α} (h : IsS98 w0 W g f0 f1 f2 f3 f4) (ho : d.R e W base ok v xs) (ht : ∀ q, q ∈ e :: d.E → q ≠ 98) : d.R e W base (fun k => ok k ∧ k ≠ g) v xs := by
 obtain ⟨A1, c1, hb, hg, hr1⟩ := h
 exact Kd.R_types ho hb ht
theorem IsS98.own_ne {w0 W : World} {g : Nat} {f0 : Int} {f1 : List (S88)} {f2 : ByteArray} {f3 : Int} {f4 : Int} {α : Type} {d : Kd α} {e : Nat} {base : Nat} {ok : Nat → Prop} {v : Value} {xs : List α} (h : IsS98 w0 W g f0 f1 f2 f3 f4) (ho : d.R e W base ok v xs) (ht : e ≠ 98) : some g ≠ v.ownBlock := by
 obtain ⟨A1, c1, hb, hg, hr1⟩ := h
 exact Kd.R_ne ho hb ht
theorem IsS98.lt {w0 W : World} {g : Nat} {f0 : Int} {f1 : List (S88)} {f2 : ByteArray} {f3 : Int} {f4 : Int} (h : IsS98 w0 W g f0 f1 f2 f3 f4) : g < W.heap.size := by
 obtain ⟨A1, c1, hb, hg, hr1⟩ := h
 exact blk_lt hb
theorem IsS98.ge {w0 W : World} {g : Nat} {f0 : Int} {f1 : List (S88)} {f2 : ByteArray} {f3 : Int} {f4 : Int} (h : IsS98 w0 W g f0 f1 f2 f3 f4) : w0.heap.size ≤ g := by
 obtain ⟨A1, c1, hb, hg, hr1⟩ := h
 exact hg
theorem IsS98.ne_blk {w0 W : World} {g : Nat} {f0 : Int} {f1 : List (S88)} {f2 : ByteArray} {f3 : Int} {f4 : Int} {a : Nat} {cs : Array Value} {t : TypeId} {fr : Nat × Nat} (h : IsS98 w0 W g f0 f1 f2 f3 f4) (hb2 : W.heap[a]? = some (.cells cs t fr)) (ht : t ≠ 98) : g ≠ a := by
 obtain ⟨A1, c1, hb, hg, hr1⟩ := h
 rintro rfl
 rw [hb] at hb2
 injection hb2 with hb2
 injection hb2 with _ ht2
 exact ht ht2.symm
def nuncioref11_At.f (k : Nat) (a0_0 : Int) (l0_1 : List (S88)) (a1 : Int) : Option (ByteArray × ByteArray × Bool) := (nuncioref11_All.f k a0_0 l0_1).bind fun t415 => (if a1 < 1 then (some ((⟨#[]⟩ : ByteArray), (⟨#[]⟩ : ByteArray), false)) else (if a1 > (t415.length : Int) then (some ((⟨#[]⟩ : ByteArray), (⟨#[]⟩ : ByteArray), false)) else (if 0 ≤ (wrap64 (a1 - 1)) then (if (wrap64 (a1 - 1)) < (t415.length : Int) then (some ((rd_T88 t415 (wrap64 (a1 - 1))).f0, (rd_T88 t415 (wrap64 (a1 - 1))).f1, true)) else (none)) else (none))))
def nuncioref01_Part.f (a0 : ByteArray) (a1 : Int) (a2 : Int) : Option (ByteArray × Bool) := if a1 < 0 then (some ((⟨#[]⟩ : ByteArray), false)) else (if a2 < 0 then (some ((⟨#[]⟩ : ByteArray), false)) else (if a1 > (a0.size : Int) then (some ((⟨#[]⟩ : ByteArray), false)) else (if a2 > (wrap64 ((a0.size : Int) - a1)) then (some ((⟨#[]⟩ : ByteArray), false)) else (if 0 ≤ a1 then (if a1 ≤ (wrap64 (a1 + a2)) then (if (wrap64 (a1 + a2)) ≤ (a0.size : Int) then (some (a0.extract (a1 : Int).toNat ((wrap64 (a1 + a2)) : Int).toNat, true)) else (none)) else (none)) else (none)))))
end Go.Proofs.YtfkdocmhbmameaaDoor.Mine
namespace Go.Proofs.YtfkdocmhbmameaaDoor.Mine
open Go.RowKit Go.Proofs Go.Proofs.YtfkdocmhbmameaaDoorW.PrintWords Go.Proofs.YtfkdocmhbmameaaDoorW.PrintLast Go.Proofs.YtfkdocmhbmameaaDoorW.PrintMore
attribute [local go_sem] max2_int min2_int max_two min_two max_three min_three max_four min_four
set_option linter.unusedVariables false
set_option linter.unusedSimpArgs false
def IsX (W : World) (g : Nat) (m : Int) (A : Option Addr) (n c : Nat) (s : ByteArray) (a e : Int) : Prop := W.heap[g]? = some (.cells #[.int .i64 m, .slice A n c, .string s, .int .i64 a, .int .i64 e] 98 (0, 0))
section
variable {W W1 : World} {g n c : Nat} {m a e : Int} {A : Option Addr} {s : ByteArray}
theorem IsX.below (h : IsX W g m A n c s a e) (hb : Below W.heap.size W W1) : IsX W1 g m A n c s a e := blk_below h hb
theorem IsX.keep {g2 : Nat} (h : IsX W g m A n c s a e) (hk : KeepBut W W1 g2 none) (hne : g ≠ g2) : IsX W1 g m A n c s a e := (hk.2 g (blk_lt h) hne (by simp)).trans h
theorem IsX.c0 (h : IsX W g m A n c s a e) : W.cell? ⟨g, 0, none⟩ = some (.int .i64 m) := (blk_cell h 0).trans rfl
theorem IsX.c1 (h : IsX W g m A n c s a e) : W.cell? ⟨g, 1, none⟩ = some (.slice A n c) := (blk_cell h 1).trans rfl
theorem IsX.c2 (h : IsX W g m A n c s a e) : W.cell? ⟨g, 2, none⟩ = some (.string s) := (blk_cell h 2).trans rfl
theorem IsX.c3 (h : IsX W g m A n c s a e) : W.cell? ⟨g, 3, none⟩ = some (.int .i64 a) := (blk_cell h 3).trans rfl
theorem IsX.c4 (h : IsX W g m A n c s a e) : W.cell? ⟨g, 4, none⟩ = some (.int .i64 e) := (blk_cell h 4).trans rfl
theorem IsX.set0 (h : IsX W g m A n c s a e) (z : Int) : IsX (W.setCell ⟨g, 0, none⟩ (.int .i64 z)) g z A n c s a e := blk_put h 0 _ rfl
theorem IsX.set1 (h : IsX W g m A n c s a e) (A' : Option Addr) (n' c' : Nat) : IsX (W.setCell ⟨g, 1, none⟩ (.slice A' n' c')) g m A' n' c' s a e := blk_put h 1 _ rfl
end
def rfNum (k : Nat) (s : ByteArray) (a e bits : Int) : Option (Int × Int × Int) :=
  if e = 0 then (nuncioref09_Get.f k s a bits).map fun p => (wrap64 p.1, p.2.1, p.2.2) else some (0, a, e)
def rfText0 (k : Nat) (s : ByteArray) (a : Int) (pk : Bool) : Option (ByteArray × Int × Int) :=
  (rfNum k s a 0 7).bind fun p => if p.2.2 = 0 then ((nuncioref01_Part.f s p.2.1 p.1).bind fun q => if q.2 = true then (if pk = true then ((nuncioref10_Decode.f k q.1).bind fun d => some (d.1, wrap64 (p.2.1 + p.1), d.2)) else some (q.1, wrap64 (p.2.1 + p.1), 0)) else some (⟨#[]⟩, p.2.1, 2)) else some (⟨#[]⟩, p.2.1, p.2.2)
def rfText (k : Nat) (s : ByteArray) (a e : Int) : Option (ByteArray × Int × Int) :=
  if e = 0 then (if 0 ≤ a then rfText0 k s a (decide (a < (s.size : Int)) && decide (bt s a ≥ 128)) else none) else some (⟨#[]⟩, a, e)
def rfEnt (k : Nat) (m : Int) (l : List S88) (e i : Int) : Option (ByteArray × ByteArray × Int) :=
  if e = 0 then (nuncioref11_At.f k m l i).map fun p => (p.1, p.2.1, if p.2.2 = true then 0 else 92) else some (⟨#[]⟩, ⟨#[]⟩, e)
theorem fldE0 (w : World) (v0 v1 : Value) : (Instr.field 88 (.agg #[v0, v1]) 0).run Tryd.prog w = .ok v0 w := by
  have hu := Tryd.underlying88
  have hf := Tryd.underlying9
  simp [Go.Instr.field, run_underlying hu, asAgg, part, isAgg, run_underlying hf]
attribute [local go_sem high] fldE0
def rfLit (k : Nat) (m : Int) (l : List S88) (s : ByteArray) (a e bits : Int) : Option (ByteArray × ByteArray × Int × Int) :=
  (rfNum k s a e bits).bind fun p => if p.1 > 0 then ((rfEnt k m l p.2.2 p.1).bind fun q => (rfText k s p.2.1 q.2.2).bind fun v => some (q.1, v.1, v.2.1, v.2.2)) else ((rfText k s p.2.1 p.2.2).bind fun u => (rfText k s u.2.1 u.2.2).bind fun v => some (u.1, v.1, v.2.1, v.2.2))
end Go.Proofs.YtfkdocmhbmameaaDoor.Mine
namespace Go.Proofs.YtfkdocmhbmameaaDoor.Pure
open Go.RowKit Go.Proofs.YtfkdocmhbmameaaDoorW.PrintWords Go.Proofs.YtfkdocmhbmameaaDoorW.PrintLast Go.Proofs.YtfkdocmhbmameaaDoorW.PrintMore
theorem w64 {x : Int} (h0 : -9223372036854775808 ≤ x) (h1 : x ≤ 9223372036854775807) : wrap64 x = x := by unfold wrap64; omega
theorem wu64 (n : Int) : IntKind.u64.wrap n = n % 18446744073709551616 := by simp [IntKind.wrap, IntKind.bits, IntKind.signed]
theorem wu64_id {n : Int} (h0 : 0 ≤ n) (h1 : n < 18446744073709551616) : IntKind.u64.wrap n = n := by rw [wu64]; omega
theorem wu32 (n : Int) : IntKind.u32.wrap n = n % 4294967296 := by simp [IntKind.wrap, IntKind.bits, IntKind.signed]
theorem wu16 (n : Int) : IntKind.u16.wrap n = n % 65536 := by simp [IntKind.wrap, IntKind.bits, IntKind.signed]
theorem b_u8 {n : Int} (h : (Lit.int .u8 n).wf = true) : 0 ≤ n ∧ n ≤ 255 := by
  simp [Lit.wf, IntKind.min, IntKind.max, IntKind.signed, IntKind.bits] at h; omega
theorem b_u16 {n : Int} (h : (Lit.int .u16 n).wf = true) : 0 ≤ n ∧ n ≤ 65535 := by
  simp [Lit.wf, IntKind.min, IntKind.max, IntKind.signed, IntKind.bits] at h; omega
theorem b_u32 {n : Int} (h : (Lit.int .u32 n).wf = true) : 0 ≤ n ∧ n ≤ 4294967295 := by
  simp [Lit.wf, IntKind.min, IntKind.max, IntKind.signed, IntKind.bits] at h; omega
theorem b_u64 {n : Int} (h : (Lit.int .u64 n).wf = true) : 0 ≤ n ∧ n ≤ 18446744073709551615 := by
  simp [Lit.wf, IntKind.min, IntKind.max, IntKind.signed, IntKind.bits] at h; omega
theorem b_i64 {n : Int} (h : (Lit.int .i64 n).wf = true) : -9223372036854775808 ≤ n ∧ n ≤ 9223372036854775807 := by
  simp [Lit.wf, IntKind.min, IntKind.max, IntKind.signed, IntKind.bits] at h; omega
theorem tdiv_pos {a : Int} (b : Int) (h : 0 ≤ a) : Int.tdiv a b = a / b := Int.tdiv_eq_ediv_of_nonneg h
theorem tmod_pos {a : Int} (b : Int) (h : 0 ≤ a) : Int.tmod a b = a % b := Int.tmod_eq_emod_of_nonneg h
theorem leO_up {α : Type} {g : Nat → Option α} (hm : ∀ k, LeO (g k) (g (k + 1))) {k : Nat} {r : α} (h : g k = some r) : ∀ d, g (k + d) = some r
  | 0 => h
  | d + 1 => hm _ r (leO_up hm h d)
theorem leO_ge {α : Type} {g : Nat → Option α} (hm : ∀ k, LeO (g k) (g (k + 1))) {k k' : Nat} {r : α} (h : g k = some r) (hk : k ≤ k') : g k' = some r := by
  have := leO_up hm h (k' - k)
  rwa [show k + (k' - k) = k' by omega] at this
end Go.Proofs.YtfkdocmhbmameaaDoor.Pure
namespace Go.Proofs.YtfkdocmhbmameaaDoor.Pure
open Go.RowKit Go.Proofs.YtfkdocmhbmameaaDoorW.PrintWords Go.Proofs.YtfkdocmhbmameaaDoorW.PrintLast Go.Proofs.YtfkdocmhbmameaaDoorW.PrintMore
def Bytes (l : List Int) : Prop := ∀ x ∈ l, 0 ≤ x ∧ x < 256
theorem Bytes.nil : Bytes [] := by intro x h; simp at h
theorem Bytes.append {a b : List Int} (ha : Bytes a) (hb : Bytes b) : Bytes (a ++ b) := fun x h => (List.mem_append.1 h).elim (ha x) (hb x)
theorem Bytes.cons {x : Int} {l : List Int} (h0 : 0 ≤ x) (h1 : x < 256) (hl : Bytes l) : Bytes (x :: l) := fun y h => (List.mem_cons.1 h).elim (fun e => by rw [e]; exact ⟨h0, h1⟩) (hl y)
theorem Bytes.tail {x : Int} {l : List Int} (h : Bytes (x :: l)) : Bytes l := fun y hy => h y (List.mem_cons_of_mem _ hy)
theorem Bytes.head {x : Int} {l : List Int} (h : Bytes (x :: l)) : 0 ≤ x ∧ x < 256 := h x List.mem_cons_self
theorem Bytes.take {l : List Int} (h : Bytes l) (n : Nat) : Bytes (l.take n) := fun x hx => h x (List.mem_of_mem_take hx)
theorem Bytes.drop {l : List Int} (h : Bytes l) (n : Nat) : Bytes (l.drop n) := fun x hx => h x (List.mem_of_mem_drop hx)
theorem bytes_wf {l : List Int} (h : ∀ x ∈ l, (Lit.int .u8 x).wf = true) : Bytes l := fun x hx => by have := b_u8 (h x hx); omega
theorem bytesOf_bytes (s : ByteArray) : Bytes (bytesOf s) := by
  intro x hx
  unfold bytesOf at hx
  obtain ⟨b, _, rfl⟩ := List.mem_map.1 hx
  have := b.toNat_lt
  omega
theorem bytesOf_str {l : List Int} (h : Bytes l) : bytesOf (strOfNums l) = l := by
  unfold bytesOf strOfNums
  simp only [List.map_map]
  conv => rhs; rw [← List.map_id l]
  apply List.map_congr_left
  intro x hx
  have := h x hx
  simp only [Function.comp_apply, id_eq, UInt8.toNat_ofNat']
  omega
theorem strOfNums_size (l : List Int) : (strOfNums l).size = l.length := by
  show (List.map (fun n => UInt8.ofNat n.toNat) l).toArray.size = l.length
  simp
theorem str_bytesOf (s : ByteArray) : strOfNums (bytesOf s) = s := by
  unfold bytesOf strOfNums
  simp only [List.map_map]
  have e : List.map ((fun n : Int => UInt8.ofNat n.toNat) ∘ fun b : UInt8 => (b.toNat : Int)) s.data.toList = s.data.toList := by
    conv => rhs; rw [← List.map_id s.data.toList]
    apply List.map_congr_left
    intro x _
    simp
  rw [e]
theorem bytesOf_inj {s t : ByteArray} (h : bytesOf s = bytesOf t) : s = t := by rw [← str_bytesOf s, h, str_bytesOf t]
theorem data_extract (s : ByteArray) (a b : Nat) : (s.extract a b).data.toList = (s.data.toList.drop a).take (b - a) := by
  rw [ByteArray.data_extract, Array.toList_extract, List.extract_eq_take_drop]
theorem bytesOf_extract (s : ByteArray) (a b : Nat) : bytesOf (s.extract a b) = ((bytesOf s).drop a).take (b - a) := by
  unfold bytesOf
  rw [data_extract, List.map_take, List.map_drop]
theorem bytesOf_append (s t : ByteArray) : bytesOf (s ++ t) = bytesOf s ++ bytesOf t := by
  unfold bytesOf
  rw [ByteArray.data_append, Array.toList_append, List.map_append]
theorem toList_eq (s : ByteArray) : s.toList = s.data.toList := ByteArray.toList_eq s
theorem toList_inj {s t : ByteArray} : s.toList = t.toList ↔ s = t := by
  constructor
  · intro h
    rw [toList_eq, toList_eq] at h
    exact ByteArray.ext (Array.toList_inj.1 h)
  · rintro rfl; rfl
theorem bytesOf_empty : bytesOf (⟨#[]⟩ : ByteArray) = [] := rfl
theorem size_bytesOf (s : ByteArray) : s.size = (bytesOf s).length := (bytesOf_length s).symm
theorem bt_eq (s : ByteArray) (i : Int) : bt s i = rd (bytesOf s) i := (rd_bytesOf s i).symm
theorem rd_nat {l : List Int} {i : Nat} (h : i < l.length) : rd l (i : Int) = l[i] := by
  unfold rd; rw [Int.toNat_natCast, List.getD_eq_getElem?_getD, List.getElem?_eq_getElem h]; rfl
theorem copied_zeros (l : List Int) : copied (List.replicate l.length 0) l = l := by
  unfold copied; rw [List.length_replicate, Nat.min_self, List.take_length, List.drop_eq_nil_of_le (by simp), List.append_nil]
def be (n : Int) : Nat → List Int
  | 0 => []
  | j + 1 => (n / 2 ^ (8 * j)) % 256 :: be n j
theorem be_length (n : Int) : ∀ j, (be n j).length = j
  | 0 => rfl
  | j + 1 => by rw [be, List.length_cons, be_length n j]
theorem be_bytes (n : Int) : ∀ j, Bytes (be n j)
  | 0 => Bytes.nil
  | j + 1 => Bytes.cons (by omega) (by omega) (be_bytes n j)
def beVal (acc : Int) (l : List Int) : Int := l.foldl (fun a b => a * 256 + b) acc
theorem beVal_cons (acc x : Int) (l : List Int) : beVal acc (x :: l) = beVal (acc * 256 + x) l := rfl
theorem beVal_acc : ∀ (l : List Int) (acc : Int), beVal acc l = acc * 256 ^ l.length + beVal 0 l
  | [], acc => by simp [beVal]
  | x :: l, acc => by
    rw [beVal_cons, beVal_cons, beVal_acc l (acc * 256 + x), beVal_acc l (0 * 256 + x), List.length_cons, Int.pow_succ]
    grind
theorem beVal_range {l : List Int} (h : Bytes l) : 0 ≤ beVal 0 l ∧ beVal 0 l < 256 ^ l.length := by
  induction l with
  | nil => simp [beVal]
  | cons x l ih =>
    obtain ⟨h1, h2⟩ := ih h.tail
    have hx := h.head
    rw [beVal_cons, beVal_acc, List.length_cons, Int.pow_succ]
    have hp : (0 : Int) < 256 ^ l.length := Int.pow_pos (by omega)
    have h3 : x * 256 ^ l.length ≤ 255 * 256 ^ l.length := Int.mul_le_mul_of_nonneg_right (by omega) (by omega)
    have h4 : 0 ≤ x * 256 ^ l.length := Int.mul_nonneg hx.1 (by omega)
    constructor <;> grind
theorem pow256_le {i j : Nat} (h : i ≤ j) : (256 : Int) ^ i ≤ 256 ^ j := by
  obtain ⟨d, rfl⟩ : ∃ d, j = i + d := ⟨j - i, by omega⟩
  clear h
  induction d with
  | zero => exact Int.le_refl _
  | succ d ih =>
    have h0 : (0 : Int) < 256 ^ (i + d) := Int.pow_pos (by omega)
    rw [← Nat.add_assoc, Int.pow_succ]; omega
theorem pow8 (j : Nat) : (2 : Int) ^ (8 * j) = 256 ^ j := by rw [Int.pow_mul]; rfl
theorem beVal_be (n : Int) : ∀ j, beVal 0 (be n j) = n % 256 ^ j
  | 0 => by simp [be, beVal, Int.emod_one]
  | j + 1 => by
    rw [be, beVal_cons, beVal_acc, beVal_be n j, be_length, pow8, Int.pow_succ]
    have hp : (0 : Int) < 256 ^ j := Int.pow_pos (by omega)
    have h1 := Int.emod_add_mul_ediv n (256 ^ j)
    have h2 := Int.emod_add_mul_ediv (n / 256 ^ j) 256
    have h3 : n / (256 ^ j * 256) = n / 256 ^ j / 256 := (Int.ediv_ediv_of_nonneg (by omega)).symm
    have h4 := Int.emod_add_mul_ediv n (256 ^ j * 256)
    rw [h3] at h4
    grind
theorem or_byte {a b : Int} (ha : 0 ≤ a) (ha2 : a * 256 < 18446744073709551616) (hb : 0 ≤ b) (hb2 : b < 256) :
    Go.bits .or .u64 (IntKind.u64.wrap (a * 256)) (IntKind.u64.wrap b) = a * 256 + b := by
  rw [wu64_id (by omega) ha2, wu64_id hb (by omega), u64_or _ _ (by omega) ha2 hb (by omega), nat_join 8 _ _ (by omega) (by omega)]
  omega
end Go.Proofs.YtfkdocmhbmameaaDoor.Pure
namespace Go.Proofs.YtfkdocmhbmameaaDoor.Pure
open Go.RowKit Go.Proofs.YtfkdocmhbmameaaDoorW.PrintWords Go.Proofs.YtfkdocmhbmameaaDoorW.PrintLast Go.Proofs.YtfkdocmhbmameaaDoorW.PrintMore
theorem ev_pos {α : Type} {c : Prop} [Decidable c] {f g : Nat → Option α} {r : α} (h : c) (e : Ev f r) : Ev (fun k => if c then f k else g k) r := Ev.congr (fun _ => if_pos h) e
theorem ev_neg {α : Type} {c : Prop} [Decidable c] {f g : Nat → Option α} {r : α} (h : ¬ c) (e : Ev g r) : Ev (fun k => if c then f k else g k) r := Ev.congr (fun _ => if_neg h) e
theorem ev_some {α β : Type} {f : Nat → α → Option β} {a : α} {r : β} (e : Ev (fun k => f k a) r) : Ev (fun k => (some a).bind (f k)) r := e
theorem ev_bind0 {α β : Type} {g : Option α} {f : Nat → α → Option β} {a : α} {r : β} (h : g = some a) (e : Ev (fun k => f k a) r) : Ev (fun k => g.bind (f k)) r := by rw [h]; exact e
theorem ev_val {α : Type} {a r : α} (h : a = r) : Ev (fun _ => some a) r := by rw [h]; exact Ev.now r
end Go.Proofs.YtfkdocmhbmameaaDoor.Pure
namespace Go.Proofs.YtfkdocmhbmameaaDoor.Pure
open Go.RowKit Go.Proofs.YtfkdocmhbmameaaDoor.Mine Go.Proofs.YtfkdocmhbmameaaDoorW.PrintWords Go.Proofs.YtfkdocmhbmameaaDoorW.PrintLast Go.Proofs.YtfkdocmhbmameaaDoorW.PrintMore
def bN : Nat → Nat → List Bool
  | 0, _ => []
  | n + 1, v => (v / 2 ^ n % 2 == 1) :: bN n v
theorem bN_length : ∀ n v, (bN n v).length = n
  | 0, _ => rfl
  | n + 1, v => by rw [bN, List.length_cons, bN_length n v]
theorem bN_add : ∀ a b v, bN (a + b) v = bN a (v / 2 ^ b) ++ bN b v
  | 0, b, v => by rw [Nat.zero_add]; rfl
  | a + 1, b, v => by
    rw [show a + 1 + b = (a + b) + 1 by omega, bN, bN, bN_add a b v, List.cons_append, Nat.div_div_eq_div_mul, ← Nat.pow_add, Nat.add_comm b a]
def bV : List Bool → Nat
  | [] => 0
  | b :: l => b.toNat * 2 ^ l.length + bV l
theorem bV_bN : ∀ n v, bV (bN n v) = v % 2 ^ n
  | 0, v => by simp [bN, bV, Nat.mod_one]
  | n + 1, v => by
    rw [bN, bV, bN_length, bV_bN n v, Nat.pow_succ, Nat.mod_mul]
    have h2 : v / 2 ^ n % 2 = 0 ∨ v / 2 ^ n % 2 = 1 := by omega
    rcases h2 with h | h <;> rw [h] <;> simp <;> omega
theorem bN_congr : ∀ {n v w : Nat}, v % 2 ^ n = w % 2 ^ n → bN n v = bN n w
  | 0, _, _, _ => rfl
  | n + 1, v, w, h => by
    have hp : 0 < 2 ^ n := Nat.pow_pos (by omega)
    rw [Nat.pow_succ, Nat.mod_mul, Nat.mod_mul] at h
    have h1 : v % 2 ^ n < 2 ^ n := Nat.mod_lt _ hp
    have h2 : w % 2 ^ n < 2 ^ n := Nat.mod_lt _ hp
    have h3 : v / 2 ^ n % 2 = 0 ∨ v / 2 ^ n % 2 = 1 := by omega
    have h4 : w / 2 ^ n % 2 = 0 ∨ w / 2 ^ n % 2 = 1 := by omega
    have h5 : v / 2 ^ n % 2 = w / 2 ^ n % 2 ∧ v % 2 ^ n = w % 2 ^ n := by
      rcases h3 with h3 | h3 <;> rcases h4 with h4 | h4 <;> rw [h3, h4] at h ⊢ <;> simp at h ⊢ <;> omega
    rw [bN, bN, h5.1, bN_congr h5.2]
theorem bN_inj {n v w : Nat} (hv : v < 2 ^ n) (hw : w < 2 ^ n) (h : bN n v = bN n w) : v = w := by
  have := congrArg bV h
  rwa [bV_bN, bV_bN, Nat.mod_eq_of_lt hv, Nat.mod_eq_of_lt hw] at this
theorem bN_one (v : Nat) : bN 1 v = [v % 2 == 1] := by simp [bN]
theorem bN_snoc (n c : Nat) (b : Bool) : bN (n + 1) (2 * c + b.toNat) = bN n c ++ [b] := by
  rw [bN_add n 1, bN_one]
  have e1 : (2 * c + b.toNat) / 2 ^ 1 = c := by cases b <;> simp <;> omega
  rw [e1]
  cases b <;> simp <;> omega
theorem bN_join (a b v c : Nat) (hc : c < 2 ^ b) : bN (a + b) (v * 2 ^ b + c) = bN a v ++ bN b c := by
  have hp : 0 < 2 ^ b := Nat.pow_pos (by omega)
  rw [bN_add, show (v * 2 ^ b + c) / 2 ^ b = v by rw [Nat.mul_comm, Nat.mul_add_div hp, Nat.div_eq_of_lt hc, Nat.add_zero], bN_congr (show (v * 2 ^ b + c) % 2 ^ b = c % 2 ^ b by rw [Nat.mul_comm, Nat.mul_add_mod])]
theorem bN_ones : ∀ n, bN n (2 ^ n - 1) = List.replicate n true
  | 0 => rfl
  | n + 1 => by
    have hp : 0 < 2 ^ n := Nat.pow_pos (by omega)
    have h1 : (2 ^ (n + 1) - 1) / 2 ^ n = 1 := by
      rw [Nat.pow_succ]
      exact Nat.div_eq_of_lt_le (by omega) (by omega)
    rw [bN, h1, bN_congr (show (2 ^ (n + 1) - 1) % 2 ^ n = (2 ^ n - 1) % 2 ^ n by
      rw [show 2 ^ (n + 1) - 1 = 2 ^ n * 1 + (2 ^ n - 1) by rw [Nat.pow_succ]; omega, Nat.mul_add_mod]), bN_ones n]
    rfl
def ub (l : List Int) : List Bool := l.flatMap fun x => bN 8 x.toNat
theorem ub_append (a b : List Int) : ub (a ++ b) = ub a ++ ub b := by simp [ub]
theorem ub_one (x : Int) : ub [x] = bN 8 x.toNat := by simp [ub]
theorem ub_cons (x : Int) (l : List Int) : ub (x :: l) = bN 8 x.toNat ++ ub l := by simp [ub]
theorem ub_length : ∀ l, (ub l).length = 8 * l.length
  | [] => rfl
  | x :: l => by rw [ub_cons, List.length_append, bN_length, ub_length l, List.length_cons]; omega
theorem ub_inj : ∀ {a b : List Int}, Bytes a → Bytes b → ub a = ub b → a = b
  | [], [], _, _, _ => rfl
  | [], y :: b, _, _, h => by have := congrArg List.length h; rw [ub_length, ub_length] at this; simp at this
  | x :: a, [], _, _, h => by have := congrArg List.length h; rw [ub_length, ub_length] at this; simp at this
  | x :: a, y :: b, ha, hb, h => by
    rw [ub_cons, ub_cons] at h
    obtain ⟨h1, h2⟩ := List.append_inj h (by rw [bN_length, bN_length])
    have hx := ha.head
    have hy := hb.head
    have := bN_inj (n := 8) (by omega) (by omega) h1
    rw [show x = y by omega, ub_inj ha.tail hb.tail h2]
def cb (c : Nat) : List Bool := bN (hcLen c) (hcCode c)
def eb (l : List Int) : List Bool := l.flatMap fun x => cb x.toNat
theorem eb_append (a b : List Int) : eb (a ++ b) = eb a ++ eb b := by simp [eb]
theorem eb_one (x : Int) : eb [x] = cb x.toNat := by simp [eb]
theorem eb_cons (x : Int) (l : List Int) : eb (x :: l) = cb x.toNat ++ eb l := by simp [eb]
theorem cb_length (c : Nat) : (cb c).length = hcLen c := bN_length _ _
def IsEnc (s o : List Int) : Prop := Bytes o ∧ ∃ p, p < 8 ∧ ub o = eb s ++ List.replicate p true
theorem IsEnc.uniq {s o o' : List Int} (h : IsEnc s o) (h' : IsEnc s o') : o = o' := by
  obtain ⟨hb, p, hp, e⟩ := h
  obtain ⟨hb', p', hp', e'⟩ := h'
  have l1 := congrArg List.length e
  have l2 := congrArg List.length e'
  rw [ub_length, List.length_append, List.length_replicate] at l1 l2
  have : p = p' := by omega
  subst this
  exact ub_inj hb hb' (e.trans e'.symm)
theorem IsEnc.length {s o : List Int} (h : IsEnc s o) : o.length = ((eb s).length + 7) / 8 := by
  obtain ⟨_, p, hp, e⟩ := h
  have l1 := congrArg List.length e
  rw [ub_length, List.length_append, List.length_replicate] at l1
  omega
theorem hcLen_bounds (c : Nat) (h : c < 257) : 5 ≤ hcLen c ∧ hcLen c ≤ 30 := by
  obtain ⟨_, _, _, h1, h2⟩ := hcSigns_all c h
  exact ⟨h1, h2⟩
theorem eb_length_bounds : ∀ {l : List Int}, Bytes l → 5 * l.length ≤ (eb l).length ∧ (eb l).length ≤ 30 * l.length
  | [], _ => by simp [eb]
  | x :: l, h => by
    have h1 := eb_length_bounds h.tail
    have h2 := h.head
    have h3 := hcLen_bounds x.toNat (by omega)
    rw [eb_cons, List.length_append, cb_length, List.length_cons]
    omega
theorem hcCode_lt : ∀ c, c < 257 → hcCode c < 2 ^ hcLen c := by decide +kernel
def look (n code : Nat) : Option Nat := if 5 ≤ n ∧ hcFirst n ≤ code ∧ code - hcFirst n < hcCount n then some (hcSign (hcBegin n + (code - hcFirst n))) else none
theorem look_all : ∀ n, n < 31 → ∀ d, d < 33 → (5 ≤ n ∧ d < hcCount n → hcSign (hcBegin n + d) < 257 ∧ hcLen (hcSign (hcBegin n + d)) = n ∧ hcCode (hcSign (hcBegin n + d)) = hcFirst n + d ∧ hcBegin n + d < 257) := by decide +kernel
theorem hcCount_le : ∀ n, n < 31 → hcCount n ≤ 32 := by decide +kernel
theorem look_some {n code sg : Nat} (hn : n < 31) (h : look n code = some sg) : 5 ≤ n ∧ hcFirst n ≤ code ∧ code - hcFirst n < hcCount n ∧ sg = hcSign (hcBegin n + (code - hcFirst n)) ∧ hcBegin n + (code - hcFirst n) < 257 ∧ sg < 257 ∧ hcLen sg = n ∧ hcCode sg = code := by
  unfold look at h
  split at h
  · rename_i hc
    obtain ⟨h1, h2, h3⟩ := hc
    have h4 := hcCount_le n hn
    obtain ⟨h5, h6, h7, h8⟩ := look_all n hn (code - hcFirst n) (by omega) ⟨h1, h3⟩
    have h9 := (Option.some.inj h).symm
    rw [← h9] at h5 h6 h7
    exact ⟨h1, h2, h3, h9, h8, h5, h6, by omega⟩
  · cases h
theorem look_of : ∀ c, c < 257 → look (hcLen c) (hcCode c) = some c := by decide +kernel
theorem limits : ∀ n, n < 30 → 5 ≤ n → hcFirst (n + 1) = 2 * (hcFirst n + hcCount n) := by decide +kernel
theorem limit_end : hcFirst 5 = 0 ∧ hcFirst 30 + hcCount 30 = 1073741824 := by decide +kernel
def Pend (code n : Nat) : Prop := code < 2 ^ n ∧ n ≤ 29 ∧ (5 ≤ n → hcFirst n + hcCount n ≤ code)
theorem Pend.zero : Pend 0 0 := ⟨by decide, by omega, by omega⟩
theorem Pend.first {code n : Nat} (h : Pend code n) (b : Bool) (h5 : 5 ≤ n + 1) : hcFirst (n + 1) ≤ 2 * code + b.toNat := by
  obtain ⟨h1, h2, h3⟩ := h
  by_cases e : n + 1 = 5
  · rw [e, limit_end.1]; omega
  · have := limits n (by omega) (by omega)
    have := h3 (by omega)
    omega
theorem Pend.lt {code n : Nat} (h : Pend code n) (b : Bool) : 2 * code + b.toNat < 2 ^ (n + 1) := by
  have := h.1
  rw [Nat.pow_succ]
  cases b <;> simp <;> omega
theorem Pend.step {code n : Nat} (h : Pend code n) (b : Bool) (hl : look (n + 1) (2 * code + b.toNat) = none) : Pend (2 * code + b.toNat) (n + 1) := by
  have hlt := h.lt b
  have key : 5 ≤ n + 1 → hcFirst (n + 1) + hcCount (n + 1) ≤ 2 * code + b.toNat := by
    intro h5
    have hf := h.first b h5
    refine Nat.le_of_not_lt fun hh => ?_
    unfold look at hl
    rw [if_pos ⟨h5, hf, by omega⟩] at hl
    cases hl
  refine ⟨hlt, ?_, key⟩
  refine Nat.le_of_not_lt fun hh => ?_
  have hn : n + 1 = 30 := by have := h.2.1; omega
  have h2 := key (by omega)
  rw [hn] at h2 hlt
  rw [limit_end.2] at h2
  omega
def dec : List Bool → Nat → Nat → Bool → List Int → Option (List Int)
  | [], _, n, ones, out => if n > 7 ∨ ones = false then none else some out
  | b :: bs, code, n, ones, out => match look (n + 1) (2 * code + b.toNat) with
    | none => dec bs (2 * code + b.toNat) (n + 1) (ones && b) out
    | some sg => if sg = 256 then none else dec bs 0 0 true (out ++ [(sg : Int)])
def hit : List Bool → Nat → Nat → Option Nat
  | [], _, _ => none
  | b :: bs, code, n => match look (n + 1) (2 * code + b.toNat) with
    | none => hit bs (2 * code + b.toNat) (n + 1)
    | some sg => if bs = [] then some sg else none
theorem hit_all : ∀ c, c < 257 → hit (cb c) 0 0 = some c := by decide +kernel
theorem dec_hit : ∀ (l R : List Bool) (code n : Nat) (ones : Bool) (out : List Int) (c : Nat), hit l code n = some c → c ≠ 256 → dec (l ++ R) code n ones out = dec R 0 0 true (out ++ [(c : Int)])
  | [], _, _, _, _, _, _, h, _ => by simp [hit] at h
  | b :: bs, R, code, n, ones, out, c, h, hc => by
    rw [List.cons_append, dec]
    rw [hit] at h
    cases e : look (n + 1) (2 * code + b.toNat) with
    | none =>
      rw [e] at h
      exact dec_hit bs R _ _ _ out c h hc
    | some sg =>
      rw [e] at h
      simp only at h ⊢
      by_cases hb : bs = []
      · subst hb
        rw [if_pos rfl] at h
        obtain rfl := Option.some.inj h
        rw [if_neg hc]; rfl
      · rw [if_neg hb] at h; cases h
theorem dec_text : ∀ (s : List Int) (R : List Bool) (out : List Int), Bytes s → dec (eb s ++ R) 0 0 true out = dec R 0 0 true (out ++ s)
  | [], R, out, _ => by simp [eb]
  | x :: s, R, out, h => by
    have hx := h.head
    rw [eb_cons, List.append_assoc, dec_hit (cb x.toNat) _ 0 0 true out x.toNat (hit_all _ (by omega)) (by omega), dec_text s R _ h.tail, show ((x.toNat : Nat) : Int) = x by omega, List.append_assoc]
    rfl
theorem ones_none : ∀ n, n < 16 → look n (2 ^ n - 1) = none := by decide +kernel
theorem dec_ones : ∀ (p n : Nat) (out : List Int), n + p < 16 → dec (List.replicate p true) (2 ^ n - 1) n true out = if n + p > 7 then none else some out
  | 0, n, out, _ => by simp [dec]
  | p + 1, n, out, h => by
    have hp : 0 < 2 ^ n := Nat.pow_pos (by omega)
    have e : 2 * (2 ^ n - 1) + true.toNat = 2 ^ (n + 1) - 1 := by rw [Nat.pow_succ]; simp; omega
    rw [List.replicate_succ, dec, e, ones_none (n + 1) (by omega)]
    show dec (List.replicate p true) (2 ^ (n + 1) - 1) (n + 1) true out = _
    rw [dec_ones p (n + 1) out (by omega), show n + 1 + p = n + (p + 1) by omega]
theorem dec_back (s : List Int) (hs : Bytes s) (p : Nat) (hp : p < 16) : dec (eb s ++ List.replicate p true) 0 0 true [] = if p > 7 then none else some s := by
  rw [dec_text s _ [] hs, List.nil_append]
  have := dec_ones p 0 s (by omega)
  rw [Nat.zero_add] at this
  exact this
theorem dec_sound : ∀ (bs : List Bool) (code n : Nat) (ones : Bool) (out y : List Int), Pend code n → ones = (code + 1 == 2 ^ n) → dec bs code n ones out = some y →
    ∃ z p, y = out ++ z ∧ p < 8 ∧ Bytes z ∧ bN n code ++ bs = eb z ++ List.replicate p true
  | [], code, n, ones, out, y, hP, ho, h => by
    rw [dec] at h
    split at h
    · cases h
    · rename_i hc
      have h7 : n ≤ 7 := Nat.le_of_not_lt fun hh => hc (.inl hh)
      have h1 : ones = true := by
        cases ones
        · exact absurd (.inr rfl) hc
        · rfl
      rw [h1] at ho
      have h2 : code + 1 = 2 ^ n := by simpa using ho.symm
      have h3 : code = 2 ^ n - 1 := by omega
      refine ⟨[], n, by rw [List.append_nil]; exact (Option.some.inj h).symm, by omega, Bytes.nil, ?_⟩
      rw [h3, bN_ones, List.append_nil]
      rfl
  | b :: bs, code, n, ones, out, y, hP, ho, h => by
    rw [dec] at h
    have e : bN n code ++ b :: bs = bN (n + 1) (2 * code + b.toNat) ++ bs := by rw [bN_snoc, List.append_assoc]; rfl
    cases hl : look (n + 1) (2 * code + b.toNat) with
    | none =>
      rw [hl] at h
      simp only at h
      have ho' : (ones && b) = (2 * code + b.toNat + 1 == 2 ^ (n + 1)) := by
        rw [ho, Nat.pow_succ, Bool.eq_iff_iff]
        generalize 2 ^ n = q
        cases b
        · rw [Bool.and_false, beq_iff_eq, show false.toNat = 0 from rfl]
          constructor
          · intro h_; cases h_
          · intro h_; omega
        · rw [Bool.and_true, beq_iff_eq, beq_iff_eq, show true.toNat = 1 from rfl]
          constructor <;> intro h_ <;> omega
      obtain ⟨z, p, h1, h2, h3, h4⟩ := dec_sound bs _ _ _ out y (hP.step b hl) ho' h
      exact ⟨z, p, h1, h2, h3, e.trans h4⟩
    | some sg =>
      rw [hl] at h
      simp only at h
      have hn := hP.2.1
      obtain ⟨_, _, _, _, _, hs, hL, hC⟩ := look_some (by omega) hl
      by_cases h6 : sg = 256
      · rw [if_pos h6] at h; cases h
      · rw [if_neg h6] at h
        obtain ⟨z, p, h1, h2, h3, h4⟩ := dec_sound bs 0 0 true (out ++ [(sg : Int)]) y Pend.zero rfl h
        refine ⟨(sg : Int) :: z, p, by rw [h1, List.append_assoc]; rfl, h2, Bytes.cons (by omega) (by omega) h3, ?_⟩
        rw [e, eb_cons, Int.toNat_natCast, List.append_assoc, ← h4, cb, hL, hC]
        rfl
end Go.Proofs.YtfkdocmhbmameaaDoor.Pure
