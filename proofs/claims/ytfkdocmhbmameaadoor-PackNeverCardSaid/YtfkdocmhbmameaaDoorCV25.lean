/- The walks and the plain laws that the rows come to: merged out of this repo's texts. -/
import Derived.Test.YtfkdocmhbmameaaDoorProg
import Derived.Below
import Derived.Deep.Draws
import Derived.Deep.AppendLies
import Derived.Maps.AppendAt
import Derived.OwnWalk
import Derived.Laws.BytesArg
import Derived.Laws.MakeOwn
import Derived.Laws.OwnMore
import Derived.Deep.OwnRows
import Derived.Tactics
import Derived.Lib.ConvBytes
import Derived.Laws.Slices
import Derived.WalkKit
import Derived.KernelRfl
import Derived.RowKit3
import Derived.Deep.LoopGhost
import Derived.Deep.QuietTactic
import Derived.BigQuiet
import Derived.WideLaws
import Derived.Deep.DeepCutAuto
import Derived.Deep.CutBlock
import Derived.Deep.RegionHeld3
import Derived.Laws.Rows
import Derived.Lib.AppendStr
import Derived.ArgAppend
import Derived.Laws.IdiomCopy
import Derived.RowKit
import Derived.OrdersHeld
import Derived.Laws.BitsLemmas
import Derived.Laws.StructEq
import Derived.Laws.CopyOwn
import Derived.SizedLaws
import Derived.ChangeSlices
import Derived.Deep.Slices
import Derived.Lib.SmallJoins
import Derived.Lib.OthersKept
import Derived.Lib.AppendZerosOnto
import Derived.WalkSpells
import Derived.Shelf.Utf8.RuneCount
import Derived.Shelf.Strings.Search1
import Derived.Shelf.Strings.Search2
import Derived.Shelf.Strings.Search3
import Derived.Shelf.Strings.Cut
import Derived.Shelf.Strings.Count
import Derived.Shelf.LaysM
import Derived.Shelf.Strings.Shaped
import Derived.Shelf.Strings.Split
import Derived.Shelf.Strings.SplitShaped
import Derived.Shelf.Unicode.Decode
import Derived.Shelf.Strings.RuneCount
import Derived.Shelf.Strings.Explode
import Derived.Shelf.Unicode.DecodeSlow
import Derived.Shelf.Unicode.DecodeAny
import Derived.Recover
import Derived.WalkLawsBesides
import Derived.Laws.BitsAllLaws
import Derived.Test.YtfkdocmhbmameaaDoorCV1
import Derived.Test.YtfkdocmhbmameaaDoorCV2
import Derived.Test.YtfkdocmhbmameaaDoorCV3
import Derived.Test.YtfkdocmhbmameaaDoorCV4
import Derived.Test.YtfkdocmhbmameaaDoorCV5
import Derived.Test.YtfkdocmhbmameaaDoorCV6
import Derived.Test.YtfkdocmhbmameaaDoorCV7
import Derived.Test.YtfkdocmhbmameaaDoorCV8
import Derived.Test.YtfkdocmhbmameaaDoorCV9
import Derived.Test.YtfkdocmhbmameaaDoorCV10
import Derived.Test.YtfkdocmhbmameaaDoorCV12
import Derived.Test.YtfkdocmhbmameaaDoorCV13
import Derived.Test.YtfkdocmhbmameaaDoorCV14
import Derived.Test.YtfkdocmhbmameaaDoorCV15
import Derived.Test.YtfkdocmhbmameaaDoorCV16
import Derived.Test.YtfkdocmhbmameaaDoorCV17
import Derived.Test.YtfkdocmhbmameaaDoorCV18
import Derived.Test.YtfkdocmhbmameaaDoorCV19
import Derived.Test.YtfkdocmhbmameaaDoorCV20
import Derived.Test.YtfkdocmhbmameaaDoorCV21
import Derived.Test.YtfkdocmhbmameaaDoorCV22
import Derived.Test.YtfkdocmhbmameaaDoorCV24
namespace Go.Proofs.YtfkdocmhbmameaaDoor.Pure
open Go.RowKit Go.Proofs.YtfkdocmhbmameaaDoor.Mine Go.Proofs.YtfkdocmhbmameaaDoorW.PrintWords Go.Proofs.YtfkdocmhbmameaaDoorW.PrintLast Go.Proofs.YtfkdocmhbmameaaDoorW.PrintMore
set_option linter.unusedVariables false
theorem bits_all : ∀ k : Fin 257, huff_bits.f ((k.val : Nat) : Int) = some ((hcLen k.val : Nat) : Int) := by decide +kernel
theorem bits_f {c : Int} (h0 : 0 ≤ c) (h1 : c < 257) : huff_bits.f c = some ((hcLen c.toNat : Nat) : Int) := by
  have := bits_all ⟨c.toNat, by omega⟩
  simp only at this
  rwa [show ((c.toNat : Nat) : Int) = c by omega] at this
theorem eb_drop {l : List Int} {i : Nat} (h : i < l.length) : eb (l.drop i) = cb (l[i]).toNat ++ eb (l.drop (i + 1)) := by
  rw [List.drop_eq_getElem_cons h, eb_cons]
theorem eb_take {l : List Int} {i : Nat} (h : i < l.length) : eb (l.take (i + 1)) = eb (l.take i) ++ cb (l[i]).toNat := by
  rw [List.take_succ_eq_append_getElem h, eb_append, eb_one]
theorem size_l0 {l : List Int} (hl : Bytes l) (hb : l.length ≤ 1000000) : ∀ d i (x : Nat), i + d = l.length → x ≤ 30 * i →
    Ev (fun k => huff_Size.l0 k (x : Int) l (l.length : Int) (i : Int)) (((x + (eb (l.drop i)).length + 7) / 8 : Nat) : Int)
  | 0, i, x, hd, hx => by
    refine Ev.step (f := fun _ => some (((x + (eb (l.drop i)).length + 7) / 8 : Nat) : Int)) (fun k => ?_) (Ev.now _)
    simp only [huff_Size.l0]
    rw [if_neg (by omega), List.drop_eq_nil_of_le (by omega), w64 (x := (x : Int) + 7) (by omega) (by omega), tdiv_pos _ (by omega), w64 (by omega) (by omega)]
    simp [eb]
  | d + 1, i, x, hd, hx => by
    have hi : i < l.length := by omega
    have hbi := hl _ (List.getElem_mem hi)
    have hL := hcLen_bounds (l[i]).toNat (by omega)
    have ih := size_l0 hl hb d (i + 1) (x + hcLen (l[i]).toNat) (by omega) (by omega)
    refine Ev.step (f := fun k => huff_Size.l0 k ((x + hcLen (l[i]).toNat : Nat) : Int) l (l.length : Int) ((i + 1 : Nat) : Int)) (fun k => ?_) ?_
    · simp only [huff_Size.l0]
      rw [if_pos (by omega), if_pos (by omega), if_pos (by omega), rd_nat hi, w64 (x := l[i]) (by omega) (by omega), bits_f hbi.1 (by omega), Option.bind_some, w64 (by omega) (by omega), w64 (by omega) (by omega)]
      simp
    · rw [eb_drop hi, List.length_append, cb_length, show x + (hcLen (l[i]).toNat + (eb (l.drop (i + 1))).length) = x + hcLen (l[i]).toNat + (eb (l.drop (i + 1))).length by omega]
      exact ih
def sz (l : List Int) : Nat := ((eb l).length + 7) / 8
theorem hsize_f (s : ByteArray) (hs : s.size ≤ 1000000) : Ev (fun k => huff_Size.f k s) ((sz (bytesOf s) : Nat) : Int) := by
  have h := size_l0 (bytesOf_bytes s) (by rw [bytesOf_length]; exact hs) (bytesOf s).length 0 0 (by omega) (by omega)
  refine Ev.congr (fun k => ?_) (show Ev (fun k => huff_Size.l0 k 0 (bytesOf s) ((bytesOf s).length : Int) 0) _ from ?_)
  · unfold huff_Size.f
    rw [if_pos (by omega), Option.bind_some]
  · rw [List.drop_zero, Nat.zero_add] at h
    exact h
theorem shl64 {x n : Nat} (h : x * 2 ^ n < 18446744073709551616) (hn : n ≤ 64) : shl .u64 (x : Int) (n : Int) = ((x * 2 ^ n : Nat) : Int) := by
  unfold shl
  rw [Int.toNat_natCast, show IntKind.u64.bits = 64 from rfl, Nat.min_eq_left hn]
  have e : (x : Int) * 2 ^ n = ((x * 2 ^ n : Nat) : Int) := by simp
  rw [e]
  exact wu64_id (by omega) (by omega)
theorem shr64 {k : IntKind} {x n : Nat} (hn : n ≤ k.bits) : shr k (x : Int) (n : Int) = ((x / 2 ^ n : Nat) : Int) := by
  unfold shr
  rw [Int.toNat_natCast, Nat.min_eq_left hn]
  simp
theorem pow_le_pow {a b : Nat} (h : a ≤ b) : 2 ^ a ≤ 2 ^ b := Nat.pow_le_pow_right (by omega) h
theorem mask64 {x h : Nat} (hx : x < 18446744073709551616) (hh : h < 8) : Go.bits .and .u64 (x : Int) (IntKind.u64.wrap (shl .u64 1 (h : Int) - 1)) = ((x % 2 ^ h : Nat) : Int) := by
  have hp : 0 < 2 ^ h := Nat.pow_pos (by omega)
  have hq : 2 ^ h ≤ 2 ^ 8 := pow_le_pow (by omega)
  have e := shl64 (x := 1) (n := h) (by omega) (by omega)
  rw [show ((1 : Nat) : Int) = 1 from rfl] at e
  rw [e, Nat.one_mul, wu64_id (by omega) (by omega), u64_and _ _ (by omega) (by omega) (by omega) (by omega), Int.toNat_natCast, show (((2 ^ h : Nat) : Int) - 1).toNat = 2 ^ h - 1 by omega, Nat.and_two_pow_sub_one_eq_mod]
theorem or64 {x c n : Nat} (hx : x * 2 ^ n < 18446744073709551616) (hc : c < 2 ^ n) (hn : n ≤ 30) : Go.bits .or .u64 (shl .u64 (x : Int) (n : Int)) (IntKind.u64.wrap (c : Int)) = ((x * 2 ^ n + c : Nat) : Int) := by
  have hq : 2 ^ n ≤ 2 ^ 30 := pow_le_pow hn
  rw [shl64 hx (by omega), wu64_id (by omega) (by omega), u64_or _ _ (by omega) (by omega) (by omega) (by omega), Int.toNat_natCast, Int.toNat_natCast, nat_join n _ _ (Nat.mul_mod_left _ _) hc]
theorem join_ones (x r : Nat) : x * 2 ^ r ||| (2 ^ r - 1) = x * 2 ^ r + (2 ^ r - 1) :=
  nat_join r _ _ (Nat.mul_mod_left _ _) (by have : 0 < 2 ^ r := Nat.pow_pos (by omega); omega)
theorem last8 {x h : Nat} (h0 : 0 < h) (h8 : h < 8) (hx : x < 2 ^ h) : Go.bits .or .u8 ((shl .u64 (x : Int) ((8 - h : Nat) : Int)) % 256) (((shl .u8 1 ((8 - h : Nat) : Int)) - 1) % 256) = ((x * 2 ^ (8 - h) + (2 ^ (8 - h) - 1) : Nat) : Int) := by
  have hp : 0 < 2 ^ (8 - h) := Nat.pow_pos (by omega)
  have hq : 2 ^ (8 - h) ≤ 2 ^ 7 := pow_le_pow (by omega)
  have hm : 2 ^ h * 2 ^ (8 - h) = 256 := by rw [← Nat.pow_add, show h + (8 - h) = 8 by omega]
  have hx2 : x * 2 ^ (8 - h) + 2 ^ (8 - h) ≤ 256 := by
    have : (x + 1) * 2 ^ (8 - h) ≤ 2 ^ h * 2 ^ (8 - h) := Nat.mul_le_mul_right _ hx
    rw [hm, Nat.add_mul] at this
    omega
  have e : shl .u8 1 ((8 - h : Nat) : Int) = ((2 ^ (8 - h) : Nat) : Int) := by
    unfold shl
    rw [Int.toNat_natCast, show IntKind.u8.bits = 8 from rfl, Nat.min_eq_left (by omega), Int.one_mul]
    have e2 : (2 : Int) ^ (8 - h) = ((2 ^ (8 - h) : Nat) : Int) := by simp
    rw [e2, show IntKind.u8.wrap ((2 ^ (8 - h) : Nat) : Int) = ((2 ^ (8 - h) : Nat) : Int) % 256 by simp [IntKind.wrap, IntKind.bits, IntKind.signed]]
    omega
  have ej := join_ones x (8 - h)
  rw [shl64 (by omega) (by omega), e]
  generalize 2 ^ (8 - h) = q at *
  have e3 : ((x * q : Nat) : Int) % 256 = ((x * q : Nat) : Int) := by omega
  have e4 : (((q : Nat) : Int) - 1) % 256 = ((q - 1 : Nat) : Int) := by omega
  rw [e3, e4, u8_or _ _ (by omega) (by omega) (by omega) (by omega), Int.toNat_natCast, Int.toNat_natCast, ej]
theorem enc_l1 {l : List Int} (i : Nat) {X : Nat} (hX : X < 2 ^ 40) (r : ByteArray) : ∀ (m h : Nat) (out : List Int), h < 8 * (m + 1) → Bytes out → h ≤ 40 → out.length + h ≤ 40000000 →
    (∀ (out' : List Int) (h' : Nat), h' < 8 → Bytes out' → ub out' ++ bN h' X = ub out ++ bN h X → out'.length * 8 + h' = out.length * 8 + h →
      Ev (fun k => huff_Encode.l0 k out' ((X % 2 ^ h' : Nat) : Int) (h' : Int) l (l.length : Int) (wrap64 ((i : Int) + 1))) r) →
    Ev (fun k => huff_Encode.l1 k out (X : Int) (h : Int) l (l.length : Int) (i : Int)) r
  | 0, h, out, hh, hB, _, hlen, H => by
    refine Ev.step (f := fun k => huff_Encode.l0 k out ((X % 2 ^ h : Nat) : Int) (h : Int) l (l.length : Int) (wrap64 ((i : Int) + 1))) (fun k => ?_) (H out h (by omega) hB rfl rfl)
    simp only [huff_Encode.l1]
    rw [if_neg (by omega), if_pos (by omega), mask64 (by omega) (by omega)]
  | m + 1, h, out, hh, hB, h40, hlen, H => by
    by_cases h8 : h < 8
    · exact enc_l1 i hX r 0 h out (by omega) hB h40 hlen H
    · refine Ev.step (f := fun k => huff_Encode.l1 k (out ++ [((X / 2 ^ (h - 8) % 256 : Nat) : Int)]) (X : Int) ((h - 8 : Nat) : Int) l (l.length : Int) (i : Int)) (fun k => ?_) ?_
      · simp only [huff_Encode.l1]
        rw [if_pos (by omega), w64 (by omega) (by omega), if_pos (by omega), if_pos (by omega), show (h : Int) - 8 = ((h - 8 : Nat) : Int) by omega, shr64 (by simp [IntKind.bits]; omega)]
        rfl
      · refine enc_l1 i hX r m (h - 8) _ (by omega) (hB.append (Bytes.cons (by omega) (by omega) Bytes.nil)) (by omega) (by simp; omega) (fun out' h' h1 h2 h3 h4 => H out' h' h1 h2 ?_ ?_)
        · rw [h3, ub_append, ub_one, Int.toNat_natCast, List.append_assoc, bN_congr (show X / 2 ^ (h - 8) % 256 % 2 ^ 8 = X / 2 ^ (h - 8) % 2 ^ 8 by omega), ← bN_add, show 8 + (h - 8) = h by omega]
        · rw [h4, List.length_append]; simp; omega
theorem enc_l0 {l : List Int} (hl : Bytes l) (hb : l.length ≤ 1000000) : ∀ d i (out : List Int) (X h : Nat), i + d = l.length → h < 8 → X < 2 ^ h → Bytes out → out.length * 8 + h = (eb (l.take i)).length → ub out ++ bN h X = eb (l.take i) →
    ∃ o, IsEnc l o ∧ Ev (fun k => huff_Encode.l0 k out (X : Int) (h : Int) l (l.length : Int) (i : Int)) (strOfNums o)
  | 0, i, out, X, h, hd, h8, hX, hB, hlen, hbits => by
    have hbd := (eb_length_bounds (hl.take i)).2
    have htl : (l.take i).length ≤ 1000000 := by rw [List.length_take]; omega
    have hti : l.take i = l := List.take_of_length_le (by omega)
    rw [hti] at hbits hlen hbd
    by_cases h0 : h = 0
    · subst h0
      refine ⟨out, ⟨hB, 0, by omega, ?_⟩, Ev.step (f := fun _ => some (strOfNums out)) (fun k => ?_) (Ev.now _)⟩
      · rw [← hbits]; simp [bN]
      · simp only [huff_Encode.l0]
        rw [if_neg (by omega), if_neg (by omega)]
    · have hq : 2 ^ h * 2 ^ (8 - h) = 256 := by rw [← Nat.pow_add, show h + (8 - h) = 8 by omega]
      have hp : 0 < 2 ^ (8 - h) := Nat.pow_pos (by omega)
      have hx2 : X * 2 ^ (8 - h) + 2 ^ (8 - h) ≤ 256 := by
        have : (X + 1) * 2 ^ (8 - h) ≤ 2 ^ h * 2 ^ (8 - h) := Nat.mul_le_mul_right _ hX
        rw [hq, Nat.add_mul] at this
        omega
      have hl8 := last8 (by omega) h8 hX
      refine ⟨out ++ [((X * 2 ^ (8 - h) + (2 ^ (8 - h) - 1) : Nat) : Int)], ⟨hB.append (Bytes.cons (by omega) (by omega) Bytes.nil), 8 - h, by omega, ?_⟩, Ev.step (f := fun _ => some (strOfNums (out ++ [((X * 2 ^ (8 - h) + (2 ^ (8 - h) - 1) : Nat) : Int)]))) (fun k => ?_) (Ev.now _)⟩
      · rw [ub_append, ub_one, Int.toNat_natCast, ← hbits, List.append_assoc]
        congr 1
        have h1 := bN_join h (8 - h) X (2 ^ (8 - h) - 1) (by omega)
        rw [show h + (8 - h) = 8 by omega] at h1
        rw [h1, bN_ones]
      · simp only [huff_Encode.l0]
        rw [if_neg (by omega), if_pos (by omega), w64 (x := 8 - (h : Int)) (by omega) (by omega), if_pos (by omega), if_pos (by omega), show 8 - (h : Int) = ((8 - h : Nat) : Int) by omega, hl8]
  | d + 1, i, out, X, h, hd, h8, hX, hB, hlen, hbits => by
    have hbd := (eb_length_bounds (hl.take i)).2
    have htl : (l.take i).length ≤ 1000000 := by rw [List.length_take]; omega
    have hi : i < l.length := by omega
    have hbi := hl _ (List.getElem_mem hi)
    obtain ⟨c, hc⟩ : ∃ c : Nat, l[i] = (c : Int) := ⟨(l[i]).toNat, by omega⟩
    have hc256 : c < 256 := by omega
    have hL := hcLen_bounds c (by omega)
    have hC := hcCode_lt c (by omega)
    obtain ⟨n, hn⟩ : ∃ n, n = hcLen c := ⟨_, rfl⟩
    rw [← hn] at hL hC
    have hpn : 2 ^ n ≤ 2 ^ 30 := pow_le_pow hL.2
    have hph : 2 ^ h ≤ 2 ^ 7 := pow_le_pow (by omega)
    have hmul : X * 2 ^ n + 2 ^ n ≤ 2 ^ h * 2 ^ n := by
      have : (X + 1) * 2 ^ n ≤ 2 ^ h * 2 ^ n := Nat.mul_le_mul_right _ hX
      rw [Nat.add_mul] at this
      omega
    have hmul2 : 2 ^ h * 2 ^ n ≤ 2 ^ 7 * 2 ^ 30 := Nat.mul_le_mul hph hpn
    have hX2 : X * 2 ^ n + hcCode c < 2 ^ 40 := by omega
    have key : ∀ (out' : List Int) (h' : Nat), h' < 8 → Bytes out' → ub out' ++ bN h' (X * 2 ^ n + hcCode c) = ub out ++ bN (h + n) (X * 2 ^ n + hcCode c) → out'.length * 8 + h' = out.length * 8 + (h + n) →
        ∃ o, IsEnc l o ∧ Ev (fun k => huff_Encode.l0 k out' (((X * 2 ^ n + hcCode c) % 2 ^ h' : Nat) : Int) (h' : Int) l (l.length : Int) (wrap64 ((i : Int) + 1))) (strOfNums o) := by
      intro out' h' h1 h2 h3 h4
      have h5 := enc_l0 hl hb d (i + 1) out' ((X * 2 ^ n + hcCode c) % 2 ^ h') h' (by omega) h1 (Nat.mod_lt _ (Nat.pow_pos (by omega))) h2 (by rw [eb_take hi, List.length_append, cb_length, hc, Int.toNat_natCast, ← hn]; omega)
        (by rw [bN_congr (Nat.mod_mod _ _), h3, bN_join h n X _ hC, ← List.append_assoc, hbits, eb_take hi, hc, Int.toNat_natCast, cb, ← hn])
      rw [w64 (by omega) (by omega)]
      exact h5
    obtain ⟨o, ho⟩ : ∃ o, IsEnc l o := by
      obtain ⟨o, h1, _⟩ := key (out ++ (List.range ((h + n) / 8)).map (fun j => (((X * 2 ^ n + hcCode c) / 2 ^ (h + n - 8 * (j + 1)) % 256 : Nat) : Int))) ((h + n) % 8) (by omega)
        (hB.append (fun x hx => by obtain ⟨j, _, rfl⟩ := List.mem_map.1 hx; omega))
        (by
          rw [ub_append, List.append_assoc]
          congr 1
          have : ∀ (q a : Nat) (Y : Nat), ub ((List.range q).map (fun j => ((Y / 2 ^ (8 * q + a - 8 * (j + 1)) % 256 : Nat) : Int))) ++ bN a Y = bN (8 * q + a) Y := by
            intro q
            induction q with
            | zero => intro a Y; simp [ub]
            | succ q ih =>
              intro a Y
              rw [List.range_succ_eq_map, List.map_cons, ub_cons, Int.toNat_natCast, List.map_map, show 8 * (q + 1) + a - 8 * (0 + 1) = 8 * q + a by omega, List.append_assoc]
              have e : (fun j => ((Y / 2 ^ (8 * (q + 1) + a - 8 * (j + 1)) % 256 : Nat) : Int)) ∘ Nat.succ = (fun j => ((Y / 2 ^ (8 * q + a - 8 * (j + 1)) % 256 : Nat) : Int)) := by
                funext j
                simp only [Function.comp_apply]
                rw [show 8 * (q + 1) + a - 8 * (j.succ + 1) = 8 * q + a - 8 * (j + 1) by omega]
              rw [e, ih a Y, bN_congr (show Y / 2 ^ (8 * q + a) % 256 % 2 ^ 8 = Y / 2 ^ (8 * q + a) % 2 ^ 8 by omega), ← bN_add, show 8 + (8 * q + a) = 8 * (q + 1) + a by omega]
          have h1 := this ((h + n) / 8) ((h + n) % 8) (X * 2 ^ n + hcCode c)
          rw [show 8 * ((h + n) / 8) + (h + n) % 8 = h + n by omega] at h1
          exact h1)
        (by rw [List.length_append, List.length_map, List.length_range]; omega)
      exact ⟨o, h1⟩
    refine ⟨o, ho, Ev.step (f := fun k => huff_Encode.l1 k out ((X * 2 ^ n + hcCode c : Nat) : Int) ((h + n : Nat) : Int) l (l.length : Int) (i : Int)) (fun k => ?_) ?_⟩
    · have e1 : hb0 (c : Int) = ((hcCode c : Nat) : Int) := by unfold hb0; rw [Int.toNat_natCast]
      simp only [huff_Encode.l0]
      rw [if_pos (by omega), if_pos (by omega), if_pos (by omega), rd_nat hi, hc, w64 (x := (c : Int)) (by omega) (by omega), bits_f (by omega) (by omega), Option.bind_some, Int.toNat_natCast, ← hn, if_pos (by omega), if_pos (by omega), if_pos (by omega), e1, or64 (by omega) hC hL.2, w64 (x := (h : Int) + (n : Int)) (by omega) (by omega), show (h : Int) + (n : Int) = ((h + n : Nat) : Int) by omega]
    · refine enc_l1 i hX2 _ 5 (h + n) out (by omega) hB (by omega) (by omega) (fun out' h' h1 h2 h3 h4 => ?_)
      obtain ⟨o', h5, h6⟩ := key out' h' h1 h2 h3 h4
      rw [IsEnc.uniq ho h5]
      exact h6
theorem encode_f (s : ByteArray) (hs : s.size ≤ 1000000) : ∃ o, IsEnc (bytesOf s) o ∧ Ev (fun k => huff_Encode.f k s) (strOfNums o) := by
  have hlen : (bytesOf s).length = s.size := bytesOf_length s
  obtain ⟨o, ho, hE⟩ := enc_l0 (bytesOf_bytes s) (by omega) (bytesOf s).length 0 [] 0 0 (by omega) (by omega) (by decide) Bytes.nil rfl rfl
  refine ⟨o, ho, ?_⟩
  have hsz := hsize_f s hs
  have hbd := (eb_length_bounds (bytesOf_bytes s)).2
  have e : sz (bytesOf s) ≤ 30000000 := by unfold sz; omega
  refine Ev.congr (fun k => show huff_Encode.f k s = (huff_Size.f k s).bind (fun t => if 0 ≤ t then (if (t : Int).toNat ≤ 281474976710656 then (if (s.size : Int) ≤ 9223372036854775807 then huff_Encode.l0 k [] 0 0 (bytesOf s) ((bytesOf s).length : Int) 0 else none) else none) else none) from ?_) (Ev.bind hsz ?_)
  · unfold huff_Encode.f huff_made.f
    rw [Option.bind_some]
    rfl
  · refine Ev.congr (fun k => ?_) hE
    rw [if_pos (by omega), if_pos (by omega), if_pos (by omega)]
    rfl
end Go.Proofs.YtfkdocmhbmameaaDoor.Pure
namespace Go.Proofs.YtfkdocmhbmameaaDoor.Pure
open Go.RowKit Go.Proofs.YtfkdocmhbmameaaDoor.Mine Go.Proofs.YtfkdocmhbmameaaDoorW.PrintWords Go.Proofs.YtfkdocmhbmameaaDoorW.PrintLast Go.Proofs.YtfkdocmhbmameaaDoorW.PrintMore
set_option linter.unusedVariables false
theorem length_all : ∀ k : Fin 257, nuncioref10_Length.f ((k.val : Nat) : Int) = some ((hcLen k.val : Nat) : Int) := by decide +kernel
theorem length_f {c : Int} (h0 : 0 ≤ c) (h1 : c < 257) : nuncioref10_Length.f c = some ((hcLen c.toNat : Nat) : Int) := by
  have := length_all ⟨c.toNat, by omega⟩
  simp only at this
  rwa [show ((c.toNat : Nat) : Int) = c by omega] at this
def codesL : List Int := hcCodeL.map fun n => ((n : Nat) : Int)
theorem codes_f : Ev (fun k => nuncioref10_Codes.f k) codesL := Ev.of nuncioref10_Codes.mono (k := 7600) (by decide +kernel)
end Go.Proofs.YtfkdocmhbmameaaDoor.Pure
namespace Go.Proofs.YtfkdocmhbmameaaDoor.Pure
open Go.RowKit Go.Proofs.YtfkdocmhbmameaaDoor.Mine Go.Proofs.YtfkdocmhbmameaaDoorW.PrintWords Go.Proofs.YtfkdocmhbmameaaDoorW.PrintLast Go.Proofs.YtfkdocmhbmameaaDoorW.PrintMore
set_option linter.unusedVariables false
theorem bit_toNat (y : Nat) : (y % 2 == 1).toNat = y % 2 := by
  have : y % 2 = 0 ∨ y % 2 = 1 := by omega
  rcases this with h | h <;> rw [h] <;> rfl
end Go.Proofs.YtfkdocmhbmameaaDoor.Pure
namespace Go.Proofs.YtfkdocmhbmameaaDoor.Pure
open Go.RowKit Go.Proofs.YtfkdocmhbmameaaDoor.Mine Go.Proofs.YtfkdocmhbmameaaDoorW.PrintWords Go.Proofs.YtfkdocmhbmameaaDoorW.PrintLast Go.Proofs.YtfkdocmhbmameaaDoorW.PrintMore
set_option linter.unusedVariables false
theorem sm_ge : ∀ (l : List S88), 32 * (l.length : Int) ≤ sm l
  | [] => by simp [sm]
  | x :: r => by
    have := sm_ge r
    have := es_ge x
    simp only [sm, List.length_cons]
    omega
def Wt (m : M) : Prop := Ok 128 m ∧ m.1 ≤ 4096
theorem Wt.of {n : Nat} {m : M} (h : Ok n m) (h1 : m.1 ≤ 4096) : Wt m := ⟨⟨h.1, by have := sm_ge m.2; have := h.2.2.2; omega, h.2.2⟩, h1⟩
theorem Wt.add {m : M} (h : Wt m) {a b : ByteArray} (he : es ⟨a, b⟩ ≤ 10000) : Wt (Pure.add m a b) := Wt.of (ok_add h.1 he) h.2
theorem Wt.rsz {m : M} (h : Wt m) {x : Int} (hx : x ≤ 4096) : Wt (Pure.rsz m x) := Wt.of (ok_rsz h.1 (by omega)) (by show mx x 0 ≤ 4096; unfold mx; split <;> omega)
theorem mkT_len (m : M) : (mkT m).l.length = m.2.length := by unfold mkT; simp
theorem mkT_fx (m : M) : (mkT m).fx.length = 61 := by dsimp only [mkT]; exact tbFixed_len
end Go.Proofs.YtfkdocmhbmameaaDoor.Pure
namespace Go.Proofs.YtfkdocmhbmameaaDoor.Pure
open Go.RowKit Go.Proofs.YtfkdocmhbmameaaDoor.Mine Go.Proofs.YtfkdocmhbmameaaDoorW.PrintWords Go.Proofs.YtfkdocmhbmameaaDoorW.PrintLast Go.Proofs.YtfkdocmhbmameaaDoorW.PrintMore
set_option linter.unusedVariables false
abbrev FP := S26
theorem tbFind_M (m : M) (nm vl : ByteArray) : tbFind (mkT m).fx (mkT m).l nm vl ((mkT m).fx.length + (mkT m).l.length) 1 0 = fdM m nm vl := by
  have e := find_loop tbFixed_len m nm vl (tbFixed.map cv ++ m.2) (tbFixed.length + ((m.2.map bk).reverse).length) 0 0 rfl (by simp only [List.length_append, List.length_reverse, List.length_map])
  rw [show ((0 : Nat) : Int) + 1 = 1 from rfl] at e
  unfold mkT
  dsimp only
  rw [e]
  unfold fdM fdF
  rw [fixed_cv]
  cases exI nm vl (F38 ++ m.2) 1 <;> rfl
theorem exI_range {nm vl : ByteArray} : ∀ (l : List S88) (i j : Int), exI nm vl l i = some j → i ≤ j ∧ j < i + (l.length : Int)
  | [], i, j, h => by simp [exI] at h
  | x :: l, i, j, h => by
    rw [exI] at h
    rw [List.length_cons]
    split at h
    · have := Option.some.inj h
      omega
    · have := exI_range l (i + 1) j h
      omega
theorem nmI_range {nm : ByteArray} : ∀ (l : List S88) (i : Int), 0 ≤ i → 0 ≤ nmI nm l i ∧ nmI nm l i ≤ i + (l.length : Int)
  | [], i, h => by
    rw [nmI]
    simp only [List.length_nil]
    omega
  | x :: l, i, h => by
    rw [nmI, List.length_cons]
    split
    · omega
    · have := nmI_range (nm := nm) l (i + 1) (by omega)
      omega
theorem fdM_range {m : M} (h : Wt m) (nm vl : ByteArray) : 0 ≤ (fdM m nm vl).1 ∧ (fdM m nm vl).1 ≤ 200 := by
  have hl := h.1.2.1
  have hF : (F38 ++ m.2).length ≤ 189 := by rw [List.length_append, F38_len]; omega
  unfold fdM fdF
  cases he : exI nm vl (F38 ++ m.2) 1 with
  | some j =>
    have := exI_range _ _ _ he
    simp only
    omega
  | none =>
    have := nmI_range (nm := nm) (F38 ++ m.2) 1 (by omega)
    simp only
    omega
theorem encI_len (first F n : Int) : 1 ≤ (encI first F n).length ∧ (encI first F n).length ≤ 11 := by
  unfold encI
  split
  · simp
  · have := vint_length 9 (n - F)
    rw [List.length_cons]
    omega
theorem u64_id {n : Int} (h0 : 0 ≤ n) (h1 : n ≤ 4294967295) : IntKind.u64.wrap n = n := wu64_id h0 (by omega)
theorem put_ev (b : List Int) (hb : b.length ≤ 100000000) {first : Int} (hf0 : 0 ≤ first) (hf1 : first < 256) (bits : Int) {n : Int} (h0 : 0 ≤ n) (h1 : n ≤ 4294967295) : Ev (fun k => prefix_Put.f k b first bits (IntKind.u64.wrap n)) (b ++ encI first (ful bits) n) :=
  ⟨10, fun k hk => by show prefix_Put.f k b first bits (IntKind.u64.wrap n) = _; rw [u64_id h0 h1]; exact pput_f bits (by omega) hf0 hf1 h0 (by omega) hk⟩
def PT (t : ByteArray) (x : List Int) : Prop := (∃ o, IsEnc (bytesOf t) o ∧ o.length < t.size ∧ x = encI 128 (ful 7) (o.length : Int) ++ o) ∨ x = encI 0 (ful 7) (t.size : Int) ++ bytesOf t
def PL (nm vl : ByteArray) (first bits n : Int) (x : List Int) : Prop := ∃ u v, x = encI first (ful bits) n ++ u ++ v ∧ PT vl v ∧ (n = 0 → PT nm u) ∧ (n ≠ 0 → u = [])
theorem ptext_ev {t : ByteArray} (ht : t.size ≤ 3000) (b : List Int) (hb : b.length ≤ 50000000) : ∃ x, x.length ≤ 12000 ∧ PT t x ∧ Ev (fun k => pack_text.f k b t) (b ++ x) := by
  obtain ⟨o, ho, he⟩ := encode_f t (by omega)
  have hs := hsize_f t (by omega)
  have hl := (eb_length_bounds (bytesOf_bytes t)).2
  rw [bytesOf_length] at hl
  have ho2 : 8 * o.length ≤ 30 * t.size + 8 := by
    obtain ⟨_, p, hp, e⟩ := ho
    have e2 := congrArg List.length e
    rw [ub_length, List.length_append, List.length_replicate] at e2
    omega
  have hz : sz (bytesOf t) ≤ 30000000 := by unfold sz; omega
  by_cases hc : ((sz (bytesOf t) : Nat) : Int) < (t.size : Int)
  · have e1 := encI_len 128 (ful 7) ((sz (bytesOf t) : Nat) : Int)
    have hoz : o.length = sz (bytesOf t) := ho.length
    refine ⟨encI 128 (ful 7) ((sz (bytesOf t) : Nat) : Int) ++ o, by rw [List.length_append]; omega, .inl ⟨o, ho, by omega, by rw [hoz]⟩, ?_⟩
    refine Ev.congr (fun k => by rw [pack_text.f]) ?_
    refine Ev.bind hs ?_
    refine ev_pos hc ?_
    refine Ev.bind (put_ev b (by omega) (by omega) (by omega) 7 (by omega) (by omega)) ?_
    refine Ev.bind he ?_
    refine ev_pos (by rw [strOfNums_size, List.length_append]; omega) ?_
    exact ev_val (by rw [bytesOf_str ho.1, List.append_assoc])
  · have e1 := encI_len 0 (ful 7) (t.size : Int)
    refine ⟨encI 0 (ful 7) (t.size : Int) ++ bytesOf t, by rw [List.length_append, bytesOf_length]; omega, .inr rfl, ?_⟩
    refine Ev.congr (fun k => by rw [pack_text.f]) ?_
    refine Ev.bind hs ?_
    refine ev_neg hc ?_
    refine Ev.bind (put_ev b (by omega) (by omega) (by omega) 7 (by omega) (by omega)) ?_
    refine ev_pos (by rw [List.length_append]; omega) ?_
    exact ev_val (by rw [List.append_assoc])
theorem plit_ev {nm vl : ByteArray} (hn : nm.size ≤ 3000) (hv : vl.size ≤ 3000) (b : List Int) (hb : b.length ≤ 40000000) {first n : Int} (hf0 : 0 ≤ first) (hf1 : first < 256) (bits : Int) (h0 : 0 ≤ n) (h1 : n ≤ 4294967295) (nv : Bool) :
    ∃ x, x.length ≤ 30000 ∧ PL nm vl first bits n x ∧ Ev (fun k => pack_literal.f k b first bits n nm vl nv) (b ++ x) := by
  have e1 := encI_len first (ful bits) n
  by_cases hz : n = 0
  · obtain ⟨x, hx, hxt, u⟩ := ptext_ev hn (b ++ encI first (ful bits) n) (by rw [List.length_append]; omega)
    obtain ⟨y, hy, hyt, v⟩ := ptext_ev hv (b ++ encI first (ful bits) n ++ x) (by rw [List.length_append, List.length_append]; omega)
    refine ⟨encI first (ful bits) n ++ x ++ y, by rw [List.length_append, List.length_append]; omega, ⟨x, y, rfl, hyt, fun _ => hxt, fun h => absurd hz h⟩, ?_⟩
    refine Ev.congr (fun k => by rw [pack_literal.f]) ?_
    refine Ev.bind (put_ev b (by omega) hf0 hf1 bits h0 h1) ?_
    refine ev_pos hz ?_
    refine Ev.bind u ?_
    refine Ev.bind v ?_
    exact ev_val (by rw [List.append_assoc, List.append_assoc, List.append_assoc])
  · obtain ⟨y, hy, hyt, v⟩ := ptext_ev hv (b ++ encI first (ful bits) n) (by rw [List.length_append]; omega)
    refine ⟨encI first (ful bits) n ++ y, by rw [List.length_append]; omega, ⟨[], y, by rw [List.append_nil], hyt, fun h => absurd h hz, fun _ => rfl⟩, ?_⟩
    refine Ev.congr (fun k => by rw [pack_literal.f]) ?_
    refine Ev.bind (put_ev b (by omega) hf0 hf1 bits h0 h1) ?_
    refine ev_neg hz ?_
    refine Ev.bind v ?_
    exact ev_val (by rw [List.append_assoc])
end Go.Proofs.YtfkdocmhbmameaaDoor.Pure
namespace Go.Proofs.YtfkdocmhbmameaaDoor.Pure
open Go.RowKit Go.Proofs.YtfkdocmhbmameaaDoor.Mine Go.Proofs.YtfkdocmhbmameaaDoorW.PrintWords Go.Proofs.YtfkdocmhbmameaaDoorW.PrintLast Go.Proofs.YtfkdocmhbmameaaDoorW.PrintMore
set_option linter.unusedVariables false
def aft (m : M) (f : FP) : M := if f.f2 = true then m else if (fdM m f.f0 f.f1).2 = true then m else if (f.f0.size : Int) + (f.f1.size : Int) ≤ m.1 - 32 then add m f.f0 f.f1 else m
def Sml (f : FP) : Prop := f.f0.size ≤ 3000 ∧ f.f1.size ≤ 3000
theorem Wt.aft {m : M} (h : Wt m) {f : FP} (hf : Sml f) : Wt (Pure.aft m f) := by
  unfold Pure.aft
  split
  · exact h
  · split
    · exact h
    · split
      · exact h.add (by unfold es; have := hf.1; have := hf.2; simp only; omega)
      · exact h
theorem pk_room {m : M} (h : Wt m) : (mkT m).l.length < 4398046511103 ∧ (mkT m).fx.length < 4398046511103 := ⟨by rw [mkT_len]; have := h.1.2.1; omega, by rw [mkT_fx]; omega⟩
theorem pfield_whole {m : M} (h : Wt m) {f : FP} (hn : ¬ f.f2 = true) (hw : (fdM m f.f0 f.f1).2 = true) (b : List Int) (hb : b.length ≤ 30000000) (le : Int) (ch : Bool) :
    Ev (fun k => pkField k ⟨mkT m, le, ch⟩ b f) (b ++ encI 128 (ful 7) (fdM m f.f0 f.f1).1, ⟨mkT m, le, ch⟩) := by
  have hr := fdM_range h f.f0 f.f1
  refine Ev.congr (fun k => by rw [pkField]) ?_
  refine ev_pos (pk_room h) ?_
  refine ev_neg hn ?_
  simp only [tbFind_M]
  refine ev_pos hw ?_
  obtain ⟨K, hK⟩ := put_ev b (by omega) (first := 128) (by omega) (by omega) 7 (n := (fdM m f.f0 f.f1).1) (by omega) (by omega)
  exact ⟨K, fun k hk => by have := hK k hk; simp only at this ⊢; rw [this]; rfl⟩
def PF (m : M) (f : FP) (x : List Int) : Prop :=
  if f.f2 = true then PL f.f0 f.f1 16 4 (fdM m f.f0 f.f1).1 x else if (fdM m f.f0 f.f1).2 = true then x = encI 128 (ful 7) (fdM m f.f0 f.f1).1
  else if (f.f0.size : Int) + (f.f1.size : Int) ≤ m.1 - 32 then PL f.f0 f.f1 64 6 (fdM m f.f0 f.f1).1 x else PL f.f0 f.f1 0 4 (fdM m f.f0 f.f1).1 x
theorem pfield_ev {m : M} (h : Wt m) {f : FP} (hf : Sml f) (b : List Int) (hb : b.length ≤ 30000000) (le : Int) (ch : Bool) :
    ∃ x, x.length ≤ 30000 ∧ PF m f x ∧ Ev (fun k => pkField k ⟨mkT m, le, ch⟩ b f) (b ++ x, ⟨mkT (aft m f), le, ch⟩) := by
  have hr := fdM_range h f.f0 f.f1
  have hm0 := h.1.1.1
  have hm1 := h.2
  have w1 : wrap64 ((f.f0.size : Int) + (f.f1.size : Int)) = (f.f0.size : Int) + (f.f1.size : Int) := w64 (by have := hf.1; have := hf.2; omega) (by have := hf.1; have := hf.2; omega)
  have w2 : wrap64 (m.1 - 32) = m.1 - 32 := w64 (by omega) (by omega)
  have plt : ∀ (first bits : Int), 0 ≤ first → first < 256 → ∃ x, x.length ≤ 30000 ∧ PL f.f0 f.f1 first bits (fdM m f.f0 f.f1).1 x ∧ Ev (fun k => pack_literal.f k b first bits (fdM m f.f0 f.f1).1 f.f0 f.f1 f.f2) (b ++ x) := fun first bits a0 a1 => plit_ev hf.1 hf.2 b (by omega) a0 a1 bits (by omega) (by omega) f.f2
  have mp : ∀ {g : Nat → Option (List Int)} {x : List Int} {e : TE}, Ev g x → Ev (fun k => (g k).map fun y => (y, e)) (x, e) := fun ⟨K, hK⟩ => ⟨K, fun k hk => by simp only; rw [hK k hk]; rfl⟩
  unfold aft PF
  by_cases hn : f.f2 = true
  · obtain ⟨x, hx, hp, u⟩ := plt 16 4 (by omega) (by omega)
    rw [if_pos hn]
    refine ⟨x, hx, by rw [if_pos hn]; exact hp, ?_⟩
    refine Ev.congr (fun k => by rw [pkField]) ?_
    refine ev_pos (pk_room h) ?_
    refine ev_pos hn ?_
    simp only [tbFind_M]
    exact mp u
  · rw [if_neg hn]
    by_cases hw : (fdM m f.f0 f.f1).2 = true
    · rw [if_pos hw]
      refine ⟨encI 128 (ful 7) (fdM m f.f0 f.f1).1, by have := encI_len 128 (ful 7) (fdM m f.f0 f.f1).1; omega, by rw [if_neg hn, if_pos hw], ?_⟩
      exact pfield_whole h hn hw b (by omega) le ch
    · rw [if_neg hw]
      by_cases hc : (f.f0.size : Int) + (f.f1.size : Int) ≤ m.1 - 32
      · obtain ⟨x, hx, hp, u⟩ := plt 64 6 (by omega) (by omega)
        have ha := add_f h.1 (by omega) (a := f.f0) (b := f.f1) (by unfold es; have := hf.1; have := hf.2; simp only; omega)
        rw [if_pos hc]
        refine ⟨x, hx, by rw [if_neg hn, if_neg hw, if_pos hc]; exact hp, ?_⟩
        refine Ev.congr (fun k => by rw [pkField]) ?_
        refine ev_pos (pk_room h) ?_
        refine ev_neg hn ?_
        simp only [tbFind_M]
        refine ev_neg hw ?_
        refine ev_pos (show wrap64 ((f.f0.size : Int) + (f.f1.size : Int)) ≤ wrap64 ((mkT m).most - 32) by rw [w1]; show _ ≤ wrap64 (m.1 - 32); rw [w2]; exact hc) ?_
        refine ev_bind0 ha ?_
        exact mp u
      · obtain ⟨x, hx, hp, u⟩ := plt 0 4 (by omega) (by omega)
        rw [if_neg hc]
        refine ⟨x, hx, by rw [if_neg hn, if_neg hw, if_neg hc]; exact hp, ?_⟩
        refine Ev.congr (fun k => by rw [pkField]) ?_
        refine ev_pos (pk_room h) ?_
        refine ev_neg hn ?_
        simp only [tbFind_M]
        refine ev_neg hw ?_
        refine ev_neg (show ¬ wrap64 ((f.f0.size : Int) + (f.f1.size : Int)) ≤ wrap64 ((mkT m).most - 32) by rw [w1]; show ¬ _ ≤ wrap64 (m.1 - 32); rw [w2]; exact hc) ?_
        exact mp u
def afts : M → List FP → M
  | m, [] => m
  | m, f :: r => afts (aft m f) r
theorem Wt.afts : ∀ (l : List FP) {m : M}, Wt m → (∀ f ∈ l, Sml f) → Wt (Pure.afts m l)
  | [], m, h, _ => h
  | f :: r, m, h, hs => by
    rw [Pure.afts]
    exact Wt.afts r (h.aft (hs f List.mem_cons_self)) (fun x hx => hs x (List.mem_cons_of_mem _ hx))
end Go.Proofs.YtfkdocmhbmameaaDoor.Pure
namespace Go.Proofs.YtfkdocmhbmameaaDoor.Pure
open Go.RowKit Go.Proofs.YtfkdocmhbmameaaDoor.Mine Go.Proofs.YtfkdocmhbmameaaDoorW.PrintWords Go.Proofs.YtfkdocmhbmameaaDoorW.PrintLast Go.Proofs.YtfkdocmhbmameaaDoorW.PrintMore
set_option linter.unusedVariables false
abbrev FD := S26
end Go.Proofs.YtfkdocmhbmameaaDoor.Pure
namespace Go.Proofs.YtfkdocmhbmameaaDoor.Pure
open Go.RowKit Go.Proofs.YtfkdocmhbmameaaDoor.Mine Go.Proofs.YtfkdocmhbmameaaDoorW.PrintWords Go.Proofs.YtfkdocmhbmameaaDoorW.PrintLast Go.Proofs.YtfkdocmhbmameaaDoorW.PrintMore
set_option linter.unusedVariables false
theorem rd_win {p l q : List Int} {a : Int} (h0 : 0 ≤ a) (h1 : a < l.length) : rd (p ++ l ++ q) (a + (p.length : Int)) = rd l a := by
  obtain ⟨i, rfl⟩ := Int.eq_ofNat_of_zero_le h0
  have hi : i < l.length := by omega
  have hj : p.length + i < (p ++ l ++ q).length := by simp only [List.length_append]; omega
  rw [show ((i : Nat) : Int) + (p.length : Int) = ((p.length + i : Nat) : Int) by omega, rd_nat hj, rd_nat hi]
  apply Option.some.inj
  rw [← List.getElem?_eq_getElem, ← List.getElem?_eq_getElem, List.getElem?_append_left (by simp only [List.length_append]; omega), List.getElem?_append_right (by omega), Nat.add_sub_cancel_left]
structure Win (p q : List Int) (s s' : ByteArray) : Prop where
  eq : bytesOf s' = p ++ bytesOf s ++ q
  small : s'.size ≤ 3000
section
variable {p q : List Int} {s s' : ByteArray} {k : Nat}
theorem Win.size (hw : Win p q s s') : (s'.size : Int) = (p.length : Int) + (s.size : Int) + (q.length : Int) := by
  have h := congrArg List.length hw.eq
  rw [bytesOf_length, List.length_append, List.length_append, bytesOf_length] at h
  omega
theorem Win.bt (hw : Win p q s s') {a : Int} (h0 : 0 ≤ a) (h1 : a < (s.size : Int)) : bt s' (a + (p.length : Int)) = bt s a := by
  rw [bt_eq, bt_eq, hw.eq, rd_win h0 (by rw [bytesOf_length]; exact h1)]
theorem Win.shr (hw : Win p q s s') {a : Int} (h0 : 0 ≤ a) (h1 : a < (s.size : Int)) : upShr s' (a + (p.length : Int)) = upShr s a := by
  unfold upShr
  rw [hw.bt h0 h1]
end
end Go.Proofs.YtfkdocmhbmameaaDoor.Pure
namespace Go.Proofs.YtfkdocmhbmameaaDoor.Pure
open Go.RowKit Go.Proofs.YtfkdocmhbmameaaDoor.Mine Go.Proofs.YtfkdocmhbmameaaDoorW.PrintWords Go.Proofs.YtfkdocmhbmameaaDoorW.PrintLast Go.Proofs.YtfkdocmhbmameaaDoorW.PrintMore
theorem rfullN_l0 (bits : Int) : ∀ (d k i : Nat), i + d = nb bits → 1 ≤ i → d < k → nuncioref09_Full.l0 k bits (2 ^ i - 1) (i : Int) = some (ful bits)
  | 0, k, i, hd, h1, hk => by
    obtain ⟨k, rfl⟩ : ∃ m, k = m + 1 := ⟨k - 1, by omega⟩
    have hb := nb_range bits
    have hi : i = nb bits := by omega
    simp only [nuncioref09_Full.l0]
    by_cases c : (i : Int) < bits
    · rw [if_pos c, if_neg (by unfold nb at hi; omega), hi]; rfl
    · rw [if_neg c, hi]; rfl
  | d + 1, k, i, hd, h1, hk => by
    obtain ⟨k, rfl⟩ : ∃ m, k = m + 1 := ⟨k - 1, by omega⟩
    have hb := nb_range bits
    have hp : (2 : Int) ^ i ≤ 2 ^ 8 := by
      have h8 : i = 1 ∨ i = 2 ∨ i = 3 ∨ i = 4 ∨ i = 5 ∨ i = 6 ∨ i = 7 ∨ i = 8 := by omega
      rcases h8 with rfl | rfl | rfl | rfl | rfl | rfl | rfl | rfl <;> decide
    have hp0 : (0 : Int) < 2 ^ i := Int.pow_pos (by omega)
    simp only [nuncioref09_Full.l0]
    rw [if_pos (by unfold nb at hd; omega), if_pos (by omega), w64 (x := (i : Int) + 1) (by omega) (by omega), wu64_id (n := (2 ^ i - 1) * 2) (by omega) (by omega), wu64_id (n := (2 ^ i - 1) * 2 + 1) (by omega) (by omega),
      show ((2 : Int) ^ i - 1) * 2 + 1 = 2 ^ (i + 1) - 1 by rw [Int.pow_succ]; omega, show (i : Int) + 1 = ((i + 1 : Nat) : Int) by omega]
    exact rfullN_l0 bits d k (i + 1) (by omega) (by omega) (by omega)
theorem rfullN_f {k : Nat} (bits : Int) (hk : 8 ≤ k) : nuncioref09_Full.f k bits = some (ful bits) := by
  have hb := nb_range bits
  unfold nuncioref09_Full.f
  have := rfullN_l0 bits (nb bits - 1) k 1 (by omega) (by omega) (by omega)
  simpa using this
theorem strN_cat (a b : List Int) : strOfNums a ++ strOfNums b = strOfNums (a ++ b) := by
  apply ByteArray.ext
  rw [ByteArray.data_append]
  simp [strOfNums]
theorem rputN_l0 : ∀ (f k : Nat) (n : Int) (xs : List Int), f < k → 0 ≤ n → n < 128 ^ (f + 1) → n ≤ 18446744073709551615 → xs.length + f < 140737488355328 → nuncioref09_Put.l0 k (strOfNums xs) n = some (strOfNums (xs ++ vint f n))
  | 0, k, n, xs, hk, h0, h1, h2, hl => by
    obtain ⟨k, rfl⟩ : ∃ m, k = m + 1 := ⟨k - 1, by omega⟩
    have h2 : n < 128 := by simpa using h1
    simp only [nuncioref09_Put.l0]
    rw [if_neg (by omega), show n % 256 = n by omega, Option.bind_some, if_pos (by rw [strOfNums_size, strOfNums_size]; simp only [List.length_singleton]; omega), strN_cat]; rfl
  | f + 1, k, n, xs, hk, h0, h1, h2, hl => by
    obtain ⟨k, rfl⟩ : ∃ m, k = m + 1 := ⟨k - 1, by omega⟩
    simp only [nuncioref09_Put.l0]
    by_cases hb : n > 127
    · have e1 : Int.tmod n 128 = n % 128 := Int.tmod_eq_emod_of_nonneg h0
      have e2 : Int.tdiv n 128 = n / 128 := Int.tdiv_eq_ediv_of_nonneg h0
      rw [if_pos hb, Option.bind_some, if_pos (by rw [strOfNums_size, strOfNums_size]; simp only [List.length_singleton]; omega), e1, e2, wu64_id (n := 128 + n % 128) (by omega) (by omega), wu64_id (n := n / 128) (by omega) (by omega), show (128 + n % 128) % 256 = 128 + n % 128 by omega, strN_cat,
        rputN_l0 f k (n / 128) _ (by omega) (by omega) (by rw [Int.pow_succ] at h1; omega) (by omega) (by rw [List.length_append, List.length_singleton]; omega), vint, if_pos (by omega), List.append_assoc]
      first | rfl | (rw [Int.add_comm]; rfl)
    · rw [if_neg hb, show n % 256 = n by omega, Option.bind_some, if_pos (by rw [strOfNums_size, strOfNums_size]; simp only [List.length_singleton]; omega), strN_cat, vint, if_neg (by omega)]
theorem rputN_f {k : Nat} {l : List Int} {first n : Int} (bits : Int) (hl : l.length ≤ 100000000) (hf0 : 0 ≤ first) (hf1 : first < 256) (h0 : 0 ≤ n) (h1 : n ≤ 18446744073709551615) (hk : 10 ≤ k) :
    nuncioref09_Put.f k (strOfNums l) first bits n = some (strOfNums (l ++ encI first (ful bits) n)) := by
  have hr := ful_range bits
  have hs := ful_cases bits
  unfold nuncioref09_Put.f
  rw [rfullN_f bits (by omega)]
  simp only [Option.bind_some]
  unfold encI
  have hd0 : 0 ≤ first / (ful bits + 1) * (ful bits + 1) := Int.mul_nonneg (Int.ediv_nonneg hf0 (by omega)) (by omega)
  have hd1 : first / (ful bits + 1) * (ful bits + 1) + ful bits < 256 := by
    rcases hs with h | h | h | h | h | h | h | h <;> rw [h] <;> omega
  have hq : 0 ≤ first / (ful bits + 1) := Int.ediv_nonneg hf0 (by omega)
  have hq2 : first / (ful bits + 1) ≤ first := Int.ediv_le_self _ hf0
  have e0 : IntKind.u64.wrap (ful bits + 1) = ful bits + 1 := wu64_id (by omega) (by omega)
  have e1 : IntKind.u64.wrap first = first := wu64_id (by omega) (by omega)
  have e2 : Int.tdiv first (ful bits + 1) = first / (ful bits + 1) := Int.tdiv_eq_ediv_of_nonneg hf0
  have e3 : IntKind.u64.wrap (first / (ful bits + 1)) = first / (ful bits + 1) := wu64_id (by omega) (by omega)
  have e4 : IntKind.u64.wrap (first / (ful bits + 1) * (ful bits + 1)) = first / (ful bits + 1) * (ful bits + 1) := wu64_id (by omega) (by omega)
  rw [e0, e1, e2, e3, e4, if_neg (by omega)]
  by_cases hn : n < ful bits
  · rw [if_pos hn, if_pos hn, wu64_id (by omega) (by omega), if_pos (by rw [strOfNums_size, strOfNums_size]; simp only [List.length_singleton]; omega), strN_cat, Int.emod_eq_of_lt (by omega) (by omega)]
  · have h10 : (128 : Int) ^ (9 + 1) = 1180591620717411303424 := by decide
    rw [if_neg hn, if_neg hn, wu64_id (n := first / (ful bits + 1) * (ful bits + 1) + ful bits) (by omega) (by omega), if_pos (by rw [strOfNums_size, strOfNums_size]; simp only [List.length_singleton]; omega), strN_cat, Int.emod_eq_of_lt (by omega) (by omega), wu64_id (n := n - ful bits) (by omega) (by omega),
      rputN_l0 9 k (n - ful bits) _ (by omega) (by omega) (by omega) (by omega) (by rw [List.length_append, List.length_singleton]; omega), List.append_assoc]
    rfl
end Go.Proofs.YtfkdocmhbmameaaDoor.Pure
namespace Go.Proofs.YtfkdocmhbmameaaDoor.Pure
open Go.RowKit Go.Proofs.YtfkdocmhbmameaaDoor.Mine Go.Proofs.YtfkdocmhbmameaaDoorW.PrintWords Go.Proofs.YtfkdocmhbmameaaDoorW.PrintLast Go.Proofs.YtfkdocmhbmameaaDoorW.PrintMore
set_option linter.unusedVariables false
theorem codesL_lengthE : codesL.length = 257 := by decide +kernel
theorem codes_allE : ∀ k : Fin 257, rd codesL ((k.val : Nat) : Int) = ((hcCode k.val : Nat) : Int) := by decide +kernel
def chars (l : List Bool) : List Int := l.map fun b => 48 + (b.toNat : Int)
theorem chars_bytes (l : List Bool) : Bytes (chars l) := by
  intro x hx
  obtain ⟨b, _, rfl⟩ := List.mem_map.1 hx
  cases b <;> decide
theorem chars_length (l : List Bool) : (chars l).length = l.length := by simp [chars]
theorem bits_l0 {n0 : Nat} (hn0 : n0 ≤ 64) : ∀ d i v (l : List Bool), i + d = n0 → v < 1073741824 → l.length = i →
    Ev (fun k => nuncioref10_Bits.l0 k ((v : Nat) : Int) (n0 : Int) (strOfNums (chars l)) (i : Int)) (strOfNums (chars (bN d v ++ l)))
  | 0, i, v, l, hd, hv, hl => by
    refine Ev.step (f := fun _ => some (strOfNums (chars l))) (fun k => ?_) (Ev.now _)
    simp only [nuncioref10_Bits.l0]
    rw [if_neg (by omega)]
  | d + 1, i, v, l, hd, hv, hl => by
    have ih := bits_l0 hn0 d (i + 1) (v / 2) ((v % 2 == 1) :: l) (by omega) (by omega) (by simp [hl])
    have e : bN d (v / 2) ++ (v % 2 == 1) :: l = bN (d + 1) v ++ l := by rw [bN_add d 1, bN_one, List.append_assoc]; rfl
    rw [e] at ih
    have hm : v % 2 = 0 ∨ v % 2 = 1 := by omega
    have e2 : strOfNums [(IntKind.u64.wrap (48 + (Int.tmod (v : Int) 2))) % 256] ++ strOfNums (chars l) = strOfNums (chars ((v % 2 == 1) :: l)) := by
      apply bytesOf_inj
      have hb : Bytes [(IntKind.u64.wrap (48 + (Int.tmod (v : Int) 2))) % 256] := Bytes.cons (by omega) (by omega) Bytes.nil
      rw [bytesOf_append, bytesOf_str hb, bytesOf_str (chars_bytes _), bytesOf_str (chars_bytes _), tmod_pos (a := (v : Int)) _ (by omega), wu64_id (n := 48 + (v : Int) % 2) (by omega) (by omega)]
      show [(48 + (v : Int) % 2) % 256] ++ chars l = (48 + (((v % 2 == 1).toNat : Nat) : Int)) :: chars l
      rw [bit_toNat, show (48 + (v : Int) % 2) % 256 = 48 + ((v % 2 : Nat) : Int) by omega]
      rfl
    refine Ev.step (fun k => ?_) ih
    simp only [nuncioref10_Bits.l0]
    rw [if_pos (by omega), Option.bind_some, if_pos (by rw [strOfNums_size, strOfNums_size, chars_length]; simp; omega), e2, tdiv_pos (a := (v : Int)) _ (by omega), wu64_id (n := (v : Int) / 2) (by omega) (by omega), w64 (x := (i : Int) + 1) (by omega) (by omega)]
    rfl
theorem bits_str (n v : Nat) (hn : n ≤ 64) (hv : v < 1073741824) : Ev (fun k => nuncioref10_Bits.f k ((v : Nat) : Int) (n : Int)) (strOfNums (chars (bN n v))) := by
  have h := bits_l0 hn n 0 v [] (by omega) hv rfl
  rw [List.append_nil] at h
  exact h
theorem renc_l2 {l o : List Int} (hl : IsEnc l o) (B : List Bool) (hB : ∀ p out, p < 8 → Bytes out → ub out = B ++ List.replicate p true → out = o) : ∀ d h (out : List Int) X, h + d = 8 → X < 2 ^ h → 0 < h → Bytes out → out.length ≤ 100000000 → 0 < d →
    (∃ p, p + d < 8 ∧ ub out ++ bN h X = B ++ List.replicate p true) → Ev (fun k => nuncioref10_Encode.l2 k out (X : Int) (h : Int)) (strOfNums o)
  | 0, _, _, _, _, _, _, _, _, h0, _ => by omega
  | d + 1, h, out, X, hd, hX, h0, hb, hlen, _, ⟨p, hp, hbits⟩ => by
    have hq : 2 ^ h ≤ 2 ^ 7 := pow_le_pow (by omega)
    have e1 : ub out ++ bN (h + 1) (2 * X + 1) = B ++ List.replicate (p + 1) true := by
      have := bN_snoc h X true
      rw [show true.toNat = 1 from rfl] at this
      rw [this, ← List.append_assoc, hbits, List.append_assoc, List.replicate_succ']
    have ex : Unit → wrap64 ((wrap64 ((X : Int) * 2)) + 1) = ((2 * X + 1 : Nat) : Int) := fun _ => by
      rw [w64 (x := (X : Int) * 2) (by omega) (by omega), w64 (x := (X : Int) * 2 + 1) (by omega) (by omega)]; omega
    by_cases h8 : h + 1 = 8
    · have hfull : out ++ [((2 * X + 1 : Nat) : Int)] = o := by
        refine hB (p + 1) _ (by omega) (hb.append (Bytes.cons (by omega) (by omega) Bytes.nil)) ?_
        rw [ub_append, ub_one, Int.toNat_natCast, ← h8, e1]
      have hend : Ev (fun k => nuncioref10_Encode.l2 k o ((2 * X + 1 : Nat) : Int) 8) (strOfNums o) := by
        refine Ev.step (f := fun k => nuncioref10_Encode.j4 k o ((2 * X + 1 : Nat) : Int) 8 false) (fun k => ?_) (Ev.step (f := fun _ => some (strOfNums o)) (fun k => ?_) (Ev.now _))
        · simp only [nuncioref10_Encode.l2]
          rw [if_pos (by omega)]
          rfl
        · simp only [nuncioref10_Encode.j4]
          rw [if_neg (by simp)]
      refine Ev.step (f := fun k => nuncioref10_Encode.j4 k out (X : Int) (h : Int) true) (fun k => ?_) (Ev.step (fun k => ?_) hend)
      · simp only [nuncioref10_Encode.l2]
        rw [if_pos (by omega), show decide ((h : Int) < 8) = true from decide_eq_true (by omega)]
      · simp only [nuncioref10_Encode.j4]
        rw [if_pos trivial, w64 (x := (h : Int) + 1) (by omega) (by omega), if_pos (by omega), if_pos (by omega), ex (), show ((2 * X + 1 : Nat) : Int) % 256 = ((2 * X + 1 : Nat) : Int) by omega, hfull, show (h : Int) + 1 = 8 by omega]
    · have ih := renc_l2 hl B hB d (h + 1) out (2 * X + 1) (by omega) (by rw [Nat.pow_succ]; omega) (by omega) hb hlen (by omega) ⟨p + 1, by omega, e1⟩
      refine Ev.step (f := fun k => nuncioref10_Encode.j4 k out (X : Int) (h : Int) true) (fun k => ?_) (Ev.step (fun k => ?_) ih)
      · simp only [nuncioref10_Encode.l2]
        rw [if_pos (by omega), show decide ((h : Int) < 8) = true from decide_eq_true (by omega)]
      · simp only [nuncioref10_Encode.j4]
        rw [if_pos trivial, w64 (x := (h : Int) + 1) (by omega) (by omega), if_neg (by omega), ex ()]
        rfl
theorem renc_l1 (s : ByteArray) (i : Nat) (bs : List Bool) (hbs : bs.length ≤ 64) (r : ByteArray) : ∀ (rest : List Bool) (j : Nat) (out : List Int) (X h : Nat), bs.drop j = rest → j ≤ bs.length → h < 8 → X < 2 ^ h → Bytes out → out.length + rest.length ≤ 100000000 →
    (∀ (out' : List Int) (X' h' : Nat), h' < 8 → X' < 2 ^ h' → Bytes out' → ub out' ++ bN h' X' = ub out ++ bN h X ++ rest → Ev (fun k => nuncioref10_Encode.l0 k s codesL out' (X' : Int) (h' : Int) (wrap64 ((i : Int) + 1))) r) →
    Ev (fun k => nuncioref10_Encode.l1 k s codesL out (X : Int) (h : Int) (i : Int) (strOfNums (chars bs)) (j : Int)) r
  | [], j, out, X, h, hd, hj, h8, hX, hb, hlen, H => by
    have hj2 : bs.length ≤ j := List.drop_eq_nil_iff.1 hd
    refine Ev.step (fun k => ?_) (H out X h h8 hX hb (by rw [List.append_nil]))
    simp only [nuncioref10_Encode.l1]
    rw [if_neg (by rw [strOfNums_size, chars_length]; omega)]
  | b :: rest, j, out, X, h, hd, hj, h8, hX, hb, hlen, H => by
    have hjl : j < bs.length := by
      refine Nat.lt_of_not_le fun hh => ?_
      rw [List.drop_eq_nil_of_le hh] at hd
      cases hd
    have hd2 := List.drop_eq_getElem_cons hjl
    rw [hd] at hd2
    obtain ⟨hb1, hd3⟩ := List.cons.inj hd2
    rw [List.length_cons] at hlen
    have hbt : bt (strOfNums (chars bs)) (j : Int) = 48 + (b.toNat : Int) := by
      rw [bt_eq, bytesOf_str (chars_bytes _), rd_nat (by rw [chars_length]; exact hjl)]
      unfold chars
      rw [List.getElem_map, ← hb1]
    have hbn : b.toNat < 2 := by cases b <;> decide
    have hq : 2 ^ h ≤ 2 ^ 7 := pow_le_pow (by omega)
    have ex : Unit → wrap64 ((wrap64 ((wrap64 ((X : Int) * 2)) + (wrap64 (48 + (b.toNat : Int))))) - 48) = ((2 * X + b.toNat : Nat) : Int) := fun _ => by
      rw [w64 (x := (X : Int) * 2) (by omega) (by omega), w64 (x := 48 + (b.toNat : Int)) (by omega) (by omega), w64 (x := (X : Int) * 2 + (48 + (b.toNat : Int))) (by omega) (by omega), w64 (x := (X : Int) * 2 + (48 + (b.toNat : Int)) - 48) (by omega) (by omega)]; omega
    have ej : Unit → wrap64 ((j : Int) + 1) = ((j + 1 : Nat) : Int) := fun _ => by rw [w64 (by omega) (by omega)]; rfl
    have hX2 : 2 * X + b.toNat < 2 ^ (h + 1) := by rw [Nat.pow_succ]; omega
    have hsn := bN_snoc h X b
    by_cases h7 : h + 1 = 8
    · have hX8 : 2 * X + b.toNat < 256 := by rw [h7] at hX2; exact hX2
      have ih := renc_l1 s i bs hbs r rest (j + 1) (out ++ [((2 * X + b.toNat : Nat) : Int)]) 0 0 hd3.symm (by omega) (by omega) (by decide) (hb.append (Bytes.cons (by omega) (by omega) Bytes.nil)) (by simp; omega) (fun out' X' h' q1 q2 q3 q4 => H out' X' h' q1 q2 q3 (by
        rw [q4, ub_append, ub_one, Int.toNat_natCast, ← h7, hsn]
        simp [bN]))
      refine Ev.step (fun k => ?_) ih
      simp only [nuncioref10_Encode.l1]
      rw [if_pos (by rw [strOfNums_size, chars_length]; omega), if_pos (by omega), w64 (x := (h : Int) + 1) (by omega) (by omega), if_pos (by omega), if_pos (by omega), hbt, ex (), ej (), show ((2 * X + b.toNat : Nat) : Int) % 256 = ((2 * X + b.toNat : Nat) : Int) by omega]
      rfl
    · have ih := renc_l1 s i bs hbs r rest (j + 1) out (2 * X + b.toNat) (h + 1) hd3.symm (by omega) (by omega) hX2 hb (by omega) (fun out' X' h' q1 q2 q3 q4 => H out' X' h' q1 q2 q3 (by
        rw [q4, hsn]
        simp))
      refine Ev.step (fun k => ?_) ih
      simp only [nuncioref10_Encode.l1]
      rw [if_pos (by rw [strOfNums_size, chars_length]; omega), if_pos (by omega), w64 (x := (h : Int) + 1) (by omega) (by omega), if_neg (by omega), hbt, ex (), ej ()]
      rfl
theorem renc_l0 {s : ByteArray} (hs : s.size ≤ 1000000) {o : List Int} (ho : IsEnc (bytesOf s) o) : ∀ d i (out : List Int) (X h : Nat), i + d = s.size + 1 → h < 8 → X < 2 ^ h → Bytes out → ub out ++ bN h X = eb ((bytesOf s).take i) →
    Ev (fun k => nuncioref10_Encode.l0 k s codesL out (X : Int) (h : Int) (i : Int)) (strOfNums o)
  | 0, i, out, X, h, hd, h8, hX, hb, hbits => by
    have hlen : (bytesOf s).length = s.size := bytesOf_length s
    have hbd := (eb_length_bounds (bytesOf_bytes s)).2
    rw [List.take_of_length_le (by omega)] at hbits
    have hl := congrArg List.length hbits
    rw [List.length_append, ub_length, bN_length] at hl
    have hU : ∀ p out, p < 8 → Bytes out → ub out = eb (bytesOf s) ++ List.replicate p true → out = o := fun p out' hp hb' e => IsEnc.uniq ⟨hb', p, hp, e⟩ ho
    have hout : Ev (fun k => nuncioref10_Encode.l2 k out (X : Int) (h : Int)) (strOfNums o) := by
      by_cases h0 : h = 0
      · subst h0
        have e : out = o := hU 0 out (by omega) hb (by rw [← hbits]; simp [bN])
        rw [e]
        refine Ev.step (f := fun k => nuncioref10_Encode.j4 k o (X : Int) 0 false) (fun k => ?_) (Ev.step (f := fun _ => some (strOfNums o)) (fun k => ?_) (Ev.now _))
        · simp only [nuncioref10_Encode.l2]
          rw [if_neg (by omega)]
          rfl
        · simp only [nuncioref10_Encode.j4]
          rw [if_neg (by simp)]
      · exact renc_l2 ho (eb (bytesOf s)) hU (8 - h) h out X (by omega) hX (by omega) hb (by omega) (by omega) ⟨0, by omega, by rw [hbits]; simp⟩
    refine Ev.step (fun k => ?_) hout
    simp only [nuncioref10_Encode.l0]
    rw [if_neg (by omega)]
  | d + 1, i, out, X, h, hd, h8, hX, hb, hbits => by
    have hlen : (bytesOf s).length = s.size := bytesOf_length s
    have hbd := (eb_length_bounds ((bytesOf_bytes s).take i)).2
    have htl : ((bytesOf s).take i).length ≤ 1000000 := by rw [List.length_take]; omega
    have hl := congrArg List.length hbits
    rw [List.length_append, ub_length, bN_length] at hl
    by_cases hi : i < s.size
    · have hi2 : i < (bytesOf s).length := by omega
      have hby := bytesOf_bytes s _ (List.getElem_mem hi2)
      obtain ⟨c, hc⟩ : ∃ c : Nat, (bytesOf s)[i] = (c : Int) := ⟨((bytesOf s)[i]).toNat, by omega⟩
      have hc256 : c < 256 := by omega
      have hL := hcLen_bounds c (by omega)
      have hC := hcCode_lt c (by omega)
      have hC2 : 2 ^ hcLen c ≤ 2 ^ 30 := pow_le_pow hL.2
      have hbits2 := bits_str (hcLen c) (hcCode c) (by omega) (by omega)
      have hcbl : (cb c).length ≤ 64 := by rw [cb_length]; omega
      have hl1 := renc_l1 s i (cb c) hcbl (strOfNums o) (cb c) 0 out X h (by rw [List.drop_zero]) (by omega) h8 hX hb (by rw [cb_length]; omega) (fun out' X' h' q1 q2 q3 q4 => by
        have := renc_l0 hs ho d (i + 1) out' X' h' (by omega) q1 q2 q3 (by rw [q4, hbits, eb_take hi2, hc, Int.toNat_natCast])
        refine Ev.congr (fun k => ?_) this
        rw [w64 (x := (i : Int) + 1) (by omega) (by omega)]
        rfl)
      have hj1 : Ev (fun k => nuncioref10_Encode.j1 k s codesL out (X : Int) (h : Int) (i : Int) (strOfNums (chars (cb c)))) (strOfNums o) := by
        refine Ev.step (fun k => ?_) hl1
        simp only [nuncioref10_Encode.j1]
        rfl
      have hbt : bt s (i : Int) = (c : Int) := by rw [bt_eq, rd_nat hi2, hc]
      refine Ev.step (fun k => ?_) (Ev.bind hbits2 hj1)
      simp only [nuncioref10_Encode.l0]
      rw [if_pos (by omega), if_pos (by omega), if_pos (by omega), hbt, if_pos (by omega), if_pos (by rw [codesL_lengthE]; omega), w64 (x := (c : Int)) (by omega) (by omega), length_f (by omega) (by omega), Option.bind_some, Int.toNat_natCast, codes_allE ⟨c, by omega⟩]
    · have hl1 := renc_l1 s i [] (by simp) (strOfNums o) [] 0 out X h rfl (by simp) h8 hX hb (by simp; omega) (fun out' X' h' q1 q2 q3 q4 => by
        have := renc_l0 hs ho d (i + 1) out' X' h' (by omega) q1 q2 q3 (by rw [q4, hbits, List.append_nil, List.take_of_length_le (by omega), List.take_of_length_le (by omega)])
        refine Ev.congr (fun k => ?_) this
        rw [w64 (x := (i : Int) + 1) (by omega) (by omega)]
        rfl)
      have hj1 : Ev (fun k => nuncioref10_Encode.j1 k s codesL out (X : Int) (h : Int) (i : Int) (⟨#[]⟩ : ByteArray)) (strOfNums o) := by
        refine Ev.step (fun k => ?_) hl1
        simp only [nuncioref10_Encode.j1]
        rfl
      refine Ev.step (fun k => ?_) hj1
      simp only [nuncioref10_Encode.l0]
      rw [if_pos (by omega), if_neg (by omega)]
theorem ref_encode_f (s : ByteArray) (hs : s.size ≤ 1000000) {o : List Int} (ho : IsEnc (bytesOf s) o) : Ev (fun k => nuncioref10_Encode.f k s) (strOfNums o) := by
  have h := renc_l0 hs ho (s.size + 1) 0 [] 0 0 (by omega) (by omega) (by decide) Bytes.nil rfl
  refine Ev.congr (fun k => by unfold nuncioref10_Encode.f; rfl) (Ev.bind codes_f ?_)
  exact h
end Go.Proofs.YtfkdocmhbmameaaDoor.Pure
namespace Go.Proofs.YtfkdocmhbmameaaDoor.Pure
open Go.RowKit Go.Proofs.YtfkdocmhbmameaaDoor.Mine Go.Proofs.YtfkdocmhbmameaaDoorW.PrintWords Go.Proofs.YtfkdocmhbmameaaDoorW.PrintLast Go.Proofs.YtfkdocmhbmameaaDoorW.PrintMore
set_option linter.unusedVariables false
theorem lenA_at {α : Type} {l : List α} {i : Nat} {x : α} {r : List α} (h : l.drop i = x :: r) : i < l.length := by
  rcases Nat.lt_or_ge i l.length with h1 | h1
  · exact h1
  · rw [List.drop_eq_nil_of_le h1] at h
    cases h
theorem lenA_end {α : Type} {l : List α} {i : Nat} (h : l.drop i = []) : l.length ≤ i := by
  rcases Nat.lt_or_ge i l.length with h1 | h1
  · rw [List.drop_eq_getElem_cons h1] at h
    cases h
  · exact h1
theorem dropA {α : Type} {l : List α} {i : Nat} {x : α} {r : List α} (h : l.drop i = x :: r) : l[i]? = some x ∧ l.drop (i + 1) = r := by
  have h1 := lenA_at h
  rw [List.drop_eq_getElem_cons h1] at h
  obtain ⟨h2, h3⟩ := List.cons.inj h
  exact ⟨by rw [List.getElem?_eq_getElem h1, h2], h3⟩
theorem rdF_at {l : List FD} {i : Nat} {x : FD} {r : List FD} (h : l.drop i = x :: r) : rd_T26 l (i : Int) = x := by
  have h1 := (dropA h).1
  unfold rd_T26
  rw [Int.toNat_natCast, List.getD_eq_getElem?_getD, h1, Option.getD_some]
theorem mn_le (a b : Int) : mn a b ≤ a ∧ mn a b ≤ b ∧ (mn a b = a ∨ mn a b = b) := by unfold mn; split <;> omega
theorem atM_list {m : M} (h : Wt m) {i : Nat} {x : S88} {r : List S88} (hd : m.2.drop i = x :: r) : atM m (62 + (i : Int)) = (x.f0, x.f1, true) := by
  have h1 := lenA_at hd
  unfold atM atF
  rw [if_pos (by omega), show (62 + (i : Int) - 1).toNat = F38.length + i by rw [F38_len]; omega]
  simp only [List.getD_eq_getElem?_getD, List.getElem?_append_right (Nat.le_add_right _ _), Nat.add_sub_cancel_left, (dropA hd).1, Option.getD_some]
theorem tells_loop {m : M} (h : Wt m) : ∀ (r : List S88) (i : Nat), m.2.drop i = r → Ev (fun k => nunciolaw12_Tells.l0 k (i : Int) (mkT m) m.1 m.2) (true, mkT m)
  | [], i, hd => by
    have := lenA_end hd
    refine Ev.step (fun k => by rw [nunciolaw12_Tells.l0]) ?_
    exact ev_neg (by omega) (Ev.now _)
  | x :: r, i, hd => by
    have h2 := lenA_at hd
    have h3 := h.1.2.1
    refine Ev.step (fun k => by rw [nunciolaw12_Tells.l0]) ?_
    refine ev_pos (by omega) ?_
    refine ev_bind0 (show table_Table_At.f (mkT m) (wrap64 (62 + (i : Int))) = some (x.f0, x.f1, true) by rw [w64 (by omega) (by omega), at_f h.1 (by omega) (by omega), atM_list h hd]) ?_
    refine ev_pos rfl ?_
    refine ev_pos (by omega) ?_
    rw [rd_at hd]
    refine ev_pos rfl ?_
    refine ev_pos rfl ?_
    rw [w64 (x := (i : Int) + 1) (by omega) (by omega)]
    exact tells_loop h r (i + 1) (dropA hd).2
theorem tells_ev {m : M} (h : Wt m) : Ev (fun k => nunciolaw12_Tells.f k (mkT m) m.1 m.2) (true, mkT m) := by
  refine Ev.congr (fun k => by rw [nunciolaw12_Tells.f]) ?_
  refine ev_bind0 (most_f m) ?_
  refine ev_pos rfl ?_
  refine ev_bind0 (len_f m) ?_
  refine ev_pos rfl ?_
  refine ev_bind0 (size_f m) ?_
  refine Ev.bind (rsize_ev h.1 (by omega)) ?_
  refine Ev.step (fun k => by rw [nunciolaw12_Tells.j0]) ?_
  refine ev_neg (by simp) ?_
  exact tells_loop h m.2 0 rfl
theorem wt_new : Wt (mx 4096 0, []) := ⟨ok_new 4096 (by omega) 128, by show mx 4096 0 ≤ 4096; unfold mx; split <;> omega⟩
end Go.Proofs.YtfkdocmhbmameaaDoor.Pure
