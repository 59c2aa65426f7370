/- The walks and the plain laws that the rows come to: merged out of this repo's texts. -/
import Derived.Test.YtfkdocmhbmameaaDoorProg
import Derived.Below
import Derived.Deep.Draws
import Derived.Deep.AppendLies
import Derived.Maps.AppendAt
import Derived.OwnWalk
import Derived.Laws.BytesArg
import Derived.Laws.MakeOwn
import Derived.Laws.OwnMore
import Derived.Deep.OwnRows
import Derived.Tactics
import Derived.Lib.ConvBytes
import Derived.Laws.Slices
import Derived.WalkKit
import Derived.KernelRfl
import Derived.RowKit3
import Derived.Deep.LoopGhost
import Derived.Deep.QuietTactic
import Derived.BigQuiet
import Derived.WideLaws
import Derived.Deep.DeepCutAuto
import Derived.Deep.CutBlock
import Derived.Deep.RegionHeld3
import Derived.Laws.Rows
import Derived.Lib.AppendStr
import Derived.ArgAppend
import Derived.Laws.IdiomCopy
import Derived.RowKit
import Derived.OrdersHeld
import Derived.Laws.BitsLemmas
import Derived.Laws.StructEq
import Derived.Laws.CopyOwn
import Derived.SizedLaws
import Derived.ChangeSlices
import Derived.Deep.Slices
import Derived.Lib.SmallJoins
import Derived.Lib.OthersKept
import Derived.Lib.AppendZerosOnto
import Derived.WalkSpells
import Derived.Laws.BitsAllLaws
import Derived.Test.YtfkdocmhbmameaaDoorCA1
import Derived.Test.YtfkdocmhbmameaaDoorCA2
import Derived.Test.YtfkdocmhbmameaaDoorCA3
import Derived.Test.YtfkdocmhbmameaaDoorCA5
import Derived.Test.YtfkdocmhbmameaaDoorCA7
import Derived.Test.YtfkdocmhbmameaaDoorCA16
import Derived.Test.YtfkdocmhbmameaaDoorCA25
namespace Go.Proofs.YtfkdocmhbmameaaDoor.Pure
open Go.RowKit Go.Proofs.YtfkdocmhbmameaaDoor.Mine Go.Proofs.YtfkdocmhbmameaaDoorW.PrintWords Go.Proofs.YtfkdocmhbmameaaDoorW.PrintLast Go.Proofs.YtfkdocmhbmameaaDoorW.PrintMore
set_option linter.unusedVariables false
theorem bits_all : ∀ k : Fin 257, huff_bits.f ((k.val : Nat) : Int) = some ((hcLen k.val : Nat) : Int) := by decide +kernel
theorem bits_f {c : Int} (h0 : 0 ≤ c) (h1 : c < 257) : huff_bits.f c = some ((hcLen c.toNat : Nat) : Int) := by
  have := bits_all ⟨c.toNat, by omega⟩
  simp only at this
  rwa [show ((c.toNat : Nat) : Int) = c by omega] at this
theorem eb_drop {l : List Int} {i : Nat} (h : i < l.length) : eb (l.drop i) = cb (l[i]).toNat ++ eb (l.drop (i + 1)) := by
  rw [List.drop_eq_getElem_cons h, eb_cons]
theorem eb_take {l : List Int} {i : Nat} (h : i < l.length) : eb (l.take (i + 1)) = eb (l.take i) ++ cb (l[i]).toNat := by
  rw [List.take_succ_eq_append_getElem h, eb_append, eb_one]
theorem size_l0 {l : List Int} (hl : Bytes l) (hb : l.length ≤ 1000000) : ∀ d i (x : Nat), i + d = l.length → x ≤ 30 * i →
    Ev (fun k => huff_Size.l0 k (x : Int) l (l.length : Int) (i : Int)) (((x + (eb (l.drop i)).length + 7) / 8 : Nat) : Int)
  | 0, i, x, hd, hx => by
    refine Ev.step (f := fun _ => some (((x + (eb (l.drop i)).length + 7) / 8 : Nat) : Int)) (fun k => ?_) (Ev.now _)
    simp only [huff_Size.l0]
    rw [if_neg (by omega), List.drop_eq_nil_of_le (by omega), w64 (x := (x : Int) + 7) (by omega) (by omega), tdiv_pos _ (by omega), w64 (by omega) (by omega)]
    simp [eb]
  | d + 1, i, x, hd, hx => by
    have hi : i < l.length := by omega
    have hbi := hl _ (List.getElem_mem hi)
    have hL := hcLen_bounds (l[i]).toNat (by omega)
    have ih := size_l0 hl hb d (i + 1) (x + hcLen (l[i]).toNat) (by omega) (by omega)
    refine Ev.step (f := fun k => huff_Size.l0 k ((x + hcLen (l[i]).toNat : Nat) : Int) l (l.length : Int) ((i + 1 : Nat) : Int)) (fun k => ?_) ?_
    · simp only [huff_Size.l0]
      rw [if_pos (by omega), if_pos (by omega), if_pos (by omega), rd_nat hi, w64 (x := l[i]) (by omega) (by omega), bits_f hbi.1 (by omega), Option.bind_some, w64 (by omega) (by omega), w64 (by omega) (by omega)]
      simp
    · rw [eb_drop hi, List.length_append, cb_length, show x + (hcLen (l[i]).toNat + (eb (l.drop (i + 1))).length) = x + hcLen (l[i]).toNat + (eb (l.drop (i + 1))).length by omega]
      exact ih
def sz (l : List Int) : Nat := ((eb l).length + 7) / 8
theorem hsize_f (s : ByteArray) (hs : s.size ≤ 1000000) : Ev (fun k => huff_Size.f k s) ((sz (bytesOf s) : Nat) : Int) := by
  have h := size_l0 (bytesOf_bytes s) (by rw [bytesOf_length]; exact hs) (bytesOf s).length 0 0 (by omega) (by omega)
  refine Ev.congr (fun k => ?_) (show Ev (fun k => huff_Size.l0 k 0 (bytesOf s) ((bytesOf s).length : Int) 0) _ from ?_)
  · unfold huff_Size.f
    rw [if_pos (by omega), Option.bind_some]
  · rw [List.drop_zero, Nat.zero_add] at h
    exact h
theorem shl64 {x n : Nat} (h : x * 2 ^ n < 18446744073709551616) (hn : n ≤ 64) : shl .u64 (x : Int) (n : Int) = ((x * 2 ^ n : Nat) : Int) := by
  unfold shl
  rw [Int.toNat_natCast, show IntKind.u64.bits = 64 from rfl, Nat.min_eq_left hn]
  have e : (x : Int) * 2 ^ n = ((x * 2 ^ n : Nat) : Int) := by simp
  rw [e]
  exact wu64_id (by omega) (by omega)
theorem shr64 {k : IntKind} {x n : Nat} (hn : n ≤ k.bits) : shr k (x : Int) (n : Int) = ((x / 2 ^ n : Nat) : Int) := by
  unfold shr
  rw [Int.toNat_natCast, Nat.min_eq_left hn]
  simp
theorem pow_le_pow {a b : Nat} (h : a ≤ b) : 2 ^ a ≤ 2 ^ b := Nat.pow_le_pow_right (by omega) h
theorem mask64 {x h : Nat} (hx : x < 18446744073709551616) (hh : h < 8) : Go.bits .and .u64 (x : Int) (IntKind.u64.wrap (shl .u64 1 (h : Int) - 1)) = ((x % 2 ^ h : Nat) : Int) := by
  have hp : 0 < 2 ^ h := Nat.pow_pos (by omega)
  have hq : 2 ^ h ≤ 2 ^ 8 := pow_le_pow (by omega)
  have e := shl64 (x := 1) (n := h) (by omega) (by omega)
  rw [show ((1 : Nat) : Int) = 1 from rfl] at e
  rw [e, Nat.one_mul, wu64_id (by omega) (by omega), u64_and _ _ (by omega) (by omega) (by omega) (by omega), Int.toNat_natCast, show (((2 ^ h : Nat) : Int) - 1).toNat = 2 ^ h - 1 by omega, Nat.and_two_pow_sub_one_eq_mod]
theorem or64 {x c n : Nat} (hx : x * 2 ^ n < 18446744073709551616) (hc : c < 2 ^ n) (hn : n ≤ 30) : Go.bits .or .u64 (shl .u64 (x : Int) (n : Int)) (IntKind.u64.wrap (c : Int)) = ((x * 2 ^ n + c : Nat) : Int) := by
  have hq : 2 ^ n ≤ 2 ^ 30 := pow_le_pow hn
  rw [shl64 hx (by omega), wu64_id (by omega) (by omega), u64_or _ _ (by omega) (by omega) (by omega) (by omega), Int.toNat_natCast, Int.toNat_natCast, nat_join n _ _ (Nat.mul_mod_left _ _) hc]
theorem join_ones (x r : Nat) : x * 2 ^ r ||| (2 ^ r - 1) = x * 2 ^ r + (2 ^ r - 1) :=
  nat_join r _ _ (Nat.mul_mod_left _ _) (by have : 0 < 2 ^ r := Nat.pow_pos (by omega); omega)
theorem last8 {x h : Nat} (h0 : 0 < h) (h8 : h < 8) (hx : x < 2 ^ h) : Go.bits .or .u8 ((shl .u64 (x : Int) ((8 - h : Nat) : Int)) % 256) (((shl .u8 1 ((8 - h : Nat) : Int)) - 1) % 256) = ((x * 2 ^ (8 - h) + (2 ^ (8 - h) - 1) : Nat) : Int) := by
  have hp : 0 < 2 ^ (8 - h) := Nat.pow_pos (by omega)
  have hq : 2 ^ (8 - h) ≤ 2 ^ 7 := pow_le_pow (by omega)
  have hm : 2 ^ h * 2 ^ (8 - h) = 256 := by rw [← Nat.pow_add, show h + (8 - h) = 8 by omega]
  have hx2 : x * 2 ^ (8 - h) + 2 ^ (8 - h) ≤ 256 := by
    have : (x + 1) * 2 ^ (8 - h) ≤ 2 ^ h * 2 ^ (8 - h) := Nat.mul_le_mul_right _ hx
    rw [hm, Nat.add_mul] at this
    omega
  have e : shl .u8 1 ((8 - h : Nat) : Int) = ((2 ^ (8 - h) : Nat) : Int) := by
    unfold shl
    rw [Int.toNat_natCast, show IntKind.u8.bits = 8 from rfl, Nat.min_eq_left (by omega), Int.one_mul]
    have e2 : (2 : Int) ^ (8 - h) = ((2 ^ (8 - h) : Nat) : Int) := by simp
    rw [e2, show IntKind.u8.wrap ((2 ^ (8 - h) : Nat) : Int) = ((2 ^ (8 - h) : Nat) : Int) % 256 by simp [IntKind.wrap, IntKind.bits, IntKind.signed]]
    omega
  have ej := join_ones x (8 - h)
  rw [shl64 (by omega) (by omega), e]
  generalize 2 ^ (8 - h) = q at *
  have e3 : ((x * q : Nat) : Int) % 256 = ((x * q : Nat) : Int) := by omega
  have e4 : (((q : Nat) : Int) - 1) % 256 = ((q - 1 : Nat) : Int) := by omega
  rw [e3, e4, u8_or _ _ (by omega) (by omega) (by omega) (by omega), Int.toNat_natCast, Int.toNat_natCast, ej]
theorem enc_l1 {l : List Int} (i : Nat) {X : Nat} (hX : X < 2 ^ 40) (r : ByteArray) : ∀ (m h : Nat) (out : List Int), h < 8 * (m + 1) → Bytes out → h ≤ 40 → out.length + h ≤ 40000000 →
    (∀ (out' : List Int) (h' : Nat), h' < 8 → Bytes out' → ub out' ++ bN h' X = ub out ++ bN h X → out'.length * 8 + h' = out.length * 8 + h →
      Ev (fun k => huff_Encode.l0 k out' ((X % 2 ^ h' : Nat) : Int) (h' : Int) l (l.length : Int) (wrap64 ((i : Int) + 1))) r) →
    Ev (fun k => huff_Encode.l1 k out (X : Int) (h : Int) l (l.length : Int) (i : Int)) r
  | 0, h, out, hh, hB, _, hlen, H => by
    refine Ev.step (f := fun k => huff_Encode.l0 k out ((X % 2 ^ h : Nat) : Int) (h : Int) l (l.length : Int) (wrap64 ((i : Int) + 1))) (fun k => ?_) (H out h (by omega) hB rfl rfl)
    simp only [huff_Encode.l1]
    rw [if_neg (by omega), if_pos (by omega), mask64 (by omega) (by omega)]
  | m + 1, h, out, hh, hB, h40, hlen, H => by
    by_cases h8 : h < 8
    · exact enc_l1 i hX r 0 h out (by omega) hB h40 hlen H
    · refine Ev.step (f := fun k => huff_Encode.l1 k (out ++ [((X / 2 ^ (h - 8) % 256 : Nat) : Int)]) (X : Int) ((h - 8 : Nat) : Int) l (l.length : Int) (i : Int)) (fun k => ?_) ?_
      · simp only [huff_Encode.l1]
        rw [if_pos (by omega), w64 (by omega) (by omega), if_pos (by omega), if_pos (by omega), show (h : Int) - 8 = ((h - 8 : Nat) : Int) by omega, shr64 (by simp [IntKind.bits]; omega)]
        rfl
      · refine enc_l1 i hX r m (h - 8) _ (by omega) (hB.append (Bytes.cons (by omega) (by omega) Bytes.nil)) (by omega) (by simp; omega) (fun out' h' h1 h2 h3 h4 => H out' h' h1 h2 ?_ ?_)
        · rw [h3, ub_append, ub_one, Int.toNat_natCast, List.append_assoc, bN_congr (show X / 2 ^ (h - 8) % 256 % 2 ^ 8 = X / 2 ^ (h - 8) % 2 ^ 8 by omega), ← bN_add, show 8 + (h - 8) = h by omega]
        · rw [h4, List.length_append]; simp; omega
theorem enc_l0 {l : List Int} (hl : Bytes l) (hb : l.length ≤ 1000000) : ∀ d i (out : List Int) (X h : Nat), i + d = l.length → h < 8 → X < 2 ^ h → Bytes out → out.length * 8 + h = (eb (l.take i)).length → ub out ++ bN h X = eb (l.take i) →
    ∃ o, IsEnc l o ∧ Ev (fun k => huff_Encode.l0 k out (X : Int) (h : Int) l (l.length : Int) (i : Int)) (strOfNums o)
  | 0, i, out, X, h, hd, h8, hX, hB, hlen, hbits => by
    have hbd := (eb_length_bounds (hl.take i)).2
    have htl : (l.take i).length ≤ 1000000 := by rw [List.length_take]; omega
    have hti : l.take i = l := List.take_of_length_le (by omega)
    rw [hti] at hbits hlen hbd
    by_cases h0 : h = 0
    · subst h0
      refine ⟨out, ⟨hB, 0, by omega, ?_⟩, Ev.step (f := fun _ => some (strOfNums out)) (fun k => ?_) (Ev.now _)⟩
      · rw [← hbits]; simp [bN]
      · simp only [huff_Encode.l0]
        rw [if_neg (by omega), if_neg (by omega)]
    · have hq : 2 ^ h * 2 ^ (8 - h) = 256 := by rw [← Nat.pow_add, show h + (8 - h) = 8 by omega]
      have hp : 0 < 2 ^ (8 - h) := Nat.pow_pos (by omega)
      have hx2 : X * 2 ^ (8 - h) + 2 ^ (8 - h) ≤ 256 := by
        have : (X + 1) * 2 ^ (8 - h) ≤ 2 ^ h * 2 ^ (8 - h) := Nat.mul_le_mul_right _ hX
        rw [hq, Nat.add_mul] at this
        omega
      have hl8 := last8 (by omega) h8 hX
      refine ⟨out ++ [((X * 2 ^ (8 - h) + (2 ^ (8 - h) - 1) : Nat) : Int)], ⟨hB.append (Bytes.cons (by omega) (by omega) Bytes.nil), 8 - h, by omega, ?_⟩, Ev.step (f := fun _ => some (strOfNums (out ++ [((X * 2 ^ (8 - h) + (2 ^ (8 - h) - 1) : Nat) : Int)]))) (fun k => ?_) (Ev.now _)⟩
      · rw [ub_append, ub_one, Int.toNat_natCast, ← hbits, List.append_assoc]
        congr 1
        have h1 := bN_join h (8 - h) X (2 ^ (8 - h) - 1) (by omega)
        rw [show h + (8 - h) = 8 by omega] at h1
        rw [h1, bN_ones]
      · simp only [huff_Encode.l0]
        rw [if_neg (by omega), if_pos (by omega), w64 (x := 8 - (h : Int)) (by omega) (by omega), if_pos (by omega), if_pos (by omega), show 8 - (h : Int) = ((8 - h : Nat) : Int) by omega, hl8]
  | d + 1, i, out, X, h, hd, h8, hX, hB, hlen, hbits => by
    have hbd := (eb_length_bounds (hl.take i)).2
    have htl : (l.take i).length ≤ 1000000 := by rw [List.length_take]; omega
    have hi : i < l.length := by omega
    have hbi := hl _ (List.getElem_mem hi)
    obtain ⟨c, hc⟩ : ∃ c : Nat, l[i] = (c : Int) := ⟨(l[i]).toNat, by omega⟩
    have hc256 : c < 256 := by omega
    have hL := hcLen_bounds c (by omega)
    have hC := hcCode_lt c (by omega)
    obtain ⟨n, hn⟩ : ∃ n, n = hcLen c := ⟨_, rfl⟩
    rw [← hn] at hL hC
    have hpn : 2 ^ n ≤ 2 ^ 30 := pow_le_pow hL.2
    have hph : 2 ^ h ≤ 2 ^ 7 := pow_le_pow (by omega)
    have hmul : X * 2 ^ n + 2 ^ n ≤ 2 ^ h * 2 ^ n := by
      have : (X + 1) * 2 ^ n ≤ 2 ^ h * 2 ^ n := Nat.mul_le_mul_right _ hX
      rw [Nat.add_mul] at this
      omega
    have hmul2 : 2 ^ h * 2 ^ n ≤ 2 ^ 7 * 2 ^ 30 := Nat.mul_le_mul hph hpn
    have hX2 : X * 2 ^ n + hcCode c < 2 ^ 40 := by omega
    have key : ∀ (out' : List Int) (h' : Nat), h' < 8 → Bytes out' → ub out' ++ bN h' (X * 2 ^ n + hcCode c) = ub out ++ bN (h + n) (X * 2 ^ n + hcCode c) → out'.length * 8 + h' = out.length * 8 + (h + n) →
        ∃ o, IsEnc l o ∧ Ev (fun k => huff_Encode.l0 k out' (((X * 2 ^ n + hcCode c) % 2 ^ h' : Nat) : Int) (h' : Int) l (l.length : Int) (wrap64 ((i : Int) + 1))) (strOfNums o) := by
      intro out' h' h1 h2 h3 h4
      have h5 := enc_l0 hl hb d (i + 1) out' ((X * 2 ^ n + hcCode c) % 2 ^ h') h' (by omega) h1 (Nat.mod_lt _ (Nat.pow_pos (by omega))) h2 (by rw [eb_take hi, List.length_append, cb_length, hc, Int.toNat_natCast, ← hn]; omega)
        (by rw [bN_congr (Nat.mod_mod _ _), h3, bN_join h n X _ hC, ← List.append_assoc, hbits, eb_take hi, hc, Int.toNat_natCast, cb, ← hn])
      rw [w64 (by omega) (by omega)]
      exact h5
    obtain ⟨o, ho⟩ : ∃ o, IsEnc l o := by
      obtain ⟨o, h1, _⟩ := key (out ++ (List.range ((h + n) / 8)).map (fun j => (((X * 2 ^ n + hcCode c) / 2 ^ (h + n - 8 * (j + 1)) % 256 : Nat) : Int))) ((h + n) % 8) (by omega)
        (hB.append (fun x hx => by obtain ⟨j, _, rfl⟩ := List.mem_map.1 hx; omega))
        (by
          rw [ub_append, List.append_assoc]
          congr 1
          have : ∀ (q a : Nat) (Y : Nat), ub ((List.range q).map (fun j => ((Y / 2 ^ (8 * q + a - 8 * (j + 1)) % 256 : Nat) : Int))) ++ bN a Y = bN (8 * q + a) Y := by
            intro q
            induction q with
            | zero => intro a Y; simp [ub]
            | succ q ih =>
              intro a Y
              rw [List.range_succ_eq_map, List.map_cons, ub_cons, Int.toNat_natCast, List.map_map, show 8 * (q + 1) + a - 8 * (0 + 1) = 8 * q + a by omega, List.append_assoc]
              have e : (fun j => ((Y / 2 ^ (8 * (q + 1) + a - 8 * (j + 1)) % 256 : Nat) : Int)) ∘ Nat.succ = (fun j => ((Y / 2 ^ (8 * q + a - 8 * (j + 1)) % 256 : Nat) : Int)) := by
                funext j
                simp only [Function.comp_apply]
                rw [show 8 * (q + 1) + a - 8 * (j.succ + 1) = 8 * q + a - 8 * (j + 1) by omega]
              rw [e, ih a Y, bN_congr (show Y / 2 ^ (8 * q + a) % 256 % 2 ^ 8 = Y / 2 ^ (8 * q + a) % 2 ^ 8 by omega), ← bN_add, show 8 + (8 * q + a) = 8 * (q + 1) + a by omega]
          have h1 := this ((h + n) / 8) ((h + n) % 8) (X * 2 ^ n + hcCode c)
          rw [show 8 * ((h + n) / 8) + (h + n) % 8 = h + n by omega] at h1
          exact h1)
        (by rw [List.length_append, List.length_map, List.length_range]; omega)
      exact ⟨o, h1⟩
    refine ⟨o, ho, Ev.step (f := fun k => huff_Encode.l1 k out ((X * 2 ^ n + hcCode c : Nat) : Int) ((h + n : Nat) : Int) l (l.length : Int) (i : Int)) (fun k => ?_) ?_⟩
    · have e1 : hb0 (c : Int) = ((hcCode c : Nat) : Int) := by unfold hb0; rw [Int.toNat_natCast]
      simp only [huff_Encode.l0]
      rw [if_pos (by omega), if_pos (by omega), if_pos (by omega), rd_nat hi, hc, w64 (x := (c : Int)) (by omega) (by omega), bits_f (by omega) (by omega), Option.bind_some, Int.toNat_natCast, ← hn, if_pos (by omega), if_pos (by omega), if_pos (by omega), e1, or64 (by omega) hC hL.2, w64 (x := (h : Int) + (n : Int)) (by omega) (by omega), show (h : Int) + (n : Int) = ((h + n : Nat) : Int) by omega]
    · refine enc_l1 i hX2 _ 5 (h + n) out (by omega) hB (by omega) (by omega) (fun out' h' h1 h2 h3 h4 => ?_)
      obtain ⟨o', h5, h6⟩ := key out' h' h1 h2 h3 h4
      rw [IsEnc.uniq ho h5]
      exact h6
theorem encode_f (s : ByteArray) (hs : s.size ≤ 1000000) : ∃ o, IsEnc (bytesOf s) o ∧ Ev (fun k => huff_Encode.f k s) (strOfNums o) := by
  have hlen : (bytesOf s).length = s.size := bytesOf_length s
  obtain ⟨o, ho, hE⟩ := enc_l0 (bytesOf_bytes s) (by omega) (bytesOf s).length 0 [] 0 0 (by omega) (by omega) (by decide) Bytes.nil rfl rfl
  refine ⟨o, ho, ?_⟩
  have hsz := hsize_f s hs
  have hbd := (eb_length_bounds (bytesOf_bytes s)).2
  have e : sz (bytesOf s) ≤ 30000000 := by unfold sz; omega
  refine Ev.congr (fun k => show huff_Encode.f k s = (huff_Size.f k s).bind (fun t => if 0 ≤ t then (if (t : Int).toNat ≤ 281474976710656 then (if (s.size : Int) ≤ 9223372036854775807 then huff_Encode.l0 k [] 0 0 (bytesOf s) ((bytesOf s).length : Int) 0 else none) else none) else none) from ?_) (Ev.bind hsz ?_)
  · unfold huff_Encode.f huff_made.f
    rw [Option.bind_some]
    rfl
  · refine Ev.congr (fun k => ?_) hE
    rw [if_pos (by omega), if_pos (by omega), if_pos (by omega)]
    rfl
end Go.Proofs.YtfkdocmhbmameaaDoor.Pure
