/- Plain lemmas on numbers, bytes and lists, for the proofs of the pure statements. -/
import Derived.Test.YtjdnimgkfkpaeaaDoorLBase0
namespace Go.Proofs.YtjdnimgkfkpaeaaDoor.Pure
open Go.RowKit Go.Proofs.YtjdnimgkfkpaeaaDoorW.PrintWords Go.Proofs.YtjdnimgkfkpaeaaDoorW.PrintLast Go.Proofs.YtjdnimgkfkpaeaaDoorW.PrintMore

/-! bytes -/
def Bytes (l : List Int) : Prop := ∀ x ∈ l, 0 ≤ x ∧ x < 256
theorem Bytes.nil : Bytes [] := by intro x h; simp at h
theorem Bytes.append {a b : List Int} (ha : Bytes a) (hb : Bytes b) : Bytes (a ++ b) := fun x h => (List.mem_append.1 h).elim (ha x) (hb x)
theorem Bytes.cons {x : Int} {l : List Int} (h0 : 0 ≤ x) (h1 : x < 256) (hl : Bytes l) : Bytes (x :: l) := fun y h => (List.mem_cons.1 h).elim (fun e => by rw [e]; exact ⟨h0, h1⟩) (hl y)
theorem Bytes.tail {x : Int} {l : List Int} (h : Bytes (x :: l)) : Bytes l := fun y hy => h y (List.mem_cons_of_mem _ hy)
theorem Bytes.head {x : Int} {l : List Int} (h : Bytes (x :: l)) : 0 ≤ x ∧ x < 256 := h x List.mem_cons_self
theorem Bytes.take {l : List Int} (h : Bytes l) (n : Nat) : Bytes (l.take n) := fun x hx => h x (List.mem_of_mem_take hx)
theorem Bytes.drop {l : List Int} (h : Bytes l) (n : Nat) : Bytes (l.drop n) := fun x hx => h x (List.mem_of_mem_drop hx)
theorem bytes_wf {l : List Int} (h : ∀ x ∈ l, (Lit.int .u8 x).wf = true) : Bytes l := fun x hx => by have := b_u8 (h x hx); omega
theorem bytesOf_bytes (s : ByteArray) : Bytes (bytesOf s) := by
  intro x hx
  unfold bytesOf at hx
  obtain ⟨b, _, rfl⟩ := List.mem_map.1 hx
  have := b.toNat_lt
  omega
theorem bytesOf_str {l : List Int} (h : Bytes l) : bytesOf (strOfNums l) = l := by
  unfold bytesOf strOfNums
  simp only [List.map_map]
  conv => rhs; rw [← List.map_id l]
  apply List.map_congr_left
  intro x hx
  have := h x hx
  simp only [Function.comp_apply, id_eq, UInt8.toNat_ofNat']
  omega
theorem strOfNums_size (l : List Int) : (strOfNums l).size = l.length := by
  show (List.map (fun n => UInt8.ofNat n.toNat) l).toArray.size = l.length
  simp
theorem str_bytesOf (s : ByteArray) : strOfNums (bytesOf s) = s := by
  unfold bytesOf strOfNums
  simp only [List.map_map]
  have e : List.map ((fun n : Int => UInt8.ofNat n.toNat) ∘ fun b : UInt8 => (b.toNat : Int)) s.data.toList = s.data.toList := by
    conv => rhs; rw [← List.map_id s.data.toList]
    apply List.map_congr_left
    intro x _
    simp
  rw [e]
theorem bytesOf_inj {s t : ByteArray} (h : bytesOf s = bytesOf t) : s = t := by rw [← str_bytesOf s, h, str_bytesOf t]
theorem data_extract (s : ByteArray) (a b : Nat) : (s.extract a b).data.toList = (s.data.toList.drop a).take (b - a) := by
  rw [ByteArray.data_extract, Array.toList_extract, List.extract_eq_take_drop]
theorem bytesOf_extract (s : ByteArray) (a b : Nat) : bytesOf (s.extract a b) = ((bytesOf s).drop a).take (b - a) := by
  unfold bytesOf
  rw [data_extract, List.map_take, List.map_drop]
theorem bytesOf_append (s t : ByteArray) : bytesOf (s ++ t) = bytesOf s ++ bytesOf t := by
  unfold bytesOf
  rw [ByteArray.data_append, Array.toList_append, List.map_append]
theorem toList_eq (s : ByteArray) : s.toList = s.data.toList := ByteArray.toList_eq s
theorem toList_inj {s t : ByteArray} : s.toList = t.toList ↔ s = t := by
  constructor
  · intro h
    rw [toList_eq, toList_eq] at h
    exact ByteArray.ext (Array.toList_inj.1 h)
  · rintro rfl; rfl
theorem bytesOf_empty : bytesOf (⟨#[]⟩ : ByteArray) = [] := rfl
theorem size_bytesOf (s : ByteArray) : s.size = (bytesOf s).length := (bytesOf_length s).symm
theorem bt_eq (s : ByteArray) (i : Int) : bt s i = rd (bytesOf s) i := (rd_bytesOf s i).symm
theorem rd_nat {l : List Int} {i : Nat} (h : i < l.length) : rd l (i : Int) = l[i] := by
  unfold rd; rw [Int.toNat_natCast, List.getD_eq_getElem?_getD, List.getElem?_eq_getElem h]; rfl
theorem copied_zeros (l : List Int) : copied (List.replicate l.length 0) l = l := by
  unfold copied; rw [List.length_replicate, Nat.min_self, List.take_length, List.drop_eq_nil_of_le (by simp), List.append_nil]

/-! a number's bytes, the greatest first -/
def be (n : Int) : Nat → List Int
  | 0 => []
  | j + 1 => (n / 2 ^ (8 * j)) % 256 :: be n j
theorem be_length (n : Int) : ∀ j, (be n j).length = j
  | 0 => rfl
  | j + 1 => by rw [be, List.length_cons, be_length n j]
theorem be_bytes (n : Int) : ∀ j, Bytes (be n j)
  | 0 => Bytes.nil
  | j + 1 => Bytes.cons (by omega) (by omega) (be_bytes n j)
/-- The number that bytes are. -/
def beVal (acc : Int) (l : List Int) : Int := l.foldl (fun a b => a * 256 + b) acc
theorem beVal_cons (acc x : Int) (l : List Int) : beVal acc (x :: l) = beVal (acc * 256 + x) l := rfl
theorem beVal_acc : ∀ (l : List Int) (acc : Int), beVal acc l = acc * 256 ^ l.length + beVal 0 l
  | [], acc => by simp [beVal]
  | x :: l, acc => by
    rw [beVal_cons, beVal_cons, beVal_acc l (acc * 256 + x), beVal_acc l (0 * 256 + x), List.length_cons, Int.pow_succ]
    grind
theorem beVal_range {l : List Int} (h : Bytes l) : 0 ≤ beVal 0 l ∧ beVal 0 l < 256 ^ l.length := by
  induction l with
  | nil => simp [beVal]
  | cons x l ih =>
    obtain ⟨h1, h2⟩ := ih h.tail
    have hx := h.head
    rw [beVal_cons, beVal_acc, List.length_cons, Int.pow_succ]
    have hp : (0 : Int) < 256 ^ l.length := Int.pow_pos (by omega)
    have h3 : x * 256 ^ l.length ≤ 255 * 256 ^ l.length := Int.mul_le_mul_of_nonneg_right (by omega) (by omega)
    have h4 : 0 ≤ x * 256 ^ l.length := Int.mul_nonneg hx.1 (by omega)
    constructor <;> grind
theorem pow256_le {i j : Nat} (h : i ≤ j) : (256 : Int) ^ i ≤ 256 ^ j := by
  obtain ⟨d, rfl⟩ : ∃ d, j = i + d := ⟨j - i, by omega⟩
  clear h
  induction d with
  | zero => exact Int.le_refl _
  | succ d ih =>
    have h0 : (0 : Int) < 256 ^ (i + d) := Int.pow_pos (by omega)
    rw [← Nat.add_assoc, Int.pow_succ]; omega
theorem pow8 (j : Nat) : (2 : Int) ^ (8 * j) = 256 ^ j := by rw [Int.pow_mul]; rfl
theorem beVal_be (n : Int) : ∀ j, beVal 0 (be n j) = n % 256 ^ j
  | 0 => by simp [be, beVal, Int.emod_one]
  | j + 1 => by
    rw [be, beVal_cons, beVal_acc, beVal_be n j, be_length, pow8, Int.pow_succ]
    have hp : (0 : Int) < 256 ^ j := Int.pow_pos (by omega)
    have h1 := Int.emod_add_mul_ediv n (256 ^ j)
    have h2 := Int.emod_add_mul_ediv (n / 256 ^ j) 256
    have h3 : n / (256 ^ j * 256) = n / 256 ^ j / 256 := (Int.ediv_ediv_of_nonneg (by omega)).symm
    have h4 := Int.emod_add_mul_ediv n (256 ^ j * 256)
    rw [h3] at h4
    grind
theorem or_byte {a b : Int} (ha : 0 ≤ a) (ha2 : a * 256 < 18446744073709551616) (hb : 0 ≤ b) (hb2 : b < 256) :
    Go.bits .or .u64 (IntKind.u64.wrap (a * 256)) (IntKind.u64.wrap b) = a * 256 + b := by
  rw [wu64_id (by omega) ha2, wu64_id hb (by omega), u64_or _ _ (by omega) ha2 hb (by omega), nat_join 8 _ _ (by omega) (by omega)]
  omega
end Go.Proofs.YtjdnimgkfkpaeaaDoor.Pure
