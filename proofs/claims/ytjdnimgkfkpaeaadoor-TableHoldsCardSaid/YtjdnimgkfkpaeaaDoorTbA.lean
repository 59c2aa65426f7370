import Derived.Test.YtjdnimgkfkpaeaaDoorMinex0
import Derived.Test.YtjdnimgkfkpaeaaDoorShelf
import Derived.Test.YtjdnimgkfkpaeaaDoorTbT
namespace Go.Proofs.YtjdnimgkfkpaeaaDoor.Mine
open Go.RowKit Go.Proofs Go.Proofs.YtjdnimgkfkpaeaaDoorW.PrintWords Go.Proofs.YtjdnimgkfkpaeaaDoorW.PrintLast Go.Proofs.YtjdnimgkfkpaeaaDoorW.PrintMore
attribute [local go_sem] max2_int min2_int max_two min_two max_three min_three max_four min_four
set_option linter.unusedVariables false
set_option linter.unusedSimpArgs false
/-- The parts of a text between bytes c, by recursion over its bytes. -/
def tbParts (c : UInt8) : List UInt8 → List (List UInt8)
  | [] => [[]]
  | x :: r => if x = c then [] :: tbParts c r else match tbParts c r with
    | h :: t => (x :: h) :: t
    | [] => [[x]]
theorem tb_hit (c : UInt8) (k : Nat) (s : List UInt8) (i : Nat) (h : Lib.index s [c] = i) : Lib.splitK [c] 0 (k + 1) s = s.take i :: Lib.splitK [c] 0 k (s.drop (i + 1)) := by
  rw [Lib.splitK, if_neg (by rw [h]; simp), h]
  simp
theorem tb_miss (c : UInt8) (k : Nat) (s : List UInt8) (h : Lib.index s [c] = -1) : Lib.splitK [c] 0 k s = [s] := by
  cases k with
  | zero => rfl
  | succ k => rw [Lib.splitK, if_pos (by rw [h]; rfl)]
theorem tb_parts (c : UInt8) : ∀ l : List UInt8, Lib.splitK [c] 0 (Lib.count l [c]) l = tbParts c l
  | [] => by rw [Lib.count_miss (by simp [Lib.index])]; rfl
  | x :: r => by
    have ih := tb_parts c r
    by_cases h : x = c
    · subst h
      rw [Lib.count_cons_eq, Nat.add_comm, tb_hit x _ _ 0 (by rw [Lib.index]; simp [List.isPrefixOf])]
      simp only [tbParts, if_true, List.take_zero, List.drop_succ_cons, List.drop_zero, Nat.zero_add]
      rw [ih]
    · rw [Lib.count_cons_ne x c r h]
      have hix : Lib.index (x :: r) [c] = if Lib.index r [c] == -1 then -1 else Lib.index r [c] + 1 := by
        have hp : ([c] : List UInt8).isPrefixOf (x :: r) = false := by simp [List.isPrefixOf, Ne.symm h]
        rw [Lib.index, hp]; simp
      by_cases hm : Lib.index r [c] = -1
      · rw [tb_miss c _ r hm] at ih
        rw [tb_miss c _ _ (by rw [hix, if_pos (beq_iff_eq.2 hm)]), tbParts, if_neg h, ← ih]
      · have hge := Lib.index_ge r [c]
        obtain ⟨j, hj⟩ : ∃ j : Nat, Lib.index r [c] = j := ⟨(Lib.index r [c]).toNat, by omega⟩
        have hix' : Lib.index (x :: r) [c] = ((j + 1 : Nat) : Int) := by rw [hix, if_neg (fun e => hm (beq_iff_eq.1 e)), hj]; omega
        rw [Lib.count_hit (by simp) hj] at ih ⊢
        rw [Nat.add_comm] at ih ⊢
        rw [tb_hit c _ r j hj] at ih
        rw [tb_hit c _ _ (j + 1) hix', tbParts, if_neg h, ← ih]
        simp
/-- The fixed entries' text, as table.go has it. -/
def tbText : ByteArray := ⟨#[58, 97, 117, 116, 104, 111, 114, 105, 116, 121, 10, 58, 109, 101, 116, 104, 111, 100, 61, 71, 69, 84, 10, 58, 109, 101, 116, 104, 111, 100, 61, 80, 79, 83, 84, 10, 58, 112, 97, 116, 104, 61, 47, 10, 58, 112, 97, 116, 104, 61, 47, 105, 110, 100, 101, 120, 46, 104, 116, 109, 108, 10, 58, 115, 99, 104, 101, 109, 101, 61, 104, 116, 116, 112, 10, 58, 115, 99, 104, 101, 109, 101, 61, 104, 116, 116, 112, 115, 10, 58, 115, 116, 97, 116, 117, 115, 61, 50, 48, 48, 10, 58, 115, 116, 97, 116, 117, 115, 61, 50, 48, 52, 10, 58, 115, 116, 97, 116, 117, 115, 61, 50, 48, 54, 10, 58, 115, 116, 97, 116, 117, 115, 61, 51, 48, 52, 10, 58, 115, 116, 97, 116, 117, 115, 61, 52, 48, 48, 10, 58, 115, 116, 97, 116, 117, 115, 61, 52, 48, 52, 10, 58, 115, 116, 97, 116, 117, 115, 61, 53, 48, 48, 10, 97, 99, 99, 101, 112, 116, 45, 99, 104, 97, 114, 115, 101, 116, 10, 97, 99, 99, 101, 112, 116, 45, 101, 110, 99, 111, 100, 105, 110, 103, 61, 103, 122, 105, 112, 44, 32, 100, 101, 102, 108, 97, 116, 101, 10, 97, 99, 99, 101, 112, 116, 45, 108, 97, 110, 103, 117, 97, 103, 101, 10, 97, 99, 99, 101, 112, 116, 45, 114, 97, 110, 103, 101, 115, 10, 97, 99, 99, 101, 112, 116, 10, 97, 99, 99, 101, 115, 115, 45, 99, 111, 110, 116, 114, 111, 108, 45, 97, 108, 108, 111, 119, 45, 111, 114, 105, 103, 105, 110, 10, 97, 103, 101, 10, 97, 108, 108, 111, 119, 10, 97, 117, 116, 104, 111, 114, 105, 122, 97, 116, 105, 111, 110, 10, 99, 97, 99, 104, 101, 45, 99, 111, 110, 116, 114, 111, 108, 10, 99, 111, 110, 116, 101, 110, 116, 45, 100, 105, 115, 112, 111, 115, 105, 116, 105, 111, 110, 10, 99, 111, 110, 116, 101, 110, 116, 45, 101, 110, 99, 111, 100, 105, 110, 103, 10, 99, 111, 110, 116, 101, 110, 116, 45, 108, 97, 110, 103, 117, 97, 103, 101, 10, 99, 111, 110, 116, 101, 110, 116, 45, 108, 101, 110, 103, 116, 104, 10, 99, 111, 110, 116, 101, 110, 116, 45, 108, 111, 99, 97, 116, 105, 111, 110, 10, 99, 111, 110, 116, 101, 110, 116, 45, 114, 97, 110, 103, 101, 10, 99, 111, 110, 116, 101, 110, 116, 45, 116, 121, 112, 101, 10, 99, 111, 111, 107, 105, 101, 10, 100, 97, 116, 101, 10, 101, 116, 97, 103, 10, 101, 120, 112, 101, 99, 116, 10, 101, 120, 112, 105, 114, 101, 115, 10, 102, 114, 111, 109, 10, 104, 111, 115, 116, 10, 105, 102, 45, 109, 97, 116, 99, 104, 10, 105, 102, 45, 109, 111, 100, 105, 102, 105, 101, 100, 45, 115, 105, 110, 99, 101, 10, 105, 102, 45, 110, 111, 110, 101, 45, 109, 97, 116, 99, 104, 10, 105, 102, 45, 114, 97, 110, 103, 101, 10, 105, 102, 45, 117, 110, 109, 111, 100, 105, 102, 105, 101, 100, 45, 115, 105, 110, 99, 101, 10, 108, 97, 115, 116, 45, 109, 111, 100, 105, 102, 105, 101, 100, 10, 108, 105, 110, 107, 10, 108, 111, 99, 97, 116, 105, 111, 110, 10, 109, 97, 120, 45, 102, 111, 114, 119, 97, 114, 100, 115, 10, 112, 114, 111, 120, 121, 45, 97, 117, 116, 104, 101, 110, 116, 105, 99, 97, 116, 101, 10, 112, 114, 111, 120, 121, 45, 97, 117, 116, 104, 111, 114, 105, 122, 97, 116, 105, 111, 110, 10, 114, 97, 110, 103, 101, 10, 114, 101, 102, 101, 114, 101, 114, 10, 114, 101, 102, 114, 101, 115, 104, 10, 114, 101, 116, 114, 121, 45, 97, 102, 116, 101, 114, 10, 115, 101, 114, 118, 101, 114, 10, 115, 101, 116, 45, 99, 111, 111, 107, 105, 101, 10, 115, 116, 114, 105, 99, 116, 45, 116, 114, 97, 110, 115, 112, 111, 114, 116, 45, 115, 101, 99, 117, 114, 105, 116, 121, 10, 116, 114, 97, 110, 115, 102, 101, 114, 45, 101, 110, 99, 111, 100, 105, 110, 103, 10, 117, 115, 101, 114, 45, 97, 103, 101, 110, 116, 10, 118, 97, 114, 121, 10, 118, 105, 97, 10, 119, 119, 119, 45, 97, 117, 116, 104, 101, 110, 116, 105, 99, 97, 116, 101]⟩
def tbPieces : List ByteArray := Lib.splitB ⟨#[10]⟩ 0 (Lib.countB tbText ⟨#[10]⟩) tbText
theorem tbPieces_eq : tbPieces.map (·.data.toList) = tbParts 10 tbText.data.toList := by
  unfold tbPieces
  rw [Lib.splitB_data]
  exact tb_parts 10 tbText.data.toList
set_option maxRecDepth 100000 in
theorem tbParts_len : (tbParts 10 tbText.data.toList).length = 61 := by decide +kernel
theorem tbPieces_len : tbPieces.length = 61 := by
  have := congrArg List.length tbPieces_eq
  rw [List.length_map, tbParts_len] at this
  exact this
theorem tbCount : Lib.countB tbText ⟨#[10]⟩ + 1 = 61 := by
  rw [← tbPieces_len]
  exact (Lib.splitB_all ⟨#[10]⟩ (by decide) 0 _ tbText rfl).symm
set_option maxRecDepth 100000 in
theorem tbSmall : ∀ s ∈ tbPieces, s.size < 4294967281 := by
  intro s hs
  have h : s.data.toList ∈ tbParts 10 tbText.data.toList := by rw [← tbPieces_eq]; exact List.mem_map_of_mem hs
  have h2 : ∀ l ∈ tbParts 10 tbText.data.toList, l.length < 100 := by decide +kernel
  have h3 := h2 _ h
  have := Lib.size_eq s
  omega

end Go.Proofs.YtjdnimgkfkpaeaaDoor.Mine
