/- A table as the document has it: its greatest size, its entries, the youngest first; what the program's methods tell of it. -/
import Derived.Test.YtjdnimgkfkpaeaaDoorMinex5
import Derived.Test.YtjdnimgkfkpaeaaDoorMinex6
import Derived.Test.YtjdnimgkfkpaeaaDoorMinex8
import Derived.Test.YtjdnimgkfkpaeaaDoorMinex9
import Derived.Test.YtjdnimgkfkpaeaaDoorMinex4
import Derived.Test.YtjdnimgkfkpaeaaDoorLBase
import Derived.Test.YtjdnimgkfkpaeaaDoorLEv
import Derived.Test.YtjdnimgkfkpaeaaDoorTbL
namespace Go.Proofs.YtjdnimgkfkpaeaaDoor.Pure
open Go.RowKit Go.Proofs.YtjdnimgkfkpaeaaDoor.Mine Go.Proofs.YtjdnimgkfkpaeaaDoorW.PrintWords Go.Proofs.YtjdnimgkfkpaeaaDoorW.PrintLast Go.Proofs.YtjdnimgkfkpaeaaDoorW.PrintMore
set_option linter.unusedSimpArgs false

def cv (x : S62) : S38 := ⟨x.f0, x.f1⟩
def bk (x : S38) : S62 := ⟨x.f0, x.f1⟩
theorem cv_bk (x : S38) : cv (bk x) = x := rfl
theorem bk_cv (x : S62) : bk (cv x) = x := rfl
def es (x : S38) : Int := (x.f0.size : Int) + (x.f1.size : Int) + 32
def sm : List S38 → Int
  | [] => 0
  | x :: l => es x + sm l
theorem es_ge (x : S38) : 32 ≤ es x := by unfold es; omega
theorem sm_nonneg : ∀ l, 0 ≤ sm l
  | [] => Int.le_refl _
  | x :: l => by have := sm_nonneg l; have := es_ge x; unfold sm; omega
theorem sm_app : ∀ a b, sm (a ++ b) = sm a + sm b
  | [], b => by simp [sm]
  | x :: a, b => by rw [List.cons_append, sm, sm, sm_app a b]; omega
theorem sm_le : ∀ (l : List S38), (∀ x ∈ l, es x ≤ 10000) → sm l ≤ 10000 * (l.length : Int)
  | [], _ => Int.le_refl _
  | x :: l, h => by
    have := sm_le l (fun y hy => h y (List.mem_cons_of_mem _ hy))
    have := h x List.mem_cons_self
    rw [sm, List.length_cons]
    omega
/-- As many of the first entries as have room. -/
def kp : Int → List S38 → List S38
  | _, [] => []
  | r, x :: l => if es x ≤ r then x :: kp (r - es x) l else []
theorem kp_snoc (x : S38) : ∀ (a : List S38) (r : Int), kp r (a ++ [x]) = if sm a + es x ≤ r then a ++ [x] else kp r a
  | [], r => by
    by_cases h : es x ≤ r
    · simp [kp, sm, h]
    · simp [kp, sm, h]
  | y :: a, r => by
    have h0 := sm_nonneg a
    have h1 := es_ge x
    rw [List.cons_append, kp, kp_snoc x a, sm, kp]
    by_cases h : es y ≤ r
    · rw [if_pos h, if_pos h]
      by_cases h2 : sm a + es x ≤ r - es y
      · rw [if_pos h2, if_pos (by omega)]
      · rw [if_neg h2, if_neg (by omega)]
    · rw [if_neg h, if_neg h, if_neg (by omega)]
theorem kp_le : ∀ (l : List S38) (r : Int), 0 ≤ r → sm (kp r l) ≤ r
  | [], r, h => h
  | x :: l, r, h => by
    rw [kp]
    split
    · rw [sm]
      have := kp_le l (r - es x) (by omega)
      omega
    · exact h
theorem kp_len : ∀ (l : List S38) (r : Int), (kp r l).length ≤ l.length
  | [], _ => Nat.le_refl _
  | x :: l, r => by
    rw [kp]
    split
    · have := kp_len l (r - es x)
      simp only [List.length_cons]; omega
    · exact Nat.zero_le _
theorem kp_mem : ∀ (l : List S38) (r : Int), ∀ x ∈ kp r l, x ∈ l
  | [], _ => fun x h => h
  | y :: l, r => fun x h => by
    rw [kp] at h
    split at h
    · rcases List.mem_cons.1 h with rfl | h
      · exact List.mem_cons_self
      · exact List.mem_cons_of_mem _ (kp_mem l _ x h)
    · cases h
theorem kp_neg : ∀ (l : List S38) {r : Int}, r < 32 → kp r l = []
  | [], _, _ => rfl
  | x :: l, r, h => by rw [kp, if_neg (by have := es_ge x; omega)]
theorem kp_pre : ∀ (l : List S38) (r : Int), ∃ t, l = kp r l ++ t
  | [], _ => ⟨[], rfl⟩
  | x :: l, r => by
    rw [kp]
    split
    · obtain ⟨t, ht⟩ := kp_pre l (r - es x)
      exact ⟨t, by rw [List.cons_append, ← ht]⟩
    · exact ⟨x :: l, rfl⟩
abbrev M := Int × List S38
def Ok (n : Nat) (m : M) : Prop := (0 ≤ m.1 ∧ m.1 ≤ 9223372036854775807) ∧ m.2.length ≤ n ∧ (∀ x ∈ m.2, es x ≤ 10000) ∧ sm m.2 ≤ m.1
def mkT (m : M) : TB := ⟨m.1, sm m.2, (m.2.map bk).reverse, tbFixed⟩
theorem sz_eq {x : S62} (h : es (cv x) ≤ 10000) : tbSz x = es (cv x) := by
  unfold es cv at h
  unfold tbSz
  rw [w64 (x := (x.f0.size : Int) + (x.f1.size : Int)) (by omega) (by simp only at h; omega), w64 (by omega) (by simp only at h; omega)]
  rfl
theorem fit_eq : ∀ (r : List S62) (top : Int), (∀ x ∈ r, es (cv x) ≤ 10000) → r.length ≤ 100000 → tbFit top (sm (r.map cv).reverse) r = (sm (kp top (r.map cv).reverse), ((kp top (r.map cv).reverse).map bk).reverse)
  | [], top, _, _ => rfl
  | x :: r, top, h, hl => by
    have hx := h x List.mem_cons_self
    have hr : ∀ y ∈ r, es (cv y) ≤ 10000 := fun y hy => h y (List.mem_cons_of_mem _ hy)
    have ih := fit_eq r top hr (by simp only [List.length_cons] at hl; omega)
    rw [List.map_cons, List.reverse_cons, kp_snoc, sm_app]
    have hs : sm [cv x] = es (cv x) := by simp [sm]
    rw [hs, tbFit, sz_eq hx]
    have h0 := sm_nonneg (r.map cv).reverse
    have h1 : sm (r.map cv).reverse ≤ 10000 * ((r.map cv).reverse.length : Int) := sm_le _ (fun y hy => by
      rw [List.mem_reverse, List.mem_map] at hy
      obtain ⟨z, hz, rfl⟩ := hy
      exact hr z hz)
    rw [List.length_reverse, List.length_map] at h1
    have h2 := es_ge (cv x)
    simp only [List.length_cons] at hl
    by_cases hc : sm (r.map cv).reverse + es (cv x) > top
    · rw [if_pos hc, if_neg (by omega), w64 (by omega) (by omega), show sm (r.map cv).reverse + es (cv x) - es (cv x) = sm (r.map cv).reverse by omega]
      exact ih
    · rw [if_neg hc, if_pos (by omega), sm_app, hs]
      simp [List.map_reverse, List.map_map, Function.comp_def, bk_cv]
theorem map_cv_bk (l : List S38) : ((l.map bk).reverse.map cv).reverse = l := by
  simp [List.map_reverse, List.map_map, Function.comp_def, cv_bk]
theorem fitM {l : List S38} (h : ∀ x ∈ l, es x ≤ 10000) (hl : l.length ≤ 100000) (top : Int) : tbFit top (sm l) (l.map bk).reverse = (sm (kp top l), ((kp top l).map bk).reverse) := by
  have := fit_eq (l.map bk).reverse top (fun x hx => by
    rw [List.mem_reverse, List.mem_map] at hx
    obtain ⟨y, hy, rfl⟩ := hx
    exact h y hy) (by simpa using hl)
  rwa [map_cv_bk] at this
theorem ok_kp {n : Nat} {m : M} {r : Int} (h : Ok n m) (h0 : 0 ≤ r) (h1 : r ≤ 9223372036854775807) : Ok n (r, kp r m.2) :=
  ⟨⟨h0, h1⟩, Nat.le_trans (kp_len _ _) h.2.1, fun x hx => h.2.2.1 x (kp_mem _ _ x hx), kp_le _ _ h0⟩
theorem mx_nonneg (n : Int) : 0 ≤ mx n 0 := by unfold mx; split <;> omega
theorem new_f (n : Int) : table_New.f n = some (mkT (mx n 0, [])) := rfl
theorem ok_new (n : Int) (h : n ≤ 9223372036854775807) (k : Nat) : Ok k (mx n 0, []) := ⟨⟨mx_nonneg n, by unfold mx; simp only; split <;> omega⟩, Nat.zero_le _, (fun x hx => by cases hx), mx_nonneg n⟩
theorem most_f (m : M) : table_Table_Most.f (mkT m) = some (m.1, mkT m) := rfl
theorem size_f (m : M) : table_Table_Size.f (mkT m) = some (sm m.2, mkT m) := rfl
theorem len_f (m : M) : table_Table_Len.f (mkT m) = some ((m.2.length : Int), mkT m) := by unfold table_Table_Len.f mkT; simp
def rsz (m : M) (n : Int) : M := (mx n 0, kp (mx n 0) m.2)
def add (m : M) (a b : ByteArray) : M := (m.1, kp m.1 (⟨a, b⟩ :: m.2))
theorem resize_f {n : Nat} {m : M} (h : Ok n m) (hn : n ≤ 100000) {x : Int} (hx : x ≤ 9223372036854775807) : table_Table_Resize.f (mkT m) x = some (mkT (rsz m x)) := by
  unfold table_Table_Resize.f mkT rsz
  have h0 := mx_nonneg x
  have h1 : mx x 0 ≤ 9223372036854775807 := by unfold mx; split <;> omega
  have h2 := h.2.1
  simp only [List.length_reverse, List.length_map]
  rw [if_pos (by omega), w64 (by omega) (by omega), Int.sub_zero, fitM h.2.2.1 (by omega)]
theorem ok_rsz {n : Nat} {m : M} (h : Ok n m) {x : Int} (hx : x ≤ 9223372036854775807) : Ok n (rsz m x) := ok_kp h (mx_nonneg x) (by unfold mx; split <;> omega)
theorem add_F (fx : List S62) {n : Nat} {m : M} (h : Ok n m) (hn : n ≤ 99999) {a b : ByteArray} (he : es ⟨a, b⟩ ≤ 10000) : table_Table_Add.f ⟨m.1, sm m.2, (m.2.map bk).reverse, fx⟩ a b = some ⟨(add m a b).1, sm (add m a b).2, ((add m a b).2.map bk).reverse, fx⟩ := by
  have h2 := h.2.1
  have h3 := h.1
  have hz : tbSz ⟨a, b⟩ = es ⟨a, b⟩ := sz_eq (x := ⟨a, b⟩) he
  have hg := es_ge ⟨a, b⟩
  have hf : tbFit (wrap64 (m.1 - es ⟨a, b⟩)) (sm m.2) (m.2.map bk).reverse = (sm (kp (m.1 - es ⟨a, b⟩) m.2), ((kp (m.1 - es ⟨a, b⟩) m.2).map bk).reverse) := by rw [w64 (by omega) (by omega), fitM h.2.2.1 (by omega)]
  unfold table_Table_Add.f tbAdd add
  dsimp only
  rw [if_pos (by simp only [List.length_reverse, List.length_map]; omega), hz, hf]
  by_cases hc : es ⟨a, b⟩ ≤ m.1
  · have h4 := kp_le m.2 (m.1 - es ⟨a, b⟩) (by omega)
    have h5 := sm_nonneg (kp (m.1 - es ⟨a, b⟩) m.2)
    have h6 := w64 (x := sm (kp (m.1 - es ⟨a, b⟩) m.2) + es ⟨a, b⟩) (by omega) (by omega)
    rw [if_pos hc, h6]
    simp only [kp, if_pos hc, sm, List.map_cons, List.reverse_cons]
    rw [Int.add_comm]
    rfl
  · rw [if_neg hc]
    simp only [kp, if_neg hc, kp_neg m.2 (show m.1 - es ⟨a, b⟩ < 32 by omega)]
theorem add_f {n : Nat} {m : M} (h : Ok n m) (hn : n ≤ 99999) {a b : ByteArray} (he : es ⟨a, b⟩ ≤ 10000) : table_Table_Add.f (mkT m) a b = some (mkT (add m a b)) := add_F tbFixed h hn he
theorem ok_add {n : Nat} {m : M} (h : Ok n m) {a b : ByteArray} (he : es ⟨a, b⟩ ≤ 10000) : Ok (n + 1) (add m a b) := by
  refine ⟨h.1, ?_, ?_, kp_le _ _ h.1.1⟩
  · have := kp_len (⟨a, b⟩ :: m.2) m.1
    have := h.2.1
    have h9 : ((⟨a, b⟩ : S38) :: m.2).length = m.2.length + 1 := rfl
    show (kp m.1 (⟨a, b⟩ :: m.2)).length ≤ n + 1
    omega
  · intro x hx
    rcases List.mem_cons.1 (kp_mem _ _ x hx) with rfl | hx
    · exact he
    · exact h.2.2.1 x hx
theorem copy_f {n : Nat} {m : M} (h : Ok n m) (hn : n ≤ 100000) : table_Table_Copy.f (mkT m) = some (mkT m) := by
  have := h.2.1
  unfold table_Table_Copy.f
  rw [if_pos (by show ((m.2.map bk).reverse).length < _; simp only [List.length_reverse, List.length_map]; omega)]
theorem Ok.up {n k : Nat} {m : M} (h : Ok n m) (hk : n ≤ k) : Ok k m := ⟨h.1, Nat.le_trans h.2.1 hk, h.2.2⟩
end Go.Proofs.YtjdnimgkfkpaeaaDoor.Pure
