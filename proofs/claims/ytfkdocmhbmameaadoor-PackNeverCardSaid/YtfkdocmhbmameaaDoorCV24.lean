/- The walks and the plain laws that the rows come to: merged out of this repo's texts. -/
import Derived.Test.YtfkdocmhbmameaaDoorProg
import Derived.Below
import Derived.Deep.Draws
import Derived.Deep.AppendLies
import Derived.Maps.AppendAt
import Derived.OwnWalk
import Derived.Laws.BytesArg
import Derived.Laws.MakeOwn
import Derived.Laws.OwnMore
import Derived.Deep.OwnRows
import Derived.Tactics
import Derived.Lib.ConvBytes
import Derived.Laws.Slices
import Derived.WalkKit
import Derived.KernelRfl
import Derived.RowKit3
import Derived.Deep.LoopGhost
import Derived.Deep.QuietTactic
import Derived.BigQuiet
import Derived.WideLaws
import Derived.Deep.DeepCutAuto
import Derived.Deep.CutBlock
import Derived.Deep.RegionHeld3
import Derived.Laws.Rows
import Derived.Lib.AppendStr
import Derived.ArgAppend
import Derived.Laws.IdiomCopy
import Derived.RowKit
import Derived.OrdersHeld
import Derived.Laws.BitsLemmas
import Derived.Laws.StructEq
import Derived.Laws.CopyOwn
import Derived.SizedLaws
import Derived.ChangeSlices
import Derived.Deep.Slices
import Derived.Lib.SmallJoins
import Derived.Lib.OthersKept
import Derived.Lib.AppendZerosOnto
import Derived.WalkSpells
import Derived.Shelf.Utf8.RuneCount
import Derived.Shelf.Strings.Search1
import Derived.Shelf.Strings.Search2
import Derived.Shelf.Strings.Search3
import Derived.Shelf.Strings.Cut
import Derived.Shelf.Strings.Count
import Derived.Shelf.LaysM
import Derived.Shelf.Strings.Shaped
import Derived.Shelf.Strings.Split
import Derived.Shelf.Strings.SplitShaped
import Derived.Shelf.Unicode.Decode
import Derived.Shelf.Strings.RuneCount
import Derived.Shelf.Strings.Explode
import Derived.Shelf.Unicode.DecodeSlow
import Derived.Shelf.Unicode.DecodeAny
import Derived.Laws.BitsAllLaws
import Derived.Test.YtfkdocmhbmameaaDoorCV1
import Derived.Test.YtfkdocmhbmameaaDoorCV2
import Derived.Test.YtfkdocmhbmameaaDoorCV3
import Derived.Test.YtfkdocmhbmameaaDoorCV4
import Derived.Test.YtfkdocmhbmameaaDoorCV6
import Derived.Test.YtfkdocmhbmameaaDoorCV7
import Derived.Test.YtfkdocmhbmameaaDoorCV10
import Derived.Test.YtfkdocmhbmameaaDoorCV12
import Derived.Test.YtfkdocmhbmameaaDoorCV13
import Derived.Test.YtfkdocmhbmameaaDoorCV14
import Derived.Test.YtfkdocmhbmameaaDoorCV15
import Derived.Test.YtfkdocmhbmameaaDoorCV17
import Derived.Test.YtfkdocmhbmameaaDoorCV21
namespace Go.Proofs.YtfkdocmhbmameaaDoor.Pure
open Go.RowKit Go.Proofs.YtfkdocmhbmameaaDoor.Mine Go.Proofs.YtfkdocmhbmameaaDoorW.PrintWords Go.Proofs.YtfkdocmhbmameaaDoorW.PrintLast Go.Proofs.YtfkdocmhbmameaaDoorW.PrintMore
set_option linter.unusedSimpArgs false
def cv (x : S103) : S88 := ⟨x.f0, x.f1⟩
def bk (x : S88) : S103 := ⟨x.f0, x.f1⟩
theorem cv_bk (x : S88) : cv (bk x) = x := rfl
theorem bk_cv (x : S103) : bk (cv x) = x := rfl
def es (x : S88) : Int := (x.f0.size : Int) + (x.f1.size : Int) + 32
def sm : List S88 → Int
  | [] => 0
  | x :: l => es x + sm l
theorem es_ge (x : S88) : 32 ≤ es x := by unfold es; omega
theorem sm_nonneg : ∀ l, 0 ≤ sm l
  | [] => Int.le_refl _
  | x :: l => by have := sm_nonneg l; have := es_ge x; unfold sm; omega
theorem sm_app : ∀ a b, sm (a ++ b) = sm a + sm b
  | [], b => by simp [sm]
  | x :: a, b => by rw [List.cons_append, sm, sm, sm_app a b]; omega
theorem sm_le : ∀ (l : List S88), (∀ x ∈ l, es x ≤ 10000) → sm l ≤ 10000 * (l.length : Int)
  | [], _ => Int.le_refl _
  | x :: l, h => by
    have := sm_le l (fun y hy => h y (List.mem_cons_of_mem _ hy))
    have := h x List.mem_cons_self
    rw [sm, List.length_cons]
    omega
def kp : Int → List S88 → List S88
  | _, [] => []
  | r, x :: l => if es x ≤ r then x :: kp (r - es x) l else []
theorem kp_snoc (x : S88) : ∀ (a : List S88) (r : Int), kp r (a ++ [x]) = if sm a + es x ≤ r then a ++ [x] else kp r a
  | [], r => by
    by_cases h : es x ≤ r
    · simp [kp, sm, h]
    · simp [kp, sm, h]
  | y :: a, r => by
    have h0 := sm_nonneg a
    have h1 := es_ge x
    rw [List.cons_append, kp, kp_snoc x a, sm, kp]
    by_cases h : es y ≤ r
    · rw [if_pos h, if_pos h]
      by_cases h2 : sm a + es x ≤ r - es y
      · rw [if_pos h2, if_pos (by omega)]
      · rw [if_neg h2, if_neg (by omega)]
    · rw [if_neg h, if_neg h, if_neg (by omega)]
theorem kp_le : ∀ (l : List S88) (r : Int), 0 ≤ r → sm (kp r l) ≤ r
  | [], r, h => h
  | x :: l, r, h => by
    rw [kp]
    split
    · rw [sm]
      have := kp_le l (r - es x) (by omega)
      omega
    · exact h
theorem kp_len : ∀ (l : List S88) (r : Int), (kp r l).length ≤ l.length
  | [], _ => Nat.le_refl _
  | x :: l, r => by
    rw [kp]
    split
    · have := kp_len l (r - es x)
      simp only [List.length_cons]; omega
    · exact Nat.zero_le _
theorem kp_mem : ∀ (l : List S88) (r : Int), ∀ x ∈ kp r l, x ∈ l
  | [], _ => fun x h => h
  | y :: l, r => fun x h => by
    rw [kp] at h
    split at h
    · rcases List.mem_cons.1 h with rfl | h
      · exact List.mem_cons_self
      · exact List.mem_cons_of_mem _ (kp_mem l _ x h)
    · cases h
theorem kp_neg : ∀ (l : List S88) {r : Int}, r < 32 → kp r l = []
  | [], _, _ => rfl
  | x :: l, r, h => by rw [kp, if_neg (by have := es_ge x; omega)]
abbrev M := Int × List S88
def Ok (n : Nat) (m : M) : Prop := (0 ≤ m.1 ∧ m.1 ≤ 9223372036854775807) ∧ m.2.length ≤ n ∧ (∀ x ∈ m.2, es x ≤ 10000) ∧ sm m.2 ≤ m.1
def mkT (m : M) : TB := ⟨m.1, sm m.2, (m.2.map bk).reverse, tbFixed⟩
theorem sz_eq {x : S103} (h : es (cv x) ≤ 10000) : tbSz x = es (cv x) := by
  unfold es cv at h
  unfold tbSz
  rw [w64 (x := (x.f0.size : Int) + (x.f1.size : Int)) (by omega) (by simp only at h; omega), w64 (by omega) (by simp only at h; omega)]
  rfl
theorem fit_eq : ∀ (r : List S103) (top : Int), (∀ x ∈ r, es (cv x) ≤ 10000) → r.length ≤ 100000 → tbFit top (sm (r.map cv).reverse) r = (sm (kp top (r.map cv).reverse), ((kp top (r.map cv).reverse).map bk).reverse)
  | [], top, _, _ => rfl
  | x :: r, top, h, hl => by
    have hx := h x List.mem_cons_self
    have hr : ∀ y ∈ r, es (cv y) ≤ 10000 := fun y hy => h y (List.mem_cons_of_mem _ hy)
    have ih := fit_eq r top hr (by simp only [List.length_cons] at hl; omega)
    rw [List.map_cons, List.reverse_cons, kp_snoc, sm_app]
    have hs : sm [cv x] = es (cv x) := by simp [sm]
    rw [hs, tbFit, sz_eq hx]
    have h0 := sm_nonneg (r.map cv).reverse
    have h1 : sm (r.map cv).reverse ≤ 10000 * ((r.map cv).reverse.length : Int) := sm_le _ (fun y hy => by
      rw [List.mem_reverse, List.mem_map] at hy
      obtain ⟨z, hz, rfl⟩ := hy
      exact hr z hz)
    rw [List.length_reverse, List.length_map] at h1
    have h2 := es_ge (cv x)
    simp only [List.length_cons] at hl
    by_cases hc : sm (r.map cv).reverse + es (cv x) > top
    · rw [if_pos hc, if_neg (by omega), w64 (by omega) (by omega), show sm (r.map cv).reverse + es (cv x) - es (cv x) = sm (r.map cv).reverse by omega]
      exact ih
    · rw [if_neg hc, if_pos (by omega), sm_app, hs]
      simp [List.map_reverse, List.map_map, Function.comp_def, bk_cv]
theorem map_cv_bk (l : List S88) : ((l.map bk).reverse.map cv).reverse = l := by
  simp [List.map_reverse, List.map_map, Function.comp_def, cv_bk]
theorem fitM {l : List S88} (h : ∀ x ∈ l, es x ≤ 10000) (hl : l.length ≤ 100000) (top : Int) : tbFit top (sm l) (l.map bk).reverse = (sm (kp top l), ((kp top l).map bk).reverse) := by
  have := fit_eq (l.map bk).reverse top (fun x hx => by
    rw [List.mem_reverse, List.mem_map] at hx
    obtain ⟨y, hy, rfl⟩ := hx
    exact h y hy) (by simpa using hl)
  rwa [map_cv_bk] at this
theorem ok_kp {n : Nat} {m : M} {r : Int} (h : Ok n m) (h0 : 0 ≤ r) (h1 : r ≤ 9223372036854775807) : Ok n (r, kp r m.2) :=
  ⟨⟨h0, h1⟩, Nat.le_trans (kp_len _ _) h.2.1, fun x hx => h.2.2.1 x (kp_mem _ _ x hx), kp_le _ _ h0⟩
theorem mx_nonneg (n : Int) : 0 ≤ mx n 0 := by unfold mx; split <;> omega
theorem ok_new (n : Int) (h : n ≤ 9223372036854775807) (k : Nat) : Ok k (mx n 0, []) := ⟨⟨mx_nonneg n, by unfold mx; simp only; split <;> omega⟩, Nat.zero_le _, (fun x hx => by cases hx), mx_nonneg n⟩
theorem most_f (m : M) : table_Table_Most.f (mkT m) = some m.1 := rfl
theorem size_f (m : M) : table_Table_Size.f (mkT m) = some (sm m.2) := rfl
theorem len_f (m : M) : table_Table_Len.f (mkT m) = some (m.2.length : Int) := by unfold table_Table_Len.f mkT; simp
def rsz (m : M) (n : Int) : M := (mx n 0, kp (mx n 0) m.2)
def add (m : M) (a b : ByteArray) : M := (m.1, kp m.1 (⟨a, b⟩ :: m.2))
theorem resize_f {n : Nat} {m : M} (h : Ok n m) (hn : n ≤ 100000) {x : Int} (hx : x ≤ 9223372036854775807) : table_Table_Resize.f (mkT m) x = some (mkT (rsz m x)) := by
  unfold table_Table_Resize.f mkT rsz
  have h0 := mx_nonneg x
  have h1 : mx x 0 ≤ 9223372036854775807 := by unfold mx; split <;> omega
  have h2 := h.2.1
  simp only [List.length_reverse, List.length_map]
  rw [if_pos (by omega), w64 (by omega) (by omega), Int.sub_zero, fitM h.2.2.1 (by omega)]
theorem ok_rsz {n : Nat} {m : M} (h : Ok n m) {x : Int} (hx : x ≤ 9223372036854775807) : Ok n (rsz m x) := ok_kp h (mx_nonneg x) (by unfold mx; split <;> omega)
theorem add_F (fx : List S103) {n : Nat} {m : M} (h : Ok n m) (hn : n ≤ 99999) {a b : ByteArray} (he : es ⟨a, b⟩ ≤ 10000) : table_Table_Add.f ⟨m.1, sm m.2, (m.2.map bk).reverse, fx⟩ a b = some ⟨(add m a b).1, sm (add m a b).2, ((add m a b).2.map bk).reverse, fx⟩ := by
  have h2 := h.2.1
  have h3 := h.1
  have hz : tbSz ⟨a, b⟩ = es ⟨a, b⟩ := sz_eq (x := ⟨a, b⟩) he
  have hg := es_ge ⟨a, b⟩
  have hf : tbFit (wrap64 (m.1 - es ⟨a, b⟩)) (sm m.2) (m.2.map bk).reverse = (sm (kp (m.1 - es ⟨a, b⟩) m.2), ((kp (m.1 - es ⟨a, b⟩) m.2).map bk).reverse) := by rw [w64 (by omega) (by omega), fitM h.2.2.1 (by omega)]
  unfold table_Table_Add.f tbAdd add
  dsimp only
  rw [if_pos (by simp only [List.length_reverse, List.length_map]; omega), hz, hf]
  by_cases hc : es ⟨a, b⟩ ≤ m.1
  · have h4 := kp_le m.2 (m.1 - es ⟨a, b⟩) (by omega)
    have h5 := sm_nonneg (kp (m.1 - es ⟨a, b⟩) m.2)
    have h6 := w64 (x := sm (kp (m.1 - es ⟨a, b⟩) m.2) + es ⟨a, b⟩) (by omega) (by omega)
    rw [if_pos hc, h6]
    simp only [kp, if_pos hc, sm, List.map_cons, List.reverse_cons]
    rw [Int.add_comm]
    rfl
  · rw [if_neg hc]
    simp only [kp, if_neg hc, kp_neg m.2 (show m.1 - es ⟨a, b⟩ < 32 by omega)]
theorem add_f {n : Nat} {m : M} (h : Ok n m) (hn : n ≤ 99999) {a b : ByteArray} (he : es ⟨a, b⟩ ≤ 10000) : table_Table_Add.f (mkT m) a b = some (mkT (add m a b)) := add_F tbFixed h hn he
theorem ok_add {n : Nat} {m : M} (h : Ok n m) {a b : ByteArray} (he : es ⟨a, b⟩ ≤ 10000) : Ok (n + 1) (add m a b) := by
  refine ⟨h.1, ?_, ?_, kp_le _ _ h.1.1⟩
  · have := kp_len (⟨a, b⟩ :: m.2) m.1
    have := h.2.1
    have h9 : ((⟨a, b⟩ : S88) :: m.2).length = m.2.length + 1 := rfl
    show (kp m.1 (⟨a, b⟩ :: m.2)).length ≤ n + 1
    omega
  · intro x hx
    rcases List.mem_cons.1 (kp_mem _ _ x hx) with rfl | hx
    · exact he
    · exact h.2.2.1 x hx
theorem copy_f {n : Nat} {m : M} (h : Ok n m) (hn : n ≤ 100000) : table_Table_Copy.f (mkT m) = some (mkT m) := by
  have := h.2.1
  unfold table_Table_Copy.f
  rw [if_pos (by show ((m.2.map bk).reverse).length < _; simp only [List.length_reverse, List.length_map]; omega)]
end Go.Proofs.YtfkdocmhbmameaaDoor.Pure
namespace Go.Proofs.YtfkdocmhbmameaaDoor.Pure
open Go.RowKit Go.Proofs.YtfkdocmhbmameaaDoor.Mine Go.Proofs.YtfkdocmhbmameaaDoorW.PrintWords Go.Proofs.YtfkdocmhbmameaaDoorW.PrintLast Go.Proofs.YtfkdocmhbmameaaDoorW.PrintMore
set_option linter.unusedSimpArgs false
set_option linter.unusedVariables false
def bs (l : List UInt8) : ByteArray := ⟨l.toArray⟩
theorem bs_size (l : List UInt8) : (bs l).size = l.length := by show l.toArray.size = l.length; simp
theorem bs_app (a b : List UInt8) : bs a ++ bs b = bs (a ++ b) := by
  apply ByteArray.ext
  rw [ByteArray.data_append]
  simp [bs]
def refP : List UInt8 → List (List UInt8 × List UInt8) → Bool → List UInt8 → List UInt8 → List (List UInt8 × List UInt8)
  | [], out, _, a, b => out ++ [(a, b)]
  | c :: r, out, v, a, b => if c = 10 then refP r (out ++ [(a, b)]) false [] [] else if c = 61 ∧ v = false then refP r out true a b else if v = true then refP r out v a (b ++ [c]) else refP r out v (a ++ [c]) b
def en (p : List UInt8 × List UInt8) : S88 := ⟨bs p.1, bs p.2⟩
theorem bt_at {s : ByteArray} {i : Nat} {c : UInt8} {r : List UInt8} (h : s.data.toList.drop i = c :: r) : bt s (i : Int) = (c.toNat : Int) := by
  have hl : i < s.data.toList.length := by
    rcases Nat.lt_or_ge i s.data.toList.length with h1 | h1
    · exact h1
    · rw [List.drop_of_length_le h1] at h; cases h
  rw [List.drop_eq_getElem_cons hl] at h
  injection h with h1 h2
  rw [bt_eq, rd_nat (by unfold bytesOf; rw [List.length_map]; exact hl)]
  unfold bytesOf
  rw [List.getElem_map, h1]
theorem ex_at {s : ByteArray} {i : Nat} {c : UInt8} {r : List UInt8} (h : s.data.toList.drop i = c :: r) : s.extract i (i + 1) = bs [c] := by
  apply ByteArray.ext
  apply Array.toList_inj.1
  rw [data_extract, h, show i + 1 - i = 1 by omega]
  rfl
theorem drop_succ {α : Type} {l : List α} {i : Nat} {c : α} {r : List α} (h : l.drop i = c :: r) : l.drop (i + 1) = r := by
  rw [← List.drop_drop, h]; rfl
theorem fx_loop (tx : ByteArray) (hz : tx.size = 758) : ∀ (rest : List UInt8) (i : Nat) (out : List (List UInt8 × List UInt8)) (v : Bool) (a b : List UInt8), tx.data.toList.drop i = rest → i ≤ 758 → out.length + rest.length ≤ 10000 → a.length + rest.length ≤ 10000 → b.length + rest.length ≤ 10000 →
    Ev (fun k => nuncioref11_Fixed.l0 tx k (out.map en) v (i : Int) (bs a) (bs b)) ((refP rest out v a b).map en)
  | [], i, out, v, a, b, h, hi, ho, ha, hb => by
    have hl : i = 758 := by
      have h1 := congrArg List.length h
      rw [List.length_drop] at h1
      have h2 : tx.data.toList.length = 758 := by rw [Array.length_toList]; exact hz
      simp only [List.length_nil] at h1
      omega
    subst hl
    refine Ev.step (fun k => by rw [nuncioref11_Fixed.l0]) ?_
    refine ev_pos (by omega) (ev_pos rfl ?_)
    refine Ev.step (fun k => by rw [nuncioref11_Fixed.j1]) ?_
    refine ev_pos rfl (ev_pos (by rw [List.length_map]; omega) ?_)
    refine Ev.step (fun k => by rw [nuncioref11_Fixed.l0]) ?_
    refine ev_neg ?_ (ev_val ?_)
    · rw [w64 (by omega) (by omega)]; omega
    · simp [refP, en]
  | c :: r, i, out, v, a, b, h, hi, ho, ha, hb => by
    have hl : i < 758 := by
      have h1 := congrArg List.length h
      rw [List.length_drop] at h1
      have h2 : tx.data.toList.length = 758 := by rw [Array.length_toList]; exact hz
      simp only [List.length_cons] at h1
      omega
    have hd := drop_succ h
    have hbt := bt_at h
    have hex := ex_at h
    have hw : wrap64 ((i : Int) + 1) = ((i + 1 : Nat) : Int) := by rw [w64 (by omega) (by omega)]; omega
    simp only [List.length_cons] at ho ha hb
    refine Ev.step (fun k => by rw [nuncioref11_Fixed.l0]) ?_
    refine ev_pos (by omega) (ev_neg (by omega) (ev_pos (by omega) (ev_pos (by omega) ?_)))
    refine Ev.step (fun k => by rw [nuncioref11_Fixed.j1]) ?_
    rw [hbt, hw]
    by_cases h10 : c = 10
    · subst h10
      refine ev_pos rfl (ev_pos (by rw [List.length_map]; omega) ?_)
      rw [refP, if_pos rfl]
      have := fx_loop tx hz r (i + 1) (out ++ [(a, b)]) false [] [] hd (by omega) (by rw [List.length_append, List.length_singleton]; omega) (by simp only [List.length_nil]; omega) (by simp only [List.length_nil]; omega)
      rwa [List.map_append] at this
    · have hne : ¬ ((((c.toNat : Nat) : Int) == 10) = true) := fun e => h10 (UInt8.toNat_inj.1 (by have := beq_iff_eq.1 e; show c.toNat = 10; omega))
      refine ev_neg hne (ev_pos (by omega) (ev_pos (by omega) ?_))
      rw [refP, if_neg h10]
      by_cases h61 : c = 61
      · subst h61
        refine ev_pos rfl ?_
        refine Ev.step (fun k => by rw [nuncioref11_Fixed.j2]) ?_
        cases v with
        | false =>
          rw [if_pos ⟨rfl, rfl⟩]
          refine ev_pos rfl ?_
          rw [hw]
          exact fx_loop tx hz r (i + 1) out true a b hd (by omega) (by omega) (by omega) (by omega)
        | true =>
          rw [if_neg (by simp), if_pos rfl]
          refine ev_neg (by simp) (ev_pos rfl ?_)
          rw [hw, Int.toNat_natCast, Int.toNat_natCast, hex]
          refine ev_pos (by omega) (ev_pos (by omega) (ev_pos (by omega) (ev_pos (by rw [bs_size, bs_size]; simp only [List.length_singleton]; omega) ?_)))
          rw [bs_app]
          exact fx_loop tx hz r (i + 1) out true a (b ++ [61]) hd (by omega) (by omega) (by omega) (by rw [List.length_append, List.length_singleton]; omega)
      · have hne2 : ¬ (((c.toNat : Nat) : Int) = 61) := fun e => h61 (UInt8.toNat_inj.1 (by show c.toNat = 61; omega))
        refine ev_neg hne2 ?_
        refine Ev.step (fun k => by rw [nuncioref11_Fixed.j2]) ?_
        refine ev_neg (by simp) ?_
        rw [if_neg (by simp [h61]), hw, Int.toNat_natCast, Int.toNat_natCast, hex]
        cases v with
        | true =>
          rw [if_pos rfl]
          refine ev_pos rfl (ev_pos (by omega) (ev_pos (by omega) (ev_pos (by omega) (ev_pos (by rw [bs_size, bs_size]; simp only [List.length_singleton]; omega) ?_))))
          rw [bs_app]
          exact fx_loop tx hz r (i + 1) out true a (b ++ [c]) hd (by omega) (by omega) (by omega) (by rw [List.length_append, List.length_singleton]; omega)
        | false =>
          rw [if_neg (by simp)]
          refine ev_neg (by simp) (ev_pos (by omega) (ev_pos (by omega) (ev_pos (by omega) (ev_pos (by rw [bs_size, bs_size]; simp only [List.length_singleton]; omega) ?_))))
          rw [bs_app]
          exact fx_loop tx hz r (i + 1) out false (a ++ [c]) b hd (by omega) (by omega) (by rw [List.length_append, List.length_singleton]; omega) (by omega)
def fxs : List (List UInt8 × List UInt8) := (tbParts 10 tbText.data.toList).map (fun l => ((Lib.cut l [61]).1, (Lib.cut l [61]).2.1))
set_option maxRecDepth 100000 in
theorem ref_size : tbRefText.size = 758 := by decide +kernel
set_option maxRecDepth 100000 in
theorem ref_same : refP tbRefText.data.toList [] false [] [] = fxs := by decide +kernel
def F38 : List S88 := fxs.map en
theorem fixed_ev : Ev (fun k => nuncioref11_Fixed.f k) F38 := by
  have hl : tbRefText.data.toList.length = 758 := by rw [Array.length_toList]; exact ref_size
  have := fx_loop tbRefText ref_size tbRefText.data.toList 0 [] false [] [] rfl (by omega) (by simp only [List.length_nil]; omega) (by simp only [List.length_nil]; omega) (by simp only [List.length_nil]; omega)
  rw [ref_same] at this
  exact this
theorem fixed_cv : tbFixed.map cv = F38 := by
  unfold tbFixed F38 fxs
  rw [← tbPieces_eq]
  simp only [List.map_map]
  rfl
set_option maxRecDepth 100000 in
theorem fxs_len : fxs.length = 61 := by decide +kernel
theorem F38_len : F38.length = 61 := by unfold F38; rw [List.length_map, fxs_len]
theorem tbFixed_len : tbFixed.length = 61 := by have := congrArg List.length fixed_cv; rwa [List.length_map, F38_len] at this
theorem all_ev {m : M} (h : m.2.length ≤ 100000) : Ev (fun k => nuncioref11_All.f k m.1 m.2) (F38 ++ m.2) := by
  unfold nuncioref11_All.f
  exact Ev.bind fixed_ev (ev_pos (by rw [F38_len]; omega) (Ev.now _))
end Go.Proofs.YtfkdocmhbmameaaDoor.Pure
namespace Go.Proofs.YtfkdocmhbmameaaDoor.Pure
open Go.RowKit Go.Proofs.YtfkdocmhbmameaaDoor.Mine Go.Proofs.YtfkdocmhbmameaaDoorW.PrintWords Go.Proofs.YtfkdocmhbmameaaDoorW.PrintLast Go.Proofs.YtfkdocmhbmameaaDoorW.PrintMore
set_option linter.unusedSimpArgs false
set_option linter.unusedVariables false
theorem rd_at {l : List S88} {i : Nat} {x : S88} {r : List S88} (h : l.drop i = x :: r) : rd_T88 l (i : Int) = x := by
  have hl : i < l.length := by
    rcases Nat.lt_or_ge i l.length with h1 | h1
    · exact h1
    · rw [List.drop_of_length_le h1] at h; cases h
  rw [List.drop_eq_getElem_cons hl] at h
  injection h with h1 h2
  unfold rd_T88
  rw [Int.toNat_natCast, List.getD_eq_getElem?_getD, List.getElem?_eq_getElem hl, h1]
  rfl
theorem len_at {l : List S88} {i : Nat} {x : S88} {r : List S88} (h : l.drop i = x :: r) : i < l.length := by
  rcases Nat.lt_or_ge i l.length with h1 | h1
  · exact h1
  · rw [List.drop_of_length_le h1] at h; cases h
theorem len_end {l : List S88} {i : Nat} (h : l.drop i = []) : l.length ≤ i := by
  have := congrArg List.length h
  rw [List.length_drop] at this
  simp only [List.length_nil] at this
  omega
theorem rsize_loop (a : Int) (l : List S88) : ∀ (r : List S88) (i : Nat) (s : Int), l.drop i = r → l.length ≤ 1000000 → 0 ≤ s → s + sm r ≤ 1000000000000 → Ev (fun k => nuncioref11_Size.l0 k s (i : Int) a l) (s + sm r)
  | [], i, s, h, hl, h0, hs => by
    have := len_end h
    refine Ev.step (fun k => by rw [nuncioref11_Size.l0]) ?_
    refine ev_neg (by omega) (ev_val (by simp [sm]))
  | x :: r, i, s, h, hl, h0, hs => by
    have h1 := len_at h
    have h2 := sm_nonneg r
    have h3 := es_ge x
    have h4 : es x = (x.f0.size : Int) + x.f1.size + 32 := rfl
    rw [sm] at hs
    refine Ev.step (fun k => by rw [nuncioref11_Size.l0]) ?_
    refine ev_pos (by omega) (ev_pos (by omega) ?_)
    rw [rd_at h, w64 (x := s + (x.f0.size : Int)) (by omega) (by omega), w64 (x := s + (x.f0.size : Int) + (x.f1.size : Int)) (by omega) (by omega), w64 (x := s + (x.f0.size : Int) + (x.f1.size : Int) + 32) (by omega) (by omega), w64 (x := (i : Int) + 1) (by omega) (by omega)]
    have := rsize_loop a l r (i + 1) (s + es x) (drop_succ h) hl (by omega) (by omega)
    rw [show s + (x.f0.size : Int) + (x.f1.size : Int) + 32 = s + es x by omega, show (i : Int) + 1 = ((i + 1 : Nat) : Int) by omega, sm, ← Int.add_assoc]
    exact this
theorem rsize_ev {n : Nat} {m : M} (h : Ok n m) (hn : n ≤ 100000) : Ev (fun k => nuncioref11_Size.f k m.1 m.2) (sm m.2) := by
  have h1 := sm_le m.2 h.2.2.1
  have h2 := h.2.1
  have := rsize_loop m.1 m.2 m.2 0 0 rfl (by omega) (by omega) (by omega)
  rw [Int.zero_add] at this
  exact this
theorem least_loop (l : List S88) (t : Int) : ∀ (r out : List S88) (i : Nat) (s : Int), l.drop i = r → l.length ≤ 1000000 → out.length + r.length ≤ 1000000 → 0 ≤ s → s + sm r ≤ 1000000000000 → Ev (fun k => nuncioref11_least.l0 k l t out s (i : Int)) (out ++ kp (t - s) r)
  | [], out, i, s, h, hl, ho, h0, hs => by
    have := len_end h
    refine Ev.step (fun k => by rw [nuncioref11_least.l0]) ?_
    refine ev_neg (by omega) (ev_val (by simp [kp]))
  | x :: r, out, i, s, h, hl, ho, h0, hs => by
    have h1 := len_at h
    have h2 := sm_nonneg r
    have h3 := es_ge x
    have h4 : es x = (x.f0.size : Int) + x.f1.size + 32 := rfl
    rw [sm] at hs
    simp only [List.length_cons] at ho
    refine Ev.step (fun k => by rw [nuncioref11_least.l0]) ?_
    refine ev_pos (by omega) (ev_pos (by omega) ?_)
    rw [rd_at h, w64 (x := s + (x.f0.size : Int)) (by omega) (by omega), w64 (x := s + (x.f0.size : Int) + (x.f1.size : Int)) (by omega) (by omega), w64 (x := s + (x.f0.size : Int) + (x.f1.size : Int) + 32) (by omega) (by omega), w64 (x := (i : Int) + 1) (by omega) (by omega)]
    rw [show s + (x.f0.size : Int) + (x.f1.size : Int) + 32 = s + es x by omega, show (i : Int) + 1 = ((i + 1 : Nat) : Int) by omega, kp]
    by_cases hc : es x ≤ t - s
    · refine ev_neg (by omega) (ev_pos (by omega) ?_)
      rw [if_pos hc, show out ++ x :: kp (t - s - es x) r = (out ++ [x]) ++ kp (t - (s + es x)) r by rw [List.append_assoc, show t - (s + es x) = t - s - es x by omega]; rfl]
      exact least_loop l t r (out ++ [x]) (i + 1) (s + es x) (drop_succ h) hl (by rw [List.length_append, List.length_singleton]; omega) (by omega) (by omega)
    · rw [if_neg hc]
      exact ev_pos (by omega) (ev_val (by simp))
theorem least_ev {l : List S88} (t : Int) (h : ∀ x ∈ l, es x ≤ 10000) (hl : l.length ≤ 100000) : Ev (fun k => nuncioref11_least.f k l t) (kp t l) := by
  have h1 := sm_le l h
  have := least_loop l t l [] 0 0 rfl (by omega) (by simp only [List.length_nil]; omega) (by omega) (by omega)
  rw [Int.sub_zero, List.nil_append] at this
  exact this
theorem rnew_f (n : Int) : nuncioref11_New.f n = some (mx n 0, []) := by
  unfold nuncioref11_New.f mx
  by_cases h : n < 0
  · simp only [if_pos h]
  · simp only [if_neg h]
theorem rresize_ev {n : Nat} {m : M} (h : Ok n m) (hn : n ≤ 100000) (x : Int) : Ev (fun k => nuncioref11_Resize.f k m.1 m.2 x) (rsz m x) := by
  have h2 := h.2.1
  unfold nuncioref11_Resize.f rsz mx
  by_cases hx : x < 0
  · rw [if_pos hx]
    exact ev_pos hx (Ev.bind (least_ev 0 h.2.2.1 (by omega)) (Ev.now _))
  · rw [if_neg hx]
    exact ev_neg hx (Ev.bind (least_ev x h.2.2.1 (by omega)) (Ev.now _))
theorem radd_ev {n : Nat} {m : M} (h : Ok n m) (hn : n ≤ 99999) {a b : ByteArray} (he : es ⟨a, b⟩ ≤ 10000) : Ev (fun k => nuncioref11_Add.f k m.1 m.2 a b) (add m a b) := by
  have h2 := h.2.1
  unfold nuncioref11_Add.f add
  refine ev_some (ev_pos (by simp only [List.length_singleton]; omega) ?_)
  refine Ev.bind (a := kp m.1 (⟨a, b⟩ :: m.2)) (least_ev m.1 (fun x hx => ?_) ?_) (Ev.now _)
  · rcases List.mem_cons.1 hx with rfl | hx
    · exact he
    · exact h.2.2.1 x hx
  · show (List.length m.2) + 1 ≤ 100000; omega
def atF (F : List S88) (m : M) (n : Int) : ByteArray × ByteArray × Bool := if 1 ≤ n ∧ n ≤ 61 + (m.2.length : Int) then (((F ++ m.2).getD (n - 1).toNat z88).f0, ((F ++ m.2).getD (n - 1).toNat z88).f1, true) else ((⟨#[]⟩ : ByteArray), (⟨#[]⟩ : ByteArray), false)
def atM (m : M) (n : Int) : ByteArray × ByteArray × Bool := atF F38 m n
theorem tbAt_F {fx : List S103} (hf : fx.length = 61) (m : M) (n : Int) : tbAt fx (m.2.map bk).reverse n = atF (fx.map cv) m n := by
  unfold tbAt atF
  simp only [List.length_reverse, List.length_map, hf]
  by_cases h1 : n < 1
  · rw [if_pos h1, if_neg (by omega)]
  rw [if_neg h1]
  by_cases h2 : n > ((61 : Nat) : Int) + (m.2.length : Int)
  · rw [if_pos h2, if_neg (by omega)]
  rw [if_neg h2, if_pos (show 1 ≤ n ∧ n ≤ 61 + (m.2.length : Int) by omega)]
  by_cases h3 : n ≤ ((61 : Nat) : Int)
  · rw [if_pos h3]
    have hj : (n - 1).toNat < fx.length := by rw [hf]; omega
    have hj2 : (n - 1).toNat < (fx.map cv).length := by rw [List.length_map]; exact hj
    have e1 : rd_T103 fx (n - 1) = fx[(n - 1).toNat] := by unfold rd_T103; rw [List.getD_eq_getElem?_getD, List.getElem?_eq_getElem hj]; rfl
    have e2 : (fx.map cv ++ m.2).getD (n - 1).toNat z88 = cv (fx[(n - 1).toNat]) := by
      rw [List.getD_eq_getElem?_getD, List.getElem?_append_left hj2, List.getElem?_map, List.getElem?_eq_getElem hj]
      rfl
    rw [e1, e2]
    rfl
  · rw [if_neg h3]
    have hp : ((m.2.length : Int) - (n - ((61 : Nat) : Int))).toNat < (m.2.map bk).reverse.length := by simp only [List.length_reverse, List.length_map]; omega
    have hq : (n - 1).toNat - 61 < m.2.length := by omega
    have e1 : rd_T103 (m.2.map bk).reverse ((m.2.length : Int) - (n - ((61 : Nat) : Int))) = bk (m.2[(n - 1).toNat - 61]) := by
      unfold rd_T103
      rw [List.getD_eq_getElem?_getD, List.getElem?_eq_getElem hp, List.getElem_reverse, List.getElem_map]
      simp only [Option.getD_some, List.length_map]
      congr 1
      apply getElem_congr rfl
      omega
    have e2 : (fx.map cv ++ m.2).getD (n - 1).toNat z88 = m.2[(n - 1).toNat - 61] := by
      rw [List.getD_eq_getElem?_getD, List.getElem?_append_right (by rw [List.length_map, hf]; omega), List.length_map, hf, List.getElem?_eq_getElem hq]
      rfl
    rw [e1, e2]
    rfl
theorem at_F {fx : List S103} (hf : fx.length = 61) {k : Nat} {m : M} (h : Ok k m) (hk : k ≤ 100000) {n : Int} (hn : n ≤ 9223372036854775807) : table_Table_At.f ⟨m.1, sm m.2, (m.2.map bk).reverse, fx⟩ n = some ((atF (fx.map cv) m n).1, (atF (fx.map cv) m n).2.1, (atF (fx.map cv) m n).2.2) := by
  have h2 := h.2.1
  unfold table_Table_At.f
  dsimp only
  rw [if_pos ⟨hn, by simp only [List.length_reverse, List.length_map]; omega, by rw [hf]; omega⟩, tbAt_F hf]
theorem at_f {k : Nat} {m : M} (h : Ok k m) (hk : k ≤ 100000) {n : Int} (hn : n ≤ 9223372036854775807) : table_Table_At.f (mkT m) n = some ((atM m n).1, (atM m n).2.1, (atM m n).2.2) := by
  have e := at_F tbFixed_len h hk hn
  rw [fixed_cv] at e
  exact e
theorem all_len (m : M) : ((F38 ++ m.2).length : Int) = 61 + (m.2.length : Int) := by rw [List.length_append, F38_len]; omega
def exI (nm vl : ByteArray) : List S88 → Int → Option Int
  | [], _ => none
  | x :: l, i => if x.f0 = nm ∧ x.f1 = vl then some i else exI nm vl l (i + 1)
def nmI (nm : ByteArray) : List S88 → Int → Int
  | [], _ => 0
  | x :: l, i => if x.f0 = nm then i else nmI nm l (i + 1)
def fdF (F : List S88) (m : M) (nm vl : ByteArray) : Int × Bool := match exI nm vl (F ++ m.2) 1 with
  | some j => (j, true)
  | none => (nmI nm (F ++ m.2) 1, false)
def fdM (m : M) (nm vl : ByteArray) : Int × Bool := fdF F38 m nm vl
theorem find_loop {fx : List S103} (hf : fx.length = 61) (m : M) (nm vl : ByteArray) : ∀ (r : List S88) (k i : Nat) (n : Int), (fx.map cv ++ m.2).drop i = r → k = r.length → tbFind fx (m.2.map bk).reverse nm vl k ((i : Int) + 1) n = match exI nm vl r ((i : Int) + 1) with
    | some j => (j, true)
    | none => (if n = 0 then nmI nm r ((i : Int) + 1) else n, false)
  | [], k, i, n, h, hk => by
    subst hk
    show (n, false) = _
    simp only [exI, nmI]
    by_cases hn : n = 0
    · rw [if_pos hn, hn]
    · rw [if_neg hn]
  | x :: r, k, i, n, h, hk => by
    subst hk
    have h1 := len_at h
    have h2 := rd_at h
    have hl : ((fx.map cv ++ m.2).length : Int) = 61 + (m.2.length : Int) := by rw [List.length_append, List.length_map, hf]; omega
    have ha : atF (fx.map cv) m ((i : Int) + 1) = (x.f0, x.f1, true) := by
      unfold atF
      rw [if_pos ⟨by omega, by omega⟩]
      have e : (fx.map cv ++ m.2).getD ((i : Int) + 1 - 1).toNat z88 = x := by rw [show (i : Int) + 1 - 1 = (i : Int) by omega]; exact h2
      rw [e]
    show tbFind _ _ _ _ (r.length + 1) _ _ = _
    rw [tbFind, tbAt_F hf, ha, exI, nmI]
    have e1 : (x.f0.toList = nm.toList) = (x.f0 = nm) := propext toList_inj
    have e2 : (x.f1.toList = vl.toList) = (x.f1 = vl) := propext toList_inj
    simp only [e1, e2]
    have ih := fun n => find_loop hf m nm vl r r.length (i + 1) n (drop_succ h) rfl
    rw [show (((i + 1 : Nat) : Int) + 1) = (i : Int) + 1 + 1 by omega] at ih
    by_cases h3 : x.f0 = nm
    · rw [if_pos h3, if_pos h3]
      by_cases h4 : x.f1 = vl
      · rw [if_pos h4, if_pos ⟨h3, h4⟩]
      · have e3 : ¬ (x.f0 = nm ∧ x.f1 = vl) := fun h => h4 h.2
        rw [if_neg h4, if_neg e3]
        by_cases h5 : n = 0
        · rw [if_pos h5, ih]
          cases exI nm vl r ((i : Int) + 1 + 1) with
          | some j => rfl
          | none => simp only [if_pos h5, if_neg (show ¬ ((i : Int) + 1 = 0) by omega)]
        · rw [if_neg h5, ih]
          cases exI nm vl r ((i : Int) + 1 + 1) with
          | some j => rfl
          | none => simp only [if_neg h5]
    · have e3 : ¬ (x.f0 = nm ∧ x.f1 = vl) := fun h => h3 h.1
      rw [if_neg h3, if_neg e3, if_neg h3, ih]
theorem rname_loop (nm : ByteArray) (l : List S88) (hl : l.length ≤ 1000000) : ∀ (r : List S88) (i : Nat), l.drop i = r → Ev (fun k => nuncioref11_Find.l1 k nm l (i : Int)) (nmI nm r ((i : Int) + 1), false)
  | [], i, h => by
    have := len_end h
    refine Ev.step (fun k => by rw [nuncioref11_Find.l1]) ?_
    exact ev_neg (by omega) (Ev.now _)
  | x :: r, i, h => by
    have h1 := len_at h
    refine Ev.step (fun k => by rw [nuncioref11_Find.l1]) ?_
    refine ev_pos (by omega) (ev_pos (by omega) ?_)
    rw [rd_at h, w64 (by omega) (by omega), nmI]
    by_cases h3 : x.f0 = nm
    · rw [if_pos h3]
      exact ev_pos (toList_inj.2 h3) (Ev.now _)
    · rw [if_neg h3]
      refine ev_neg (fun e => h3 (toList_inj.1 e)) ?_
      have := rname_loop nm l hl r (i + 1) (drop_succ h)
      rwa [show ((i + 1 : Nat) : Int) = (i : Int) + 1 by omega] at this
theorem rfind_loop (nm vl : ByteArray) (l : List S88) (hl : l.length ≤ 1000000) : ∀ (r : List S88) (i : Nat), l.drop i = r → Ev (fun k => nuncioref11_Find.l0 k nm vl l (i : Int)) (match exI nm vl r ((i : Int) + 1) with
    | some j => (j, true)
    | none => (nmI nm l 1, false))
  | [], i, h => by
    have := len_end h
    refine Ev.step (fun k => by rw [nuncioref11_Find.l0]) ?_
    exact ev_neg (by omega) (rname_loop nm l hl l 0 rfl)
  | x :: r, i, h => by
    have h1 := len_at h
    have ih := rfind_loop nm vl l hl r (i + 1) (drop_succ h)
    rw [show ((i + 1 : Nat) : Int) = (i : Int) + 1 by omega] at ih
    refine Ev.step (fun k => by rw [nuncioref11_Find.l0]) ?_
    refine ev_pos (by omega) (ev_pos (by omega) ?_)
    rw [rd_at h, w64 (by omega) (by omega), exI]
    by_cases h3 : x.f0 = nm
    · refine ev_pos (toList_inj.2 h3) ?_
      by_cases h4 : x.f1 = vl
      · rw [if_pos ⟨h3, h4⟩]
        exact ev_pos (toList_inj.2 h4) (Ev.now _)
      · rw [if_neg (fun h => h4 h.2)]
        exact ev_neg (fun e => h4 (toList_inj.1 e)) ih
    · rw [if_neg (fun h => h3 h.1)]
      exact ev_neg (fun e => h3 (toList_inj.1 e)) ih
theorem rfind_ev {k : Nat} {m : M} (h : Ok k m) (hk : k ≤ 100000) (nm vl : ByteArray) : Ev (fun k => nuncioref11_Find.f k m.1 m.2 nm vl) (fdM m nm vl) := by
  have h2 := h.2.1
  have hl := all_len m
  unfold nuncioref11_Find.f
  refine Ev.bind (all_ev (by omega)) ?_
  have := rfind_loop nm vl (F38 ++ m.2) (by omega) (F38 ++ m.2) 0 rfl
  exact this
end Go.Proofs.YtfkdocmhbmameaaDoor.Pure
namespace Go.Proofs.YtfkdocmhbmameaaDoor.Pure
open Go.RowKit Go.Proofs.YtfkdocmhbmameaaDoorW.PrintWords Go.Proofs.YtfkdocmhbmameaaDoorW.PrintLast Go.Proofs.YtfkdocmhbmameaaDoorW.PrintMore
def nb (bits : Int) : Nat := (min (max bits 1) 8).toNat
theorem nb_range (bits : Int) : 1 ≤ nb bits ∧ nb bits ≤ 8 := by unfold nb; omega
def ful (bits : Int) : Int := 2 ^ nb bits - 1
theorem ful_cases (bits : Int) : ful bits = 1 ∨ ful bits = 3 ∨ ful bits = 7 ∨ ful bits = 15 ∨ ful bits = 31 ∨ ful bits = 63 ∨ ful bits = 127 ∨ ful bits = 255 := by
  have h := nb_range bits
  unfold ful
  generalize nb bits = b at h ⊢
  have : b = 1 ∨ b = 2 ∨ b = 3 ∨ b = 4 ∨ b = 5 ∨ b = 6 ∨ b = 7 ∨ b = 8 := by omega
  rcases this with rfl | rfl | rfl | rfl | rfl | rfl | rfl | rfl <;> simp
theorem ful_range (bits : Int) : 1 ≤ ful bits ∧ ful bits ≤ 255 := by have := ful_cases bits; omega
theorem or128N : ∀ b : Fin 256, b.val ||| 128 = b.val % 128 + 128 := by decide +kernel
theorem or128 {b : Int} (h0 : 0 ≤ b) (h1 : b < 256) : Go.bits .or .u8 b 128 = b % 128 + 128 := by
  rw [u8_or _ _ h0 h1 (by omega) (by omega)]
  have := or128N ⟨b.toNat, by omega⟩
  simp only at this
  rw [show (128 : Int).toNat = 128 from rfl, this]
  omega
theorem andNotN : ∀ j : Fin 9, ∀ b : Fin 256, b.val &&& (255 - (2 ^ j.val - 1)) = b.val / 2 ^ j.val * 2 ^ j.val := by decide +kernel
theorem head_or {a n : Int} (bits : Int) (h0 : 0 ≤ a) (h1 : a < 256) (hn : 0 ≤ n) (hn2 : n ≤ ful bits) :
    Go.bits .or .u8 (Go.bits .andNot .u8 a (ful bits % 256)) (n % 256) = a / (ful bits + 1) * (ful bits + 1) + n := by
  have hr := ful_range bits
  have hb := nb_range bits
  have hf : ful bits + 1 = 2 ^ nb bits := by unfold ful; omega
  have hfN : (ful bits).toNat = 2 ^ nb bits - 1 := by
    have : ((2 ^ nb bits : Nat) : Int) = 2 ^ nb bits := by simp
    omega
  rw [show ful bits % 256 = ful bits by omega, show n % 256 = n by omega, u8_andNot _ _ h0 h1 (by omega) (by omega), hfN]
  have h2 := andNotN ⟨nb bits, by omega⟩ ⟨a.toNat, by omega⟩
  simp only at h2
  rw [h2, hf]
  have hp : 0 < 2 ^ nb bits := Nat.pow_pos (by omega)
  have hle : a.toNat / 2 ^ nb bits * 2 ^ nb bits ≤ a.toNat := Nat.div_mul_le_self _ _
  rw [u8_or _ _ (by omega) (by omega) hn (by omega), Int.toNat_natCast, nat_join (nb bits) _ _ (Nat.mul_mod_left _ _) (by omega)]
  obtain ⟨m, rfl⟩ := Int.eq_ofNat_of_zero_le h0
  obtain ⟨q, rfl⟩ := Int.eq_ofNat_of_zero_le hn
  simp
def vint : Nat → Int → List Int
  | 0, n => [n]
  | f + 1, n => if n ≥ 128 then (n % 128 + 128) :: vint f (n / 128) else [n]
theorem vint_length : ∀ (f : Nat) (n : Int), (vint f n).length ≤ f + 1
  | 0, n => by simp [vint]
  | f + 1, n => by
    rw [vint]
    split
    · have := vint_length f (n / 128); simp; omega
    · simp
def encI (first F n : Int) : List Int := if n < F then [first / (F + 1) * (F + 1) + n] else (first / (F + 1) * (F + 1) + F) :: vint 9 (n - F)
end Go.Proofs.YtfkdocmhbmameaaDoor.Pure
namespace Go.Proofs.YtfkdocmhbmameaaDoor.Pure
open Go.RowKit Go.Proofs.YtfkdocmhbmameaaDoor.Mine Go.Proofs.YtfkdocmhbmameaaDoorW.PrintWords Go.Proofs.YtfkdocmhbmameaaDoorW.PrintLast Go.Proofs.YtfkdocmhbmameaaDoorW.PrintMore
theorem full_f (bits : Int) : prefix_full.f bits = some (ful bits) := by
  have hb := nb_range bits
  have hr := ful_range bits
  have e : (mn (mx bits 1) 8).toNat = nb bits := by unfold mn mx nb; split <;> split <;> omega
  have hf : (2 : Int) ^ nb bits = ful bits + 1 := by unfold ful; omega
  unfold prefix_full.f
  have e2 : IntKind.u64.wrap (ful bits + 1) = ful bits + 1 := wu64_id (by omega) (by omega)
  rw [e, hf, e2, wu64_id (by omega) (by omega)]
  congr 1; omega
theorem pput_l0 : ∀ (f k : Nat) (n : Int) (xs : List Int), f < k → 0 ≤ n → n < 128 ^ (f + 1) → xs.length + f < 140737488355328 → prefix_Put.l0 k n xs = some (xs ++ vint f n)
  | 0, k, n, xs, hk, h0, h1, hl => by
    obtain ⟨k, rfl⟩ : ∃ m, k = m + 1 := ⟨k - 1, by omega⟩
    have h2 : n < 128 := by simpa using h1
    simp only [prefix_Put.l0]
    rw [if_neg (by omega), if_pos (by omega), show n % 256 = n by omega]; rfl
  | f + 1, k, n, xs, hk, h0, h1, hl => by
    obtain ⟨k, rfl⟩ : ∃ m, k = m + 1 := ⟨k - 1, by omega⟩
    simp only [prefix_Put.l0]
    by_cases hb : n ≥ 128
    · rw [if_pos hb, if_pos (by omega), or128 (by omega) (by omega), show n % 256 % 128 = n % 128 by omega,
        pput_l0 f k (n / 128) _ (by omega) (by omega) (by rw [Int.pow_succ] at h1; omega) (by rw [List.length_append, List.length_singleton]; omega), vint, if_pos hb, List.append_assoc]
      rfl
    · rw [if_neg hb, if_pos (by omega), show n % 256 = n by omega, vint, if_neg hb]
theorem pput_f {k : Nat} {l : List Int} {first n : Int} (bits : Int) (hl : l.length ≤ 140737488355000) (hf0 : 0 ≤ first) (hf1 : first < 256) (h0 : 0 ≤ n) (h1 : n ≤ 18446744073709551615) (hk : 10 ≤ k) :
    prefix_Put.f k l first bits n = some (l ++ encI first (ful bits) n) := by
  have hr := ful_range bits
  unfold prefix_Put.f
  rw [full_f]
  simp only [Option.bind_some]
  unfold encI
  by_cases hn : n < ful bits
  · rw [if_pos hn, if_pos (by omega), if_pos hn, head_or bits hf0 hf1 h0 (by omega)]
  · rw [if_neg hn, if_pos (by omega), if_neg hn]
    have e1 : Go.bits .or .u8 (Go.bits .andNot .u8 first (ful bits % 256)) (ful bits % 256) = first / (ful bits + 1) * (ful bits + 1) + ful bits := head_or bits hf0 hf1 (by omega) (by omega)
    have h10 : (128 : Int) ^ (9 + 1) = 1180591620717411303424 := by decide
    rw [e1, wu64_id (by omega) (by omega), pput_l0 9 k (n - ful bits) _ (by omega) (by omega) (by omega) (by rw [List.length_append, List.length_singleton]; omega), List.append_assoc]
    rfl
end Go.Proofs.YtfkdocmhbmameaaDoor.Pure
namespace Go.Proofs.YtfkdocmhbmameaaDoor.Pure
open Go.RowKit Go.Proofs.YtfkdocmhbmameaaDoor.Mine Go.Proofs.YtfkdocmhbmameaaDoorW.PrintWords Go.Proofs.YtfkdocmhbmameaaDoorW.PrintLast Go.Proofs.YtfkdocmhbmameaaDoorW.PrintMore
def bN : Nat → Nat → List Bool
  | 0, _ => []
  | n + 1, v => (v / 2 ^ n % 2 == 1) :: bN n v
theorem bN_length : ∀ n v, (bN n v).length = n
  | 0, _ => rfl
  | n + 1, v => by rw [bN, List.length_cons, bN_length n v]
theorem bN_add : ∀ a b v, bN (a + b) v = bN a (v / 2 ^ b) ++ bN b v
  | 0, b, v => by rw [Nat.zero_add]; rfl
  | a + 1, b, v => by
    rw [show a + 1 + b = (a + b) + 1 by omega, bN, bN, bN_add a b v, List.cons_append, Nat.div_div_eq_div_mul, ← Nat.pow_add, Nat.add_comm b a]
def bV : List Bool → Nat
  | [] => 0
  | b :: l => b.toNat * 2 ^ l.length + bV l
theorem bV_bN : ∀ n v, bV (bN n v) = v % 2 ^ n
  | 0, v => by simp [bN, bV, Nat.mod_one]
  | n + 1, v => by
    rw [bN, bV, bN_length, bV_bN n v, Nat.pow_succ, Nat.mod_mul]
    have h2 : v / 2 ^ n % 2 = 0 ∨ v / 2 ^ n % 2 = 1 := by omega
    rcases h2 with h | h <;> rw [h] <;> simp <;> omega
theorem bN_congr : ∀ {n v w : Nat}, v % 2 ^ n = w % 2 ^ n → bN n v = bN n w
  | 0, _, _, _ => rfl
  | n + 1, v, w, h => by
    have hp : 0 < 2 ^ n := Nat.pow_pos (by omega)
    rw [Nat.pow_succ, Nat.mod_mul, Nat.mod_mul] at h
    have h1 : v % 2 ^ n < 2 ^ n := Nat.mod_lt _ hp
    have h2 : w % 2 ^ n < 2 ^ n := Nat.mod_lt _ hp
    have h3 : v / 2 ^ n % 2 = 0 ∨ v / 2 ^ n % 2 = 1 := by omega
    have h4 : w / 2 ^ n % 2 = 0 ∨ w / 2 ^ n % 2 = 1 := by omega
    have h5 : v / 2 ^ n % 2 = w / 2 ^ n % 2 ∧ v % 2 ^ n = w % 2 ^ n := by
      rcases h3 with h3 | h3 <;> rcases h4 with h4 | h4 <;> rw [h3, h4] at h ⊢ <;> simp at h ⊢ <;> omega
    rw [bN, bN, h5.1, bN_congr h5.2]
theorem bN_inj {n v w : Nat} (hv : v < 2 ^ n) (hw : w < 2 ^ n) (h : bN n v = bN n w) : v = w := by
  have := congrArg bV h
  rwa [bV_bN, bV_bN, Nat.mod_eq_of_lt hv, Nat.mod_eq_of_lt hw] at this
theorem bN_one (v : Nat) : bN 1 v = [v % 2 == 1] := by simp [bN]
theorem bN_snoc (n c : Nat) (b : Bool) : bN (n + 1) (2 * c + b.toNat) = bN n c ++ [b] := by
  rw [bN_add n 1, bN_one]
  have e1 : (2 * c + b.toNat) / 2 ^ 1 = c := by cases b <;> simp <;> omega
  rw [e1]
  cases b <;> simp <;> omega
theorem bN_join (a b v c : Nat) (hc : c < 2 ^ b) : bN (a + b) (v * 2 ^ b + c) = bN a v ++ bN b c := by
  have hp : 0 < 2 ^ b := Nat.pow_pos (by omega)
  rw [bN_add, show (v * 2 ^ b + c) / 2 ^ b = v by rw [Nat.mul_comm, Nat.mul_add_div hp, Nat.div_eq_of_lt hc, Nat.add_zero], bN_congr (show (v * 2 ^ b + c) % 2 ^ b = c % 2 ^ b by rw [Nat.mul_comm, Nat.mul_add_mod])]
theorem bN_ones : ∀ n, bN n (2 ^ n - 1) = List.replicate n true
  | 0 => rfl
  | n + 1 => by
    have hp : 0 < 2 ^ n := Nat.pow_pos (by omega)
    have h1 : (2 ^ (n + 1) - 1) / 2 ^ n = 1 := by
      rw [Nat.pow_succ]
      exact Nat.div_eq_of_lt_le (by omega) (by omega)
    rw [bN, h1, bN_congr (show (2 ^ (n + 1) - 1) % 2 ^ n = (2 ^ n - 1) % 2 ^ n by
      rw [show 2 ^ (n + 1) - 1 = 2 ^ n * 1 + (2 ^ n - 1) by rw [Nat.pow_succ]; omega, Nat.mul_add_mod]), bN_ones n]
    rfl
def ub (l : List Int) : List Bool := l.flatMap fun x => bN 8 x.toNat
theorem ub_append (a b : List Int) : ub (a ++ b) = ub a ++ ub b := by simp [ub]
theorem ub_one (x : Int) : ub [x] = bN 8 x.toNat := by simp [ub]
theorem ub_cons (x : Int) (l : List Int) : ub (x :: l) = bN 8 x.toNat ++ ub l := by simp [ub]
theorem ub_length : ∀ l, (ub l).length = 8 * l.length
  | [] => rfl
  | x :: l => by rw [ub_cons, List.length_append, bN_length, ub_length l, List.length_cons]; omega
theorem ub_inj : ∀ {a b : List Int}, Bytes a → Bytes b → ub a = ub b → a = b
  | [], [], _, _, _ => rfl
  | [], y :: b, _, _, h => by have := congrArg List.length h; rw [ub_length, ub_length] at this; simp at this
  | x :: a, [], _, _, h => by have := congrArg List.length h; rw [ub_length, ub_length] at this; simp at this
  | x :: a, y :: b, ha, hb, h => by
    rw [ub_cons, ub_cons] at h
    obtain ⟨h1, h2⟩ := List.append_inj h (by rw [bN_length, bN_length])
    have hx := ha.head
    have hy := hb.head
    have := bN_inj (n := 8) (by omega) (by omega) h1
    rw [show x = y by omega, ub_inj ha.tail hb.tail h2]
def cb (c : Nat) : List Bool := bN (hcLen c) (hcCode c)
def eb (l : List Int) : List Bool := l.flatMap fun x => cb x.toNat
theorem eb_append (a b : List Int) : eb (a ++ b) = eb a ++ eb b := by simp [eb]
theorem eb_one (x : Int) : eb [x] = cb x.toNat := by simp [eb]
theorem eb_cons (x : Int) (l : List Int) : eb (x :: l) = cb x.toNat ++ eb l := by simp [eb]
theorem cb_length (c : Nat) : (cb c).length = hcLen c := bN_length _ _
def IsEnc (s o : List Int) : Prop := Bytes o ∧ ∃ p, p < 8 ∧ ub o = eb s ++ List.replicate p true
theorem IsEnc.uniq {s o o' : List Int} (h : IsEnc s o) (h' : IsEnc s o') : o = o' := by
  obtain ⟨hb, p, hp, e⟩ := h
  obtain ⟨hb', p', hp', e'⟩ := h'
  have l1 := congrArg List.length e
  have l2 := congrArg List.length e'
  rw [ub_length, List.length_append, List.length_replicate] at l1 l2
  have : p = p' := by omega
  subst this
  exact ub_inj hb hb' (e.trans e'.symm)
theorem IsEnc.length {s o : List Int} (h : IsEnc s o) : o.length = ((eb s).length + 7) / 8 := by
  obtain ⟨_, p, hp, e⟩ := h
  have l1 := congrArg List.length e
  rw [ub_length, List.length_append, List.length_replicate] at l1
  omega
theorem hcLen_bounds (c : Nat) (h : c < 257) : 5 ≤ hcLen c ∧ hcLen c ≤ 30 := by
  obtain ⟨_, _, _, h1, h2⟩ := hcSigns_all c h
  exact ⟨h1, h2⟩
theorem eb_length_bounds : ∀ {l : List Int}, Bytes l → 5 * l.length ≤ (eb l).length ∧ (eb l).length ≤ 30 * l.length
  | [], _ => by simp [eb]
  | x :: l, h => by
    have h1 := eb_length_bounds h.tail
    have h2 := h.head
    have h3 := hcLen_bounds x.toNat (by omega)
    rw [eb_cons, List.length_append, cb_length, List.length_cons]
    omega
theorem hcCode_lt : ∀ c, c < 257 → hcCode c < 2 ^ hcLen c := by decide +kernel
def look (n code : Nat) : Option Nat := if 5 ≤ n ∧ hcFirst n ≤ code ∧ code - hcFirst n < hcCount n then some (hcSign (hcBegin n + (code - hcFirst n))) else none
theorem limits : ∀ n, n < 30 → 5 ≤ n → hcFirst (n + 1) = 2 * (hcFirst n + hcCount n) := by decide +kernel
theorem limit_end : hcFirst 5 = 0 ∧ hcFirst 30 + hcCount 30 = 1073741824 := by decide +kernel
def Pend (code n : Nat) : Prop := code < 2 ^ n ∧ n ≤ 29 ∧ (5 ≤ n → hcFirst n + hcCount n ≤ code)
theorem Pend.zero : Pend 0 0 := ⟨by decide, by omega, by omega⟩
theorem Pend.first {code n : Nat} (h : Pend code n) (b : Bool) (h5 : 5 ≤ n + 1) : hcFirst (n + 1) ≤ 2 * code + b.toNat := by
  obtain ⟨h1, h2, h3⟩ := h
  by_cases e : n + 1 = 5
  · rw [e, limit_end.1]; omega
  · have := limits n (by omega) (by omega)
    have := h3 (by omega)
    omega
theorem Pend.lt {code n : Nat} (h : Pend code n) (b : Bool) : 2 * code + b.toNat < 2 ^ (n + 1) := by
  have := h.1
  rw [Nat.pow_succ]
  cases b <;> simp <;> omega
theorem Pend.step {code n : Nat} (h : Pend code n) (b : Bool) (hl : look (n + 1) (2 * code + b.toNat) = none) : Pend (2 * code + b.toNat) (n + 1) := by
  have hlt := h.lt b
  have key : 5 ≤ n + 1 → hcFirst (n + 1) + hcCount (n + 1) ≤ 2 * code + b.toNat := by
    intro h5
    have hf := h.first b h5
    refine Nat.le_of_not_lt fun hh => ?_
    unfold look at hl
    rw [if_pos ⟨h5, hf, by omega⟩] at hl
    cases hl
  refine ⟨hlt, ?_, key⟩
  refine Nat.le_of_not_lt fun hh => ?_
  have hn : n + 1 = 30 := by have := h.2.1; omega
  have h2 := key (by omega)
  rw [hn] at h2 hlt
  rw [limit_end.2] at h2
  omega
end Go.Proofs.YtfkdocmhbmameaaDoor.Pure
