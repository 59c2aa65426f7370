/- The fixed entries: what the document's way through its text tells is what the program's list has. -/
import Derived.Test.YtjdnimgkfkpaeaaDoorMinex5
import Derived.Test.YtjdnimgkfkpaeaaDoorMinex6
import Derived.Test.YtjdnimgkfkpaeaaDoorLTab
namespace Go.Proofs.YtjdnimgkfkpaeaaDoor.Pure
open Go.RowKit Go.Proofs.YtjdnimgkfkpaeaaDoor.Mine Go.Proofs.YtjdnimgkfkpaeaaDoorW.PrintWords Go.Proofs.YtjdnimgkfkpaeaaDoorW.PrintLast Go.Proofs.YtjdnimgkfkpaeaaDoorW.PrintMore
set_option linter.unusedSimpArgs false
set_option linter.unusedVariables false

def bs (l : List UInt8) : ByteArray := ⟨l.toArray⟩
theorem bs_nil : bs [] = (⟨#[]⟩ : ByteArray) := rfl
theorem bs_data (s : ByteArray) : bs s.data.toList = s := by unfold bs; simp
theorem bs_size (l : List UInt8) : (bs l).size = l.length := by show l.toArray.size = l.length; simp
theorem bs_app (a b : List UInt8) : bs a ++ bs b = bs (a ++ b) := by
  apply ByteArray.ext
  rw [ByteArray.data_append]
  simp [bs]
/-- The document's way through its text. -/
def refP : List UInt8 → List (List UInt8 × List UInt8) → Bool → List UInt8 → List UInt8 → List (List UInt8 × List UInt8)
  | [], out, _, a, b => out ++ [(a, b)]
  | c :: r, out, v, a, b => if c = 10 then refP r (out ++ [(a, b)]) false [] [] else if c = 61 ∧ v = false then refP r out true a b else if v = true then refP r out v a (b ++ [c]) else refP r out v (a ++ [c]) b
def en (p : List UInt8 × List UInt8) : S38 := ⟨bs p.1, bs p.2⟩
theorem bt_at {s : ByteArray} {i : Nat} {c : UInt8} {r : List UInt8} (h : s.data.toList.drop i = c :: r) : bt s (i : Int) = (c.toNat : Int) := by
  have hl : i < s.data.toList.length := by
    rcases Nat.lt_or_ge i s.data.toList.length with h1 | h1
    · exact h1
    · rw [List.drop_of_length_le h1] at h; cases h
  rw [List.drop_eq_getElem_cons hl] at h
  injection h with h1 h2
  rw [bt_eq, rd_nat (by unfold bytesOf; rw [List.length_map]; exact hl)]
  unfold bytesOf
  rw [List.getElem_map, h1]
theorem ex_at {s : ByteArray} {i : Nat} {c : UInt8} {r : List UInt8} (h : s.data.toList.drop i = c :: r) : s.extract i (i + 1) = bs [c] := by
  apply ByteArray.ext
  apply Array.toList_inj.1
  rw [data_extract, h, show i + 1 - i = 1 by omega]
  rfl
theorem drop_succ {α : Type} {l : List α} {i : Nat} {c : α} {r : List α} (h : l.drop i = c :: r) : l.drop (i + 1) = r := by
  rw [← List.drop_drop, h]; rfl
theorem fx_loop (tx : ByteArray) (hz : tx.size = 758) : ∀ (rest : List UInt8) (i : Nat) (out : List (List UInt8 × List UInt8)) (v : Bool) (a b : List UInt8), tx.data.toList.drop i = rest → i ≤ 758 → out.length + rest.length ≤ 10000 → a.length + rest.length ≤ 10000 → b.length + rest.length ≤ 10000 →
    Ev (fun k => nuncioref11_Fixed.l0 tx k (out.map en) v (i : Int) (bs a) (bs b)) ((refP rest out v a b).map en)
  | [], i, out, v, a, b, h, hi, ho, ha, hb => by
    have hl : i = 758 := by
      have h1 := congrArg List.length h
      rw [List.length_drop] at h1
      have h2 : tx.data.toList.length = 758 := by rw [Array.length_toList]; exact hz
      simp only [List.length_nil] at h1
      omega
    subst hl
    refine Ev.step (fun k => by rw [nuncioref11_Fixed.l0]) ?_
    refine ev_pos (by omega) (ev_pos rfl ?_)
    refine Ev.step (fun k => by rw [nuncioref11_Fixed.j1]) ?_
    refine ev_pos rfl (ev_pos (by rw [List.length_map]; omega) ?_)
    refine Ev.step (fun k => by rw [nuncioref11_Fixed.l0]) ?_
    refine ev_neg ?_ (ev_val ?_)
    · rw [w64 (by omega) (by omega)]; omega
    · simp [refP, en]
  | c :: r, i, out, v, a, b, h, hi, ho, ha, hb => by
    have hl : i < 758 := by
      have h1 := congrArg List.length h
      rw [List.length_drop] at h1
      have h2 : tx.data.toList.length = 758 := by rw [Array.length_toList]; exact hz
      simp only [List.length_cons] at h1
      omega
    have hd := drop_succ h
    have hbt := bt_at h
    have hex := ex_at h
    have hw : wrap64 ((i : Int) + 1) = ((i + 1 : Nat) : Int) := by rw [w64 (by omega) (by omega)]; omega
    simp only [List.length_cons] at ho ha hb
    refine Ev.step (fun k => by rw [nuncioref11_Fixed.l0]) ?_
    refine ev_pos (by omega) (ev_neg (by omega) (ev_pos (by omega) (ev_pos (by omega) ?_)))
    refine Ev.step (fun k => by rw [nuncioref11_Fixed.j1]) ?_
    rw [hbt, hw]
    by_cases h10 : c = 10
    · subst h10
      refine ev_pos rfl (ev_pos (by rw [List.length_map]; omega) ?_)
      rw [refP, if_pos rfl]
      have := fx_loop tx hz r (i + 1) (out ++ [(a, b)]) false [] [] hd (by omega) (by rw [List.length_append, List.length_singleton]; omega) (by simp only [List.length_nil]; omega) (by simp only [List.length_nil]; omega)
      rwa [List.map_append] at this
    · have hne : ¬ ((((c.toNat : Nat) : Int) == 10) = true) := fun e => h10 (UInt8.toNat_inj.1 (by have := beq_iff_eq.1 e; show c.toNat = 10; omega))
      refine ev_neg hne (ev_pos (by omega) (ev_pos (by omega) ?_))
      rw [refP, if_neg h10]
      by_cases h61 : c = 61
      · subst h61
        refine ev_pos rfl ?_
        refine Ev.step (fun k => by rw [nuncioref11_Fixed.j2]) ?_
        cases v with
        | false =>
          rw [if_pos ⟨rfl, rfl⟩]
          refine ev_pos rfl ?_
          rw [hw]
          exact fx_loop tx hz r (i + 1) out true a b hd (by omega) (by omega) (by omega) (by omega)
        | true =>
          rw [if_neg (by simp), if_pos rfl]
          refine ev_neg (by simp) (ev_pos rfl ?_)
          rw [hw, Int.toNat_natCast, Int.toNat_natCast, hex]
          refine ev_pos (by omega) (ev_pos (by omega) (ev_pos (by omega) (ev_pos (by rw [bs_size, bs_size]; simp only [List.length_singleton]; omega) ?_)))
          rw [bs_app]
          exact fx_loop tx hz r (i + 1) out true a (b ++ [61]) hd (by omega) (by omega) (by omega) (by rw [List.length_append, List.length_singleton]; omega)
      · have hne2 : ¬ (((c.toNat : Nat) : Int) = 61) := fun e => h61 (UInt8.toNat_inj.1 (by show c.toNat = 61; omega))
        refine ev_neg hne2 ?_
        refine Ev.step (fun k => by rw [nuncioref11_Fixed.j2]) ?_
        refine ev_neg (by simp) ?_
        rw [if_neg (by simp [h61]), hw, Int.toNat_natCast, Int.toNat_natCast, hex]
        cases v with
        | true =>
          rw [if_pos rfl]
          refine ev_pos rfl (ev_pos (by omega) (ev_pos (by omega) (ev_pos (by omega) (ev_pos (by rw [bs_size, bs_size]; simp only [List.length_singleton]; omega) ?_))))
          rw [bs_app]
          exact fx_loop tx hz r (i + 1) out true a (b ++ [c]) hd (by omega) (by omega) (by omega) (by rw [List.length_append, List.length_singleton]; omega)
        | false =>
          rw [if_neg (by simp)]
          refine ev_neg (by simp) (ev_pos (by omega) (ev_pos (by omega) (ev_pos (by omega) (ev_pos (by rw [bs_size, bs_size]; simp only [List.length_singleton]; omega) ?_))))
          rw [bs_app]
          exact fx_loop tx hz r (i + 1) out false (a ++ [c]) b hd (by omega) (by omega) (by rw [List.length_append, List.length_singleton]; omega) (by omega)
/-- The fixed entries, by their bytes. -/
def fxs : List (List UInt8 × List UInt8) := (tbParts 10 tbText.data.toList).map (fun l => ((Lib.cut l [61]).1, (Lib.cut l [61]).2.1))
set_option maxRecDepth 100000 in
theorem ref_size : tbRefText.size = 758 := by decide +kernel
set_option maxRecDepth 100000 in
theorem ref_same : refP tbRefText.data.toList [] false [] [] = fxs := by decide +kernel
def F38 : List S38 := fxs.map en
theorem fixed_ev : Ev (fun k => nuncioref11_Fixed.f k) F38 := by
  have hl : tbRefText.data.toList.length = 758 := by rw [Array.length_toList]; exact ref_size
  have := fx_loop tbRefText ref_size tbRefText.data.toList 0 [] false [] [] rfl (by omega) (by simp only [List.length_nil]; omega) (by simp only [List.length_nil]; omega) (by simp only [List.length_nil]; omega)
  rw [ref_same] at this
  exact this
theorem fixed_cv : tbFixed.map cv = F38 := by
  unfold tbFixed F38 fxs
  rw [← tbPieces_eq]
  simp only [List.map_map]
  rfl
set_option maxRecDepth 100000 in
theorem fxs_len : fxs.length = 61 := by decide +kernel
theorem F38_len : F38.length = 61 := by unfold F38; rw [List.length_map, fxs_len]
theorem tbFixed_len : tbFixed.length = 61 := by have := congrArg List.length fixed_cv; rwa [List.length_map, F38_len] at this
theorem all_ev {m : M} (h : m.2.length ≤ 100000) : Ev (fun k => nuncioref11_All.f k m.1 m.2) (F38 ++ m.2) := by
  unfold nuncioref11_All.f
  exact Ev.bind fixed_ev (ev_pos (by rw [F38_len]; omega) (Ev.now _))
end Go.Proofs.YtjdnimgkfkpaeaaDoor.Pure
