/- Two texts as one take as many bytes as both, or one fewer; each byte takes 5 to 30 bits: for any two texts. -/
import Derived.Test.YtadnfcodaoflfaaMinex14
import Derived.Test.YtadnfcodaoflfaaLHuffD
namespace Go.Proofs.Ytadnfcodaoflfaa.Pure
open Go.RowKit Go.Proofs.Ytadnfcodaoflfaa.Mine Go.Proofs.YtadnfcodaoflfaaW.PrintWords Go.Proofs.YtadnfcodaoflfaaW.PrintLast Go.Proofs.YtadnfcodaoflfaaW.PrintMore
set_option linter.unusedVariables false

theorem HuffSizes : nunciolaw10_HuffSizes.Pure := by
  intro s t _ _
  refine Ev.rounds ?_
  have hdone : Ev (fun k => nunciolaw10_HuffSizes.j0 k s t true) true := Ev.step (f := fun _ => some true) (fun k => by simp [nunciolaw10_HuffSizes.j0]) (Ev.now _)
  refine Ev.congr (fun k => by unfold nunciolaw10_HuffSizes.f; rfl) (Ev.bind awake10 (ev_pos rfl ?_))
  by_cases h1 : (s.size : Int) > 2000
  · exact ev_pos h1 hdone
  refine ev_neg h1 ?_
  by_cases h2 : (t.size : Int) > 2000
  · rw [show decide ((t.size : Int) > 2000) = true from decide_eq_true h2]; exact hdone
  rw [show decide ((t.size : Int) > 2000) = false from decide_eq_false h2]
  have hs := bytesOf_bytes s
  have ht := bytesOf_bytes t
  have hlen : (bytesOf s).length = s.size := bytesOf_length s
  have hlen2 : (bytesOf t).length = t.size := bytesOf_length t
  obtain ⟨o, ho, hE⟩ := encode_f s (by omega)
  have hb := eb_length_bounds hs
  have hb2 := eb_length_bounds ht
  have hl := ho.length
  have hsz : (s ++ t).size = s.size + t.size := by rw [size_bytesOf, bytesOf_append, List.length_append, hlen, hlen2]
  have hA := size_f s (by omega)
  have hB := size_f t (by omega)
  have hC := size_f (s ++ t) (by omega)
  rw [bytesOf_append] at hC
  have eC : sz (bytesOf s ++ bytesOf t) = ((eb (bytesOf s)).length + (eb (bytesOf t)).length + 7) / 8 := by unfold sz; rw [eb_append, List.length_append]
  have eA : sz (bytesOf s) = ((eb (bytesOf s)).length + 7) / 8 := rfl
  have eB : sz (bytesOf t) = ((eb (bytesOf t)).length + 7) / 8 := rfl
  have x0 : sz (bytesOf s ++ bytesOf t) ≤ sz (bytesOf s) + sz (bytesOf t) ∧ sz (bytesOf s) + sz (bytesOf t) ≤ sz (bytesOf s ++ bytesOf t) + 1 ∧ sz (bytesOf s) ≤ sz (bytesOf s ++ bytesOf t) ∧ sz (bytesOf t) ≤ sz (bytesOf s ++ bytesOf t) ∧ o.length = sz (bytesOf s) ∧ sz (bytesOf s) ≤ 4 * s.size ∧ 5 * s.size ≤ 8 * sz (bytesOf s) ∧ sz (bytesOf t) ≤ 4 * t.size := by
    rw [eA, eB, eC]; omega
  clear eA eB eC hb hb2 hl
  generalize sz (bytesOf s) = x at *
  generalize sz (bytesOf t) = y at *
  generalize sz (bytesOf s ++ bytesOf t) = z at *
  have e1 : wrap64 ((x : Int) + (y : Int)) = (x : Int) + (y : Int) := w64 (by omega) (by omega)
  have e5 : wrap64 ((x : Int) + (y : Int) - 1) = (x : Int) + (y : Int) - 1 := w64 (by omega) (by omega)
  have e2 : wrap64 (4 * (s.size : Int)) = 4 * (s.size : Int) := w64 (by omega) (by omega)
  have e3 : wrap64 (8 * (x : Int)) = 8 * (x : Int) := w64 (by omega) (by omega)
  have e4 : wrap64 (5 * (s.size : Int)) = 5 * (s.size : Int) := w64 (by omega) (by omega)
  refine Ev.step (fun k => by simp only [nunciolaw10_HuffSizes.j0]; rw [if_neg (by simp)]) (Ev.bind hA ?_)
  refine Ev.bind hB ?_
  refine ev_pos (by omega) ?_
  refine Ev.bind hC ?_
  rw [e1, e5, e2, e3, e4]
  refine ev_pos (by omega) ?_
  refine ev_pos (by omega) ?_
  refine ev_pos (by omega) ?_
  refine ev_pos (by omega) ?_
  refine Ev.bind hE ?_
  refine ev_pos (by rw [strOfNums_size]; omega) ?_
  refine ev_pos (by omega) ?_
  exact ev_val (decide_eq_true (by omega))
end Go.Proofs.Ytadnfcodaoflfaa.Pure
