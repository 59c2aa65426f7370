/- What was encoded is decoded as it was; what is decoded was encoded as just these bytes: for any two texts. -/
import Derived.Test.YtadnfcodaoflfaaMinex13
import Derived.Test.YtadnfcodaoflfaaLHuffD
namespace Go.Proofs.Ytadnfcodaoflfaa.Pure
open Go.RowKit Go.Proofs.Ytadnfcodaoflfaa.Mine Go.Proofs.YtadnfcodaoflfaaW.PrintWords Go.Proofs.YtadnfcodaoflfaaW.PrintLast Go.Proofs.YtadnfcodaoflfaaW.PrintMore
set_option linter.unusedVariables false

theorem back_j1 (t : ByteArray) (ht : t.size ≤ 2000) : Ev (fun k => nunciolaw10_HuffBack.j1 k t false) true := by
  have hD := decode_f t (by omega)
  have hB := bytesOf_bytes t
  have hlen : (bytesOf t).length = t.size := bytesOf_length t
  refine Ev.step (fun k => by simp only [nunciolaw10_HuffBack.j1]; rw [if_neg (by simp)]) (Ev.bind hD ?_)
  cases hd : dec (ub (bytesOf t)) 0 0 true [] with
  | none =>
    refine ev_neg (by decide) (ev_pos rfl (ev_val ?_))
    rw [show (res none).1 = (⟨#[]⟩ : ByteArray) from rfl, nil_toList]
    rfl
  | some y =>
    obtain ⟨hy, he⟩ := enc_of_dec hB hd
    have hb := (eb_length_bounds hy).1
    have hl := he.length
    obtain ⟨o, ho, hE⟩ := encode_f (strOfNums y) (by rw [strOfNums_size]; omega)
    rw [bytesOf_str hy] at ho
    have e : strOfNums o = t := by rw [ho.uniq he, str_bytesOf]
    rw [e] at hE
    exact ev_pos rfl (Ev.bind hE (ev_val (by simp)))
theorem HuffBack : nunciolaw10_HuffBack.Pure := by
  intro s t _ _
  refine Ev.rounds ?_
  have hdone : Ev (fun k => nunciolaw10_HuffBack.j0 k s t true) true := Ev.step (f := fun _ => some true) (fun k => by simp [nunciolaw10_HuffBack.j0]) (Ev.now _)
  refine Ev.congr (fun k => by unfold nunciolaw10_HuffBack.f; rfl) (Ev.bind awake10 (ev_pos rfl ?_))
  by_cases h1 : (s.size : Int) > 2000
  · exact ev_pos h1 hdone
  refine ev_neg h1 ?_
  by_cases h2 : (t.size : Int) > 2000
  · rw [show decide ((t.size : Int) > 2000) = true from decide_eq_true h2]; exact hdone
  rw [show decide ((t.size : Int) > 2000) = false from decide_eq_false h2]
  have hs := bytesOf_bytes s
  have hlen : (bytesOf s).length = s.size := bytesOf_length s
  obtain ⟨o, ho, hE⟩ := encode_f s (by omega)
  have hb := (eb_length_bounds hs).2
  have hl := ho.length
  have hD := decode_f (strOfNums o) (by rw [strOfNums_size]; omega)
  rw [bytesOf_str ho.1, dec_of_enc hs ho] at hD
  refine Ev.step (fun k => by simp only [nunciolaw10_HuffBack.j0]; rw [if_neg (by simp)]) (Ev.bind hE (Ev.bind hD ?_))
  refine ev_pos (by rw [show (res (some (bytesOf s))).1 = strOfNums (bytesOf s) from rfl, str_bytesOf]) ?_
  exact back_j1 t (by omega)
end Go.Proofs.Ytadnfcodaoflfaa.Pure
