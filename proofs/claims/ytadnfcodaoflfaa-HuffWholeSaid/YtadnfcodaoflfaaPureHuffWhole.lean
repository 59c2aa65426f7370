/- A byte of 1 alone behind a text that was encoded is refused: for any text. -/
import Derived.Test.YtadnfcodaoflfaaMinex14
import Derived.Test.YtadnfcodaoflfaaLHuffD
namespace Go.Proofs.Ytadnfcodaoflfaa.Pure
open Go.RowKit Go.Proofs.Ytadnfcodaoflfaa.Mine Go.Proofs.YtadnfcodaoflfaaW.PrintWords Go.Proofs.YtadnfcodaoflfaaW.PrintLast Go.Proofs.YtadnfcodaoflfaaW.PrintMore
set_option linter.unusedVariables false

theorem HuffWhole : nunciolaw10_HuffWhole.Pure := by
  intro s _
  refine Ev.rounds ?_
  refine Ev.congr (fun k => by unfold nunciolaw10_HuffWhole.f; rfl) (Ev.bind awake10 (ev_pos rfl ?_))
  by_cases h1 : (s.size : Int) > 2000
  · exact ev_pos h1 (Ev.now _)
  refine ev_neg h1 ?_
  have hs := bytesOf_bytes s
  have hlen : (bytesOf s).length = s.size := bytesOf_length s
  obtain ⟨o, ho, hE⟩ := encode_f s (by omega)
  have hb := (eb_length_bounds hs).2
  have hl := ho.length
  have e255 : bytesOf (⟨#[255]⟩ : ByteArray) = [255] := by decide
  have hsz : (strOfNums o ++ (⟨#[255]⟩ : ByteArray)).size = o.length + 1 := by rw [size_bytesOf, bytesOf_append, bytesOf_str ho.1, e255, List.length_append]; rfl
  have hD := decode_f (strOfNums o ++ (⟨#[255]⟩ : ByteArray)) (by rw [hsz]; omega)
  have hdec : dec (ub (o ++ [255])) 0 0 true [] = none := by
    obtain ⟨_, p, hp, e⟩ := ho
    have e8 : ub [255] = List.replicate 8 true := by decide
    rw [ub_append, e, e8, List.append_assoc, List.replicate_append_replicate, dec_back _ hs (p + 8) (by omega), if_pos (by omega)]
  rw [bytesOf_append, bytesOf_str ho.1, e255, hdec] at hD
  refine Ev.bind hE ?_
  refine ev_pos (by rw [strOfNums_size]; omega) ?_
  refine Ev.bind hD ?_
  exact ev_pos (by rw [show (res none).1 = (⟨#[]⟩ : ByteArray) from rfl, nil_toList]) (ev_val rfl)
end Go.Proofs.Ytadnfcodaoflfaa.Pure
