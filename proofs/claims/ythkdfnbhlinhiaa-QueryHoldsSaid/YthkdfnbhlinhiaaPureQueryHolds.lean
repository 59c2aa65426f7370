import Derived.Test.YthkdfnbhlinhiaaMinex35
import Derived.Test.YthkdfnbhlinhiaaMinex33
import Derived.Test.YthkdfnbhlinhiaaMinex34
import Derived.Test.YthkdfnbhlinhiaaMinex32
import Derived.Test.YthkdfnbhlinhiaaMinex17
import Derived.Test.YthkdfnbhlinhiaaMinex10
import Derived.Test.YthkdfnbhlinhiaaMinex11
import Derived.Test.YthkdfnbhlinhiaaLQFew
namespace Go.Proofs.Ythkdfnbhlinhiaa.Pure
open Go.RowKit Go.Proofs.Ythkdfnbhlinhiaa.Mine Go.Proofs.YthkdfnbhlinhiaaW.PrintWords Go.Proofs.YthkdfnbhlinhiaaW.PrintLast Go.Proofs.YthkdfnbhlinhiaaW.PrintMore
set_option linter.unusedSimpArgs false
set_option linter.unusedVariables false

def NEG (f : Int) (q : List S53) (x : List S51) : Bool := if q.length = 0 then false else if f % 16 = 0 then !(query_Negative.q x (rd_T53 q 0).f1) else f % 16 == 3
theorem neg_f {a f : Int} {q : List S53} {x y z : List S51} (h0 : 0 ≤ f) (h1 : f ≤ 65535) : query_Negative.f a f q x y z = some (NEG f q x) := by
  unfold query_Negative.f NEG
  rw [and15 h0 h1]
theorem code_f {f : Int} (h0 : 0 ≤ f) (h1 : f ≤ 65535) : nuncioref08_code.f f = some (f % 16) := by
  unfold nuncioref08_code.f
  rw [w64 (x := f) (by omega) (by omega), tmod_pos _ h0]
theorem neg_l0 (a f : Int) (q : List S53) (l y z : List S51) (hq : 0 < q.length) (hl : l.length ≤ 1466015503700) : ∀ (d i : Nat), i + d = l.length → Ev (fun k => nuncioref08_Negative.l0 k (i : Int) a f q l y z) (!(query_Negative.q (l.drop i) (rd_T53 q 0).f1)) := by
  intro d
  induction d with
  | zero =>
    intro i h
    rw [List.drop_eq_nil_of_le (by omega)]
    refine Ev.step (fun k => by rw [nuncioref08_Negative.l0]) ?_
    exact ev_neg (by omega) (Ev.now _)
  | succ d ih =>
    intro i h
    have hi : i < l.length := by omega
    refine Ev.step (fun k => by rw [nuncioref08_Negative.l0]) ?_
    refine ev_pos (by omega) (ev_pos (by omega) (ev_pos (by omega) ?_))
    rw [rd51 hi, List.drop_eq_getElem_cons hi]
    unfold query_Negative.q
    rw [List.any_cons]
    by_cases h1 : l[i].f1 = (rd_T53 q 0).f1
    · exact ev_pos h1 (ev_val (by simp [h1]))
    · refine ev_neg h1 ?_
      by_cases h2 : l[i].f1 = 5
      · exact ev_pos h2 (ev_val (by simp [h2]))
      · refine ev_neg h2 ?_
        rw [w64 (by omega) (by omega), show (i : Int) + 1 = ((i + 1 : Nat) : Int) by omega, beq_eq_false_iff_ne.2 h1, beq_eq_false_iff_ne.2 h2, Bool.false_or, Bool.false_or]
        exact ih (i + 1) (by omega)
theorem ev_rneg (a f : Int) (q : List S53) (x y z : List S51) (h0 : 0 ≤ f) (h1 : f ≤ 65535) (hl : x.length ≤ 1466015503700) : Ev (fun k => nuncioref08_Negative.f k a f q x y z) (NEG f q x) := by
  unfold nuncioref08_Negative.f NEG
  by_cases c : q.length = 0
  · rw [if_pos c]
    exact ev_pos (by omega) (Ev.now _)
  · rw [if_neg c]
    refine ev_neg (by omega) (ev_bind0 (code_f h0 h1) ?_)
    by_cases c2 : f % 16 = 0
    · rw [if_pos c2]
      have := neg_l0 a f q x y z (by omega) hl x.length 0 (by omega)
      rw [List.drop_zero] at this
      exact ev_pos c2 this
    · rw [if_neg c2]
      exact ev_neg c2 (ev_bind0 (code_f h0 h1) (Ev.now _))
theorem QueryHolds : nunciolaw08_QueryHolds.Pure := by
  intro a f q x y z ha hf hq hx hy hz
  have hfb := b_u16 hf
  refine Ev.rounds ?_
  unfold nunciolaw08_QueryHolds.f
  refine ev_bind0 (a := true) rfl (ev_pos rfl ?_)
  obtain ⟨b, hb, hb2⟩ := ev_few a f q x y z hx.2.2 hy.2.2 hz.2.2
  refine Ev.bind hb ?_
  cases b with
  | false => exact ev_neg (by simp) (Ev.now _)
  | true =>
    obtain ⟨l1, l2, l3, l4⟩ := hb2 rfl
    refine ev_pos rfl (ev_bind0 (neg_f hfb.1 hfb.2) (Ev.bind (ev_rneg a f q x y z hfb.1 hfb.2 (by omega)) (ev_pos (by simp) ?_)))
    have hs : x.length + y.length + z.length < 1466015503701 := by omega
    have h1 : query_Least.f a f q x y z = some (if NEG f q x = true then query_Least.soa y else query_Least.low 0 false (x ++ y ++ z)) := by
      unfold query_Least.f
      rw [neg_f hfb.1 hfb.2, Option.bind_some, if_pos hs]
      split <;> rfl
    have h2 : Ev (fun k => nuncioref08_Least.f k a f q x y z) (if NEG f q x = true then query_Least.soa y else query_Least.low 0 false (x ++ y ++ z)) := by
      unfold nuncioref08_Least.f
      refine Ev.bind (ev_rneg a f q x y z hfb.1 hfb.2 (by omega)) ?_
      by_cases c : NEG f q x = true
      · rw [show (if NEG f q x = true then query_Least.soa y else query_Least.low 0 false (x ++ y ++ z)) = query_Least.soa y from if_pos c]
        exact ev_pos c (Ev.now _)
      · rw [show (if NEG f q x = true then query_Least.soa y else query_Least.low 0 false (x ++ y ++ z)) = query_Least.low 0 false (x ++ y ++ z) from if_neg c]
        refine ev_neg c (ev_bind0 (a := x ++ y ++ z) ?_ (Ev.now _))
        unfold nuncioref07_Records.f
        rw [Option.bind_some, if_pos (by simp; omega), Option.bind_some, if_pos (by simp; omega), Option.bind_some, if_pos (by simp; omega)]
        rfl
    exact ev_bind0 h1 (Ev.bind h2 (ev_val (by simp)))
end Go.Proofs.Ythkdfnbhlinhiaa.Pure
