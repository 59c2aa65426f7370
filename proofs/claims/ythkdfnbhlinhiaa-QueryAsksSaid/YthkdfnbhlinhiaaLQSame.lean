/- A message is the same as itself. -/
import Derived.Test.YthkdfnbhlinhiaaMinex28
import Derived.Test.YthkdfnbhlinhiaaMinex27
import Derived.Test.YthkdfnbhlinhiaaMinex26
import Derived.Test.YthkdfnbhlinhiaaMinex25
import Derived.Test.YthkdfnbhlinhiaaLQB
namespace Go.Proofs.Ythkdfnbhlinhiaa.Pure
open Go.RowKit Go.Proofs.Ythkdfnbhlinhiaa.Mine Go.Proofs.YthkdfnbhlinhiaaW.PrintWords Go.Proofs.YthkdfnbhlinhiaaW.PrintLast Go.Proofs.YthkdfnbhlinhiaaW.PrintMore
set_option linter.unusedSimpArgs false
set_option linter.unusedVariables false

theorem texts_l0 (l : List ByteArray) (hl : l.length ≤ 8796093022000) : ∀ (d i : Nat), i + d = l.length → Ev (fun k => nuncioref05_texts.l0 k l l (i : Int)) true := by
  intro d
  induction d with
  | zero =>
    intro i hd
    refine Ev.step (fun k => by rw [nuncioref05_texts.l0]) ?_
    exact ev_neg (by omega) (Ev.now _)
  | succ d ih =>
    intro i hd
    refine Ev.step (fun k => by rw [nuncioref05_texts.l0]) ?_
    refine ev_pos (by omega) (ev_pos (by omega) (ev_pos (by omega) (ev_pos rfl ?_)))
    rw [w64 (by omega) (by omega), show (i : Int) + 1 = ((i + 1 : Nat) : Int) by omega]
    exact ih (i + 1) (by omega)
theorem ev_texts (l : List ByteArray) (hl : l.length ≤ 8796093022000) : Ev (fun k => nuncioref05_texts.f k l l) true := by
  unfold nuncioref05_texts.f
  exact ev_pos rfl (texts_l0 l hl l.length 0 (by omega))
theorem same5_l0 (a : ByteArray) (t c e : Int) (ns : List ByteArray) (us : List Int) (ts : List ByteArray) (hu : us.length ≤ 35184372088000) : ∀ (d i : Nat), i + d = us.length → Ev (fun k => nuncioref05_Same.l0 k (i : Int) a t c e ns us ts a t c e ns us ts) true := by
  intro d
  induction d with
  | zero =>
    intro i hd
    refine Ev.step (fun k => by rw [nuncioref05_Same.l0]) ?_
    exact ev_neg (by omega) (Ev.now _)
  | succ d ih =>
    intro i hd
    refine Ev.step (fun k => by rw [nuncioref05_Same.l0]) ?_
    refine ev_pos (by omega) (ev_pos (by omega) (ev_pos (by omega) (ev_pos rfl ?_)))
    rw [w64 (by omega) (by omega), show (i : Int) + 1 = ((i + 1 : Nat) : Int) by omega]
    exact ih (i + 1) (by omega)
theorem ev_same5 (x : S51) (hx : k51_wf x) : Ev (fun k => nuncioref05_Same.f k x.f0 x.f1 x.f2 x.f3 x.f4 x.f5 x.f6 x.f0 x.f1 x.f2 x.f3 x.f4 x.f5 x.f6) true := by
  obtain ⟨_, _, _, _, ⟨_, h4, _⟩, ⟨_, h5, _⟩, ⟨_, h6, _⟩⟩ := hx
  unfold nuncioref05_Same.f
  refine ev_pos rfl (ev_pos rfl (ev_pos rfl (ev_pos rfl (Ev.bind (ev_texts _ (by omega)) (ev_pos rfl (Ev.bind (ev_texts _ (by omega)) (ev_pos rfl ?_)))))))
  refine Ev.step (fun k => by rw [nuncioref05_Same.j0]) ?_
  exact ev_neg (by simp) (same5_l0 _ _ _ _ _ _ _ (by omega) x.f5.length 0 (by omega))
theorem recs_l0 (l : List S51) (hl : l.length ≤ 1466015503700) (hw : ∀ x ∈ l, k51_wf x) : ∀ (d i : Nat), i + d = l.length → Ev (fun k => nuncioref06_records.l0 k l l (i : Int)) true := by
  intro d
  induction d with
  | zero =>
    intro i hd
    refine Ev.step (fun k => by rw [nuncioref06_records.l0]) ?_
    exact ev_neg (by omega) (Ev.now _)
  | succ d ih =>
    intro i hd
    have hi : i < l.length := by omega
    refine Ev.step (fun k => by rw [nuncioref06_records.l0]) ?_
    refine ev_pos (by omega) (ev_pos (by omega) (ev_pos (by omega) ?_))
    rw [rd51 hi]
    refine Ev.bind (ev_same5 _ (hw _ (List.getElem_mem hi))) (ev_pos rfl ?_)
    rw [w64 (by omega) (by omega), show (i : Int) + 1 = ((i + 1 : Nat) : Int) by omega]
    exact ih (i + 1) (by omega)
theorem ev_recs (l : List S51) (hl : l.length ≤ 1466015503700) (hw : ∀ x ∈ l, k51_wf x) : Ev (fun k => nuncioref06_records.f k l l) true := by
  unfold nuncioref06_records.f
  exact ev_pos rfl (recs_l0 l hl hw l.length 0 (by omega))
theorem same6_l0 (a f : Int) (q : List S53) (x y z : List S51) (hl : q.length ≤ 5864062014800) : ∀ (d i : Nat), i + d = q.length → Ev (fun k => nuncioref06_Same.l0 k (i : Int) a f q x y z a f q x y z) true := by
  intro d
  induction d with
  | zero =>
    intro i hd
    refine Ev.step (fun k => by rw [nuncioref06_Same.l0]) ?_
    exact ev_neg (by omega) (Ev.now _)
  | succ d ih =>
    intro i hd
    refine Ev.step (fun k => by rw [nuncioref06_Same.l0]) ?_
    refine ev_pos (by omega) (ev_pos (by omega) (ev_pos (by omega) (ev_neg (by simp) ?_)))
    rw [w64 (by omega) (by omega), show (i : Int) + 1 = ((i + 1 : Nat) : Int) by omega]
    exact ih (i + 1) (by omega)
theorem ev_same (a f : Int) (q : List S53) (x y z : List S51) (hl : q.length ≤ 5864062014800) (hx : x.length ≤ 1466015503700) (hy : y.length ≤ 1466015503700) (hz : z.length ≤ 1466015503700) (wx : ∀ r ∈ x, k51_wf r) (wy : ∀ r ∈ y, k51_wf r) (wz : ∀ r ∈ z, k51_wf r) :
    Ev (fun k => nuncioref06_Same.f k a f q x y z a f q x y z) true := by
  unfold nuncioref06_Same.f
  refine ev_pos rfl (ev_pos rfl (ev_pos rfl (Ev.bind (ev_recs x hx wx) (ev_pos rfl (Ev.bind (ev_recs y hy wy) (ev_pos rfl (Ev.bind (ev_recs z hz wz) ?_)))))))
  refine Ev.step (fun k => by rw [nuncioref06_Same.j0]) ?_
  exact ev_neg (by simp) (same6_l0 a f q x y z hl q.length 0 (by omega))
end Go.Proofs.Ythkdfnbhlinhiaa.Pure
