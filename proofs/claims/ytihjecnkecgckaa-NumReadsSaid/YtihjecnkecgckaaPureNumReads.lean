/- A reader goes through any text just as the document says. -/
import Derived.Test.YtihjecnkecgckaaMinex10
import Derived.Test.YtihjecnkecgckaaMinex3
import Derived.Test.YtihjecnkecgckaaLRefGet
namespace Go.Proofs.Ytihjecnkecgckaa.Pure
open Go.RowKit Go.Proofs.Ytihjecnkecgckaa.Mine Go.Proofs.YtihjecnkecgckaaW.PrintWords Go.Proofs.YtihjecnkecgckaaW.PrintLast Go.Proofs.YtihjecnkecgckaaW.PrintMore

theorem awake01r : nunciolaw01_awake.f 20 = some true := by decide +kernel
theorem part_some {s : ByteArray} (hs : s.size ≤ 20000) (q n : Int) : ∃ p, num_Part.f s q n = some p := by
  by_cases h : q < 0 ∨ n < 0 ∨ (s.size : Int) < q + n
  · exact ⟨_, part_no (by omega) h⟩
  · exact ⟨_, part_yes (by omega) (by omega) (by omega) (by omega)⟩
theorem step_ok {k : Nat} {s : ByteArray} (hs : s.size ≤ 20000) (hk : 9 < k) (q : Int) (h0 : 0 ≤ q) (h1 : q ≤ s.size) (a : S44) : ∃ b, nr_step k s q a = some b ∧ 0 ≤ b ∧ b ≤ s.size := by
  obtain ⟨p, hp⟩ := part_some hs q a.f1
  unfold nr_step
  by_cases c : a.f0 = true
  · rw [if_pos c]
    by_cases h : q < 0 ∨ a.f1 < 1 ∨ 8 < a.f1 ∨ (s.size : Int) < q + a.f1
    · rw [get_no (by omega) h (by omega), rget_no (by omega) h (by omega), rpart_eq, hp]
      exact ⟨q, by simp, h0, h1⟩
    · rw [get_yes (by omega) (by omega) (by omega) (by omega) (by omega) hk, rget_yes (by omega) (by omega) (by omega) (by omega) (by omega) hk, rpart_eq, hp]
      refine ⟨wrap64 (q + a.f1), by simp, ?_, ?_⟩ <;> rw [w64 (by omega) (by omega)] <;> omega
  · rw [if_neg c]
    by_cases h : q < 0 ∨ a.f1 < 0 ∨ (s.size : Int) < q + a.f1
    · rw [rpart_eq, part_no (by omega) h]
      exact ⟨q, by simp, h0, h1⟩
    · rw [rpart_eq, part_yes (by omega) (by omega) (by omega) (by omega)]
      refine ⟨wrap64 (q + a.f1), by simp, ?_, ?_⟩ <;> rw [w64 (by omega) (by omega)] <;> omega
theorem run_ok {k : Nat} {s : ByteArray} (hs : s.size ≤ 20000) (hk : 9 < k) : ∀ (l : List S44) (q : Int), 0 ≤ q → q ≤ s.size → nr_run k s l q = some true
  | [], _, _, _ => rfl
  | a :: l, q, h0, h1 => by
    obtain ⟨b, hb, b0, b1⟩ := step_ok hs hk q h0 h1 a
    rw [nr_run, hb, Option.bind_some]
    exact run_ok hs hk l b b0 b1
theorem NumReads : nunciolaw01_NumReads.Pure := by
  intro s l hs hl
  refine ⟨20, ?_⟩
  unfold nunciolaw01_NumReads.f
  rw [awake01r, Option.bind_some, if_pos rfl]
  by_cases c1 : (s.size : Int) > 20000
  · rw [if_pos c1]
  rw [if_neg c1]
  by_cases c2 : (l.length : Int) > 200
  · rw [if_pos c2]
  rw [if_neg c2]
  exact run_ok (by omega) (by omega) l 0 (by omega) (by omega)
end Go.Proofs.Ytihjecnkecgckaa.Pure
