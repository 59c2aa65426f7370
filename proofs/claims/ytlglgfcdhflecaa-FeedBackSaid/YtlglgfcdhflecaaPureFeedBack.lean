import Derived.Test.YtlglgfcdhflecaaMinex14
import Derived.Test.YtlglgfcdhflecaaMinex6
import Derived.Test.YtlglgfcdhflecaaMinex13
import Derived.Test.YtlglgfcdhflecaaMinex2
import Derived.Test.YtlglgfcdhflecaaMinex5
import Derived.Test.YtlglgfcdhflecaaLHead
import Derived.Test.YtlglgfcdhflecaaLRPut
import Derived.Test.YtlglgfcdhflecaaPureFeedTakes
namespace Go.Proofs.Ytlglgfcdhflecaa.Pure
open Go.RowKit Go.Proofs.Ytlglgfcdhflecaa.Mine Go.Proofs.YtlglgfcdhflecaaW.PrintWords Go.Proofs.YtlglgfcdhflecaaW.PrintLast Go.Proofs.YtlglgfcdhflecaaW.PrintMore
set_option linter.unusedSimpArgs false

/-- A frame's bytes. -/
def fb (a b c : Int) (d : ByteArray) : ByteArray := strOfNums (hd9 (d.size : Int) a b c ++ bytesOf d)
def rpt (a b c : Int) (d : ByteArray) : ByteArray × Int :=
  if c > 2147483647 then (E0, 1) else if (d.size : Int) > 16384 then (E0, 3) else (fb a b c d, 0)
theorem rprint_f {k : Nat} {a b c : Int} {d : ByteArray} (ha : 0 ≤ a ∧ a ≤ 255) (hb : 0 ≤ b ∧ b ≤ 255) (hc : 0 ≤ c ∧ c ≤ 4294967295) (hk : 8 < k) : nuncioref14_Print.f k a b c d = some (rpt a b c d) := by
  unfold nuncioref14_Print.f rpt
  by_cases h1 : c > 2147483647
  · rw [if_pos h1, if_pos h1]
  rw [if_neg h1, if_neg h1]
  by_cases h2 : (d.size : Int) > 16384
  · rw [if_pos h2, if_pos h2]
  rw [if_neg h2, if_neg h2]
  have hz : IntKind.u64.wrap (d.size : Int) = (d.size : Int) := wu64_id (by omega) (by omega)
  have hw : IntKind.u64.wrap c = c := wu64_id hc.1 (by omega)
  have hab : Bytes [a, b] := Bytes.cons ha.1 (by omega) (Bytes.cons hb.1 (by omega) Bytes.nil)
  have l3 : (be (d.size : Int) 3).length = 3 := be_length _ 3
  have l4 : (be c 4).length = 4 := be_length _ 4
  have q1 : nuncioref01_Put.f k (⟨#[]⟩ : ByteArray) (d.size : Int) 3 = some (strOfNums (be (d.size : Int) 3)) := by
    have := rput_f (k := k) (s := (⟨#[]⟩ : ByteArray)) (n := (d.size : Int)) 3 (by omega) (by omega) (by decide) (by omega) hk
    rw [empty_append] at this; exact this
  have z1 : (strOfNums (be (d.size : Int) 3)).size = 3 := by rw [strOfNums_size, l3]
  have z2 : (strOfNums [a, b]).size = 2 := by rw [strOfNums_size]; rfl
  have z3 : (strOfNums (be (d.size : Int) 3) ++ strOfNums [a, b]).size = 5 := by rw [ByteArray.size_append, z1, z2]
  have q2 : nuncioref01_Put.f k (strOfNums (be (d.size : Int) 3) ++ strOfNums [a, b]) c 4 = some (strOfNums (be (d.size : Int) 3) ++ strOfNums [a, b] ++ strOfNums (be c 4)) :=
    rput_f (k := k) 4 hc.1 (by omega) (by omega) (by omega) hk
  have z4 : (strOfNums (be (d.size : Int) 3) ++ strOfNums [a, b] ++ strOfNums (be c 4)).size = 9 := by rw [ByteArray.size_append, z3, strOfNums_size, l4]
  have fin : fb a b c d = strOfNums (be (d.size : Int) 3) ++ strOfNums [a, b] ++ strOfNums (be c 4) ++ d := by
    have h3 := be_bytes (d.size : Int) 3
    have h4 := be_bytes c 4
    unfold fb hd9
    rw [str_append ((h3.append hab).append h4) (bytesOf_bytes d), str_append (h3.append hab) h4, str_append h3 hab, str_bytesOf]
  rw [hz, hw, q1, Option.bind_some, Option.bind_some, if_pos (by rw [z1, z2]; decide), q2, Option.bind_some, if_pos (by rw [z4]; omega), fin]
theorem append_empty (s : ByteArray) : s ++ E0 = s := by apply bytesOf_inj; rw [bytesOf_append, bytesOf_empty, List.append_nil]
theorem fb_size (a b c : Int) (d : ByteArray) : (fb a b c d).size = 9 + d.size := by
  unfold fb
  rw [strOfNums_size, List.length_append, hd9_eq, ← size_bytesOf]
  simp only [List.length_cons, List.length_nil]
theorem FR_empty : FR E0 = ([], 0, E0) := FR_short (by rfl)
theorem FR_fb {a b c : Int} {d : ByteArray} (ha : 0 ≤ a ∧ a ≤ 255) (hb : 0 ≤ b ∧ b ≤ 255) (hc : 0 ≤ c ∧ c ≤ 2147483647) (hd : d.size ≤ 16384) : FR (fb a b c d) = ([⟨a, b, c, d⟩], 0, E0) := by
  have hp : pf (fb a b c d) = (a, b, c, d, 9 + (d.size : Int), 0) := by
    have := pf_pt (more := E0) ha hb hc hd
    rwa [append_empty] at this
  have he : er (fb a b c d) = 0 := by unfold er; rw [hp]
  have hr : rst (fb a b c d) = E0 := by
    unfold rst sz
    rw [hp, fb_size]
    apply bytesOf_inj
    rw [bytesOf_extract, show (9 + (d.size : Int)).toNat = 9 + d.size by omega, Nat.sub_self, List.take_zero]
    rfl
  rw [FR_ok he, hr, FR_empty, hp]
  rfl
theorem hasP_self (u : ByteArray) : hasP (P24 ++ u) := hasP_append ⟨Nat.le_refl _, by rw [show P24.extract 0 24 = P24 from extract_all P24]⟩
/-- What is sent, behind the preface or not. -/
def s0 (w : Bool) : ByteArray := if w = true then P24 else E0
theorem SP_sent (w : Bool) (u : ByteArray) : SP w (s0 w ++ u) = mk (FR u) := by
  cases w with
  | false => rw [SP_false]; unfold s0; rw [if_neg (by simp), empty_append]
  | true =>
    unfold s0
    rw [if_pos rfl, SP_has (hasP_self u)]
    congr 2
    have : (P24 ++ u).extract 24 (P24 ++ u).size = P24.extract 24 P24.size ++ u := extract_append (Nat.le_refl _)
    rw [this, show P24.extract 24 P24.size = E0 by apply bytesOf_inj; rw [bytesOf_extract]; rfl, empty_append]
theorem held_small (w : Bool) (s : ByteArray) : ((SP w s).2.2.1.size : Int) < 16393 := by
  have key : ∀ u, ((FR u).2.2.size : Int) < 16393 := by
    intro u
    rcases FR_end u with h | h
    · rcases pf_cases (FR u).2.2 with h2 | h2 | h2
      · exact h2.2
      · omega
      · omega
    · rw [h.2]; decide
  cases w with
  | false => rw [SP_false]; exact key s
  | true =>
    by_cases h1 : hasP s
    · rw [SP_has h1]; exact key _
    · by_cases h2 : ofP s
      · rw [SP_of h1 h2]; have := h2.1; simp only; omega
      · rw [SP_not h1 h2]; decide
theorem back_j3 {k : Nat} (w : Bool) (l : List S40) (more s : ByteArray) (i : Int) (fs : List S40) (u : ByteArray) (hs : s = s0 w ++ u) (hu : FR u = (fs, 0, E0)) (hz : s.size ≤ 60000) (hm : more.size ≤ 40000) (hk : 300000 < k) :
    nunciolaw15_FeedBack.j3 (k + 1 + 1) w l more s fs i false = some true := by
  have e1 : SP w s = mk (FR u) := by rw [hs]; exact SP_sent w u
  have e2 : SP w s = (fs, 0, E0, false, false) := by rw [e1, hu]; rfl
  have hfl := SP_sizes w s
  rw [e2] at hfl
  simp only at hfl
  obtain ⟨gs, ea, eg⟩ := add_f (k := k + 1) w (s := E0) (p := s) (by show 0 + s.size ≤ 500000; omega) (by rw [SP_empty]) (by show 0 + s.size + 100 < k + 1; omega)
  rw [SP_empty, empty_append, e2] at ea
  rw [empty_append, e2, SP_empty] at eg
  simp only [List.nil_append] at eg ea
  obtain rfl : fs = gs := eg
  have hz0 := SP_sizes w s
  obtain ⟨hs2, ea2, _⟩ := add_f (k := k) w (s := s) (p := more) (by omega) (by rw [e2]) (by omega)
  rw [e2] at ea2
  simp only at ea2
  simp only [nunciolaw15_FeedBack.j3]
  rw [if_neg (by simp)]
  simp only [feed_New.f, Option.bind_some]
  rw [ea, Option.bind_some, same_f fs (by omega) (by omega), Option.bind_some, if_pos rfl, if_pos rfl]
  simp only [feed_Feed_Held.f, Option.bind_some]
  rw [show ((((E0.size : Nat) : Int)) != 0) = false by rfl]
  simp only [nunciolaw15_FeedBack.j4]
  rw [if_neg (by simp), ea2, Option.bind_some]
  simp only [feed_Feed_Held.f, Option.bind_some]
  rw [decide_eq_true (held_small w (s ++ more))]
theorem back_l0 (w : Bool) (l : List S40) (more : ByteArray) (hl : l.length ≤ 50) (hw : ∀ x ∈ l, k40_wf x) (hm : more.size ≤ 40000) : ∀ (d k i : Nat) (s : ByteArray) (fs : List S40) (u : ByteArray), i + d = l.length → s = s0 w ++ u → FR u = (fs, 0, E0) → s.size ≤ 60000 → 2 * d + 300100 < k →
    nunciolaw15_FeedBack.l0 k w l more s fs (i : Int) = some true
  | 0, k, i, s, fs, u, hd, hs, hu, hz, hk => by
    obtain ⟨k, rfl⟩ : ∃ m, k = m + 1 + 1 + 1 := ⟨k - 3, by omega⟩
    simp only [nunciolaw15_FeedBack.l0]
    rw [if_neg (by omega)]
    exact back_j3 w l more s i fs u hs hu hz hm (by omega)
  | d + 1, k, i, s, fs, u, hd, hs, hu, hz, hk => by
    obtain ⟨k, rfl⟩ : ∃ m, k = m + 1 + 1 + 1 := ⟨k - 3, by omega⟩
    have hi : i < l.length := by omega
    have erd : rd_T40 l (i : Int) = l[i] := by unfold rd_T40; rw [Int.toNat_natCast]; simp [hi]
    simp only [nunciolaw15_FeedBack.l0]
    rw [if_pos (by omega)]
    by_cases hc : (s.size : Int) < 40000
    · rw [decide_eq_true hc]
      obtain ⟨h1, h2, h3, _⟩ := hw l[i] (List.getElem_mem hi)
      have h1 := b_u8 h1
      have h2 := b_u8 h2
      have h3 := b_u32 h3
      have hfl := FR_sizes u
      have hsu : s.size = (s0 w).size + u.size := by rw [hs, ByteArray.size_append]
      rw [hu] at hfl
      simp only at hfl
      simp only [nunciolaw15_FeedBack.j3]
      rw [if_pos trivial, if_pos (by omega), if_pos (by omega), erd, rprint_f h1 h2 h3 (by omega), Option.bind_some, w64 (x := (i : Int) + 1) (by omega) (by omega)]
      unfold rpt
      by_cases g1 : (l[i]).f2 > 2147483647
      · rw [if_pos g1]
        simp only [show ¬ ((1 : Int) = 0) by decide, if_false]
        exact back_l0 w l more hl hw hm d (k + 1) (i + 1) s fs u (by omega) hs hu hz (by omega)
      by_cases g2 : ((l[i]).f3.size : Int) > 16384
      · rw [if_neg g1, if_pos g2]
        simp only [show ¬ ((3 : Int) = 0) by decide, if_false]
        exact back_l0 w l more hl hw hm d (k + 1) (i + 1) s fs u (by omega) hs hu hz (by omega)
      rw [if_neg g1, if_neg g2]
      simp only [if_true]
      have hfz := fb_size (l[i]).f0 (l[i]).f1 (l[i]).f2 (l[i]).f3
      have hF := FR_fb h1 h2 ⟨h3.1, by omega⟩ (d := (l[i]).f3) (by omega)
      have hu0 : (FR u).2.1 = 0 := by rw [hu]
      have hU := FR_append (fb (l[i]).f0 (l[i]).f1 (l[i]).f2 (l[i]).f3) u hu0
      rw [hu] at hU
      simp only at hU
      rw [empty_append, hF] at hU
      rw [if_pos (by omega), if_pos (by omega)]
      refine back_l0 w l more hl hw hm d (k + 1) (i + 1) _ _ (u ++ fb (l[i]).f0 (l[i]).f1 (l[i]).f2 (l[i]).f3) (by omega) ?_ hU (by rw [ByteArray.size_append]; omega) (by omega)
      apply bytesOf_inj
      rw [hs, bytesOf_append, bytesOf_append, bytesOf_append, bytesOf_append, List.append_assoc]
    · rw [decide_eq_false hc]
      exact back_j3 w l more s i fs u hs hu hz hm (by omega)
theorem FeedBack : nunciolaw15_FeedBack.Pure := by
  intro w l more hl _
  obtain ⟨K, hK⟩ : ∃ K, K = 400000 := ⟨_, rfl⟩
  have T : ∀ k w l more, nunciolaw15_FeedBack.j0 (k + 1) w l more true = some true := by
    intro k w l more
    simp only [nunciolaw15_FeedBack.j0]; rw [if_pos trivial]
  refine ⟨K + 1 + 1, ?_⟩
  unfold nunciolaw15_FeedBack.f
  rw [awake15 (by omega), Option.bind_some, if_pos rfl]
  by_cases h1 : (l.length : Int) > 50
  · rw [if_pos h1]; exact T _ _ _ _
  by_cases h2 : (more.size : Int) > 40000
  · rw [if_neg h1, decide_eq_true h2]; exact T _ _ _ _
  rw [if_neg h1, decide_eq_false h2]
  simp only [nunciolaw15_FeedBack.j0, nunciolaw15_FeedBack.j1]
  rw [if_neg (by simp)]
  cases w with
  | true =>
    rw [if_pos rfl]
    exact back_l0 true l more (by omega) hl.2.2 (by omega) l.length K 0 P24 [] E0 (by omega) (append_empty P24).symm FR_empty (by decide) (by omega)
  | false =>
    rw [if_neg (by simp)]
    exact back_l0 false l more (by omega) hl.2.2 (by omega) l.length K 0 E0 [] E0 (by omega) (append_empty E0).symm FR_empty (by decide) (by omega)
end Go.Proofs.Ytlglgfcdhflecaa.Pure
