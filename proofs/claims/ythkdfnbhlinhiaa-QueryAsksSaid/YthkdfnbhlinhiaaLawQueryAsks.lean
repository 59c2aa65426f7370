-- Written by this repo's own printer (wip/print), which builds on the kit's.
import Derived.Test.YthkdfnbhlinhiaaWf
import Derived.Test.YthkdfnbhlinhiaaRows
import Derived.Test.YthkdfnbhlinhiaaMinex31
import Derived.Test.YthkdfnbhlinhiaaPureQueryAsks
import Derived.Test.YthkdfnbhlinhiaaWK
import Derived.ProofKit
import Derived.OpenShut
import Derived.ShutString
import Derived.ChangeOld
namespace Go.Proofs.Ythkdfnbhlinhiaa.queryAsks
open Go.ChangeShapes Go.WideShapes Go.ChangeAt Go.RowKit
open Go.ChangeMaps (open_string shut_string)
set_option linter.unusedVariables false
theorem own : ownKnob Try.prog.godebug = none := by kernel_rfl
theorem laidOut : laidOutB Try.prog = true := by kernel_rfl
def IsRow (k : IntKind) (w : World) (a : Option Addr) (len cap : Nat) (zs : List Int) : Prop :=
 (a = none ∧ len = 0 ∧ cap = 0 ∧ zs = []) ∨
 ∃ x, a = some x ∧ len ≤ cap ∧ cap ≤ maxLen ∧ zs.length = cap ∧ (∀ i, i < zs.length → w.cell? (x.add i) = some (.int k (zs.getD i 0))) ∧ ∀ n ∈ zs, (Lit.int k n).wf = true
set_option maxRecDepth 100000 in
theorem lifted (os : Os) (started : os.Started) (H : Type) (enc : TypeId × Value → H) :
  ReturnsInHanded {} Try.checked os 3 .any (Rows.queryAsksSpec.pre6 enc Try.prog Try.f3 Rows.queryAsksRow.domain false) (Rows.queryAsksSpec.post enc Try.prog Try.f3 false true false false) := by
 refine returnsInHanded_of_change_sized (C := Try.checked) own started (by kernel_rfl) Try.func3
  (ChangeSpec.witness6 (enc := enc) (C := Try.checked) false ⟨#[], #[(.agg #[(.int .u16 0), (.int .u16 0), (.slice none 0 0), (.slice none 0 0), (.slice none 0 0), (.slice none 0 0)]), .int .u16 0, (.agg #[(.string ⟨#[]⟩), (.int .u16 0), (.int .u16 0), (.bool false)])], []⟩ 8 (by kernel_rfl) (by kernel_rfl) (by kernel_rfl) (by kernel_rfl)) ?_
 intro W base args ds gs before hval0 hW hcnd hsz0 _
 have hsz : (DataW.weightsEach Try.prog (Try.f3.params.toList ++ Rows.queryAsksSpec.plain.varTypes Try.prog) (ds ++ gs)).all (· ≤ reachBytes) = true := hsz0
 have hval : ∀ (j : Nat) t v, Try.f3.params[j]? = some t → args[j]? = some v → Value.okWide Try.prog W .any base t v := hval0
 have hW' := hW
 obtain ⟨p, q, hA0, hV, rfl, hfz, hnd⟩ := hW
 have hA : DataW.TrodAll enc Try.prog W 0 (fun _ => true) true Try.f3.params.toList args.toList ds p := hA0
 rw [Try.params3] at hA hval hsz
 obtain ⟨v0, vs0, d0, ds0, p0, q0, hargs, rfl, rfl, h0, r0⟩ := trodAll_cons hA
 obtain ⟨v1, vs1, d1, ds1, p1, q1, rfl, rfl, rfl, h1, r1⟩ := trodAll_cons r0
 obtain ⟨v2, vs2, d2, ds2, p2, q2, rfl, rfl, rfl, h2, r2⟩ := trodAll_cons r1
 obtain ⟨rfl, rfl, rfl⟩ := trodAll_nil r2
 obtain rfl : args = #[v0, v1, v2] := by cases args; simp_all
 obtain ⟨rfl, rfl⟩ := trodVars_none hV
 have k0 := h0
 have lt0 : ∀ x ∈ p0, x.block < W.heap.size := by obtain ⟨m, hm⟩ := k0; exact DataW.trod_lt m _ _ _ hm
 obtain ⟨cs0, y0, rfl, hk0, wy0⟩ := Go.Proofs.YthkdfnbhlinhiaaW.PrintWords.open_any_struct Mine.k26_opens Try.underlying26 (hval 0 26 v0 rfl rfl) hsz (j := 0) (t := 26) rfl rfl h0
 obtain ⟨A0_2, c0_2, A0_3, c0_3, A0_4, c0_4, A0_5, c0_5, rfl, hc0_2, hr0_2, hc0_3, hr0_3, hc0_4, hr0_4, hc0_5, hr0_5⟩ := Mine.k26_open hk0
 obtain ⟨w0_0, w0_1, w0_2, w0_3, w0_4, w0_5⟩ := wy0
 obtain ⟨a1, rfl, rfl, rfl, w1⟩ := open_int Try.underlying22 (hval 1 22 v1 rfl rfl) h1
 have k2 := h2
 have lt2 : ∀ x ∈ p2, x.block < W.heap.size := by obtain ⟨m, hm⟩ := k2; exact DataW.trod_lt m _ _ _ hm
 obtain ⟨cs2, y2, rfl, hk2, wy2⟩ := Go.Proofs.YthkdfnbhlinhiaaW.PrintWords.open_any_struct Mine.k28_opens Try.underlying28 (hval 2 28 v2 rfl rfl) hsz (j := 2) (t := 28) rfl rfl h2
 have hk2_ := Mine.k28_open hk2
 subst hk2_
 obtain ⟨w2_0, w2_1, w2_2, w2_3⟩ := wy2
 clear hA0 hval0 hsz0 hsz
 refine (Mine.nunciolaw08_QueryAsks.walk Pure.QueryAsks y0.f0 y0.f1 _ _ y0.f2 _ _ y0.f3 _ _ y0.f4 _ _ y0.f5 a1 y2.f0 y2.f1 y2.f2 y2.f3 W hr0_2 hc0_2 hr0_3 hc0_3 hr0_4 hc0_4 hr0_5 hc0_5 w0_0 w0_1 w0_2 w0_3 w0_4 w0_5 w1 w2_0 w2_1 w2_2).mono fun e W' ⟨he, bel⟩ => ?_
 subst he
 exact ⟨_, rfl, _, _, _, [], _, [], hW', trodAll_mk1 (shut_bool Try.underlying4 _), (trodAll_cons_mk (Below.trod laidOut (by kernel_rfl) (of_decide_eq_true (by kernel_rfl)) k0 bel lt0) (trodAll_cons_mk (shut_int Try.underlying22 w1) (trodAll_cons_mk (Below.trod laidOut (by kernel_rfl) (of_decide_eq_true (by kernel_rfl)) k2 bel lt2) trodAll_mk0))), rfl, bel.frame _, fun h => by cases h⟩
theorem over : Rows.queryAsksRow.holds Try.pinned (OpenSpec.ofChange Rows.queryAsksSpec) :=
 OpenClaim.holds_of_wide 3 Try.f3 rfl rfl rfl rfl rfl rfl rfl ⟨rfl, rfl, rfl, rfl, rfl⟩ rfl rfl rfl rfl rfl (by kernel_rfl) Try.func3 (by kernel_rfl)
  (of_decide_eq_true (by kernel_rfl)) (by unfold Func.isWrapper; first | (rw [if_pos (by decide +kernel)]; kernel_rfl) | (rw [if_neg (by decide +kernel)]; exact ⟨rfl, rfl⟩))
  (fun os started H enc _ => lifted os started H enc)
theorem proved : Rows.QueryAsksSaid := over
#print axioms proved
end Go.Proofs.Ythkdfnbhlinhiaa.queryAsks
namespace Go.Proofs.Ythkdfnbhlinhiaa
/-- The row, under a short name, for the claim. -/
theorem queryAsks_holds : Rows.QueryAsksSaid := queryAsks.proved
end Go.Proofs.Ythkdfnbhlinhiaa
