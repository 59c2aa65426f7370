-- Written by this repo's own printer (wip/print), which builds on the kit's.
import Derived.Test.YtjdnimgkfkpaeaaDoorWf
import Derived.Test.YtjdnimgkfkpaeaaDoorRows
import Derived.Test.YtjdnimgkfkpaeaaDoorMinex14
import Derived.Test.YtjdnimgkfkpaeaaDoorPureTableHolds
import Derived.Test.YtjdnimgkfkpaeaaDoorWK
import Derived.Test.YtjdnimgkfkpaeaaDoorTie
import Derived.Test.YtjdnimgkfkpaeaaDoorCards
import Derived.LaidMore
import Derived.Lay
import Derived.SevenTiedAt
import Derived.Stop.Joined
import Derived.ProofKit
import Derived.OpenShut
import Derived.ShutString
import Derived.ChangeOld
namespace Go.Proofs.YtjdnimgkfkpaeaaDoor.tableHolds
open Go.ChangeShapes Go.WideShapes Go.ChangeAt Go.RowKit
open Go.ChangeMaps (open_string shut_string)
set_option linter.unusedVariables false
theorem own : ownKnob Tryd.prog.godebug = none := by kernel_rfl
theorem laidOut : laidOutB Tryd.prog = true := by kernel_rfl
def IsRow (k : IntKind) (w : World) (a : Option Addr) (len cap : Nat) (zs : List Int) : Prop :=
 (a = none ∧ len = 0 ∧ cap = 0 ∧ zs = []) ∨
 ∃ x, a = some x ∧ len ≤ cap ∧ cap ≤ maxLen ∧ zs.length = cap ∧ (∀ i, i < zs.length → w.cell? (x.add i) = some (.int k (zs.getD i 0))) ∧ ∀ n ∈ zs, (Lit.int k n).wf = true
set_option maxRecDepth 100000 in
theorem lifted (os : Os) (started : os.Started) (H : Type) (enc : TypeId × Value → H) :
  ReturnsInHanded {} Tryd.checked os 5 .any (fun w args => (Rows.tableHoldsSpec.pre enc Tryd.prog Tryd.f5 Rows.tableHoldsRow.domain false w args ∧ laidMetH Tryd.prog Rows.tableHoldsRow.laid w) ∧ sizedMet enc Tryd.prog Tryd.f5 (OpenSpec.ofChange Rows.tableHoldsSpec) false w args) (Rows.tableHoldsSpec.post enc Tryd.prog Tryd.f5 false true false false) := by
 refine returnsInHanded_of_calls own started (by kernel_rfl)
  (ChangeSpec.witness_shaped (enc := enc) (C := Tryd.checked) (os := os) (X := fun w _ => laidMetH Tryd.prog Rows.tableHoldsRow.laid w) false (World.laidAll Tryd.prog os Rows.tableHoldsRow.laid) #[.int .i64 0, .slice none 0 0] 8 (World.laidAll_os _ _ _)
   (World.shaped_of_ZipB (by kernel_rfl) (by kernel_rfl)) (by kernel_rfl) (by kernel_rfl) (by kernel_rfl)
   (by rw [MakeChecks.laidMetH_plain _ _ _ (by kernel_rfl)]; exact laidMet_laidAll _ (by kernel_rfl) (by kernel_rfl))) ?_
 intro w tape i _ hsh _ hok hpre _
 obtain ⟨_, _, _, fn', hfn', _, _, _, _, hval0⟩ := hok
 obtain rfl : fn' = Tryd.f5 := Option.some.inj (hfn'.symm.trans Tryd.func5)
 obtain ⟨⟨⟨ds, gs, before, hW0, _⟩, _⟩, hz⟩ := hpre
 have hsz : (DataW.weightsEach Tryd.prog (Tryd.f5.params.toList ++ Rows.tableHoldsSpec.plain.varTypes Tryd.prog) (ds ++ gs)).all (· ≤ reachBytes) = true := hz.weights hW0
 have hE : Mine.EnvW (w.forCall tape i) := Go.Proofs.cell_of_shapedOpen_int (zero := #[.int .i64 0]) (t := 3) hsh (of_decide_eq_true (by kernel_rfl)) (by kernel_rfl) rfl (by kernel_rfl) (by kernel_rfl) Tryd.underlying3
 suffices hs : Calls Tryd.prog 5 i.args (w.forCall tape i) fun e W' => ∃ v, e = .returned v ∧ Rows.tableHoldsSpec.post enc Tryd.prog Tryd.f5 false true false false (w.forCall tape i) i.args v W' by
  refine hs.mono fun e W' ⟨v, he, hp⟩ => ?_
  subst he
  exact ChangeSpec.post_blind hp
 have hW := DataW.Whole.of_heap (w' := w.forCall tape i) (by rfl) hW0
 clear hsh hz hW0
 generalize i.args = args at hval0 hW hsz ⊢
 obtain ⟨base, hbase⟩ : ∃ b, w.heap.size = b := ⟨_, rfl⟩
 rw [hbase] at hval0
 generalize w.forCall tape i = W at hval0 hW hE ⊢
 have hval : ∀ (j : Nat) t v, Tryd.f5.params[j]? = some t → args[j]? = some v → Value.okWide Tryd.prog W .any base t v := hval0
 have hW' := hW
 obtain ⟨p, q, hA0, hV, rfl, hfz, hnd⟩ := hW
 have hA : DataW.TrodAll enc Tryd.prog W 0 (fun _ => true) true Tryd.f5.params.toList args.toList ds p := hA0
 rw [Tryd.params5] at hA hval hsz
 obtain ⟨v0, vs0, d0, ds0, p0, q0, hargs, rfl, rfl, h0, r0⟩ := trodAll_cons hA
 obtain ⟨v1, vs1, d1, ds1, p1, q1, rfl, rfl, rfl, h1, r1⟩ := trodAll_cons r0
 obtain ⟨rfl, rfl, rfl⟩ := trodAll_nil r1
 obtain rfl : args = #[v0, v1] := by cases args; simp_all
 obtain ⟨rfl, rfl⟩ := trodVars_none hV
 obtain ⟨a0, rfl, rfl, rfl, w0⟩ := open_int Tryd.underlying3 (hval 0 3 v0 rfl rfl) h0
 have k1 := h1
 have lt1 : ∀ x ∈ p1, x.block < W.heap.size := by obtain ⟨m, hm⟩ := k1; exact DataW.trod_lt m _ _ _ hm
 obtain ⟨A1, len1, c1, rfl⟩ := okWide_slice Tryd.underlying22 (hval 1 22 v1 rfl rfl)
 obtain ⟨l1, rfl, hr1, hc1, w1⟩ := Go.Proofs.YtjdnimgkfkpaeaaDoorW.PrintWords.open_any_slice (d := Mine.k34) (Go.Proofs.YtjdnimgkfkpaeaaDoorW.PrintWords.Opens.slice (d := Mine.k34) Mine.k34_opens Tryd.underlying22 (by kernel_rfl) (B := 40) (by kernel_rfl)) hsz (j := 1) (t := 22) rfl rfl h1
 clear hA0 hval0 hsz
 refine (Mine.nunciolaw11_TableHolds.walk Pure.TableHolds a0 _ _ l1 W hE hr1 hc1 w0 w1).mono fun e W' ⟨he, bel⟩ => ?_
 subst he
 exact ⟨_, rfl, _, _, _, [], _, [], hW', trodAll_mk1 (shut_bool Tryd.underlying4 _), (trodAll_cons_mk (shut_int Tryd.underlying3 w0) (trodAll_cons_mk (Below.trod laidOut (by kernel_rfl) (of_decide_eq_true (by kernel_rfl)) k1 bel lt1) trodAll_mk0)), rfl, bel.frame _, fun h => by cases h⟩
theorem over : Rows.tableHoldsRow.holds Tryd.pinned (OpenSpec.ofChange Rows.tableHoldsSpec) :=
 OpenClaim.holds_of_wide 5 Tryd.f5 rfl rfl rfl rfl rfl rfl rfl ⟨rfl, rfl, rfl, rfl, rfl⟩ rfl rfl rfl rfl rfl (by kernel_rfl) Tryd.func5 (by kernel_rfl)
  (of_decide_eq_true (by kernel_rfl)) (by unfold Func.isWrapper; first | (rw [if_pos (by decide +kernel)]; kernel_rfl) | (rw [if_neg (by decide +kernel)]; exact ⟨rfl, rfl⟩))
  (fun os started H enc _ => lifted os started H enc)
theorem proved : Rows.TableHoldsCardSaid :=
 Claim7.holds_tied_plain_at .later [] [.data, .pinned] true (true, "9e87ce889782e65115c942755d9843e28200735a0f16b294babb39e274da7db2") false over (fun _ h => by cases h) (by kernel_rfl) (fun _ h => by cases h) tableHolds_row_tie rfl ⟨rfl, rfl⟩ (by kernel_rfl) rfl
  (fun f fn hf hfn => by
   obtain rfl : f = 5 := Option.some.inj ((show Tryd.prog.funcNamed "nuncio/nunciolaw11.TableHolds" = some 5 by kernel_rfl).symm.trans hf) |>.symm
   obtain rfl : fn = Tryd.f5 := (Option.some.inj (Tryd.func5.symm.trans hfn)).symm
   exact ⟨by kernel_rfl, fun j t ht => by
    rw [Tryd.params5] at ht
    have hm : t ∈ [3, 22] := by simpa using Array.mem_of_getElem? ht
    have hall : ([3, 22].all fun u => !Tryd.prog.wantsStandIn u) = true := by kernel_rfl
    exact (show Tryd.prog.wantsStandIn t = false by simpa using List.all_eq_true.1 hall t hm)⟩)
  (by kernel_rfl)
#print axioms proved
end Go.Proofs.YtjdnimgkfkpaeaaDoor.tableHolds
namespace Go.Proofs.YtjdnimgkfkpaeaaDoor
/-- The row, under a short name, for the claim. -/
theorem tableHolds_holds : Rows.TableHoldsCardSaid := tableHolds.proved
end Go.Proofs.YtjdnimgkfkpaeaaDoor
