/- A field that is never to be put into a table leaves it as it is: behind any row of acts. -/
import Derived.Test.YtfkdocmhbmameaaDoorRows
import Derived.Test.YtfkdocmhbmameaaDoorTie
import Derived.Test.YtfkdocmhbmameaaDoorCards
import Derived.LaidMore
import Derived.Lay
import Derived.SevenTiedAt
import Derived.Stop.Joined
import Derived.ProofKit
import Derived.OpenShut
import Derived.ShutString
import Derived.ChangeOld
import Derived.Test.YtfkdocmhbmameaaDoorCV1
import Derived.Test.YtfkdocmhbmameaaDoorCV2
import Derived.Test.YtfkdocmhbmameaaDoorCV3
import Derived.Test.YtfkdocmhbmameaaDoorCV4
import Derived.Test.YtfkdocmhbmameaaDoorCV5
import Derived.Test.YtfkdocmhbmameaaDoorCV6
import Derived.Test.YtfkdocmhbmameaaDoorCV7
import Derived.Test.YtfkdocmhbmameaaDoorCV8
import Derived.Test.YtfkdocmhbmameaaDoorCV9
import Derived.Test.YtfkdocmhbmameaaDoorCV10
import Derived.Test.YtfkdocmhbmameaaDoorCV11
import Derived.Test.YtfkdocmhbmameaaDoorCV12
import Derived.Test.YtfkdocmhbmameaaDoorCV13
import Derived.Test.YtfkdocmhbmameaaDoorCV14
import Derived.Test.YtfkdocmhbmameaaDoorCV15
import Derived.Test.YtfkdocmhbmameaaDoorCV16
import Derived.Test.YtfkdocmhbmameaaDoorCV17
import Derived.Test.YtfkdocmhbmameaaDoorCV18
import Derived.Test.YtfkdocmhbmameaaDoorCV19
import Derived.Test.YtfkdocmhbmameaaDoorCV20
import Derived.Test.YtfkdocmhbmameaaDoorCV21
import Derived.Test.YtfkdocmhbmameaaDoorCV22
import Derived.Test.YtfkdocmhbmameaaDoorCV23
import Derived.Test.YtfkdocmhbmameaaDoorCV24
import Derived.Test.YtfkdocmhbmameaaDoorCV25
import Derived.Test.YtfkdocmhbmameaaDoorCV26
import Derived.Test.YtfkdocmhbmameaaDoorCV27
namespace Go.Proofs.YtfkdocmhbmameaaDoor.packNever
open Go.ChangeShapes Go.WideShapes Go.ChangeAt Go.RowKit
open Go.ChangeMaps (open_string shut_string)
set_option linter.unusedVariables false
theorem own : ownKnob Tryd.prog.godebug = none := by kernel_rfl
theorem laidOut : laidOutB Tryd.prog = true := by kernel_rfl
def IsRow (k : IntKind) (w : World) (a : Option Addr) (len cap : Nat) (zs : List Int) : Prop :=
 (a = none ∧ len = 0 ∧ cap = 0 ∧ zs = []) ∨
 ∃ x, a = some x ∧ len ≤ cap ∧ cap ≤ maxLen ∧ zs.length = cap ∧ (∀ i, i < zs.length → w.cell? (x.add i) = some (.int k (zs.getD i 0))) ∧ ∀ n ∈ zs, (Lit.int k n).wf = true
set_option maxRecDepth 100000 in
theorem lifted (os : Os) (started : os.Started) (H : Type) (enc : TypeId × Value → H) :
  ReturnsInHanded {} Tryd.checked os 4 .any (fun w args => (Rows.packNeverSpec.pre enc Tryd.prog Tryd.f4 Rows.packNeverRow.domain false w args ∧ laidMetH Tryd.prog Rows.packNeverRow.laid w) ∧ sizedMet enc Tryd.prog Tryd.f4 (OpenSpec.ofChange Rows.packNeverSpec) false w args) (Rows.packNeverSpec.post enc Tryd.prog Tryd.f4 false true false false) := by
 refine returnsInHanded_of_calls own started (by kernel_rfl)
  (ChangeSpec.witness_shaped (enc := enc) (C := Tryd.checked) (os := os) (X := fun w _ => laidMetH Tryd.prog Rows.packNeverRow.laid w) false (World.laidAll Tryd.prog os Rows.packNeverRow.laid) #[.slice none 0 0, (.agg #[(.string ⟨#[]⟩), (.string ⟨#[]⟩), (.bool false)])] 8 (World.laidAll_os _ _ _)
   (World.shaped_of_ZipB (by kernel_rfl) (by kernel_rfl)) (by kernel_rfl) (by kernel_rfl) (by kernel_rfl)
   (by rw [MakeChecks.laidMetH_plain _ _ _ (by kernel_rfl)]; exact laidMet_laidAll _ (by kernel_rfl) (by kernel_rfl))) ?_
 intro w tape i _ hsh _ hok hpre _
 obtain ⟨_, _, _, fn', hfn', _, _, _, _, hval0⟩ := hok
 obtain rfl : fn' = Tryd.f4 := Option.some.inj (hfn'.symm.trans Tryd.func4)
 obtain ⟨⟨⟨ds, gs, before, hW0, _⟩, _⟩, hz⟩ := hpre
 have hsz : (DataW.weightsEach Tryd.prog (Tryd.f4.params.toList ++ Rows.packNeverSpec.plain.varTypes Tryd.prog) (ds ++ gs)).all (· ≤ reachBytes) = true := hz.weights hW0
 have hE : Mine.EnvW (w.forCall tape i) := Go.Proofs.cell_of_shapedOpen_int (zero := #[.int .i64 0]) (t := 3) hsh (of_decide_eq_true (by kernel_rfl)) (by kernel_rfl) rfl (by kernel_rfl) (by kernel_rfl) Tryd.underlying3
 suffices hs : Calls Tryd.prog 4 i.args (w.forCall tape i) fun e W' => ∃ v, e = .returned v ∧ Rows.packNeverSpec.post enc Tryd.prog Tryd.f4 false true false false (w.forCall tape i) i.args v W' by
  refine hs.mono fun e W' ⟨v, he, hp⟩ => ?_
  subst he
  exact ChangeSpec.post_blind hp
 have hW := DataW.Whole.of_heap (w' := w.forCall tape i) (by rfl) hW0
 clear hsh hz hW0
 generalize i.args = args at hval0 hW hsz ⊢
 obtain ⟨base, hbase⟩ : ∃ b, w.heap.size = b := ⟨_, rfl⟩
 rw [hbase] at hval0
 generalize w.forCall tape i = W at hval0 hW hE ⊢
 have hval : ∀ (j : Nat) t v, Tryd.f4.params[j]? = some t → args[j]? = some v → Value.okWide Tryd.prog W .any base t v := hval0
 have hW' := hW
 obtain ⟨p, q, hA0, hV, rfl, hfz, hnd⟩ := hW
 have hA : DataW.TrodAll enc Tryd.prog W 0 (fun _ => true) true Tryd.f4.params.toList args.toList ds p := hA0
 rw [Tryd.params4] at hA hval hsz
 obtain ⟨v0, vs0, d0, ds0, p0, q0, hargs, rfl, rfl, h0, r0⟩ := trodAll_cons hA
 obtain ⟨v1, vs1, d1, ds1, p1, q1, rfl, rfl, rfl, h1, r1⟩ := trodAll_cons r0
 obtain ⟨rfl, rfl, rfl⟩ := trodAll_nil r1
 obtain rfl : args = #[v0, v1] := by cases args; simp_all
 obtain ⟨rfl, rfl⟩ := trodVars_none hV
 have k0 := h0
 have lt0 : ∀ x ∈ p0, x.block < W.heap.size := by obtain ⟨m, hm⟩ := k0; exact DataW.trod_lt m _ _ _ hm
 obtain ⟨A0, len0, c0, rfl⟩ := okWide_slice Tryd.underlying33 (hval 0 33 v0 rfl rfl)
 obtain ⟨l0, rfl, hr0, hc0, w0⟩ := Go.Proofs.YtfkdocmhbmameaaDoorW.PrintWords.open_any_slice (d := Mine.k44) (Go.Proofs.YtfkdocmhbmameaaDoorW.PrintWords.Opens.slice (d := Mine.k44) Mine.k44_opens Tryd.underlying33 (by kernel_rfl) (B := 32) (by kernel_rfl)) hsz (j := 0) (t := 33) rfl rfl h0
 have k1 := h1
 have lt1 : ∀ x ∈ p1, x.block < W.heap.size := by obtain ⟨m, hm⟩ := k1; exact DataW.trod_lt m _ _ _ hm
 obtain ⟨cs1, y1, rfl, hk1, wy1⟩ := Go.Proofs.YtfkdocmhbmameaaDoorW.PrintWords.open_any_struct Mine.k26_opens Tryd.underlying26 (hval 1 26 v1 rfl rfl) hsz (j := 1) (t := 26) rfl rfl h1
 have hk1_ := Mine.k26_open hk1
 subst hk1_
 obtain ⟨w1_0, w1_1, w1_2⟩ := wy1
 clear hA0 hval0 hsz
 refine (Mine.nunciolaw13_PackNever.walk Pure.PackNever _ _ l0 y1.f0 y1.f1 y1.f2 W hE hr0 hc0 w0 w1_0 w1_1).mono fun e W' ⟨he, bel⟩ => ?_
 subst he
 exact ⟨_, rfl, _, _, _, [], _, [], hW', trodAll_mk1 (shut_bool Tryd.underlying4 _), (trodAll_cons_mk (Below.trod laidOut (by kernel_rfl) (of_decide_eq_true (by kernel_rfl)) k0 bel lt0) (trodAll_cons_mk (Below.trod laidOut (by kernel_rfl) (of_decide_eq_true (by kernel_rfl)) k1 bel lt1) trodAll_mk0)), rfl, bel.frame _, fun h => by cases h⟩
theorem over : Rows.packNeverRow.holds Tryd.pinned (OpenSpec.ofChange Rows.packNeverSpec) :=
 OpenClaim.holds_of_wide 4 Tryd.f4 rfl rfl rfl rfl rfl rfl rfl ⟨rfl, rfl, rfl, rfl, rfl⟩ rfl rfl rfl rfl rfl (by kernel_rfl) Tryd.func4 (by kernel_rfl)
  (of_decide_eq_true (by kernel_rfl)) (by unfold Func.isWrapper; first | (rw [if_pos (by decide +kernel)]; kernel_rfl) | (rw [if_neg (by decide +kernel)]; exact ⟨rfl, rfl⟩))
  (fun os started H enc _ => lifted os started H enc)
theorem proved : Rows.PackNeverCardSaid :=
 Claim7.holds_tied_plain_at .later [] [.data, .pinned] true (true, "eea5b88144d257cb52e5e1be1609d500d2d2b643a9db528c5a38c5867f05c6c1") true over (fun _ h => by cases h) (by kernel_rfl) (fun _ h => by cases h) packNever_row_tie rfl ⟨rfl, rfl⟩ (by kernel_rfl) rfl
  (fun f fn hf hfn => by
   obtain rfl : f = 4 := Option.some.inj ((show Tryd.prog.funcNamed "nuncio/nunciolaw13.PackNever" = some 4 by kernel_rfl).symm.trans hf) |>.symm
   obtain rfl : fn = Tryd.f4 := (Option.some.inj (Tryd.func4.symm.trans hfn)).symm
   exact ⟨by kernel_rfl, fun j t ht => by
    rw [Tryd.params4] at ht
    have hm : t ∈ [33, 26] := by simpa using Array.mem_of_getElem? ht
    have hall : ([33, 26].all fun u => !Tryd.prog.wantsStandIn u) = true := by kernel_rfl
    exact (show Tryd.prog.wantsStandIn t = false by simpa using List.all_eq_true.1 hall t hm)⟩)
  (by kernel_rfl)
#print axioms proved
end Go.Proofs.YtfkdocmhbmameaaDoor.packNever
namespace Go.Proofs.YtfkdocmhbmameaaDoor
theorem packNever_holds : Rows.PackNeverCardSaid := packNever.proved
end Go.Proofs.YtfkdocmhbmameaaDoor
