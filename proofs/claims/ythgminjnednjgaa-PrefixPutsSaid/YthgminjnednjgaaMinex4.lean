-- Written by this repo's own printer (wip/print), which builds on the kit's.
import Derived.Test.YthgminjnednjgaaMinex0
import Derived.Test.YthgminjnednjgaaMinex1
import Derived.Test.YthgminjnednjgaaMinex3
namespace Go.Proofs.Ythgminjnednjgaa.Mine
open Go.RowKit Go.Proofs.YthgminjnednjgaaW.PrintWords Go.Proofs.YthgminjnednjgaaW.PrintLast Go.Proofs.YthgminjnednjgaaW.PrintMore
attribute [local go_sem] max2_int min2_int max_two min_two max_three min_three max_four min_four   -- for this text's walks alone
set_option linter.unusedVariables false
set_option linter.unusedSimpArgs false

/-! ### nunciolaw09_PrefixPuts: function 3 (by hand) -/
def nunciolaw09_PrefixPuts.f (k : Nat) (l0 : List Int) (a1 : Int) (a2 : Int) (a3 : Int) : Option Bool :=
 (nunciolaw09_awake.f k).bind fun t => if t = true then (if (l0.length : Int) > 20000 then some true else (prefix_Put.f k l0 a1 a2 a3).bind fun g => (nuncioref09_Put.f k (strOfNums l0) a1 a2 a3).bind fun q => some (decide (strOfNums g = q))) else some false
section
variable {P : Program} {ops : Array Oper} {rest : List Oper} {o : Oper} {a : Act} {Q : Exit → Act → World → Prop}
theorem pp_make (w : World) (hg : o.guard = none) (l c : Operand) (t : TypeId) (hop : o.op = Op.makeSlice t l c)
  (e : TypeId) (i : TypeInfo) (h1 : P.underlying t = some (.slice e)) (h2 : P.info? e = some i) (h3 : i.zero = some (.int .u8 0)) (h4 : i.size = 1) (h5 : i.bytes = 1)
  (C : Int) (n : Nat) (hl : a.eval l = .int .i64 0) (hc : a.eval c = .int .i64 C) (hC : C = (n : Int)) (b2 : n ≤ 30000)
  (hK : wpList P ops Q rest (a.put o.dst (.slice (some ⟨w.heap.size, 0, none⟩) 0 n)) (w.alloc (.cells (madeCells (Value.int .u8 0).cells n) e))) :
  wpList P ops Q (o :: rest) a w := by
 refine wpList_plain hg fun K hK' => ?_
 have hr := run_make (P := P) w t e i _ h1 h2 h3 .i64 .i64 0 C (Int.le_refl _) (by omega) (by rw [h5]; omega) (by omega)
 rw [h4, hC] at hr
 simp only [Int.toNat_zero, Int.toNat_natCast, Nat.mul_one] at hr
 subst hC
 unfold Oper.wp
 simp [execOp, hop, hl, hc, hr, Result.andThen]
 exact hK' _ _ hK
theorem pp_below {B b : Nat} {w0 : World} (hb : B ≤ b) : ∀ (vs : List Value) (o : Nat) (w : World), Below B w0 w → Below B w0 (w.setCells b o vs)
 | [], _, _, h => h
 | v :: r, o, w, h => pp_below hb r (o + 1) _ (h.setCell (by exact hb) v)
theorem pp_append (w W : World) (hg : o.guard = none) (s x : Operand) (t : TypeId) (hop : o.op = Op.call { callee := Callee.builtin Builtin.append, args := #[s, x], argTypes := #[t, t] })
  (e : TypeId) (i : TypeInfo) (h1 : P.underlying t = some (.slice e)) (h2 : P.info? e = some i) (h4 : i.size = 1)
  (n : Nat) (hW : W = w.alloc (.cells (madeCells (Value.int .u8 0).cells (n + 12)) e)) (xs : List Int) (A : Option Addr) (c : Nat) (hx : Kd.C (Kd.int .u8) w A n xs)
  (hs : a.eval s = .slice (some ⟨w.heap.size, 0, none⟩) 0 (n + 12)) (hx' : a.eval x = .slice A n c)
  (hK : ∀ w2, Below w.heap.size w w2 → Kd.C (Kd.int .u8) w2 (some ⟨w.heap.size, 0, none⟩) n xs → Kd.C (Kd.int .u8) w2 (some ⟨w.heap.size, n, none⟩) 12 (List.replicate 12 0) → wpList P ops Q rest (a.put o.dst (.slice (some ⟨w.heap.size, 0, none⟩) n (n + 12))) w2) :
  wpList P ops Q (o :: rest) a W := by
 have hn : xs.length = n := hx.1
 have hM : n ≤ 9223372036854775807 := hx.2.1
 have hx0 : ReadsInt w .u8 A n xs := Kd.reads_of_C (enc := Value.int .u8) (d := (0 : Int)) (h1 := fun _ => rfl) hx
 have hH : W.heap[w.heap.size]? = some (.cells (madeCells (Value.int .u8 0).cells (n + 12)) e (0, 0)) := by rw [hW]; exact blk_new _ _
 have hz : ∀ j, j < n + 12 → W.cell? ⟨w.heap.size, j, none⟩ = some (.int .u8 0) := by
  intro j hj
  rw [blk_cell hH j, ← Array.getElem?_toList, show (Value.int .u8 0).cells = #[Value.int .u8 0] from rfl, toList_madeCells_one]
  simp [hj]
 have hBW : Below w.heap.size w W := by rw [hW]; exact below_alloc (Below.refl _ _) _
 have hcw : Kd.C (Kd.int .u8) W A n xs := Kd.C_below hx hBW
 clear hW
 have hrep : ∀ j, j < 12 → (List.replicate 12 (0 : Int)).getD j 0 = 0 := fun j hj => by rw [List.getD_eq_getElem?_getD, List.getElem?_replicate, if_pos hj]; rfl
 refine wpList_plain hg fun K hK' => ?_
 rcases A with _ | ad
 ·
  have h0 : n = 0 := by
   rcases Nat.eq_zero_or_pos n with h0 | h0
   · exact h0
   ·
    obtain ⟨ad, h', _⟩ := hx0.2.2 h0
    cases h'
  subst h0
  obtain rfl : xs = [] := List.eq_nil_of_length_eq_zero hn
  have hrun : (Builtin.append_ #[t, t] o.type #[.slice (some ⟨w.heap.size, 0, none⟩) 0 12, .slice none 0 c]).run P W = .ok (.slice (some ⟨w.heap.size, 0, none⟩) 0 12) W := by
   simp [Builtin.append_, run_underlying h1, sizeOf, typeInfo, h2, Builtin.lenOf, Builtin.firstCells, storeCells]
  simp only [Nat.zero_add] at hs hK
  unfold Oper.wp
  simp [execOp, hop, resolve, invoke, builtin, hs, hx', hrun, Result.andThen]
  refine hK' _ _ (hK W hBW (Kd.C_of_reads (d := (0 : Int)) (h1 := fun _ => rfl) ⟨rfl, by omega, fun h => absurd h (by omega)⟩) ?_)
  refine Kd.C_of_reads (d := (0 : Int)) (h1 := fun _ => rfl) ⟨rfl, by omega, fun _ => ⟨_, rfl, fun j hj => ?_⟩⟩
  rw [Addr.add_lit, hz _ (by omega)]
  rw [hrep j hj]
 ·
  have hcW : ∀ j u, (xs.map (Value.int .u8))[j]? = some u → W.cell? (ad.add j) = some u := by
   intro j u hu
   have hj : j < n := by
    have := (List.getElem?_eq_some_iff.1 hu).1
    simpa [hn] using this
   have hr : ReadsInt W .u8 (some ad) n xs := Kd.reads_of_C (enc := Value.int .u8) (d := (0 : Int)) (h1 := fun _ => rfl) hcw
   obtain ⟨ad', he, hc⟩ := hr.2.2 (by omega)
   injection he with he
   subst he
   rw [hc j hj]
   rw [List.getElem?_map, List.getElem?_eq_getElem (by omega)] at hu
   simp at hu
   subst hu
   simp [List.getD_eq_getElem?_getD, List.getElem?_eq_getElem (show j < xs.length by omega)]
  have hlen : (xs.map (Value.int .u8)).length = n := by simp [hn]
  have hrun := run_append_room_cells (P := P) W t o.type e i h1 h2 w.heap.size 0 0 (n + 12) ad n c (xs.map (Value.int .u8)) (by rw [hlen, h4, Nat.mul_one]) hcW
   (by intro u hu; obtain ⟨x, _, rfl⟩ := List.mem_map.1 hu; rfl) (by omega)
   (by intro j hj; rw [Nat.zero_mul, Nat.zero_add, hz j (by omega)]; rfl) (by intro j hj; exact blk_frozen hH _)
  rw [Nat.zero_mul, Nat.zero_add, Nat.zero_add] at hrun
  unfold Oper.wp
  simp [execOp, hop, resolve, invoke, builtin, hs, hx', hrun, Result.andThen]
  have hsome : ∀ j, j < (xs.map (Value.int .u8)).length → (W.cell? ⟨w.heap.size, 0 + j, none⟩).isSome = true := by
   intro j hj
   rw [Nat.zero_add, hz j (by omega)]
   rfl
  refine hK' _ _ (hK (W.setCells w.heap.size 0 (xs.map (Value.int .u8))) ?_ (Kd.C_of_reads (d := (0 : Int)) (h1 := fun _ => rfl) ⟨hn, by omega, fun _ => ⟨_, rfl, fun j hj => ?_⟩⟩) (Kd.C_of_reads (d := (0 : Int)) (h1 := fun _ => rfl) ⟨rfl, by omega, fun _ => ⟨_, rfl, fun j hj => ?_⟩⟩))
  · exact pp_below (Nat.le_refl _) _ _ _ hBW
  ·
   rw [Addr.add_lit, World.cell?_setCells_in _ _ _ _ hsome j (by omega)]
   simp [List.getD_eq_getElem?_getD, List.getElem?_eq_getElem (show j < xs.length by omega)]
  ·
   rw [Addr.add_lit, World.cell?_setCells_out _ _ _ _ _ (fun _ _ => Or.inr (by simp [hn])), hz _ (by omega)]
   rw [hrep j hj]
theorem pp_take {md : Region.Mode} {i : Nat} {oi : Oper} {d : Tmp} {v : Value} {fuel : Nat} {listed : Array Bool} {a : Act} {w : World} (hi : ops[i]? = some oi) (hd : oi.dst = some d)
  (hs : Region.noSelect ops = true) (hf : Region.free md ops listed i = true) (hr : (Region.ready md ops listed).contains i = true)
  (hQ : ∀ c a w, Q (.panic c) (a.put oi.dst v) w → Q (.panic c) a w) (hw : Region.wanted oi (yielded ops a.tmps) = true) (hy : ∀ w, (execOp a.eval oi).run P w = .ok (.value v) w)
  (h : wpAny P md ops Q fuel (listed.setIfInBounds i true) (a.put (some d) v) w) : wpAny P md ops Q (fuel + 1) listed a w :=
 wpAny_take hi hs hf hr hQ (.inl ⟨hw, hy⟩) (by rw [hd]; exact h)
theorem pp_all (t e : TypeId) {i : TypeInfo} (ht : P.underlying t = some (.slice e)) (hi : P.info? e = some i) (A : Option Addr) (n N : Nat) (j : Int) (hj : j = (N : Int)) :
  ∀ W : World, (Instr.slice t (.slice A n N) none (some (.int .i64 j)) none).run P W = .ok (.slice A N N) W := by
 intro W
 subst hj
 have hel : P.elem t = e := by simp [Program.elem, ht]
 have hu : P.underlying t = some (.slice (P.elem t)) := by rw [hel]; exact ht
 have ha : (A.map fun x => x.add 0) = A := by cases A <;> simp [Addr.add]
 rw [run_slice_h W t A n N hu .i64 N (by omega) (by omega), hel]
 simp [sizeOf, typeInfo, hi, sliced, Result.andThen, ha]
theorem pp_spare (t e : TypeId) {i : TypeInfo} (ht : P.underlying t = some (.slice e)) (hi : P.info? e = some i) (h4 : i.size = 1) (g n N : Nat) (hN : N = n + 12) (j : Int) (hj : j = (n : Int) + 12) :
  ∀ W : World, (Instr.slice t (.slice (some ⟨g, 0, none⟩) N N) (some (.int .i64 (n : Int))) (some (.int .i64 j)) none).run P W = .ok (.slice (some ⟨g, n, none⟩) 12 12) W := by
 intro W
 subst hj hN
 have hel : P.elem t = e := by simp [Program.elem, ht]
 have hu : P.underlying t = some (.slice (P.elem t)) := by rw [hel]; exact ht
 rw [run_slice_lh W t _ _ _ hu .i64 .i64 n ((n : Int) + 12) (by omega) (by omega) (by omega), hel]
 have e1 : ((n : Int) + 12).toNat = n + 12 := by omega
 simp [sizeOf, typeInfo, hi, sliced, Result.andThen, h4, e1, Addr.add]
 omega
end
set_option maxHeartbeats 4000000 in
set_option maxRecDepth 100000 in
theorem nunciolaw09_PrefixPuts.calls (k : Nat) (A0 : Option Addr) (c0 : Nat) (l0 : List Int) (a1 : Int) (a2 : Int) (a3 : Int) (r : Bool) (w : World) (hr0 : Kd.C (Kd.int .u8) w A0 l0.length l0) (hc0 : l0.length ≤ c0) (h : nunciolaw09_PrefixPuts.f k l0 a1 a2 a3 = some r) (hT : r = true) :
  Calls Try.prog 3 #[.slice A0 l0.length c0, .int .u8 a1, .int .i64 a2, .int .u64 a3] w fun e w' => e = .returned (.bool r) ∧ Below w.heap.size w w' := by
 subst hT
 obtain ⟨t, ha, H⟩ := Option.bind_eq_some_iff.mp h
 clear h
 have HB := Aside0.mk (Below.refl w.heap.size w)
 have HR0 := Aside0.mk hr0
 have HC0 := Aside0.mk hc0
 clear hr0 hc0
 cases t with
 | false => exact absurd H (by simp)
 | true =>
  rw [if_pos rfl] at H
  have HA := Aside0.mk ha
  clear ha
  by_cases c1 : (l0.length : Int) > 20000
  ·
   rw [if_pos c1] at H
   clear H
   have c1b0 : decide (20000 < (l0.length : Int)) = true := decide_eq_true c1
   have c1b1 : decide (20000 < l0.length) = true := decide_eq_true (by omega)
   clear c1
   go_enter Try.func3, Try.ntmps3
   go_wp2_with (first | ((with_reducible refine gate_callee (f := 8) rfl ?_); refine goesL_ (some 11) rfl rfl Try.func8 (by kernel_rfl) rfl #[] rfl (by (try simp only [List.map_toArray, List.map_cons, List.map_nil]); first | done | rfl) ?_; (with_reducible refine (nunciolaw09_awake.calls k true _ HA.out).mono ?_); rintro e w9 ⟨rfl, hb⟩; refine ⟨_, rfl, ?_⟩; have n1_ := Aside0.mk (below_step HB.out hb); clear HB; have HB := n1_; clear n1_ hb))
   go_ret
   exact ⟨rfl, HB.out⟩
  ·
   rw [if_neg c1] at H
   obtain ⟨g, hg, H⟩ := Option.bind_eq_some_iff.mp H
   obtain ⟨q, hq, H⟩ := Option.bind_eq_some_iff.mp H
   have he : strOfNums g = q := by simpa using H
   clear H
   subst he
   have HG := Aside0.mk hg
   have HQ := Aside0.mk hq
   clear hg hq
   have c1b0 : decide (20000 < (l0.length : Int)) = false := decide_eq_false c1
   have c1b1 : decide (20000 < l0.length) = false := decide_eq_false (by omega)
   have LL : l0.length ≤ 20000 := by omega
   clear c1
   obtain ⟨i0, hi0, hz0, hs0, hy0⟩ := info_parts info5
   go_enter Try.func3, Try.ntmps3
   go_wp2_with (first | ((with_reducible refine gate_callee (f := 8) rfl ?_); refine goesL_ (some 11) rfl rfl Try.func8 (by kernel_rfl) rfl #[] rfl (by (try simp only [List.map_toArray, List.map_cons, List.map_nil]); first | done | rfl) ?_; (with_reducible refine (nunciolaw09_awake.calls k true _ HA.out).mono ?_); rintro e w9 ⟨rfl, hb⟩; refine ⟨_, rfl, ?_⟩; have n1_ := Aside0.mk (below_step HB.out hb); clear HB; have HB := n1_; clear n1_ hb) | ((with_reducible refine gate_dst (N := 19) rfl ?_); at_make; refine pp_make _ rfl _ _ _ rfl _ _ Try.underlying22 hi0 hz0 hs0 hy0 _ (l0.length + 12) rfl rfl (by omega) (by omega) ?_) | ((with_reducible refine gate_builtin (b := .append) (xs := #[.tmp 19, .tmp 20]) rfl ?_); at_builtin; refine pp_append _ _ rfl _ _ _ rfl _ _ Try.underlying22 hi0 hs0 l0.length rfl l0 A0 c0 (Kd.C_below HR0.out HB.out) rfl rfl ?_; intro w2 hb hc1 hc2; have n0' := Aside0.mk (Kd.C_below (Kd.C_below HR0.out HB.out) (Below.refl _ _)); have n1_ := Aside0.mk (below_step HB.out hb); have n0_ := Aside0.mk (Kd.C_below HR0.out n1_.out); clear n0'; have n0' := n0_; have HM := Aside0.mk hc1; have HZ := Aside0.mk hc2; clear HB; have HB := n1_; clear n0_ n1_ hb hc1 hc2) | ((with_reducible refine gate_callee (f := 9) rfl ?_); refine goesL_ (some 26) rfl rfl Try.func9 (by kernel_rfl) rfl #[.slice (some ⟨w9.heap.size, 0, none⟩) l0.length (l0.length + 12), .int .u8 a1, .int .i64 a2, .int .u64 a3] rfl (by (try simp only [List.map_toArray, List.map_cons, List.map_nil]); first | done | rfl) ?_; (with_reducible refine (prefix_Put.calls k _ _ l0 a1 a2 a3 g _ HM.out (by omega) HG.out).mono ?_); rintro e w3 ⟨v0, rfl, ho0, hb⟩; refine ⟨_, rfl, ?_⟩; obtain ⟨A9, c9, e9⟩ := Kd.R_slice ho0; subst e9; have HP := Aside0.mk (Kd.R_reads' ho0).2.2; clear ho0; have n1_ := Aside0.mk (below_step HB.out hb); have n2_ := Aside0.mk (Kd.C_below HM.out hb); have n3_ := Aside0.mk (Kd.C_below HZ.out hb); have n4_ := Aside0.mk (Kd.C_below n0'.out hb); clear HB HM HZ n0'; have HB := n1_; have HM := n2_; have HZ := n3_; have HS := n4_; clear n1_ n2_ n3_ n4_ hb))
   obtain ⟨sz, esz⟩ : ∃ s, s = strOfNums (List.replicate 12 0) := ⟨_, rfl⟩
   have hz12 : sz.toList = ([0, 0, 0, 0, 0, 0, 0, 0, 0, 0, 0, 0] : List UInt8) := by rw [esz]; decide +kernel
   have hz12b0 : (sz.toList == ([0, 0, 0, 0, 0, 0, 0, 0, 0, 0, 0, 0] : List UInt8)) = true := beq_iff_eq.mpr hz12
   clear hz12
   have ESZ := Aside0.mk esz.symm
   clear esz
   obtain ⟨sl, esl⟩ : ∃ s, s = strOfNums l0 := ⟨_, rfl⟩
   obtain ⟨sg, esg⟩ : ∃ s, s = strOfNums g := ⟨_, rfl⟩
   rw [← esl, ← esg] at HQ
   have ESL := Aside0.mk esl.symm
   have ESG := Aside0.mk esg.symm
   clear esl esg
   have bsl : (sl.toList == sl.toList) = true := beq_iff_eq.mpr rfl
   have bsg : (sg.toList == sg.toList) = true := beq_iff_eq.mpr rfl
   have hcv1 := Kd.C_string (P := Try.prog) (w := w3.drew) (A := A9) (c := c9) Try.underlying22 Try.underlying5 Try.underlying9 (Kd.C_drew HP.out)
   have hcv2 := Kd.C_string (P := Try.prog) (w := w3.drew) (A := A0) (c := c0) Try.underlying22 Try.underlying5 Try.underlying9 (Kd.C_drew HS.out)
   rw [ESG.out] at hcv1
   rw [ESL.out] at hcv2
   have hwr : IntKind.i64.wrap ((l0.length : Int) + 12) = (l0.length : Int) + 12 := by rw [IntKind.wrap_i64]; omega
   have hsl1 := pp_all (P := Try.prog) 22 _ Try.underlying22 hi0 (some ⟨w9.heap.size, 0, none⟩) l0.length (l0.length + 12) ((l0.length : Int) + 12) (by omega)
   have hsl2 := pp_all (P := Try.prog) 22 _ Try.underlying22 hi0 (some ⟨w9.heap.size, 0, none⟩) l0.length (l0.length + 12) ((l0.length + 12 : Nat) : Int) rfl
   have hsl3 := pp_spare (P := Try.prog) 22 _ Try.underlying22 hi0 hs0 w9.heap.size l0.length (l0.length + 12) rfl ((l0.length : Int) + 12) rfl
   go_region_with (first | (go_at_call 10; (with_reducible refine (nuncioref09_Put.calls k sl a1 a2 a3 sg _ HQ.out).mono ?_); rintro e w4 ⟨rfl, hb4⟩; have HB4 := Aside0.mk (below_step (below_drew1 HB.out) hb4); have hcv3 := Kd.C_string (P := Try.prog) (A := A0) (c := c0) Try.underlying22 Try.underlying5 Try.underlying9 (Kd.C_below (Kd.C_drew HS.out) hb4); have hcv4 := Kd.C_string (P := Try.prog) (c := l0.length + 12) Try.underlying22 Try.underlying5 Try.underlying9 (Kd.C_below (Kd.C_drew HM.out) hb4); have hcv5 := Kd.C_string (P := Try.prog) (c := 12) Try.underlying22 Try.underlying5 Try.underlying9 (Kd.C_below (Kd.C_drew HZ.out) hb4); rw [ESL.out] at hcv3; rw [ESL.out] at hcv4; rw [ESZ.out] at hcv5; have hcv6 := Kd.C_string (P := Try.prog) (w := w4) (A := A9) (c := c9) Try.underlying22 Try.underlying5 Try.underlying9 (Kd.C_below (Kd.C_drew HP.out) hb4); rw [ESG.out] at hcv6; dsimp only; refine (by assumption : ∀ (a : Act) (w : World), wpAny _ _ _ _ _ _ a w → _) _ _ ?_; (first | (refine pp_take (i := 8) (v := .bool true) rfl rfl ?_ ?_ ?_ (fun _ _ _ h => h) ?_ ?_ ?_; kernel_rfl; kernel_rfl; kernel_rfl; rfl; (focus (intro w; go_simp; (try with_reducible rfl); done)); (try simp only [Act.put, List.setIfInBounds_toArray, List.set_cons_zero, List.set_cons_succ])) | ((refine wpAny_ready (rs := [1]) (by kernel_rfl) (by simp) ?_; refine AllReady.cons rfl (fun K hK => ?_) AllReady.nil; go_simp; refine hK _ _ ?_; clear hK K); (refine pp_take (i := 8) (v := .bool true) rfl rfl ?_ ?_ ?_ (fun _ _ _ h => h) ?_ ?_ ?_; kernel_rfl; kernel_rfl; kernel_rfl; rfl; (focus (intro w; go_simp; (try with_reducible rfl); done)); (try simp only [Act.put, List.setIfInBounds_toArray, List.set_cons_zero, List.set_cons_succ])))); (refine pp_take (i := 9) (v := .bool true) rfl rfl ?_ ?_ ?_ (fun _ _ _ h => h) ?_ ?_ ?_; kernel_rfl; kernel_rfl; kernel_rfl; rfl; (focus (intro w; go_simp; (try with_reducible rfl); done)); (try simp only [Act.put, List.setIfInBounds_toArray, List.set_cons_zero, List.set_cons_succ])); (refine pp_take (i := 10) (v := ?_) rfl rfl ?_ ?_ ?_ (fun _ _ _ h => h) ?_ ?_ ?_; rotate_left; kernel_rfl; kernel_rfl; kernel_rfl; rfl; (focus (intro w; go_simp; (try with_reducible rfl); done)); (try simp only [Act.put, List.setIfInBounds_toArray, List.set_cons_zero, List.set_cons_succ])); (refine pp_take (i := 11) (v := ?_) rfl rfl ?_ ?_ ?_ (fun _ _ _ h => h) ?_ ?_ ?_; rotate_left; kernel_rfl; kernel_rfl; kernel_rfl; rfl; (focus (intro w; go_simp; (try with_reducible rfl); done)); (try simp only [Act.put, List.setIfInBounds_toArray, List.set_cons_zero, List.set_cons_succ])); (refine pp_take (i := 12) (v := ?_) rfl rfl ?_ ?_ ?_ (fun _ _ _ h => h) ?_ ?_ ?_; rotate_left; kernel_rfl; kernel_rfl; kernel_rfl; rfl; (focus (intro w; go_simp; (try with_reducible rfl); done)); (try simp only [Act.put, List.setIfInBounds_toArray, List.set_cons_zero, List.set_cons_succ])); (refine pp_take (i := 13) (v := ?_) rfl rfl ?_ ?_ ?_ (fun _ _ _ h => h) ?_ ?_ ?_; rotate_left; kernel_rfl; kernel_rfl; kernel_rfl; rfl; (focus (intro w; go_simp; (try with_reducible rfl); done)); (try simp only [Act.put, List.setIfInBounds_toArray, List.set_cons_zero, List.set_cons_succ])); (refine pp_take (i := 14) (v := ?_) rfl rfl ?_ ?_ ?_ (fun _ _ _ h => h) ?_ ?_ ?_; rotate_left; kernel_rfl; kernel_rfl; kernel_rfl; rfl; (focus (intro w; go_simp; (try with_reducible rfl); done)); (try simp only [Act.put, List.setIfInBounds_toArray, List.set_cons_zero, List.set_cons_succ])); (refine pp_take (i := 15) (v := ?_) rfl rfl ?_ ?_ ?_ (fun _ _ _ h => h) ?_ ?_ ?_; rotate_left; kernel_rfl; kernel_rfl; kernel_rfl; rfl; (focus (intro w; go_simp; (try with_reducible rfl); done)); (try simp only [Act.put, List.setIfInBounds_toArray, List.set_cons_zero, List.set_cons_succ])); (refine pp_take (i := 16) (v := ?_) rfl rfl ?_ ?_ ?_ (fun _ _ _ h => h) ?_ ?_ ?_; rotate_left; kernel_rfl; kernel_rfl; kernel_rfl; rfl; (focus (intro w; go_simp; (try with_reducible rfl); done)); (try simp only [Act.put, List.setIfInBounds_toArray, List.set_cons_zero, List.set_cons_succ])); (refine pp_take (i := 17) (v := ?_) rfl rfl ?_ ?_ ?_ (fun _ _ _ h => h) ?_ ?_ ?_; rotate_left; kernel_rfl; kernel_rfl; kernel_rfl; rfl; (focus (intro w; go_simp; (try with_reducible rfl); done)); (try simp only [Act.put, List.setIfInBounds_toArray, List.set_cons_zero, List.set_cons_succ])); (refine pp_take (i := 18) (v := .int .i64 ((l0.length : Int) + 12)) rfl rfl ?_ ?_ ?_ (fun _ _ _ h => h) ?_ ?_ ?_; kernel_rfl; kernel_rfl; kernel_rfl; rfl; (focus (intro w; go_simp; (try with_reducible rfl); done)); (try simp only [Act.put, List.setIfInBounds_toArray, List.set_cons_zero, List.set_cons_succ])); (refine pp_take (i := 19) (v := .slice (some ⟨w9.heap.size, l0.length, none⟩) 12 12) rfl rfl ?_ ?_ ?_ (fun _ _ _ h => h) ?_ ?_ ?_; kernel_rfl; kernel_rfl; kernel_rfl; rfl; (focus (intro w; go_simp; (try with_reducible rfl); done)); (try simp only [Act.put, List.setIfInBounds_toArray, List.set_cons_zero, List.set_cons_succ])); (refine wpAny_ready (rs := [20]) (by kernel_rfl) (by simp) ?_; refine AllReady.cons rfl (fun K hK => ?_) AllReady.nil; go_simp; refine hK _ _ ?_; clear hK K); (refine wpAny_ready (rs := [21]) (by kernel_rfl) (by simp) ?_; refine AllReady.cons rfl (fun K hK => ?_) AllReady.nil; go_simp; refine hK _ _ ?_; clear hK K); (refine wpAny_ready (rs := [22]) (by kernel_rfl) (by simp) ?_; refine AllReady.cons rfl (fun K hK => ?_) AllReady.nil; go_simp; refine hK _ _ ?_; clear hK K); (refine wpAny_ready (rs := [23]) (by kernel_rfl) (by simp) ?_; refine AllReady.cons rfl (fun K hK => ?_) AllReady.nil; go_simp; refine hK _ _ ?_; clear hK K); (refine pp_take (i := 24) (v := ?_) rfl rfl ?_ ?_ ?_ (fun _ _ _ h => h) ?_ ?_ ?_; rotate_left; kernel_rfl; kernel_rfl; kernel_rfl; rfl; (focus (intro w; go_simp; (try with_reducible rfl); done)); (try simp only [Act.put, List.setIfInBounds_toArray, List.set_cons_zero, List.set_cons_succ])); (refine pp_take (i := 26) (v := ?_) rfl rfl ?_ ?_ ?_ (fun _ _ _ h => h) ?_ ?_ ?_; rotate_left; kernel_rfl; kernel_rfl; kernel_rfl; rfl; (focus (intro w; go_simp; (try with_reducible rfl); done)); (try simp only [Act.put, List.setIfInBounds_toArray, List.set_cons_zero, List.set_cons_succ])); refine wpAny_ready (rs := [25, 27]) (by kernel_rfl) (by simp) ?_; refine AllReady.cons rfl (fun K hK => ?_) (AllReady.cons rfl (fun K hK => ?_) AllReady.nil); rotate_left; (focus (go_simp; refine hK _ _ ?_; clear hK K; (refine wpAny_ready (rs := [25]) (by kernel_rfl) (by simp) ?_; refine AllReady.cons rfl (fun K hK => ?_) AllReady.nil; go_simp; refine hK _ _ ?_; clear hK K); (refine pp_take (i := 28) (v := .bool true) rfl rfl ?_ ?_ ?_ (fun _ _ _ h => h) ?_ ?_ ?_; kernel_rfl; kernel_rfl; kernel_rfl; rfl; (focus (intro w; go_simp; (try with_reducible rfl); done)); (try simp only [Act.put, List.setIfInBounds_toArray, List.set_cons_zero, List.set_cons_succ])); (refine pp_take (i := 29) (v := .bool true) rfl rfl ?_ ?_ ?_ (fun _ _ _ h => h) ?_ ?_ ?_; kernel_rfl; kernel_rfl; kernel_rfl; rfl; (focus (intro w; go_simp; (try with_reducible rfl); done)); (try simp only [Act.put, List.setIfInBounds_toArray, List.set_cons_zero, List.set_cons_succ])); (refine pp_take (i := 30) (v := .bool true) rfl rfl ?_ ?_ ?_ (fun _ _ _ h => h) ?_ ?_ ?_; kernel_rfl; kernel_rfl; kernel_rfl; rfl; (focus (intro w; go_simp; (try with_reducible rfl); done)); (try simp only [Act.put, List.setIfInBounds_toArray, List.set_cons_zero, List.set_cons_succ])); refine wpAny_done (by kernel_rfl) ?_ _; go_wp2; go_ret; exact ⟨rfl, HB4.out⟩)); go_simp; refine hK _ _ ?_; clear hK K; (refine wpAny_ready (rs := [27]) (by kernel_rfl) (by simp) ?_; refine AllReady.cons rfl (fun K hK => ?_) AllReady.nil; go_simp; refine hK _ _ ?_; clear hK K); (refine pp_take (i := 28) (v := .bool true) rfl rfl ?_ ?_ ?_ (fun _ _ _ h => h) ?_ ?_ ?_; kernel_rfl; kernel_rfl; kernel_rfl; rfl; (focus (intro w; go_simp; (try with_reducible rfl); done)); (try simp only [Act.put, List.setIfInBounds_toArray, List.set_cons_zero, List.set_cons_succ])); (refine pp_take (i := 29) (v := .bool true) rfl rfl ?_ ?_ ?_ (fun _ _ _ h => h) ?_ ?_ ?_; kernel_rfl; kernel_rfl; kernel_rfl; rfl; (focus (intro w; go_simp; (try with_reducible rfl); done)); (try simp only [Act.put, List.setIfInBounds_toArray, List.set_cons_zero, List.set_cons_succ])); (refine pp_take (i := 30) (v := .bool true) rfl rfl ?_ ?_ ?_ (fun _ _ _ h => h) ?_ ?_ ?_; kernel_rfl; kernel_rfl; kernel_rfl; rfl; (focus (intro w; go_simp; (try with_reducible rfl); done)); (try simp only [Act.put, List.setIfInBounds_toArray, List.set_cons_zero, List.set_cons_succ]))))
   all_goals go_wp2
   all_goals go_ret
   all_goals exact ⟨rfl, HB4.out⟩

/-- THE ONE PURE STATEMENT of nunciolaw09_PrefixPuts: yours. -/
def nunciolaw09_PrefixPuts.Pure : Prop := ∀ (l0 : List Int) (a1 : Int) (a2 : Int) (a3 : Int), l0.length ≤ maxLen → l0.length * 1 ≤ 140737488351232 → (∀ x ∈ l0, (Lit.int .u8 x).wf = true) → (Lit.int .u8 a1).wf = true → (Lit.int .i64 a2).wf = true → (Lit.int .u64 a3).wf = true → ∃ k, nunciolaw09_PrefixPuts.f k l0 a1 a2 a3 = some true
theorem nunciolaw09_PrefixPuts.walk (P : nunciolaw09_PrefixPuts.Pure) (a0 : Option Addr) (len0 cap0 : Nat) (z0 : List Int) (a1 : Int) (a2 : Int) (a3 : Int) (w : World) (w0 : (a0 = none ∧ len0 = 0 ∧ cap0 = 0 ∧ z0 = []) ∨ ∃ x, a0 = some x ∧ len0 ≤ cap0 ∧ cap0 ≤ maxLen ∧ z0.length = cap0 ∧ (∀ i, i < z0.length → w.cell? (x.add i) = some (.int .u8 (z0.getD i 0))) ∧ ∀ n ∈ z0, (Lit.int .u8 n).wf = true) (y0 : len0 * 1 ≤ 140737488351232) (w1 : (Lit.int .u8 a1).wf = true) (w2 : (Lit.int .i64 a2).wf = true) (w3 : (Lit.int .u64 a3).wf = true) :
  Calls Try.prog 3 #[.slice a0 len0 cap0, .int .u8 a1, .int .i64 a2, .int .u64 a3] w fun e w' => e = .returned (.bool true) ∧ Below w.heap.size w w' := by
 obtain ⟨l0, rfl, hr0, hm0, hw0, hc0⟩ := ReadsInt.ofRowC w0
 obtain ⟨k, h⟩ := P l0 a1 a2 a3 hm0 y0 hw0 w1 w2 w3
 refine (nunciolaw09_PrefixPuts.calls k _ _ l0 a1 a2 a3 true w (Kd.C_of_reads (d := (0 : Int)) (h1 := fun _ => rfl) hr0) hc0 h rfl).mono ?_
 rintro e w' ⟨rfl, hd⟩
 exact ⟨rfl, hd⟩

end Go.Proofs.Ythgminjnednjgaa.Mine
