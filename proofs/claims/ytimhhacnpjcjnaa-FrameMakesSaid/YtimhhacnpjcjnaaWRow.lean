/- Words of this session's own printer, for the rows of laws: how what came in reads, for whatever kind. -/
import Derived.Test.YtimhhacnpjcjnaaWMore
import Derived.SizedLaws
import Derived.ChangeSlices
import Derived.Deep.Slices
import Derived.Lib.SmallJoins
namespace Go.Proofs.YtimhhacnpjcjnaaW.PrintWords
open Go.RowKit Go.ChangeShapes Go.WideShapes

/-- Whatever is read of type t is a value of kind d, and wf. -/
structure Opens {α : Type} (P : Program) (t : TypeId) (d : Kd α) (wf : α → Prop) : Prop where mk ::
  out : ∀ {H : Type} (enc : TypeId × Value → H) (w : World) (base : Nat) (held : Bool) (fuel : Nat) (cs : List Value) (dd : DataW H) (ps : List MemPlace),
    DataW.trod enc P w base (fun _ => true) held fuel t cs = some (dd, ps) → (∀ n, n ∈ dd.weights P t → n ≤ reachBytes) → ∃ y, d.K w y cs ∧ wf y

theorem cells_of_cells? {w : World} {base : Nat} {a : Addr} {n : Nat} {cs : List Value} (h : w.cells? base a n = some cs) (j : Nat) (u : Value) (hj : cs[j]? = some u) : w.cell? (a.add j) = some u := by
  unfold World.cells? at h
  split at h
  · have hl := mapM_some_length h
    have hjn : j < n := by
      have := (List.getElem?_eq_some_iff.1 hj).1
      simp at hl
      omega
    have h2 := mapM_some_get h j j (by simp [hjn])
    rw [h2]
    exact hj
  · cases h
theorem reach_le {n : Nat} (h : n ≤ reachBytes) : n ≤ 140737488351232 := h
theorem Opens.int {P : Program} {t : TypeId} {k : IntKind} (ht : P.underlying t = some (.int k)) : Opens P t (Kd.int k) (fun n => (Lit.int k n).wf = true) := ⟨fun enc w base held fuel cs dd ps h _ => by
  obtain ⟨n, rfl, _, hw⟩ := DataW.trod_int ht h
  exact ⟨n, rfl, hw⟩⟩
theorem Opens.bool {P : Program} {t : TypeId} (ht : P.underlying t = some .bool) : Opens P t Kd.bool (fun _ => True) := ⟨fun enc w base held fuel cs dd ps h _ => by
  obtain ⟨b, rfl, _⟩ := DataW.trod_bool ht h
  exact ⟨b, rfl, trivial⟩⟩
theorem Opens.string {P : Program} {t : TypeId} (ht : P.underlying t = some .string) : Opens P t Kd.string (fun s => s.size ≤ 140737488351232) := ⟨fun enc w base held fuel cs dd ps h hz => by
  obtain ⟨s, rfl, hx, _⟩ := DataW.trod_string ht h
  simp only [Prod.mk.injEq] at hx
  obtain ⟨rfl, _⟩ := hx
  refine ⟨s, rfl, reach_le (hz _ ?_)⟩
  simp [DataW.weights]⟩
theorem weightsAll_mem {H : Type} {P : Program} {e : TypeId} {d : DataW H} : ∀ {l : List (DataW H)}, d ∈ l → ∀ n, n ∈ d.weights P e → n ∈ DataW.weightsAll P e l
  | x :: l, hd, n, hn => by
    simp only [DataW.weightsAll, List.mem_append]
    rcases List.mem_cons.1 hd with rfl | hd
    · exact .inl hn
    · exact .inr (weightsAll_mem hd n hn)
theorem Opens.slice {α : Type} {P : Program} {t e : TypeId} {d : Kd α} {wf : α → Prop} {B : Nat} (ho : Opens P e d wf) (ht : P.underlying t = some (.slice e)) (hc : P.cellsOf e = d.sz) (hB : P.bytesOf e = B) :
    Opens P t (Kd.slice e d) (fun l => l.length ≤ 9223372036854775807 ∧ l.length * B ≤ 140737488351232 ∧ ∀ x ∈ l, wf x) := ⟨fun {H} enc w base held fuel cs dd ps h hz => by
  rcases Deep.open_slice ht h with ⟨rfl, _⟩ | ⟨a, len, cap, m, n, D, Pl, rfl, _, hlc, hcm, hm, hx, hel⟩
  · exact ⟨[], ⟨none, 0, rfl, Nat.le_refl _, rfl, by simp, fun hp => absurd hp (by simp)⟩, by simp, by simp, fun x hx => by simp at hx⟩
  · simp only [if_true] at hm
    subst hm
    simp only [Prod.mk.injEq] at hx
    obtain ⟨rfl, _⟩ := hx
    have hlen : len ≤ 9223372036854775807 := by
      have h1 : m ≤ maxLen := hcm
      simp only [maxLen] at h1
      omega
    have hw : ∀ i, i < len → ∀ q, q ∈ (D i).weights P e → q ≤ reachBytes := fun i hi q hq => hz q (by
      simp only [DataW.weights, ht, List.mem_cons, List.mem_append]
      exact .inr (.inl (weightsAll_mem (List.mem_map.2 ⟨i, List.mem_range.2 hi, rfl⟩) q hq)))
    have hsz : len * B ≤ 140737488351232 := by
      have h1 := hz ((((List.range len).map D).length + ((List.range (m - len)).map fun j => D (len + j)).length) * P.bytesOf e) (by simp only [DataW.weights, ht, List.mem_cons]; exact .inl trivial)
      have h2 := reach_le h1
      rw [hB] at h2
      simp only [List.length_map, List.length_range] at h2
      exact Nat.le_trans (Nat.mul_le_mul_right _ (by omega)) h2
    have hall : ∀ i, i < len → ∃ y : α, wf y ∧ ∃ cs', cs'.length = d.sz ∧ d.K w y cs' ∧ ∀ j u, cs'[j]? = some u → w.cell? (a.add (i * d.sz + j)) = some u := fun i hi => by
      obtain ⟨cs', h1, h2⟩ := hel i (by omega)
      obtain ⟨y, hk, hwf⟩ := ho.out enc w base held n cs' (D i) (Pl i) h2 (hw i hi)
      refine ⟨y, hwf, cs', d.K_len hk, hk, fun j u hj => ?_⟩
      have h3 := cells_of_cells? h1 j u hj
      rw [hc, Deep.add_add] at h3
      exact h3
    have hnil : len = 0 ∨ ∃ y0 : α, True := by
      rcases Nat.eq_zero_or_pos len with h0 | h0
      · exact .inl h0
      · obtain ⟨y, _⟩ := hall 0 h0
        exact .inr ⟨y, trivial⟩
    have hlist : ∃ l : List α, l.length = len ∧ ∀ i y, l[i]? = some y → wf y ∧ ∃ cs', cs'.length = d.sz ∧ d.K w y cs' ∧ ∀ j u, cs'[j]? = some u → w.cell? (a.add (i * d.sz + j)) = some u := by
      clear hsz hlen hnil hel hw hz hlc hcm h
      induction len with
      | zero => exact ⟨[], rfl, fun i y hy => by simp at hy⟩
      | succ len ih =>
        obtain ⟨l, hl, hp⟩ := ih (fun i hi => hall i (by omega))
        obtain ⟨y, hy⟩ := hall len (by omega)
        refine ⟨l ++ [y], by simp [hl], fun i z hz2 => ?_⟩
        rcases Nat.lt_or_ge i l.length with hi | hi
        · rw [List.getElem?_append_left hi] at hz2
          exact hp i z hz2
        · have hi2 : i = len := by
            have := (List.getElem?_eq_some_iff.1 hz2).1
            simp at this
            omega
          subst hi2
          rw [← hl, List.getElem?_concat_length] at hz2
          injection hz2 with hz2
          subst hz2
          exact hy
    obtain ⟨l, hl, hp⟩ := hlist
    refine ⟨l, ⟨some a, m, by rw [hl], by omega, rfl, by omega, fun h0 => ⟨a, rfl, fun j p hj => ?_⟩⟩, by omega, by rw [hl]; exact hsz, fun x hx => ?_⟩
    · obtain ⟨_, cs', h1, h2, h3⟩ := hp j p hj
      exact ⟨cs', h1, h2, h3⟩
    · obtain ⟨i, hi, rfl⟩ := List.getElem_of_mem hx
      exact (hp i _ (List.getElem?_eq_getElem hi)).1⟩

/-- The cells from o on, field by field. -/
structure OpensCells {α : Type} (P : Program) (fs : List Field) (o : Nat) (d : Kd α) (wf : α → Prop) : Prop where mk ::
  out : ∀ {H : Type} (enc : TypeId × Value → H) (w : World) (base : Nat) (held : Bool) (fuel : Nat) (cs : List Value) (xs : List (DataW H × List MemPlace)), cs.length = o + d.sz →
    (∀ (i : Nat) (f : Field), fs[i]? = some f → DataW.trod enc P w base (fun _ => true) held fuel f.type ((cs.drop f.offset).take (P.cellsOf f.type)) = xs[i]?) → xs.length = fs.length →
    (∀ (i : Nat) (f : Field) x, fs[i]? = some f → xs[i]? = some x → ∀ n, n ∈ x.1.weights P f.type → n ≤ reachBytes) → ∃ y, d.K w y (cs.drop o) ∧ wf y
theorem OpensCells.one {α : Type} {P : Program} {f : Field} {d : Kd α} {wf : α → Prop} (ho : Opens P f.type d wf) (hc : P.cellsOf f.type = d.sz) : OpensCells P [f] f.offset d wf := ⟨fun enc w base held fuel cs xs hl hf hx hz => by
  match xs, hx with
  | [x], _ =>
    have h := hf 0 f rfl
    rw [hc, List.take_of_length_le (by rw [List.length_drop]; omega)] at h
    exact ho.out enc w base held fuel _ x.1 x.2 h (hz 0 f x rfl rfl)⟩
theorem OpensCells.cons {α β : Type} {P : Program} {f : Field} {fs : List Field} {a : Kd α} {b : Kd β} {wa : α → Prop} {wb : β → Prop} {o2 : Nat} (ho : Opens P f.type a wa) (hc : P.cellsOf f.type = a.sz) (hr : OpensCells P fs o2 b wb) (h2 : o2 = f.offset + a.sz) :
    OpensCells P (f :: fs) f.offset (Kd.pair a b) (fun x => wa x.1 ∧ wb x.2) := ⟨fun enc w base held fuel cs xs hl hf hx hz => by
  subst h2
  have hl2 : cs.length = f.offset + (a.sz + b.sz) := hl
  match xs, hx with
  | x :: xs, hx =>
    have h := hf 0 f rfl
    rw [hc] at h
    obtain ⟨y, hy, hwy⟩ := ho.out enc w base held fuel _ x.1 x.2 h (hz 0 f x rfl rfl)
    obtain ⟨z, hz1, hz2⟩ := hr.out enc w base held fuel cs xs (by omega) (fun i g hg => hf (i + 1) g hg) (by simpa using hx) (fun i g x' hg hx' => hz (i + 1) g x' hg hx')
    refine ⟨(y, z), ⟨_, _, ?_, hy, hz1⟩, hwy, hz2⟩
    rw [← List.drop_drop, List.take_append_drop]⟩
theorem weightsEach_mem {H : Type} {P : Program} {fs : List Field} {xs : List (DataW H × List MemPlace)} {i : Nat} {f : Field} {x : DataW H × List MemPlace} (hf : fs[i]? = some f) (hx : xs[i]? = some x) (n : Nat) (hn : n ∈ x.1.weights P f.type) :
    n ∈ DataW.weightsEach P (fs.map (·.type)) (xs.map (·.1)) :=
  DataW.weights_mem_each (j := i) (by rw [List.getElem?_map, hf]; rfl) (by rw [List.getElem?_map, hx]; rfl) n hn
theorem Opens.struct {α β : Type} {P : Program} {t : TypeId} {fs : Array Field} {d : Kd α} {wf : α → Prop} {f : β → α} {g : α → β} (ho : OpensCells P fs.toList 0 d wf) (ht : P.underlying t = some (.struct fs)) (hc : P.cellsOf t = d.sz) (hg : ∀ y, f (g y) = y) :
    Opens P t (Kd.iso d f) (fun x => wf (f x)) := ⟨fun enc w base held fuel cs dd ps h hz => by
  obtain ⟨xs, n, _, hx, hl, hlen, hf⟩ := DataW.trod_struct ht h
  simp only [Prod.mk.injEq] at hx
  obtain ⟨rfl, _⟩ := hx
  obtain ⟨y, hy, hwy⟩ := ho.out enc w base held n cs xs (by omega) (fun i f hi => hf i f (by simpa using hi)) (by simpa using hlen) (fun i f x hi hx q hq => hz q (by
    simp only [DataW.weights, ht]
    exact weightsEach_mem hi hx q hq))
  exact ⟨g y, by show d.K w (f (g y)) cs; rw [hg]; exact hy, by show wf (f (g y)); rw [hg]; exact hwy⟩⟩

/-- A row's parameter: the slice that came in, its list. -/
theorem open_any_slice {H : Type} {enc : TypeId × Value → H} {P : Program} {W : World} {t e : TypeId} {α : Type} {d : Kd α} {wf : List α → Prop} {a : Option Addr} {len cap : Nat} {dd : DataW H} {ps : List MemPlace} {ts : List TypeId} {ds : List (DataW H)} {j : Nat} {base : Nat} {held : Bool}
    (ho : Opens P t (Kd.slice e d) wf) (hsz : (DataW.weightsEach P ts ds).all (· ≤ reachBytes) = true) (ht : ts[j]? = some t) (hd : ds[j]? = some dd)
    (h : DataW.Trod enc P W base (fun _ => true) held t (.slice a len cap) dd ps) : ∃ l : List α, len = l.length ∧ d.C W a l.length l ∧ l.length ≤ cap ∧ wf l := by
  obtain ⟨fuel, hf⟩ := h
  obtain ⟨l, ⟨A, c, hcs, hlc, hC⟩, hw⟩ := ho.out enc W base held fuel _ dd ps hf (fun n hn => by
    have := List.all_eq_true.1 hsz n (DataW.weights_mem_each ht hd n hn)
    simpa using this)
  simp [Value.cells] at hcs
  obtain ⟨rfl, rfl, rfl⟩ := hcs
  exact ⟨l, rfl, hC, hlc, hw⟩
/-- A struct by value that came in: its cells. -/
theorem open_any_struct {H : Type} {enc : TypeId × Value → H} {P : Program} {W : World} {t : TypeId} {fs : Array Field} {α : Type} {d : Kd α} {wf : α → Prop} {v : Value} {dd : DataW H} {ps : List MemPlace} {ts : List TypeId} {ds : List (DataW H)} {j : Nat} {base b0 : Nat} {held : Bool} {r : Reach}
    (ho : Opens P t d wf) (hs : P.underlying t = some (.struct fs)) (hv : Value.okWide P W r b0 t v) (hsz : (DataW.weightsEach P ts ds).all (· ≤ reachBytes) = true) (ht : ts[j]? = some t) (hd : ds[j]? = some dd)
    (h : DataW.Trod enc P W base (fun _ => true) held t v dd ps) : ∃ (cs : List Value) (y : α), v = .agg cs.toArray ∧ d.K W y cs ∧ wf y := by
  obtain ⟨cs, rfl, _⟩ := okWide_struct hs hv
  obtain ⟨fuel, hf⟩ := h
  obtain ⟨y, hk, hw⟩ := ho.out enc W base held fuel _ dd ps hf (fun n hn => by
    have := List.all_eq_true.1 hsz n (DataW.weights_mem_each ht hd n hn)
    simpa using this)
  exact ⟨cs.toList, y, by simp, by simpa [Value.cells] using hk, hw⟩
end Go.Proofs.YtimhhacnpjcjnaaW.PrintWords
