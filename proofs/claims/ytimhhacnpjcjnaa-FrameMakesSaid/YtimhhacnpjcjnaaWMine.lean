/- Words of this session's own printer: events that the kit's words lack (a string as bytes, a make with a capacity, a copy onto a row of one's own). -/
import Derived.Test.YtimhhacnpjcjnaaWMore
import Derived.Laws.CopyOwn
import Derived.Lib.AppendStr
namespace Go.Proofs.YtimhhacnpjcjnaaW.PrintWords
open Go.RowKit
namespace Kd
section
variable {P : Program} {ops : Array Oper} {rest : List Oper} {o : Oper} {a : Act} {Q : Exit → Act → World → Prop} {α : Type}
/-- '[]byte(s)': a new row that is only read. -/
theorem V_conv {w0 W : World} (base e : Nat) (hgd : o.guard = none) {N' : Tmp} (_hd : o.dst = some N') (src t : TypeId) (x : Operand) (ho : o.op = .convert src t x) (s : ByteArray) (hx : a.eval x = .string s)
    {u : TypeDesc} (hs : P.underlying src = some u) (ht : P.underlying t = some (.slice e)) (he : P.underlying e = some (.int .u8)) (hn : s.size ≤ 9223372036854775807) (HB : Below base w0 W) (hbase : base ≤ W.heap.size)
    (h : ∀ v1 w1, V (Kd.int .u8) e w1 base (fun k => W.heap.size ≤ k) v1 (bytesOf s) → Below base w0 w1 → W.grownBy w1 none → (∃ b, v1.ownBlock = some b ∧ W.heap.size ≤ b) → wpList P ops Q rest (a.put o.dst v1) w1) : wpList P ops Q (o :: rest) a W := by
  have hrun := Lib.run_convert_string_bytes (P := P) W src t e s hs ht he
  have hr : (execOp a.eval o).run P W = .ok (.value (.slice (some ⟨W.heap.size, 0, none⟩) s.size (grownCap W s.size 0 e))) (Lib.bytesWorld W e s) := by
    simp [execOp, ho, hx, hrun]
  have hlen : (bytesOf s).length = s.size := bytesOf_length s
  refine event_run hgd hr (h _ _ ?_ ?_ ?_ ⟨W.heap.size, by simp [Value.ownBlock], Nat.le_refl _⟩)
  · refine ⟨some ⟨W.heap.size, 0, none⟩, grownCap W s.size 0 e, by rw [hlen], by rw [hlen]; exact grownCap_ge W s.size 0 e, fun W' hW => ⟨rfl, by rw [hlen]; exact hn, fun hp => ⟨_, rfl, fun j p hj => ⟨[.int .u8 p], rfl, rfl, fun i u hu => ?_⟩⟩⟩⟩
    have hi : i = 0 := by
      rcases Nat.eq_zero_or_pos i with h0 | h0
      · exact h0
      · simp [List.getElem?_eq_none (show ([Value.int .u8 p] : List Value).length ≤ i by simp; omega)] at hu
    subst hi
    have hu' : Value.int .u8 p = u := by simpa using hu
    subst hu'
    obtain ⟨hj1, hj2⟩ := List.getElem?_eq_some_iff.1 hj
    have hjs : j < s.size := by rw [hlen] at hj1; exact hj1
    have hc := Lib.bytesWorld_cell W e s j hjs
    have hb : W'.heap[W.heap.size]? = (Lib.bytesWorld W e s).heap[W.heap.size]? := hW _ (Nat.le_refl _) (by rw [Lib.bytesWorld_size]; omega)
    have e1 : (⟨W.heap.size, 0, none⟩ : Addr).add (j * (Kd.int IntKind.u8).sz + 0) = ⟨W.heap.size, j, none⟩ := by
      rw [show (Kd.int IntKind.u8).sz = 1 from rfl, Nat.mul_one, Nat.add_zero]
      exact add_plain _ _
    rw [e1, World.cell?_of_block (w := Lib.bytesWorld W e s) (a := ⟨W.heap.size, j, none⟩) hb, hc]
    have hp2 : (((s.data.toList.getD j 0).toNat : Nat) : Int) = p := by
      rw [← hj2]
      simp [bytesOf, List.getD_eq_getElem?_getD, List.getElem?_eq_getElem (show j < s.data.toList.length by simpa using hjs)]
    rw [hp2]
  · refine HB.trans ⟨rfl, rfl, rfl, by rw [Lib.bytesWorld_size]; omega, fun i hi => Lib.bytesWorld_at_old W e s i (by omega)⟩
  · exact ⟨rfl, rfl, rfl, by rw [Lib.bytesWorld_size]; omega, fun i hi _ => Lib.bytesWorld_at_old W e s i hi⟩

theorem R_lit_cap (d : Kd α) {w0 W : World} (base e : Nat) (hgd : o.guard = none) {xs : List α} {inner : Array Value} {c : Nat} {ok okp : Nat → Prop}
    (hrun : (execOp a.eval o).run P W = .ok (.value (.slice (some ⟨W.heap.size, 0, none⟩) xs.length c)) (W.alloc (.cells inner e)))
    (hrep : Reps (d.M W base okp) d.sz xs (inner.toList.take (xs.length * d.sz))) (hci : inner.size = c * d.sz) (hxc : xs.length ≤ c) (hok : ∀ k, okp k → ok k) (hfresh : ok W.heap.size) (HB : Below base w0 W) (hbase : base ≤ W.heap.size) (hm : c ≤ 9223372036854775807)
    (h : ∀ v1 w1, d.R e w1 base ok v1 xs → Below base w0 w1 → W.grownBy w1 none → (∃ b, v1.ownBlock = some b ∧ W.heap.size ≤ b) → wpList P ops Q rest (a.put o.dst v1) w1) : wpList P ops Q (o :: rest) a W := by
  refine event_run hgd hrun (h _ _ ⟨fun k hk => ?_, inner.toList.take (xs.length * d.sz), ?_, ?_⟩ (HB.alloc hbase _) (World.grownBy_alloc W _ none) ⟨W.heap.size, by simp [Value.ownBlock], Nat.le_refl _⟩)
  · have : W.heap.size = k := by simpa [Value.ownBlock] using hk
    subst this
    exact hfresh
  · refine ⟨hrep.1, .inr ⟨W.heap.size, c, inner, rfl, hbase, heap_alloc_new W _, hxc, by simpa [maxLen] using hm, hci, rfl⟩⟩
  · refine hrep.imp_ (fun p cs hp => d.M_mono (fun k hk => ⟨hok k hk.1, fun he => ?_⟩) (M_below (d.M_bound hp) (below_alloc (Below.refl _ _) _)))
    have h3 : k = W.heap.size := by simpa [Value.ownBlock] using he
    have := hk.2.2.1
    omega

theorem run_append_str {w0 W : World} (base : Nat) (oty : TypeId) (t u e : TypeId)
    (ht : P.underlying t = some (.slice e)) (hu : P.underlying u = some .string) (hinfo : (P.info? e).map (fun i => (i.zero, i.size, i.bytes)) = some (some (.int .u8 0), 1, 1))
    (v : Value) (xs : List Int) (y : ByteArray) (ok : Nat → Prop)
    (HO : (Kd.int .u8).R e W base ok v xs) (hfresh : ∀ k, W.heap.size ≤ k → ok k) (HB : Below base w0 W) (hbase : base ≤ W.heap.size) (hl : xs.length + y.size ≤ 140737488355328) :
    ∃ v1 w1, (Builtin.append_ #[t, u] oty #[v, .string y]).run P W = .ok v1 w1 ∧ (Kd.int .u8).R e w1 base ok v1 (xs ++ bytesOf y) ∧ Below base w0 w1 ∧ W.grownBy w1 v.ownBlock ∧ (v1.ownBlock = v.ownBlock ∨ ∃ b, v1.ownBlock = some b ∧ W.heap.size ≤ b) := by
  obtain ⟨i0, hi, hzz⟩ := Option.map_eq_some_iff.1 hinfo
  simp only [Prod.mk.injEq] at hzz
  obtain ⟨hz0, hz1, hz2⟩ := hzz
  have hown : W.ownsRow base e 1 v xs.length (nums .u8 xs) := Kd.own_of_R HO
  obtain ⟨v1, w1, hr, h2, h3, h4⟩ := Lib.run_append_own_string (P := P) W base t u oty e i0 ht hu hi hz0 hz1 hz2 v xs.length (nums .u8 xs) hown y (by simp only [maxLen]; omega) hl hbase
  have hat : v1.ownBlock = v.ownBlock ∨ ∃ b, v1.ownBlock = some b ∧ W.heap.size ≤ b := by
    rcases hown.2 with ⟨rfl, hn⟩ | ⟨g, cap, cur, rfl, hbg, hg, hnc, hcm, hcs, htake⟩
    · by_cases hm : y.size = 0
      · exact .inl (by rw [h4.2 ⟨rfl, hm⟩])
      · have hr2 := run_append_nil_string (P := P) W t u oty e i0 (.int .u8 0) ht hu hi hz0 y (by omega) (by omega) (by rw [hz2]; omega)
        rw [hr2] at hr
        injection hr with e1 e2
        exact .inr ⟨W.heap.size, by rw [← e1]; simp [Value.ownBlock], Nat.le_refl _⟩
    · have hcs' : cur.size = cap := by simpa using hcs
      by_cases hroom : xs.length + y.size ≤ cap
      · have hr2 := Lib.run_append_room_string (P := P) W t u oty e i0 ht hu hi hz1 g xs.length cap cur hg y hroom (by omega)
        rw [hr2] at hr
        injection hr with e1 e2
        exact .inl (by rw [← e1]; simp [Value.ownBlock])
      · have holds : ∀ j q, (nums .u8 xs)[j]? = some q → W.cell? ((⟨g, 0, none⟩ : Addr).add j) = some q := hown.cells (g := g) rfl
        have hr2 := Lib.run_append_grow_string (P := P) W t u oty e i0 (.int .u8 0) ht hu hi hz0 ⟨g, 0, none⟩ xs.length cap (nums .u8 xs) (by rw [hz1]; simp [nums]) holds y (by omega) (by omega) (by rw [hz2]; exact growslice_fits (by omega) (by omega))
        rw [hr2] at hr
        injection hr with e1 e2
        exact .inr ⟨W.heap.size, by rw [← e1]; simp [Value.ownBlock], Nat.le_refl _⟩
  have hl2 : (xs ++ bytesOf y).length = xs.length + y.size := by rw [List.length_append, bytesOf_length]
  have hc : nums .u8 (xs ++ bytesOf y) = nums .u8 xs ++ Lib.strCells y := by
    rw [nums_append]
    congr 1
    simp [nums, bytesOf, Lib.strCells]
  have hR : (Kd.int .u8).R e w1 base ok v1 (xs ++ bytesOf y) := by
    refine Kd.R_of_own (h1 := fun _ => rfl) (by rw [hl2]; have h5 := h2; rw [← hc] at h5; exact h5) (fun k hk => ?_)
    rcases hat with hat | ⟨b, hb, hle⟩
    · exact HO.1 k (hat ▸ hk)
    · rw [hb] at hk
      injection hk with hk
      exact hfresh k (by omega)
  have HB1 : Below base w0 w1 := HB.grown h3 hbase (own_base hown)
  exact ⟨v1, w1, hr, hR, HB1, h3, hat⟩
/-- 'append(b, s...)', s a string, beside other rows. -/
theorem R_append_str {w0 W : World} (base : Nat) (hgd : o.guard = none) (s x : Operand) (t u e : TypeId)
    (ho : o.op = .call { callee := .builtin .append, args := #[s, x], argTypes := #[t, u] })
    (ht : P.underlying t = some (.slice e)) (hu : P.underlying u = some .string) (hinfo : (P.info? e).map (fun i => (i.zero, i.size, i.bytes)) = some (some (.int .u8 0), 1, 1))
    (v : Value) (xs : List Int) (y : ByteArray) (ok : Nat → Prop) (hs : a.eval s = v) (hx : a.eval x = .string y)
    (HO : (Kd.int .u8).R e W base ok v xs) (hfresh : ∀ k, W.heap.size ≤ k → ok k) (HB : Below base w0 W) (hbase : base ≤ W.heap.size) (hl : xs.length + y.size ≤ 140737488355328)
    (h : ∀ v1 w1, (Kd.int .u8).R e w1 base ok v1 (xs ++ bytesOf y) → Below base w0 w1 → W.grownBy w1 v.ownBlock → (v1.ownBlock = v.ownBlock ∨ ∃ b, v1.ownBlock = some b ∧ W.heap.size ≤ b) → wpList P ops Q rest (a.put o.dst v1) w1) :
    wpList P ops Q (o :: rest) a W := by
  obtain ⟨v1, w1, hr, hR, HB1, h3, hat⟩ := run_append_str (P := P) base o.type t u e ht hu hinfo v xs y ok HO hfresh HB hbase hl
  refine wpList_plain hgd fun K hK => ?_
  unfold Oper.wp execOp
  simp only [ho, resolve, invoke, builtin, Sem.run_bind, Sem.run_pure, Result.andThen_ok, List.map_toArray, List.map_cons, List.map_nil, hs, hx, hr]
  exact hK _ _ (h v1 w1 hR HB1 h3 hat)
theorem R_append_str_step {w0 W : World} (base : Nat) {Kc : Act → World → Prop} (hw : Region.wanted o (yielded ops a.tmps) = true) (s x : Operand) (t u e : TypeId)
    (ho : o.op = .call { callee := .builtin .append, args := #[s, x], argTypes := #[t, u] })
    (ht : P.underlying t = some (.slice e)) (hu : P.underlying u = some .string) (hinfo : (P.info? e).map (fun i => (i.zero, i.size, i.bytes)) = some (some (.int .u8 0), 1, 1))
    (v : Value) (xs : List Int) (y : ByteArray) (ok : Nat → Prop) (hs : a.eval s = v) (hx : a.eval x = .string y)
    (HO : (Kd.int .u8).R e W base ok v xs) (hfresh : ∀ k, W.heap.size ≤ k → ok k) (HB : Below base w0 W) (hbase : base ≤ W.heap.size) (hl : xs.length + y.size ≤ 140737488355328)
    (h : ∀ v1 w1, (Kd.int .u8).R e w1 base ok v1 (xs ++ bytesOf y) → Below base w0 w1 → W.grownBy w1 v.ownBlock → (v1.ownBlock = v.ownBlock ∨ ∃ b, v1.ownBlock = some b ∧ W.heap.size ≤ b) → Kc (a.put o.dst v1) w1) :
    if Region.wanted o (yielded ops a.tmps) = true then Oper.wp P o a W Kc Q else Kc (a.put o.dst undef) W := by
  obtain ⟨v1, w1, hr, hR, HB1, h3, hat⟩ := run_append_str (P := P) base o.type t u e ht hu hinfo v xs y ok HO hfresh HB hbase hl
  rw [if_pos hw]
  unfold Oper.wp execOp
  simp only [ho, resolve, invoke, builtin, Sem.run_bind, Sem.run_pure, Result.andThen_ok, List.map_toArray, List.map_cons, List.map_nil, hs, hx, hr]
  exact h v1 w1 hR HB1 h3 hat

/-- 'make([]T, n, c)'. -/
theorem R_makecap (d : Kd α) {w0 W : World} (base e : Nat) (hgd : o.guard = none) {N : Tmp} (_hd : o.dst = some N) (t : TypeId) (x y : Operand) (ho : o.op = .makeSlice t x y) (n c : Int) (hx : a.eval x = .int .i64 n) (hy : a.eval y = .int .i64 c)
    (ht : P.underlying t = some (.slice e)) (z : Value) (bytes : Nat) (hinfo : (P.info? e).map (fun i => (i.zero, i.size, i.bytes)) = some (some z, d.sz, bytes)) (hz : z.cells.size = d.sz) (hs0 : 0 < d.sz) (hb0 : 0 < bytes)
    (z0 : α) {ok okp : Nat → Prop} (hzero : d.M W base okp z0 z.cells.toList) (hok : ∀ k, okp k → ok k) (hfresh : ok W.heap.size) (h0 : 0 ≤ n) (hnc : n ≤ c) (hl : c.toNat * bytes ≤ 281474976710656) (HB : Below base w0 W) (hbase : base ≤ W.heap.size)
    (h : ∀ v1 w1, d.R e w1 base ok v1 (List.replicate n.toNat z0) → Below base w0 w1 → W.grownBy w1 none → (∃ b, v1.ownBlock = some b ∧ W.heap.size ≤ b) → wpList P ops Q rest (a.put o.dst v1) w1) : wpList P ops Q (o :: rest) a W := by
  obtain ⟨m, rfl⟩ := Int.eq_ofNat_of_zero_le h0
  obtain ⟨q, rfl⟩ := Int.eq_ofNat_of_zero_le (Int.le_trans h0 hnc)
  simp only [Int.toNat_natCast] at hl h
  obtain ⟨i0, hi, hzz⟩ := Option.map_eq_some_iff.1 hinfo
  simp only [Prod.mk.injEq] at hzz
  obtain ⟨hz0, hz1, hz2⟩ := hzz
  have hq : q ≤ 281474976710656 := Nat.le_trans (Nat.le_mul_of_pos_right _ hb0) hl
  have hmq : m ≤ q := by omega
  have hr := run_make (P := P) W t e i0 z ht hi hz0 .i64 .i64 (m : Int) (q : Int) (by omega) hnc
    (by
      have h3 : ((i0.bytes * q : Nat) : Int) ≤ 281474976710656 := by rw [hz2, Nat.mul_comm]; omega
      rwa [Int.natCast_mul] at h3) (by omega)
  simp only [Int.toNat_natCast] at hr
  rw [hz1] at hr
  have hfull := reps_made (R := d.M W base okp) hz hs0 hzero q
  refine R_lit_cap d base e hgd (xs := List.replicate m z0) (inner := madeCells z.cells (q * d.sz)) (c := q) (okp := okp) (ok := ok) ?_ ?_ (size_madeCells _ _) (by simpa using hmq) hok hfresh HB hbase (by omega) h
  · simp [execOp, ho, hx, hy, hr]
  · have hmul : m * d.sz ≤ q * d.sz := Nat.mul_le_mul_right _ hmq
    refine ⟨by simp only [List.length_take, List.length_replicate, Array.length_toList, size_madeCells]; exact Nat.min_eq_left hmul, fun j p hj => ?_⟩
    obtain ⟨hjl, hp⟩ := List.getElem?_eq_some_iff.1 hj
    have hjm : j < m := by simpa using hjl
    have hp' : z0 = p := by simpa using hp
    subst hp'
    have hle : j * d.sz + d.sz ≤ m * d.sz := by rw [← Nat.succ_mul]; exact Nat.mul_le_mul_right _ hjm
    have h2 := hfull.2 j z0 (by rw [List.getElem?_replicate, if_pos (by omega)])
    have e3 : ((List.take ((List.replicate m z0).length * d.sz) (madeCells z.cells (q * d.sz)).toList).drop (j * d.sz)).take d.sz = ((madeCells z.cells (q * d.sz)).toList.drop (j * d.sz)).take d.sz := by
      rw [List.length_replicate, List.drop_take, List.take_take, Nat.min_eq_left (by omega)]
    rw [e3]
    exact h2
end
end Kd
end Go.Proofs.YtimhhacnpjcjnaaW.PrintWords
namespace Go.Proofs.YtimhhacnpjcjnaaW.PrintWords
open Go.RowKit
/-- What a copy leaves: as many as the shorter of the two has go over. -/
def copied {α : Type} (xs ys : List α) : List α := ys.take (min ys.length xs.length) ++ xs.drop (min ys.length xs.length)
theorem copied_length {α : Type} (xs ys : List α) : (copied xs ys).length = xs.length := by simp [copied]; omega
namespace Kd
section
variable {P : Program} {ops : Array Oper} {rest : List Oper} {o : Oper} {a : Act} {Q : Exit → Act → World → Prop} {α : Type} {enc : α → Value} {h1 : ∀ x, (enc x).oneCell' = true}
theorem R_copyrow (d : α) {w0 W : World} (base : Nat) (hgd : o.guard = none) (dd s : Operand) (dT sT : TypeId) {e : Nat} (ho : o.op = .call { callee := .builtin .copy, args := #[dd, s], argTypes := #[dT, sT] })
    (hu : P.underlying dT = some (.slice e)) {z : Value} {bytes : Nat} (hinfo : (P.info? e).map (fun i => (i.zero, i.size, i.bytes)) = some (some z, 1, bytes))
    (v : Value) (xs ys : List α) {A : Option Addr} {m c : Nat} {ok : Nat → Prop} (hd : a.eval dd = v) (hs : a.eval s = .slice A m c)
    (HO : (scalar enc h1).R e W base ok v xs) (HR : (scalar enc h1).C W A m ys) (HB : Below base w0 W) (hbase : base ≤ W.heap.size)
    (h : ∀ w1, (scalar enc h1).R e w1 base ok v (copied xs ys) → Below base w0 w1 → W.grownBy w1 v.ownBlock → wpList P ops Q rest (a.put o.dst (.int .i64 ((min m xs.length : Nat) : Int))) w1) : wpList P ops Q (o :: rest) a W := by
  have hsz : (P.info? e).map (·.size) = some 1 := by
    obtain ⟨i0, hi, hzz⟩ := Option.map_eq_some_iff.1 hinfo
    simp only [Prod.mk.injEq] at hzz
    rw [hi, Option.map_some, hzz.2.1]
  have hm : ys.length = m := HR.1
  subst hm
  exact R_copy d base hgd dd s dT sT e ho hu hsz v xs ys A ys.length c ok hd hs HO HR HB hbase h
end
end Kd
end Go.Proofs.YtimhhacnpjcjnaaW.PrintWords
namespace Go.Proofs.YtimhhacnpjcjnaaW.PrintWords
open Go.RowKit
/-- 's[:n:n]', n its length. -/
theorem print_full_of {P : Program} (t e : TypeId) (ht : P.underlying t = some (.slice e)) {z : Value} {size bytes : Nat} (hinfo : (P.info? e).map (fun i => (i.zero, i.size, i.bytes)) = some (some z, size, bytes)) (A : Option Addr) (n c : Nat) (hc : n ≤ c) :
    ∀ W : World, (Instr.slice t (.slice A n c) none (some (.int .i64 (n : Int))) (some (.int .i64 (n : Int)))).run P W = .ok (.slice A n n) W := by
  intro W
  obtain ⟨i0, hi, _⟩ := Option.map_eq_some_iff.1 hinfo
  have hel : P.elem t = e := by simp [Program.elem, ht]
  have hu : P.underlying t = some (.slice (P.elem t)) := by rw [hel]; exact ht
  have ha : (A.map fun x => x.add 0) = A := by cases A <;> simp [Addr.add]
  rw [run_slice_hm W t A n c hu .i64 .i64 (n : Int) (n : Int) (by omega) (Int.le_refl _) (by omega), hel]
  simp [sizeOf, typeInfo, hi, sliced, Result.andThen, ha]
namespace Kd
section
variable {P : Program} {ops : Array Oper} {rest : List Oper} {o : Oper} {a : Act} {Q : Exit → Act → World → Prop} {α : Type} {enc : α → Value} {h1 : ∀ x, (enc x).oneCell' = true}
/-- append(v, x), v read and full: a new row. -/
theorem R_append_full {w0 W : World} (base : Nat) (hgd : o.guard = none) (s x : Operand) (t e : TypeId) (z : Value) (bytes : Nat)
    (ho : o.op = .call { callee := .builtin .append, args := #[s, x], argTypes := #[t, t] })
    (ht : P.underlying t = some (.slice e)) (hinfo : (P.info? e).map (fun i => (i.zero, i.size, i.bytes)) = some (some z, 1, bytes)) (hz : z.cells.size = 1) (hb0 : 0 < bytes)
    (A : Option Addr) (xs : List α) (p : α) {ok : Nat → Prop} (hs : a.eval s = .slice A xs.length xs.length) (hx : a.eval x = .slice (some ⟨W.heap.size, 0, none⟩) 1 1)
    (HC : (scalar enc h1).C W A xs.length xs) (hfresh : ∀ k, W.heap.size ≤ k → ok k) (hl : (xs.length + 1) * bytes ≤ 140737488355328) (HB : Below base w0 W) (hbase : base ≤ W.heap.size)
    (h : ∀ v1 w1, (scalar enc h1).R e w1 base ok v1 (xs ++ [p]) → Below base w0 w1 → W.grownBy w1 none → (∃ b, v1.ownBlock = some b ∧ W.heap.size ≤ b) → wpList P ops Q rest (a.put o.dst v1) w1) :
    wpList P ops Q (o :: rest) a (W.alloc (.cells #[enc p] e)) := by
  obtain ⟨i0, hi, hzz⟩ := Option.map_eq_some_iff.1 hinfo
  simp only [Prod.mk.injEq] at hzz
  obtain ⟨hz0, hz1, hz2⟩ := hzz
  have hlen : xs.length + 1 ≤ 140737488355328 := Nat.le_trans (Nat.le_mul_of_pos_right _ hb0) hl
  refine wpList_append_grows (W.alloc (.cells #[enc p] e)) hgd s x t ho e i0 z 1 bytes ht hi hz0 hz1 hz2 hz (by omega) A xs.length xs.length (encs enc xs) hs (fun hA => ?_) (by simp [encs]) (fun b hb j u hj => ?_)
    ⟨W.heap.size, 0, none⟩ 1 1 [enc p] hx rfl (World.news_of_block (cs := #[enc p]) (t := e) (fr := (0, 0)) (heap_alloc_new W _)) (by simpa using h1 p) (by omega) (by simp only [maxLen]; omega) hl ?_
  · rcases Nat.eq_zero_or_pos xs.length with h0 | h0
    · exact ⟨h0, h0⟩
    · obtain ⟨ad, he, _⟩ := HC.2.2 h0
      rw [hA] at he
      cases he
  · obtain ⟨hj1, hj2⟩ := List.getElem?_eq_some_iff.1 hj
    have hjx : j < xs.length := by simpa [encs] using hj1
    obtain ⟨ad, he, hcell⟩ := HC.2.2 (by omega)
    rw [hb] at he
    injection he with he
    subst he
    obtain ⟨c, hc1, hc2, hc3⟩ := hcell j _ (List.getElem?_eq_getElem hjx)
    have hc2' : c = [enc xs[j]] := hc2
    subst hc2'
    have h3 := hc3 0 (enc xs[j]) rfl
    rw [show j * (scalar enc h1).sz + 0 = j from by simp [scalar]] at h3
    have hu : enc xs[j] = u := by rw [← hj2]; simp [encs]
    rw [← hu]
    exact pw_cell_below (below_alloc (Below.refl _ _) _) h3
  · intro v' w' hown hg
    have hsz : (W.alloc (.cells #[enc p] e)).heap.size = W.heap.size + 1 := by simp
    have hown2 : w'.ownsRow base e 1 v' (xs ++ [p]).length (encs enc (xs ++ [p])) := by
      have h3 := own_weaken hown (base' := base) (by omega)
      simpa [encs] using h3
    have hge : ∀ k, v'.ownBlock = some k → W.heap.size ≤ k := fun k hk => by have := own_base hown k hk; omega
    have hgr := World.grownBy.trans (World.grownBy_alloc W (.cells #[enc p] e) none) hg
    refine h v' w' (R_of_own hown2 (fun k hk => hfresh k (hge k hk))) ((HB.alloc hbase _).grown hg (by omega) (fun k hk => by cases hk)) hgr ?_
    rcases hown.2 with ⟨_, h0⟩ | ⟨g, cap, cur, rfl, hbg, _⟩
    · omega
    · exact ⟨g, rfl, by omega⟩
end
end Kd
end Go.Proofs.YtimhhacnpjcjnaaW.PrintWords
