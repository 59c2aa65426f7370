/- The walks and the plain laws that the rows come to: merged out of this repo's texts. -/
import Derived.Test.YtfkdocmhbmameaaDoorProg
import Derived.Below
import Derived.Deep.Draws
import Derived.Deep.AppendLies
import Derived.Maps.AppendAt
import Derived.OwnWalk
import Derived.Laws.BytesArg
import Derived.Laws.MakeOwn
import Derived.Laws.OwnMore
import Derived.Deep.OwnRows
import Derived.Tactics
import Derived.Lib.ConvBytes
import Derived.Laws.Slices
import Derived.WalkKit
import Derived.KernelRfl
import Derived.RowKit3
import Derived.Deep.LoopGhost
import Derived.Deep.QuietTactic
import Derived.BigQuiet
import Derived.WideLaws
import Derived.Deep.DeepCutAuto
import Derived.Deep.CutBlock
import Derived.Deep.RegionHeld3
import Derived.Laws.Rows
import Derived.Lib.AppendStr
import Derived.ArgAppend
import Derived.Laws.IdiomCopy
import Derived.RowKit
import Derived.OrdersHeld
import Derived.Laws.BitsLemmas
import Derived.Laws.StructEq
import Derived.Laws.CopyOwn
import Derived.SizedLaws
import Derived.ChangeSlices
import Derived.Deep.Slices
import Derived.Lib.SmallJoins
import Derived.Lib.OthersKept
import Derived.Lib.AppendZerosOnto
import Derived.WalkSpells
import Derived.Shelf.Utf8.RuneCount
import Derived.Shelf.Strings.Search1
import Derived.Shelf.Strings.Search2
import Derived.Shelf.Strings.Search3
import Derived.Shelf.Strings.Cut
import Derived.Shelf.Strings.Count
import Derived.Shelf.LaysM
import Derived.Shelf.Strings.Shaped
import Derived.Shelf.Strings.Split
import Derived.Shelf.Strings.SplitShaped
import Derived.Shelf.Unicode.Decode
import Derived.Shelf.Strings.RuneCount
import Derived.Shelf.Strings.Explode
import Derived.Shelf.Unicode.DecodeSlow
import Derived.Shelf.Unicode.DecodeAny
import Derived.Recover
import Derived.WalkLawsBesides
import Derived.Laws.BitsAllLaws
import Derived.Test.YtfkdocmhbmameaaDoorCA1
import Derived.Test.YtfkdocmhbmameaaDoorCA10
import Derived.Test.YtfkdocmhbmameaaDoorCA11
import Derived.Test.YtfkdocmhbmameaaDoorCA12
import Derived.Test.YtfkdocmhbmameaaDoorCA13
import Derived.Test.YtfkdocmhbmameaaDoorCA14
import Derived.Test.YtfkdocmhbmameaaDoorCA15
import Derived.Test.YtfkdocmhbmameaaDoorCA16
import Derived.Test.YtfkdocmhbmameaaDoorCA2
import Derived.Test.YtfkdocmhbmameaaDoorCA20
import Derived.Test.YtfkdocmhbmameaaDoorCA23
import Derived.Test.YtfkdocmhbmameaaDoorCA25
import Derived.Test.YtfkdocmhbmameaaDoorCA26
import Derived.Test.YtfkdocmhbmameaaDoorCA27
import Derived.Test.YtfkdocmhbmameaaDoorCA28
import Derived.Test.YtfkdocmhbmameaaDoorCA3
import Derived.Test.YtfkdocmhbmameaaDoorCA32
import Derived.Test.YtfkdocmhbmameaaDoorCA34
import Derived.Test.YtfkdocmhbmameaaDoorCA35
import Derived.Test.YtfkdocmhbmameaaDoorCA36
import Derived.Test.YtfkdocmhbmameaaDoorCA37
import Derived.Test.YtfkdocmhbmameaaDoorCA4
import Derived.Test.YtfkdocmhbmameaaDoorCA41
import Derived.Test.YtfkdocmhbmameaaDoorCA5
import Derived.Test.YtfkdocmhbmameaaDoorCA6
import Derived.Test.YtfkdocmhbmameaaDoorCA7
import Derived.Test.YtfkdocmhbmameaaDoorCA8
import Derived.Test.YtfkdocmhbmameaaDoorCA9
namespace Go.Proofs.YtfkdocmhbmameaaDoor.Pure
open Go.RowKit Go.Proofs.YtfkdocmhbmameaaDoor.Mine Go.Proofs.YtfkdocmhbmameaaDoorW.PrintWords Go.Proofs.YtfkdocmhbmameaaDoorW.PrintLast Go.Proofs.YtfkdocmhbmameaaDoorW.PrintMore
set_option linter.unusedVariables false
abbrev EB := S88
theorem exI_get {nm vl : ByteArray} : ∀ (l : List EB) (i j : Int), exI nm vl l i = some j → i ≤ j ∧ ∃ x, l[(j - i).toNat]? = some x ∧ x.f0 = nm ∧ x.f1 = vl
  | [], i, j, h => by simp [exI] at h
  | x :: l, i, j, h => by
    rw [exI] at h
    split at h
    · rename_i hq
      have e := Option.some.inj h
      refine ⟨by omega, x, ?_, hq⟩
      rw [show (j - i).toNat = 0 by omega]
      rfl
    · obtain ⟨h1, y, hy, hq⟩ := exI_get l (i + 1) j h
      refine ⟨by omega, y, ?_, hq⟩
      rw [show (j - i).toNat = (j - (i + 1)).toNat + 1 by omega]
      exact hy
theorem nmI_get {nm : ByteArray} : ∀ (l : List EB) (i : Int), 1 ≤ i → nmI nm l i ≠ 0 → i ≤ nmI nm l i ∧ ∃ x, l[(nmI nm l i - i).toNat]? = some x ∧ x.f0 = nm
  | [], i, h0, h => absurd rfl h
  | x :: l, i, h0, h => by
    rw [nmI] at h ⊢
    split at h
    · rename_i hq
      rw [if_pos hq]
      refine ⟨by omega, x, ?_, hq⟩
      rw [show (i - i).toNat = 0 by omega]
      rfl
    · rename_i hq
      rw [if_neg hq]
      obtain ⟨h1, y, hy, hz⟩ := nmI_get l (i + 1) (by omega) h
      refine ⟨by omega, y, ?_, hz⟩
      rw [show (nmI nm l (i + 1) - i).toNat = (nmI nm l (i + 1) - (i + 1)).toNat + 1 by omega]
      exact hy
theorem atM_get {m : M} {n : Int} {x : EB} (h1 : 1 ≤ n) (h : (F38 ++ m.2)[(n - 1).toNat]? = some x) : atM m n = (x.f0, x.f1, true) := by
  have hl : (n - 1).toNat < (F38 ++ m.2).length := by
    rcases Nat.lt_or_ge (n - 1).toNat (F38 ++ m.2).length with h2 | h2
    · exact h2
    · rw [List.getElem?_eq_none h2] at h
      cases h
  rw [List.length_append, F38_len] at hl
  unfold atM atF
  rw [if_pos (by omega)]
  simp only [List.getD_eq_getElem?_getD, h, Option.getD_some]
theorem fd_whole {m : M} {nm vl : ByteArray} (h : (fdM m nm vl).2 = true) : atM m (fdM m nm vl).1 = (nm, vl, true) := by
  unfold fdM fdF at h ⊢
  cases he : exI nm vl (F38 ++ m.2) 1 with
  | some j =>
    obtain ⟨h1, x, hx, hn, hv⟩ := exI_get _ _ _ he
    have := atM_get h1 hx
    rw [hn, hv] at this
    exact this
  | none =>
    rw [he] at h
    simp at h
theorem fd_name {m : M} {nm vl : ByteArray} (h : (fdM m nm vl).1 ≠ 0) : (atM m (fdM m nm vl).1).1 = nm ∧ (atM m (fdM m nm vl).1).2.2 = true := by
  by_cases hw : (fdM m nm vl).2 = true
  · rw [fd_whole hw]
    exact ⟨rfl, rfl⟩
  · unfold fdM fdF at h hw ⊢
    cases he : exI nm vl (F38 ++ m.2) 1 with
    | some j =>
      rw [he] at hw
      exact absurd rfl hw
    | none =>
      rw [he] at h
      simp only at h ⊢
      obtain ⟨h1, x, hx, hn⟩ := nmI_get _ _ (by omega) h
      have := atM_get h1 hx
      rw [hn] at this
      rw [this]
      exact ⟨rfl, rfl⟩
theorem PT_len {t : ByteArray} {x : List Int} (h : PT t x) : x.length ≤ t.size + 11 := by
  rcases h with ⟨o, h1, h2, h3⟩ | h
  · have := encI_len 128 (ful 7) (o.length : Int)
    rw [h3, List.length_append]
    omega
  · have := encI_len 0 (ful 7) (t.size : Int)
    rw [h, List.length_append, bytesOf_length]
    omega
theorem PL_len {nm vl : ByteArray} {first bits n : Int} {x : List Int} (hn : nm.size ≤ 3000) (hv : vl.size ≤ 3000) (h : PL nm vl first bits n x) : 1 ≤ x.length ∧ x.length ≤ 6033 := by
  obtain ⟨u, v, h1, h2, h3, h4⟩ := h
  have e := encI_len first (ful bits) n
  have e2 := PT_len h2
  have e3 : u.length ≤ 3011 := by
    by_cases hz : n = 0
    · have := PT_len (h3 hz)
      omega
    · rw [h4 hz]
      simp
  rw [h1, List.length_append, List.length_append]
  omega
theorem PF_len {m : M} {f : FP} {x : List Int} (hf : Sml f) (h : PF m f x) : 1 ≤ x.length ∧ x.length ≤ 6033 := by
  unfold PF at h
  split at h
  · exact PL_len hf.1 hf.2 h
  · split at h
    · have := encI_len 128 (ful 7) (fdM m f.f0 f.f1).1
      rw [h]
      omega
    · split at h
      · exact PL_len hf.1 hf.2 h
      · exact PL_len hf.1 hf.2 h
theorem PFs_len : ∀ (l : List FP) {m : M} {x : List Int}, (∀ f ∈ l, Sml f) → PFs m l x → x.length ≤ 6033 * l.length
  | [], m, x, hs, h => by
    rw [show x = [] from h]
    simp
  | f :: r, m, x, hs, h => by
    obtain ⟨u, v, h1, h2, h3⟩ := h
    have e := PF_len (hs f List.mem_cons_self) h2
    have e2 := PFs_len r (fun g hg => hs g (List.mem_cons_of_mem _ hg)) h3
    rw [h1, List.length_append, List.length_cons]
    omega
theorem vintB_bytes : ∀ (f : Nat) (n : Int), 0 ≤ n → n < 128 ^ (f + 1) → Bytes (vint f n)
  | 0, n, h0, h1 => Bytes.cons h0 (by simp at h1; omega) Bytes.nil
  | f + 1, n, h0, h1 => by
    rw [vint]
    split
    · refine Bytes.cons (by omega) (by omega) (vintB_bytes f _ (by omega) ?_)
      rw [Int.pow_succ] at h1; omega
    · exact Bytes.cons h0 (by omega) Bytes.nil
theorem encB_bytes {first n : Int} (bits : Int) (h0 : 0 ≤ first) (h1 : first < 256) (hn : 0 ≤ n) (hn2 : n ≤ 18446744073709551615) : Bytes (encI first (ful bits) n) := by
  have hr := ful_range bits
  have hc := ful_cases bits
  have hh : ∀ m : Int, 0 ≤ m → m ≤ ful bits → 0 ≤ first / (ful bits + 1) * (ful bits + 1) + m ∧ first / (ful bits + 1) * (ful bits + 1) + m < 256 := by
    intro m hm hm2
    rcases hc with h | h | h | h | h | h | h | h <;> rw [h] at hm2 ⊢ <;> omega
  unfold encI
  split
  · exact Bytes.cons (hh n hn (by omega)).1 (hh n hn (by omega)).2 Bytes.nil
  · refine Bytes.cons (hh _ (by omega) (by omega)).1 (hh _ (by omega) (by omega)).2 (vintB_bytes 9 _ (by omega) ?_)
    have : (128 : Int) ^ (9 + 1) = 1180591620717411303424 := by decide
    omega
theorem PT_bytes {t : ByteArray} {x : List Int} (ht : t.size ≤ 3000) (h : PT t x) : Bytes x := by
  rcases h with ⟨o, h1, h2, h3⟩ | h
  · rw [h3]
    exact (encB_bytes 7 (by omega) (by omega) (by omega) (by omega)).append h1.1
  · rw [h]
    exact (encB_bytes 7 (by omega) (by omega) (by omega) (by omega)).append (bytesOf_bytes t)
theorem PL_bytes {nm vl : ByteArray} {first bits n : Int} {x : List Int} (hn : nm.size ≤ 3000) (hv : vl.size ≤ 3000) (h0 : 0 ≤ first) (h1 : first < 256) (h2 : 0 ≤ n) (h3 : n ≤ 200) (h : PL nm vl first bits n x) : Bytes x := by
  obtain ⟨u, v, e, a, b, c⟩ := h
  have hu : Bytes u := by
    by_cases hz : n = 0
    · exact PT_bytes hn (b hz)
    · rw [c hz]
      exact Bytes.nil
  rw [e]
  exact ((encB_bytes bits h0 h1 h2 (by omega)).append hu).append (PT_bytes hv a)
theorem PF_bytes {m : M} (hm : Wt m) {f : FP} {x : List Int} (hf : Sml f) (h : PF m f x) : Bytes x := by
  have hr := fdM_range hm f.f0 f.f1
  unfold PF at h
  split at h
  · exact PL_bytes hf.1 hf.2 (by omega) (by omega) hr.1 hr.2 h
  · split at h
    · rw [h]
      exact encB_bytes 7 (by omega) (by omega) hr.1 (by omega)
    · split at h
      · exact PL_bytes hf.1 hf.2 (by omega) (by omega) hr.1 hr.2 h
      · exact PL_bytes hf.1 hf.2 (by omega) (by omega) hr.1 hr.2 h
theorem PFs_bytes : ∀ (l : List FP) {m : M} {x : List Int}, Wt m → (∀ f ∈ l, Sml f) → PFs m l x → Bytes x
  | [], m, x, hm, hs, h => by
    rw [show x = [] from h]
    exact Bytes.nil
  | f :: r, m, x, hm, hs, h => by
    obtain ⟨u, v, h1, h2, h3⟩ := h
    have hf := hs f List.mem_cons_self
    rw [h1]
    exact (PF_bytes hm hf h2).append (PFs_bytes r (hm.aft hf) (fun g hg => hs g (List.mem_cons_of_mem _ hg)) h3)
section
variable {s : ByteArray} {p q : List Int}
theorem PL_head {nm vl : ByteArray} {first bits n : Int} {x : List Int} (hx : PL nm vl first bits n x) (h : bytesOf s = p ++ (x ++ q)) : bt s (p.length : Int) = first / (ful bits + 1) * (ful bits + 1) + (if n < ful bits then n else ful bits) := by
  obtain ⟨u, v, e, _⟩ := hx
  rw [e] at h
  exact bt_head (q := u ++ (v ++ q)) (by rw [h]; simp only [List.append_assoc])
theorem dstep (hs : s.size ≤ 900000) {m : M} (hm : Wt m) {f : FP} (hf : Sml f) {x : List Int} (hx : PF m f x) (h : bytesOf s = p ++ (x ++ q)) {n : Nat} (hn : n < 64) :
    Ev (fun k => upStep k (mkT m) s (p.length : Int) n) (mkT (aft m f), .ok ((p.length : Int) + (x.length : Int), some f)) := by
  have hl := PF_len hf hx
  have hz := pre_size h
  have h0 : (0 : Int) ≤ (p.length : Int) := by omega
  have ha : (p.length : Int) < (s.size : Int) := by omega
  have hr := fdM_range hm f.f0 f.f1
  have h64 : ¬ n = 64 := by omega
  have hsi := shr_iff h0 ha
  have f4 : ful 4 = 15 := rfl
  have f6 : ful 6 = 63 := rfl
  have f7 : ful 7 = 127 := rfl
  have hat := fun hq => fd_name (m := m) (nm := f.f0) (vl := f.f1) hq
  unfold PF at hx
  unfold aft
  by_cases hv : f.f2 = true
  · rw [if_pos hv] at hx ⊢
    have hb := PL_head hx h
    rw [f4] at hb
    have hb2 : 16 ≤ bt s (p.length : Int) ∧ bt s (p.length : Int) < 32 := by
      rw [hb]
      split <;> omega
    have u := ulit_ev hs hm hf.1 hf.2 hr.1 hr.2 hx hat h
    refine Ev.congr (fun k => by rw [upStep]) ?_
    refine ev_pos h0 ?_
    refine ev_neg (fun e => by have := hsi.mp e; omega) ?_
    refine ev_neg h64 ?_
    refine ev_neg (by omega) ?_
    refine ev_neg (by omega) ?_
    refine Ev.bind u ?_
    refine ev_val ?_
    rw [decide_eq_true (show bt s (p.length : Int) ≥ 16 by omega), ← hv]
  · rw [if_neg hv] at hx ⊢
    have hvf : f.f2 = false := by simpa using hv
    by_cases hw : (fdM m f.f0 f.f1).2 = true
    · rw [if_pos hw] at hx ⊢
      rw [hx] at h ⊢
      clear hx
      have hb := bt_head h
      rw [f7] at hb
      have hb2 : 128 ≤ bt s (p.length : Int) := by
        rw [hb]
        split <;> omega
      have u := num_ev hs 7 hr.1 (by omega) h
      have hc := fd_whole hw
      refine Ev.congr (fun k => by rw [upStep]) ?_
      refine ev_pos h0 ?_
      refine ev_neg (fun e => by have := hsi.mp e; omega) ?_
      refine ev_neg h64 ?_
      refine ev_pos (by omega) ?_
      refine Ev.bind u ?_
      refine ev_pos rfl ?_
      refine ev_pos ⟨hr.1, by simp only; omega, by rw [mkT_len]; have := hm.1.2.1; omega, by rw [mkT_fx]; omega⟩ ?_
      refine ev_pos (show (tbAt (mkT m).fx (mkT m).l (fdM m f.f0 f.f1).1).2.2 = true by rw [tbAt_M, hc]) ?_
      refine ev_val ?_
      simp only [tbAt_M, hc]
      rw [← hvf]
    · rw [if_neg hw] at hx ⊢
      by_cases hc : (f.f0.size : Int) + (f.f1.size : Int) ≤ m.1 - 32
      · rw [if_pos hc] at hx ⊢
        have hb := PL_head hx h
        rw [f6] at hb
        have hb2 : 64 ≤ bt s (p.length : Int) ∧ bt s (p.length : Int) < 128 := by
          rw [hb]
          split <;> omega
        have u := ulit_ev hs hm hf.1 hf.2 hr.1 hr.2 hx hat h
        have hadd := add_f hm.1 (by omega) (a := f.f0) (b := f.f1) (by unfold es; have := hf.1; have := hf.2; simp only; omega)
        refine Ev.congr (fun k => by rw [upStep]) ?_
        refine ev_pos h0 ?_
        refine ev_neg (fun e => by have := hsi.mp e; omega) ?_
        refine ev_neg h64 ?_
        refine ev_neg (by omega) ?_
        refine ev_pos (by omega) ?_
        refine Ev.bind u ?_
        refine ev_bind0 hadd ?_
        refine ev_val ?_
        rw [← hvf]
      · rw [if_neg hc] at hx ⊢
        have hb := PL_head hx h
        rw [f4] at hb
        have hb2 : 0 ≤ bt s (p.length : Int) ∧ bt s (p.length : Int) < 16 := by
          rw [hb]
          split <;> omega
        have u := ulit_ev hs hm hf.1 hf.2 hr.1 hr.2 hx hat h
        refine Ev.congr (fun k => by rw [upStep]) ?_
        refine ev_pos h0 ?_
        refine ev_neg (fun e => by have := hsi.mp e; omega) ?_
        refine ev_neg h64 ?_
        refine ev_neg (by omega) ?_
        refine ev_neg (by omega) ?_
        refine Ev.bind u ?_
        refine ev_val ?_
        rw [decide_eq_false (show ¬ bt s (p.length : Int) ≥ 16 by omega), ← hvf]
theorem dres (hs : s.size ≤ 900000) {u : M} (hu : Wt u) {z : Int} (h0 : 0 ≤ z) (h1 : z ≤ 4096) (h : bytesOf s = p ++ (encI 32 (ful 5) z ++ q)) :
    Ev (fun k => upStep k (mkT u) s (p.length : Int) 0) (mkT (rsz u z), .ok ((p.length : Int) + ((encI 32 (ful 5) z).length : Int), none)) := by
  have hl := encI_len 32 (ful 5) z
  have hz := pre_size h
  have hp : (0 : Int) ≤ (p.length : Int) := by omega
  have ha : (p.length : Int) < (s.size : Int) := by omega
  have hsi := shr_iff hp ha
  have f5 : ful 5 = 31 := rfl
  have hb := bt_head h
  rw [f5] at hb
  have hb2 : 32 ≤ bt s (p.length : Int) ∧ bt s (p.length : Int) ≤ 63 := by
    rw [hb]
    split <;> omega
  have a1 := num_ev hs 5 h0 (by omega) h
  have a2 := resize_f hu.1 (by omega) (x := z) (by omega)
  refine Ev.congr (fun k => by rw [upStep]) ?_
  refine ev_pos hp ?_
  refine ev_pos (hsi.mpr hb2) ?_
  have a3 : Ev (fun k => upRes k (mkT u) s (p.length : Int) (decide (0 < 0))) (.ok (mkT (rsz u z), (p.length : Int) + ((encI 32 (ful 5) z).length : Int))) := by
    refine Ev.congr (fun k => by rw [upRes]) ?_
    refine Ev.bind a1 ?_
    refine ev_pos rfl ?_
    refine ev_neg (by decide) ?_
    refine ev_neg (show ¬ z > 4096 by omega) ?_
    simp only [w64 (x := z) (by omega) (by omega), a2]
    exact ev_val rfl
  refine Ev.bind a3 ?_
  exact Ev.now _
end
theorem fld_step {T T1 : TB} {s : ByteArray} {a a1 : Int} {out : List FD} {fo : Option FD} {R : TB × Except Int (List FD)} (ha : a < (s.size : Int)) (h1 : Ev (fun k => upStep k T s a out.length) (T1, .ok (a1, fo))) (h2 : Ev2 (fun k q => upFld k q T1 s a1 (out ++ fo.toList)) R) : Ev2 (fun k q => upFld k q T s a out) R := by
  obtain ⟨K1, u⟩ := h1
  obtain ⟨K2, v⟩ := h2
  refine ⟨K1 + K2 + 1, fun k q hk hq => ?_⟩
  obtain ⟨q, rfl⟩ : ∃ p, q = p + 1 := ⟨q - 1, by omega⟩
  have e := u k (by omega)
  have w := v k q (by omega) (by omega)
  simp only at e w
  simp only [upFld]
  rw [if_pos ha, e, Option.bind_some]
  exact w
theorem dfields {s : ByteArray} (hs : s.size ≤ 900000) : ∀ (l : List FP) {m : M} {p x : List Int} (out : List FD), Wt m → (∀ f ∈ l, Sml f) → PFs m l x → bytesOf s = p ++ x → out.length + l.length ≤ 64 →
    Ev2 (fun k q => upFld k q (mkT m) s (p.length : Int) out) (mkT (afts m l), .ok (out ++ l))
  | [], m, p, x, out, hm, hf, hx, h, ho => by
    have hx' : x = [] := hx
    rw [hx', List.append_nil] at h
    have hz := congrArg List.length h
    rw [bytesOf_length] at hz
    refine ⟨1, fun k q hk hq => ?_⟩
    obtain ⟨q, rfl⟩ : ∃ p, q = p + 1 := ⟨q - 1, by omega⟩
    simp only [upFld]
    rw [if_neg (by omega), List.append_nil]
    rfl
  | f :: r, m, p, x, out, hm, hf, hx, h, ho => by
    obtain ⟨u, v, h1, h2, h3⟩ := hx
    have hf1 := hf f List.mem_cons_self
    have hl := PF_len hf1 h2
    rw [h1] at h
    rw [List.length_cons] at ho
    have hz := pre_size (p := p) (q := v) h
    have ih := dfields hs r (p := p ++ u) (out ++ [f]) (hm.aft hf1) (fun g hg => hf g (List.mem_cons_of_mem _ hg)) h3 (by rw [h, List.append_assoc]) (by rw [List.length_append, List.length_singleton]; omega)
    refine fld_step (by omega) (dstep hs hm hf1 h2 h (n := out.length) (by omega)) ?_
    rw [List.length_append, List.append_assoc] at ih
    exact ih
end Go.Proofs.YtfkdocmhbmameaaDoor.Pure
