/- The walks and the plain laws that the rows come to: merged out of this repo's texts. -/
import Derived.Test.YtfkdocmhbmameaaDoorProg
import Derived.Below
import Derived.Deep.Draws
import Derived.Deep.AppendLies
import Derived.Maps.AppendAt
import Derived.OwnWalk
import Derived.Laws.BytesArg
import Derived.Laws.MakeOwn
import Derived.Laws.OwnMore
import Derived.Deep.OwnRows
import Derived.Tactics
import Derived.Lib.ConvBytes
import Derived.Laws.Slices
import Derived.WalkKit
import Derived.KernelRfl
import Derived.RowKit3
import Derived.Deep.LoopGhost
import Derived.Deep.QuietTactic
import Derived.BigQuiet
import Derived.WideLaws
import Derived.Deep.DeepCutAuto
import Derived.Deep.CutBlock
import Derived.Deep.RegionHeld3
import Derived.Laws.Rows
import Derived.Lib.AppendStr
import Derived.ArgAppend
import Derived.Laws.IdiomCopy
import Derived.RowKit
import Derived.OrdersHeld
import Derived.Laws.BitsLemmas
import Derived.Laws.StructEq
import Derived.Laws.CopyOwn
import Derived.SizedLaws
import Derived.ChangeSlices
import Derived.Deep.Slices
import Derived.Lib.SmallJoins
import Derived.Lib.OthersKept
import Derived.Lib.AppendZerosOnto
import Derived.WalkSpells
import Derived.Shelf.Utf8.RuneCount
import Derived.Shelf.Strings.Search1
import Derived.Shelf.Strings.Search2
import Derived.Shelf.Strings.Search3
import Derived.Shelf.Strings.Cut
import Derived.Shelf.Strings.Count
import Derived.Shelf.LaysM
import Derived.Shelf.Strings.Shaped
import Derived.Shelf.Strings.Split
import Derived.Shelf.Strings.SplitShaped
import Derived.Shelf.Unicode.Decode
import Derived.Shelf.Strings.RuneCount
import Derived.Shelf.Strings.Explode
import Derived.Shelf.Unicode.DecodeSlow
import Derived.Shelf.Unicode.DecodeAny
import Derived.Recover
import Derived.WalkLawsBesides
import Derived.Laws.BitsAllLaws
import Derived.Test.YtfkdocmhbmameaaDoorCA1
import Derived.Test.YtfkdocmhbmameaaDoorCA2
import Derived.Test.YtfkdocmhbmameaaDoorCA3
import Derived.Test.YtfkdocmhbmameaaDoorCA4
import Derived.Test.YtfkdocmhbmameaaDoorCA5
import Derived.Test.YtfkdocmhbmameaaDoorCA6
import Derived.Test.YtfkdocmhbmameaaDoorCA7
import Derived.Test.YtfkdocmhbmameaaDoorCA8
import Derived.Test.YtfkdocmhbmameaaDoorCA9
import Derived.Test.YtfkdocmhbmameaaDoorCA10
import Derived.Test.YtfkdocmhbmameaaDoorCA11
import Derived.Test.YtfkdocmhbmameaaDoorCA12
import Derived.Test.YtfkdocmhbmameaaDoorCA13
import Derived.Test.YtfkdocmhbmameaaDoorCA14
import Derived.Test.YtfkdocmhbmameaaDoorCA15
import Derived.Test.YtfkdocmhbmameaaDoorCA16
import Derived.Test.YtfkdocmhbmameaaDoorCA17
import Derived.Test.YtfkdocmhbmameaaDoorCA18
import Derived.Test.YtfkdocmhbmameaaDoorCA20
import Derived.Test.YtfkdocmhbmameaaDoorCA23
import Derived.Test.YtfkdocmhbmameaaDoorCA24
import Derived.Test.YtfkdocmhbmameaaDoorCA25
import Derived.Test.YtfkdocmhbmameaaDoorCA26
import Derived.Test.YtfkdocmhbmameaaDoorCA27
import Derived.Test.YtfkdocmhbmameaaDoorCA28
import Derived.Test.YtfkdocmhbmameaaDoorCA32
import Derived.Test.YtfkdocmhbmameaaDoorCA34
import Derived.Test.YtfkdocmhbmameaaDoorCA35
import Derived.Test.YtfkdocmhbmameaaDoorCA36
import Derived.Test.YtfkdocmhbmameaaDoorCA37
namespace Go.Proofs.YtfkdocmhbmameaaDoor.Pure
open Go.RowKit Go.Proofs.YtfkdocmhbmameaaDoor.Mine Go.Proofs.YtfkdocmhbmameaaDoorW.PrintWords Go.Proofs.YtfkdocmhbmameaaDoorW.PrintLast Go.Proofs.YtfkdocmhbmameaaDoorW.PrintMore
set_option linter.unusedVariables false
theorem rdR {l r : List Int} (h : 0 < r.length) : rd (l ++ r) (l.length : Int) = r[0] := by
  rw [rd_nat (by rw [List.length_append]; omega), List.getElem_append_right (by omega)]
  simp
theorem gI_enc {first n : Int} (bits : Int) (ahead more : List Int) (hn : 0 ≤ n) (hn2 : n ≤ 4294967295) :
    getI (ful bits) (ahead ++ (encI first (ful bits) n ++ more)) (ahead.length : Int) = (n, (ahead.length : Int) + (encI first (ful bits) n).length, 0) := by
  have hr := ful_range bits
  have hlen : (ahead ++ (encI first (ful bits) n ++ more)).length > ahead.length := by
    have := encI_pos first (ful bits) n
    rw [List.length_append, List.length_append]; omega
  unfold getI
  rw [if_neg (by omega), Int.toNat_natCast]
  by_cases hf : n < ful bits
  · rw [rdR (by unfold encI; rw [if_pos hf]; simp)]
    unfold encI
    simp only [if_pos hf, List.singleton_append, List.getElem_cons_zero, List.length_singleton]
    have e : (first / (ful bits + 1) * (ful bits + 1) + n) % (ful bits + 1) = n := by rw [Int.add_comm, Int.add_mul_emod_self_right]; exact Int.emod_eq_of_lt hn (by omega)
    rw [e, if_pos hf]
    rfl
  · rw [rdR (by unfold encI; rw [if_neg hf]; simp)]
    unfold encI
    simp only [if_neg hf, List.cons_append, List.getElem_cons_zero, List.length_cons]
    have e : (first / (ful bits + 1) * (ful bits + 1) + ful bits) % (ful bits + 1) = ful bits := by rw [Int.add_comm, Int.add_mul_emod_self_right]; exact Int.emod_eq_of_lt (by omega) (by omega)
    have h10 : (128 : Int) ^ (9 + 1) = 1180591620717411303424 := by decide
    rw [e, if_neg (by omega), List.drop_append, List.drop_eq_nil_of_le (by omega), show ahead.length + 1 - ahead.length = 1 by omega, List.nil_append, List.drop_one, List.tail_cons,
      getT_vint more _ 9 5 0 (ful bits) (n - ful bits) (by omega) (by omega) (by omega) (by omega) (.inl rfl)]
    simp only [Int.pow_zero, Int.mul_one]
    rw [show ful bits + (n - ful bits) = n by omega, if_neg (by omega)]
    congr 2; omega
theorem enc_head {first F n : Int} : ∃ r, encI first F n = (first / (F + 1) * (F + 1) + (if n < F then n else F)) :: r := by
  unfold encI
  split
  · exact ⟨[], rfl⟩
  · exact ⟨_, rfl⟩
theorem bt_head {s : ByteArray} {p q : List Int} {first F n : Int} (h : bytesOf s = p ++ (encI first F n ++ q)) : bt s (p.length : Int) = first / (F + 1) * (F + 1) + (if n < F then n else F) := by
  obtain ⟨r, hr⟩ := enc_head (first := first) (F := F) (n := n)
  rw [bt_eq, h, rdR (by rw [hr]; simp)]
  simp only [hr, List.cons_append, List.getElem_cons_zero]
section
variable {s : ByteArray} {p q : List Int}
theorem pre_size {x : List Int} (h : bytesOf s = p ++ (x ++ q)) : (s.size : Int) = (p.length : Int) + (x.length : Int) + (q.length : Int) := by
  have e := congrArg List.length h
  rw [bytesOf_length, List.length_append, List.length_append] at e
  omega
theorem num_ev (hs : s.size ≤ 900000) {first n : Int} (bits : Int) (h0 : 0 ≤ n) (h1 : n ≤ 4294967295) (h : bytesOf s = p ++ (encI first (ful bits) n ++ q)) :
    Ev (fun k => prefix_Get.f k s (p.length : Int) bits) (n, (p.length : Int) + ((encI first (ful bits) n).length : Int), 0) := by
  have e := pget_ev s (by omega) (p.length : Int) bits
  rw [h, gI_enc bits p q h0 h1] at e
  exact e
theorem part_at {o : List Int} (hs : s.size ≤ 900000) (h : bytesOf s = p ++ (o ++ q)) : ∃ t, num_Part.f s (p.length : Int) (o.length : Int) = some (t, true) ∧ bytesOf t = o := by
  have hz := pre_size h
  refine ⟨_, part_yes (by omega) (by omega) (by omega) (by omega), ?_⟩
  rw [bytesOf_extract, h, Int.toNat_natCast, List.drop_left, show ((p.length : Int) + (o.length : Int)).toNat - p.length = o.length by omega, List.take_left]
theorem utext_ev (hs : s.size ≤ 900000) {t : ByteArray} (ht : t.size ≤ 3000) {x : List Int} (hx : PT t x) (h : bytesOf s = p ++ (x ++ q)) :
    Ev (fun k => upText k s (p.length : Int)) (.ok (t, (p.length : Int) + (x.length : Int))) := by
  have hz := pre_size h
  refine Ev.congr (fun k => by rw [upText, if_pos (by omega), upText0]) ?_
  unfold PT at hx
  rcases hx with hx | hx
  · obtain ⟨o, hx⟩ := hx
    have ho := hx.1
    have hl := hx.2.1
    have e := hx.2.2
    clear hx
    rw [e] at h hz ⊢
    clear e
    rw [List.append_assoc] at h
    have hp1 := encI_len 128 (ful 7) (o.length : Int)
    have u := num_ev hs 7 (by omega) (by omega) h
    rw [← List.append_assoc] at h
    obtain ⟨y, hy, hyb⟩ := part_at hs h
    rw [List.length_append] at hy hz ⊢
    have hb := bt_head (s := s) (p := p) (first := 128) (F := ful 7) (n := (o.length : Int)) (q := o ++ q) (by rw [h, List.append_assoc])
    have hd := decode_f y (by rw [size_bytesOf, hyb]; omega)
    rw [hyb, dec_of_enc (bytesOf_bytes t) ho] at hd
    have hf : ful 7 = 127 := rfl
    have hge : bt s (p.length : Int) ≥ 128 := by
      rw [hb, hf]
      split <;> omega
    refine Ev.bind u ?_
    refine ev_pos rfl ?_
    simp only [w64 (x := (o.length : Int)) (by omega) (by omega)]
    refine ev_bind0 (show num_Part.f s ((p.length : Int) + ((encI 128 (ful 7) (o.length : Int)).length : Int)) (o.length : Int) = some (y, true) by rw [← hy]; congr 1) ?_
    refine ev_pos rfl ?_
    refine ev_pos (by rw [decide_eq_true (show (p.length : Int) < (s.size : Int) by omega), decide_eq_true hge]; rfl) ?_
    refine Ev.bind hd ?_
    refine ev_pos rfl ?_
    refine ev_val ?_
    rw [w64 (x := (p.length : Int) + ((encI 128 (ful 7) (o.length : Int)).length : Int) + (o.length : Int)) (by omega) (by omega)]
    have e1 : (res (some (bytesOf t))).1 = t := str_bytesOf t
    have e2 : (p.length : Int) + ((encI 128 (ful 7) (o.length : Int)).length : Int) + (o.length : Int) = (p.length : Int) + (((encI 128 (ful 7) (o.length : Int)).length + o.length : Nat) : Int) := by omega
    rw [e1, e2]
  · rw [hx] at h hz ⊢
    clear hx
    have hbl := bytesOf_length t
    rw [List.append_assoc] at h
    have hp1 := encI_len 0 (ful 7) (t.size : Int)
    have u := num_ev hs 7 (by omega) (by omega) h
    have hb := bt_head h
    rw [← List.append_assoc] at h
    obtain ⟨y, hy, hyb⟩ := part_at hs h
    have hyt : y = t := bytesOf_inj hyb
    subst hyt
    rw [List.length_append] at hy hz ⊢
    rw [hbl] at hy hz ⊢
    have hf : ful 7 = 127 := rfl
    have hlt : ¬ bt s (p.length : Int) ≥ 128 := by
      rw [hb, hf]
      split <;> omega
    refine Ev.bind u ?_
    refine ev_pos rfl ?_
    simp only [w64 (x := (y.size : Int)) (by omega) (by omega)]
    refine ev_bind0 (show num_Part.f s ((p.length : Int) + ((encI 0 (ful 7) (y.size : Int)).length : Int)) (y.size : Int) = some (y, true) by rw [← hy]; congr 1) ?_
    refine ev_pos rfl ?_
    refine ev_neg (by rw [decide_eq_false hlt, Bool.and_false]; decide) ?_
    refine ev_val ?_
    rw [w64 (x := (p.length : Int) + ((encI 0 (ful 7) (y.size : Int)).length : Int) + (y.size : Int)) (by omega) (by omega)]
    have e2 : (p.length : Int) + ((encI 0 (ful 7) (y.size : Int)).length : Int) + (y.size : Int) = (p.length : Int) + (((encI 0 (ful 7) (y.size : Int)).length + y.size : Nat) : Int) := by omega
    rw [e2]
theorem ulit_ev (hs : s.size ≤ 900000) {m : M} (hm : Wt m) {nm vl : ByteArray} (hn : nm.size ≤ 3000) (hv : vl.size ≤ 3000) {first bits n : Int} (h0 : 0 ≤ n) (h1 : n ≤ 200) {x : List Int} (hx : PL nm vl first bits n x) (hat : n ≠ 0 → (atM m n).1 = nm ∧ (atM m n).2.2 = true) (h : bytesOf s = p ++ (x ++ q)) :
    Ev (fun k => upLit k (mkT m) s (p.length : Int) bits) (.ok (nm, vl, (p.length : Int) + (x.length : Int))) := by
  obtain ⟨u, hx⟩ := hx
  obtain ⟨v, hx⟩ := hx
  have e := hx.1
  have hv1 := hx.2.1
  have hu1 := hx.2.2.1
  have hu2 := hx.2.2.2
  clear hx
  have hz := pre_size h
  rw [e] at h hz ⊢
  clear e
  simp only [List.length_append] at hz ⊢
  have hp1 := encI_len first (ful bits) n
  have a1 := num_ev (s := s) (p := p) (q := u ++ (v ++ q)) hs (first := first) bits h0 (by omega) (by rw [h]; simp only [List.append_assoc])
  refine Ev.congr (fun k => by rw [upLit]) ?_
  refine Ev.bind a1 ?_
  refine ev_pos rfl ?_
  by_cases hn0 : n = 0
  · have hu := hu1 hn0
    have a2 := utext_ev (s := s) (p := p ++ encI first (ful bits) n) (q := v ++ q) hs hn hu (by rw [h]; simp only [List.append_assoc])
    have a3 := utext_ev (s := s) (p := p ++ encI first (ful bits) n ++ u) (q := q) hs hv hv1 (by rw [h]; simp only [List.append_assoc])
    simp only [List.length_append] at a2 a3
    refine ev_neg (show ¬ (n > 0) by omega) ?_
    refine Ev.bind (show Ev (fun k => upText k s ((p.length : Int) + ((encI first (ful bits) n).length : Int))) _ from a2) ?_
    refine Ev.bind (show Ev (fun k => upText k s ((((p.length + (encI first (ful bits) n).length : Nat) : Int)) + (u.length : Int))) _ from a3) ?_
    refine ev_val ?_
    have e2 : ((p.length + (encI first (ful bits) n).length + u.length : Nat) : Int) + (v.length : Int) = (p.length : Int) + (((encI first (ful bits) n).length + u.length + v.length : Nat) : Int) := by omega
    simp only [e2]
  · have hu := hu2 hn0
    subst hu
    obtain ⟨c1, c2⟩ := hat hn0
    have a3 := utext_ev (s := s) (p := p ++ encI first (ful bits) n) (q := q) hs hv hv1 (by rw [h]; simp only [List.append_assoc, List.nil_append])
    simp only [List.length_append] at a3
    refine ev_pos (show n > 0 by omega) ?_
    refine ev_pos ⟨by omega, by rw [mkT_len]; have := hm.1.2.1; omega, by rw [mkT_fx]; omega⟩ ?_
    refine ev_pos (show (tbAt (mkT m).fx (mkT m).l n).2.2 = true by rw [tbAt_M]; exact c2) ?_
    refine Ev.bind (show Ev (fun k => upText k s ((p.length : Int) + ((encI first (ful bits) n).length : Int))) _ from a3) ?_
    refine ev_val ?_
    have e2 : ((p.length + (encI first (ful bits) n).length : Nat) : Int) + (v.length : Int) = (p.length : Int) + (((encI first (ful bits) n).length + v.length : Nat) : Int) := by omega
    simp only [tbAt_M, c1, List.length_nil, Nat.add_zero, e2]
end
end Go.Proofs.YtfkdocmhbmameaaDoor.Pure
