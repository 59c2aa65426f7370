/- The walks and the plain laws that the rows come to: merged out of this repo's texts. -/
import Derived.Test.YtfkdocmhbmameaaDoorProg
import Derived.Below
import Derived.Deep.Draws
import Derived.Deep.AppendLies
import Derived.Maps.AppendAt
import Derived.OwnWalk
import Derived.Laws.BytesArg
import Derived.Laws.MakeOwn
import Derived.Laws.OwnMore
import Derived.Deep.OwnRows
import Derived.Tactics
import Derived.Lib.ConvBytes
import Derived.Laws.Slices
import Derived.WalkKit
import Derived.KernelRfl
import Derived.RowKit3
import Derived.Deep.LoopGhost
import Derived.Deep.QuietTactic
import Derived.BigQuiet
import Derived.WideLaws
import Derived.Deep.DeepCutAuto
import Derived.Deep.CutBlock
import Derived.Deep.RegionHeld3
import Derived.Laws.Rows
import Derived.Lib.AppendStr
import Derived.ArgAppend
import Derived.Laws.IdiomCopy
import Derived.RowKit
import Derived.OrdersHeld
import Derived.Laws.BitsLemmas
import Derived.Laws.StructEq
import Derived.Laws.CopyOwn
import Derived.SizedLaws
import Derived.ChangeSlices
import Derived.Deep.Slices
import Derived.Lib.SmallJoins
import Derived.Lib.OthersKept
import Derived.Lib.AppendZerosOnto
import Derived.WalkSpells
import Derived.Shelf.Utf8.RuneCount
import Derived.Shelf.Strings.Search1
import Derived.Shelf.Strings.Search2
import Derived.Shelf.Strings.Search3
import Derived.Shelf.Strings.Cut
import Derived.Shelf.Strings.Count
import Derived.Shelf.LaysM
import Derived.Shelf.Strings.Shaped
import Derived.Shelf.Strings.Split
import Derived.Shelf.Strings.SplitShaped
import Derived.Shelf.Unicode.Decode
import Derived.Shelf.Strings.RuneCount
import Derived.Shelf.Strings.Explode
import Derived.Shelf.Unicode.DecodeSlow
import Derived.Shelf.Unicode.DecodeAny
import Derived.Recover
import Derived.WalkLawsBesides
import Derived.Laws.BitsAllLaws
import Derived.Test.YtfkdocmhbmameaaDoorCA1
import Derived.Test.YtfkdocmhbmameaaDoorCA10
import Derived.Test.YtfkdocmhbmameaaDoorCA11
import Derived.Test.YtfkdocmhbmameaaDoorCA12
import Derived.Test.YtfkdocmhbmameaaDoorCA13
import Derived.Test.YtfkdocmhbmameaaDoorCA14
import Derived.Test.YtfkdocmhbmameaaDoorCA15
import Derived.Test.YtfkdocmhbmameaaDoorCA16
import Derived.Test.YtfkdocmhbmameaaDoorCA2
import Derived.Test.YtfkdocmhbmameaaDoorCA20
import Derived.Test.YtfkdocmhbmameaaDoorCA23
import Derived.Test.YtfkdocmhbmameaaDoorCA25
import Derived.Test.YtfkdocmhbmameaaDoorCA26
import Derived.Test.YtfkdocmhbmameaaDoorCA27
import Derived.Test.YtfkdocmhbmameaaDoorCA28
import Derived.Test.YtfkdocmhbmameaaDoorCA3
import Derived.Test.YtfkdocmhbmameaaDoorCA32
import Derived.Test.YtfkdocmhbmameaaDoorCA34
import Derived.Test.YtfkdocmhbmameaaDoorCA35
import Derived.Test.YtfkdocmhbmameaaDoorCA36
import Derived.Test.YtfkdocmhbmameaaDoorCA37
import Derived.Test.YtfkdocmhbmameaaDoorCA4
import Derived.Test.YtfkdocmhbmameaaDoorCA40
import Derived.Test.YtfkdocmhbmameaaDoorCA41
import Derived.Test.YtfkdocmhbmameaaDoorCA5
import Derived.Test.YtfkdocmhbmameaaDoorCA6
import Derived.Test.YtfkdocmhbmameaaDoorCA7
import Derived.Test.YtfkdocmhbmameaaDoorCA8
import Derived.Test.YtfkdocmhbmameaaDoorCA9
import Derived.Test.YtfkdocmhbmameaaDoorCP1
import Derived.Test.YtfkdocmhbmameaaDoorCP2
namespace Go.Proofs.YtfkdocmhbmameaaDoor.Pure
open Go.RowKit Go.Proofs.YtfkdocmhbmameaaDoor.Mine Go.Proofs.YtfkdocmhbmameaaDoorW.PrintWords Go.Proofs.YtfkdocmhbmameaaDoorW.PrintLast Go.Proofs.YtfkdocmhbmameaaDoorW.PrintMore
set_option linter.unusedVariables false
abbrev AB := S44
theorem kpB_kp : ∀ (l : List EB) (a b : Int), a ≤ b → kp a (kp b l) = kp a l
  | [], _, _, _ => rfl
  | x :: l, a, b, h => by
    by_cases hb : es x ≤ b
    · rw [kp, if_pos hb, kp, kp]
      by_cases ha : es x ≤ a
      · rw [if_pos ha, if_pos ha, kpB_kp l _ _ (by omega)]
      · rw [if_neg ha, if_neg ha]
    · have e1 : kp b (x :: l) = [] := by rw [kp, if_neg hb]
      have e2 : kp a (x :: l) = [] := by rw [kp, if_neg (by omega)]
      rw [e1, e2]
      rfl
theorem mxB {z : Int} (h : 0 ≤ z) : mx z 0 = z := by unfold mx; split <;> omega
theorem rszB (m : M) {z : Int} (h : 0 ≤ z) : rsz m z = (z, kp z m.2) := by unfold rsz; rw [mxB h]
def InvB (m : M) (le : Int) (ch : Bool) (u : M) : Prop := Wt m ∧ Wt u ∧ ((ch = false ∧ le = 4096 ∧ m = u) ∨ (ch = true ∧ 0 ≤ le ∧ le ≤ m.1 ∧ m.2 = kp le u.2))
theorem limit_inv {m u : M} {le : Int} {ch : Bool} (h : InvB m le ch u) {n : Int} (hn : 0 ≤ n) : ∃ m' le' ch', pack_Encoder_Limit.f ⟨mkT m, le, ch⟩ n = some ⟨mkT m', le', ch'⟩ ∧ InvB m' le' ch' u := by
  obtain ⟨hm, hu, hc⟩ := h
  have e1 := mn_le n 4096
  obtain ⟨z, hz⟩ : ∃ z, mn n 4096 = z := ⟨_, rfl⟩
  rw [hz] at e1
  have hz0 : 0 ≤ z := by omega
  unfold pack_Encoder_Limit.f
  rw [hz, w64 (x := z) (by omega) (by omega)]
  by_cases he : z = m.1
  · exact ⟨m, le, ch, if_pos he, hm, hu, hc⟩
  · refine ⟨rsz m z, mn le z, true, ?_, hm.rsz (by omega), hu, .inr ⟨rfl, ?_⟩⟩
    · have hne : ¬ z = (mkT m).most := he
      show (if z = (mkT m).most then _ else _) = _
      rw [if_neg hne]
      have hr := resize_f hm.1 (by omega) (x := z) (by omega)
      show (table_Table_Resize.f (mkT m) z).map _ = _
      rw [hr]
      rfl
    · rw [rszB m hz0]
      have e2 := mn_le le z
      obtain ⟨y, hy⟩ : ∃ y, mn le z = y := ⟨_, rfl⟩
      rw [hy] at e2 ⊢
      simp only
      rcases hc with ⟨_, c1, c2⟩ | ⟨_, c1, c2, c3⟩
      · rw [c2]
        have : y = z := by omega
        rw [this]
        exact ⟨hz0, Int.le_refl _, rfl⟩
      · refine ⟨by omega, by omega, ?_⟩
        rw [c3]
        by_cases hq : z ≤ le
        · rw [kpB_kp _ _ _ hq, show y = z by omega]
        · rw [kp_all _ _ (by have := kp_le u.2 le c1; omega), show y = le by omega]
theorem head_ev {m u : M} {le : Int} {ch : Bool} (h : InvB m le ch u) : ∃ hd : List Int, hd.length ≤ 22 ∧ Bytes hd ∧ Ev (fun k => pkHead k ⟨mkT m, le, ch⟩) hd ∧
    ∀ (s : ByteArray) (x : List Int) (R : TB × Except Int (List FD)), s.size ≤ 900000 → bytesOf s = hd ++ x → Ev2 (fun k q => upFld k q (mkT m) s (hd.length : Int) []) R → Ev2 (fun k q => upFld k q (mkT u) s 0 []) R := by
  obtain ⟨hm, hu, hc⟩ := h
  have hm0 := hm.1.1.1
  have hm1 := hm.2
  rcases hc with ⟨c0, _, c2⟩ | ⟨c0, c1, c2, c3⟩
  · rw [c0, c2]
    refine ⟨[], by simp, Bytes.nil, ⟨0, fun k _ => rfl⟩, fun s x R _ _ h => h⟩
  · rw [c0]
    have l1 := encI_len 32 (ful 5) le
    have l2 := encI_len 32 (ful 5) m.1
    have b2 := encB_bytes (first := 32) (n := m.1) 5 (by omega) (by omega) (by omega) (by omega)
    have hk : kp m.1 (kp le u.2) = kp le u.2 := kp_all _ _ (by have := kp_le u.2 le c1; omega)
    by_cases hlt : le < m.1
    · have b1 := encB_bytes (first := 32) (n := le) 5 (by omega) (by omega) (by omega) (by omega)
      refine ⟨encI 32 (ful 5) le ++ encI 32 (ful 5) m.1, by rw [List.length_append]; omega, b1.append b2, ?_, fun s x R hs h v => ?_⟩
      · refine Ev.congr (fun k => by rw [pkHead]) ?_
        refine ev_pos rfl ?_
        refine ev_pos (show le < (mkT m).most from hlt) ?_
        refine Ev.bind (put_ev [] (by simp) (first := 32) (by omega) (by omega) 5 (n := le) (by omega) (by omega)) ?_
        rw [List.nil_append]
        exact put_ev (encI 32 (ful 5) le) (by omega) (first := 32) (by omega) (by omega) 5 (n := m.1) (by omega) (by omega)
      · have a1 := dres (s := s) (p := []) (q := encI 32 (ful 5) m.1 ++ x) hs hu c1 (by omega) (by rw [h]; simp only [List.nil_append, List.append_assoc])
        have a2 := dres (s := s) (p := encI 32 (ful 5) le) (q := x) hs (hu.rsz (x := le) (by omega)) hm0 hm1 (by rw [h]; simp only [List.append_assoc])
        have hz := pre_size (s := s) (p := encI 32 (ful 5) le) (q := x) (x := encI 32 (ful 5) m.1) (by rw [h]; simp only [List.append_assoc])
        have e : rsz (rsz u le) m.1 = m := by
          rw [rszB u c1, rszB _ hm0]
          simp only
          rw [hk, ← c3]
        rw [e] at a2
        rw [List.length_append] at v
        refine fld_step (a1 := ((encI 32 (ful 5) le).length : Int)) (fo := none) (by omega) ?_ (fld_step (a1 := ((encI 32 (ful 5) le).length : Int) + ((encI 32 (ful 5) m.1).length : Int)) (fo := none) (by omega) a2 ?_)
        · have e2 : (([] : List Int).length : Int) + ((encI 32 (ful 5) le).length : Int) = ((encI 32 (ful 5) le).length : Int) := by simp
          rw [e2] at a1
          exact a1
        · have e3 : (((encI 32 (ful 5) le).length + (encI 32 (ful 5) m.1).length : Nat) : Int) = ((encI 32 (ful 5) le).length : Int) + ((encI 32 (ful 5) m.1).length : Int) := by omega
          rw [e3] at v
          exact v
    · have hle : le = m.1 := by omega
      refine ⟨encI 32 (ful 5) m.1, by omega, b2, ?_, fun s x R hs h v => ?_⟩
      · refine Ev.congr (fun k => by rw [pkHead]) ?_
        refine ev_pos rfl ?_
        refine ev_neg (show ¬ le < (mkT m).most from hlt) ?_
        exact put_ev [] (by simp) (first := 32) (by omega) (by omega) 5 (n := m.1) (by omega) (by omega)
      · have a1 := dres (s := s) (p := []) (q := x) hs hu hm0 hm1 (by rw [h]; simp only [List.nil_append])
        have hz := pre_size (s := s) (p := []) (q := x) (x := encI 32 (ful 5) m.1) (by rw [h]; simp only [List.nil_append])
        have e : rsz u m.1 = m := by
          rw [rszB u hm0, ← hle, ← c3, hle]
        rw [e] at a1
        simp only [List.length_nil] at hz
        refine fld_step (a1 := ((encI 32 (ful 5) m.1).length : Int)) (fo := none) (by omega) ?_ v
        have e2 : (([] : List Int).length : Int) + ((encI 32 (ful 5) m.1).length : Int) = ((encI 32 (ful 5) m.1).length : Int) := by simp
        rw [e2] at a1
        exact a1
theorem back_ev {m u : M} {le : Int} {ch : Bool} (h : InvB m le ch u) {l : List FP} (hl : l.length ≤ 64) (hf : ∀ f ∈ l, Sml f) :
    ∃ s, Ev (fun k => pack_Encoder_Write.f k ⟨mkT m, le, ch⟩ l) (s, ⟨mkT (afts m l), 4096, false⟩) ∧ Ev (fun k => unpack_Decoder_Read.f k ⟨mkT u, false⟩ s) (l, 0, ⟨mkT (afts m l), false⟩) := by
  obtain ⟨hd, h1, h2, h3, h4⟩ := head_ev h
  have hm := h.1
  obtain ⟨x, hp, v⟩ := pfields_ev l hd 4096 false hm hf (by omega)
  have hx := PFs_bytes l hm hf hp
  have hz := PFs_len l hf hp
  have hb : bytesOf (strOfNums (hd ++ x)) = hd ++ x := bytesOf_str (h2.append hx)
  have hs : (strOfNums (hd ++ x)).size ≤ 900000 := by
    rw [strOfNums_size, List.length_append]
    omega
  refine ⟨strOfNums (hd ++ x), ?_, ?_⟩
  · refine Ev.congr (fun k => by rw [pack_Encoder_Write.f]) ?_
    refine ev_pos (by omega) ?_
    refine Ev.bind h3 ?_
    exact Ev.bind v (Ev.now _)
  · have w := h4 _ x _ hs hb (dfields hs l (p := hd) [] hm hf hp hb (by simpa using hl))
    refine Ev.congr (fun k => by rw [unpack_Decoder_Read.f]) ?_
    refine ev_neg (show ¬ (false = true) by decide) ?_
    exact Ev.bind w.ev (Ev.now _)
theorem fewB_loop (l : List FP) (hl : (l.length : Int) < 4000000000) : ∀ (r : List FP) (i : Nat) (n : Int), l.drop i = r → 0 ≤ n → n ≤ 20000 → ∃ b, Ev (fun k => nunciolaw13_FewFields.l0 k l n (i : Int)) b ∧ (b = true → n < 3000 ∧ ∀ f ∈ r, Sml f)
  | [], i, n, h, h0, h1 => by
    have := lenA_end h
    refine ⟨decide (n < 3000), ?_, fun h => ⟨of_decide_eq_true h, fun x hx => by cases hx⟩⟩
    refine Ev.step (fun k => by rw [nunciolaw13_FewFields.l0]) ?_
    exact ev_neg (by omega) (Ev.now _)
  | x :: r, i, n, h, h0, h1 => by
    have h2 := lenA_at h
    by_cases hn : n < 3000
    · have e1 := mn_le (x.f0.size : Int) 3000
      have e2 := mn_le (x.f1.size : Int) 3000
      obtain ⟨p, hp⟩ : ∃ p, mn (x.f0.size : Int) 3000 = p := ⟨_, rfl⟩
      obtain ⟨q, hq⟩ : ∃ q, mn (x.f1.size : Int) 3000 = q := ⟨_, rfl⟩
      rw [hp] at e1
      rw [hq] at e2
      obtain ⟨b, hb, hb2⟩ := fewB_loop l hl r (i + 1) (n + p + q) (dropA h).2 (by omega) (by omega)
      refine ⟨b, ?_, fun e => ?_⟩
      · refine Ev.step (fun k => by rw [nunciolaw13_FewFields.l0]) ?_
        refine ev_pos (by omega) ?_
        refine ev_pos hn ?_
        refine ev_pos (by omega) ?_
        rw [rdF_at h, hp, hq, w64 (x := n + p) (by omega) (by omega), w64 (x := n + p + q) (by omega) (by omega), w64 (x := (i : Int) + 1) (by omega) (by omega)]
        exact hb
      · obtain ⟨h3, h4⟩ := hb2 e
        refine ⟨hn, fun y hy => ?_⟩
        rcases List.mem_cons.1 hy with rfl | hy
        · exact ⟨by omega, by omega⟩
        · exact h4 y hy
    · refine ⟨false, ?_, fun h => by cases h⟩
      refine Ev.step (fun k => by rw [nunciolaw13_FewFields.l0]) ?_
      refine ev_pos (by omega) ?_
      exact ev_neg hn (ev_val (by simp [hn]))
theorem fewB_ev (l : List FP) (hl : (l.length : Int) < 9000000000000) : ∃ b, Ev (fun k => nunciolaw13_FewFields.f k l) b ∧ (b = true → ∀ f ∈ l, Sml f) := by
  have e := mn_le (l.length : Int) 3000
  by_cases h : (l.length : Int) < 4000000000
  · obtain ⟨b, hb, h2⟩ := fewB_loop l h l 0 (mn (l.length : Int) 3000) rfl (by omega) (by omega)
    exact ⟨b, hb, fun e => (h2 e).2⟩
  · have e2 : mn (l.length : Int) 3000 = 3000 := by omega
    refine ⟨false, ?_, fun h => by cases h⟩
    unfold nunciolaw13_FewFields.f
    rw [e2]
    refine Ev.step (fun k => by rw [nunciolaw13_FewFields.l0]) ?_
    refine ev_pos (by omega) ?_
    exact ev_neg (by omega) (ev_val (by simp))
theorem awakeB_ev : Ev (fun k => nunciolaw13_awake.f k) true := Ev.of nunciolaw13_awake.mono (k := 400) nunciolaw13_awake_t
theorem pnewB_f : pack_New.f = some ⟨mkT (mx 4096 0, []), 4096, false⟩ := rfl
theorem ptableB_f {m : M} (h : Wt m) (le : Int) (c : Bool) : pack_Encoder_Table.f ⟨mkT m, le, c⟩ = some (mkT m) := copy_f h.1 (by omega)
theorem rdAB_at {l : List AB} {i : Nat} {x : AB} {r : List AB} (h : l.drop i = x :: r) : rd_T44 l (i : Int) = x := by
  have h1 := (dropA h).1
  unfold rd_T44
  rw [Int.toNat_natCast, List.getD_eq_getElem?_getD, h1, Option.getD_some]
theorem few13_loop (l : List AB) (hw : ∀ a ∈ l, (a.f2.length : Int) < 9000000000000) : ∀ (r : List AB) (i : Nat), l.drop i = r → i ≤ 31 → ∃ b, Ev (fun k => nunciolaw13_few.l0 k l (i : Int)) b ∧ (b = true → l.length ≤ 30 ∧ ∀ a ∈ r, ∀ f ∈ a.f2, Sml f)
  | [], i, h, h0 => by
    have h1 := lenA_end h
    refine ⟨decide ((l.length : Int) ≤ 30), ?_, fun e => ⟨by have := of_decide_eq_true e; omega, fun a ha => by cases ha⟩⟩
    refine Ev.step (fun k => by rw [nunciolaw13_few.l0]) ?_
    refine ev_neg (by omega) ?_
    refine Ev.step (fun k => by rw [nunciolaw13_few.j1]) ?_
    exact ev_neg (by decide) (Ev.now _)
  | x :: r, i, h, h0 => by
    have h1 := lenA_at h
    by_cases hi : (i : Int) ≤ 30
    · obtain ⟨b1, u1, v1⟩ := fewB_ev x.f2 (hw x (List.mem_of_mem_drop (h ▸ List.mem_cons_self)))
      have go : ∀ b, Ev (fun k => if b1 = true then nunciolaw13_few.l0 k l (wrap64 ((i : Int) + 1)) else some false) b → Ev (fun k => nunciolaw13_few.l0 k l (i : Int)) b := fun b hb => by
        refine Ev.step (fun k => by rw [nunciolaw13_few.l0]) ?_
        refine ev_pos (by omega) ?_
        refine Ev.step (fun k => by rw [nunciolaw13_few.j1]) ?_
        refine ev_pos (by rw [decide_eq_true hi]) ?_
        refine ev_pos (by omega) ?_
        refine ev_pos (by omega) ?_
        rw [rdAB_at h]
        exact Ev.bind u1 hb
      by_cases hb : b1 = true
      · obtain ⟨b, u, v⟩ := few13_loop l hw r (i + 1) (dropA h).2 (by omega)
        refine ⟨b, go b ?_, fun e => ?_⟩
        · refine ev_pos hb ?_
          rw [w64 (x := (i : Int) + 1) (by omega) (by omega)]
          exact u
        · obtain ⟨v2, v3⟩ := v e
          refine ⟨v2, fun a ha => ?_⟩
          rcases List.mem_cons.1 ha with rfl | ha
          · exact v1 hb
          · exact v3 a ha
      · exact ⟨false, go false (ev_neg hb (Ev.now _)), fun e => by cases e⟩
    · refine ⟨false, ?_, fun e => by cases e⟩
      refine Ev.step (fun k => by rw [nunciolaw13_few.l0]) ?_
      refine ev_pos (by omega) ?_
      refine Ev.step (fun k => by rw [nunciolaw13_few.j1]) ?_
      refine ev_neg (by rw [decide_eq_false hi]; decide) ?_
      exact ev_val (decide_eq_false (by omega))
theorem tab_loop {m : M} (h : Wt m) (l : List AB) (i : Nat) (e : TE) (d : TD) (hn : Ev (fun k => nunciolaw13_PackBack.l0 k l (wrap64 ((i : Int) + 1)) e d) true) : ∀ (r : List EB) (j : Nat), m.2.drop j = r → Ev (fun k => nunciolaw13_PackBack.l1 k l (i : Int) (j : Int) e d (mkT m) (mkT m)) true
  | [], j, hd => by
    have h1 := lenA_end hd
    refine Ev.step (fun k => by rw [nunciolaw13_PackBack.l1]) ?_
    refine ev_bind0 (len_f m) ?_
    exact ev_neg (by omega) hn
  | x :: r, j, hd => by
    have h1 := lenA_at hd
    have h3 := h.1.2.1
    have ha : table_Table_At.f (mkT m) (wrap64 (62 + (j : Int))) = some (x.f0, x.f1, true) := by rw [w64 (by omega) (by omega), at_f h.1 (by omega) (by omega), atM_list h hd]
    refine Ev.step (fun k => by rw [nunciolaw13_PackBack.l1]) ?_
    refine ev_bind0 (len_f m) ?_
    refine ev_pos (by omega) ?_
    refine ev_bind0 ha ?_
    refine ev_bind0 ha ?_
    refine ev_pos rfl ?_
    refine ev_pos rfl ?_
    rw [w64 (x := (j : Int) + 1) (by omega) (by omega)]
    exact tab_loop h l i e d hn r (j + 1) (dropA hd).2
theorem script_loop (l : List AB) (hl : l.length ≤ 30) (hn : ∀ a ∈ l, 0 ≤ a.f1) : ∀ (r : List AB) (i : Nat) (m u : M) (le : Int) (ch : Bool), l.drop i = r → InvB m le ch u → (∀ a ∈ r, ∀ f ∈ a.f2, Sml f) → Ev (fun k => nunciolaw13_PackBack.l0 k l (i : Int) ⟨mkT m, le, ch⟩ ⟨mkT u, false⟩) true
  | [], i, m, u, le, ch, h, hI, hs => by
    have h1 := lenA_end h
    refine Ev.step (fun k => by rw [nunciolaw13_PackBack.l0]) ?_
    exact ev_neg (by omega) (Ev.now _)
  | x :: r, i, m, u, le, ch, h, hI, hs => by
    have h1 := lenA_at h
    have hs2 : ∀ a ∈ r, ∀ f ∈ a.f2, Sml f := fun a ha => hs a (List.mem_cons_of_mem _ ha)
    have hw : wrap64 ((i : Int) + 1) = ((i + 1 : Nat) : Int) := by rw [w64 (by omega) (by omega)]; rfl
    refine Ev.step (fun k => by rw [nunciolaw13_PackBack.l0]) ?_
    refine ev_pos (by omega) ?_
    refine ev_pos (by omega) ?_
    rw [rdAB_at h]
    by_cases hL : x.f0 = true
    · refine ev_pos hL ?_
      obtain ⟨m', le', ch', e1, e2⟩ := limit_inv hI (hn x (List.mem_of_mem_drop (h ▸ List.mem_cons_self)))
      refine ev_bind0 e1 ?_
      rw [hw]
      exact script_loop l hl hn r (i + 1) m' u le' ch' (dropA h).2 e2 hs2
    · refine ev_neg hL ?_
      by_cases h64 : (x.f2.length : Int) > 64
      · exact ev_pos h64 (Ev.now _)
      · refine ev_neg h64 ?_
        have hf := hs x List.mem_cons_self
        obtain ⟨s, w1, w2⟩ := back_ev hI (l := x.f2) (by omega) hf
        have wt := Wt.afts x.f2 hI.1 hf
        refine Ev.bind w1 ?_
        refine Ev.bind w2 ?_
        refine ev_bind0 (ptableB_f wt _ _) ?_
        refine ev_bind0 (table_f wt _) ?_
        refine ev_pos rfl ?_
        refine Ev.bind (same12_ev x.f2 (by omega)) ?_
        refine ev_pos rfl ?_
        refine ev_bind0 (len_f _) ?_
        refine ev_bind0 (len_f _) ?_
        refine ev_pos rfl ?_
        refine ev_bind0 (size_f _) ?_
        refine ev_bind0 (size_f _) ?_
        refine ev_pos rfl ?_
        refine ev_bind0 (most_f _) ?_
        refine ev_bind0 (most_f _) ?_
        refine Ev.step (fun k => by rw [nunciolaw13_PackBack.j1]) ?_
        refine ev_neg (by simp) ?_
        refine tab_loop wt l i _ _ ?_ (afts m x.f2).2 0 rfl
        rw [hw]
        exact script_loop l hl hn r (i + 1) _ _ 4096 false (dropA h).2 ⟨wt, wt, .inl ⟨rfl, rfl, rfl⟩⟩ hs2
theorem PackBack : nunciolaw13_PackBack.Pure := by
  intro l h0
  apply Ev.rounds
  have hw : ∀ a ∈ l, (a.f2.length : Int) < 9000000000000 := fun a ha => by
    have := (h0.2.2 a ha).2.2.2.1
    omega
  have hn : ∀ a ∈ l, 0 ≤ a.f1 := fun a ha => (b_u32 (h0.2.2 a ha).2.1).1
  obtain ⟨b, hb, hf⟩ := few13_loop l hw l 0 rfl (by omega)
  refine Ev.congr (fun k => by rw [nunciolaw13_PackBack.f]) ?_
  refine Ev.bind awakeB_ev ?_
  refine ev_pos rfl ?_
  refine Ev.bind (show Ev (fun k => nunciolaw13_few.f k l) b from hb) ?_
  by_cases hbt : b = true
  · refine ev_pos hbt ?_
    obtain ⟨h1, h2⟩ := hf hbt
    refine ev_bind0 pnewB_f ?_
    refine ev_bind0 unew_f ?_
    exact script_loop l h1 hn l 0 _ _ 4096 false rfl ⟨wt_new, wt_new, .inl ⟨rfl, rfl, rfl⟩⟩ h2
  · exact ev_neg hbt (Ev.now _)
end Go.Proofs.YtfkdocmhbmameaaDoor.Pure
