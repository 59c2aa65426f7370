/- The walks and the plain laws that the rows come to: merged out of this repo's texts. -/
import Derived.Test.YtfkdocmhbmameaaDoorProg
import Derived.Below
import Derived.Deep.Draws
import Derived.Deep.AppendLies
import Derived.Maps.AppendAt
import Derived.OwnWalk
import Derived.Laws.BytesArg
import Derived.Laws.MakeOwn
import Derived.Laws.OwnMore
import Derived.Deep.OwnRows
import Derived.Tactics
import Derived.Lib.ConvBytes
import Derived.Laws.Slices
import Derived.WalkKit
import Derived.KernelRfl
import Derived.RowKit3
import Derived.Deep.LoopGhost
import Derived.Deep.QuietTactic
import Derived.BigQuiet
import Derived.WideLaws
import Derived.Deep.DeepCutAuto
import Derived.Deep.CutBlock
import Derived.Deep.RegionHeld3
import Derived.Laws.Rows
import Derived.Lib.AppendStr
import Derived.ArgAppend
import Derived.Laws.IdiomCopy
import Derived.RowKit
import Derived.OrdersHeld
import Derived.Laws.BitsLemmas
import Derived.Laws.StructEq
import Derived.Laws.CopyOwn
import Derived.SizedLaws
import Derived.ChangeSlices
import Derived.Deep.Slices
import Derived.Lib.SmallJoins
import Derived.Lib.OthersKept
import Derived.Lib.AppendZerosOnto
import Derived.WalkSpells
import Derived.Shelf.Utf8.RuneCount
import Derived.Shelf.Strings.Search1
import Derived.Shelf.Strings.Search2
import Derived.Shelf.Strings.Search3
import Derived.Shelf.Strings.Cut
import Derived.Shelf.Strings.Count
import Derived.Shelf.LaysM
import Derived.Shelf.Strings.Shaped
import Derived.Shelf.Strings.Split
import Derived.Shelf.Strings.SplitShaped
import Derived.Shelf.Unicode.Decode
import Derived.Shelf.Strings.RuneCount
import Derived.Shelf.Strings.Explode
import Derived.Shelf.Unicode.DecodeSlow
import Derived.Shelf.Unicode.DecodeAny
import Derived.Recover
import Derived.WalkLawsBesides
import Derived.Laws.BitsAllLaws
import Derived.Test.YtfkdocmhbmameaaDoorCA1
import Derived.Test.YtfkdocmhbmameaaDoorCA2
import Derived.Test.YtfkdocmhbmameaaDoorCA3
import Derived.Test.YtfkdocmhbmameaaDoorCA5
import Derived.Test.YtfkdocmhbmameaaDoorCA8
import Derived.Test.YtfkdocmhbmameaaDoorCA9
import Derived.Test.YtfkdocmhbmameaaDoorCA10
import Derived.Test.YtfkdocmhbmameaaDoorCA11
import Derived.Test.YtfkdocmhbmameaaDoorCA16
import Derived.Test.YtfkdocmhbmameaaDoorCA23
import Derived.Test.YtfkdocmhbmameaaDoorCA25
import Derived.Test.YtfkdocmhbmameaaDoorCA26
import Derived.Test.YtfkdocmhbmameaaDoorCA28
import Derived.Test.YtfkdocmhbmameaaDoorCA34
import Derived.Test.YtfkdocmhbmameaaDoorCA35
import Derived.Test.YtfkdocmhbmameaaDoorCA36
import Derived.Test.YtfkdocmhbmameaaDoorCA37
import Derived.Test.YtfkdocmhbmameaaDoorCA38
namespace Go.Proofs.YtfkdocmhbmameaaDoor.Pure
open Go.RowKit Go.Proofs.YtfkdocmhbmameaaDoor.Mine Go.Proofs.YtfkdocmhbmameaaDoorW.PrintWords Go.Proofs.YtfkdocmhbmameaaDoorW.PrintLast Go.Proofs.YtfkdocmhbmameaaDoorW.PrintMore
set_option linter.unusedVariables false
abbrev EP := S88
def enF (f : FP) : EP := ⟨f.f0, f.f1⟩
def Has (m : M) (f : FP) : Prop := ∃ x ∈ F38 ++ m.2, x.f0 = f.f0 ∧ x.f1 = f.f1
theorem exI_in {nm vl : ByteArray} : ∀ (l : List EP) (i j : Int), exI nm vl l i = some j → ∃ x ∈ l, x.f0 = nm ∧ x.f1 = vl
  | [], i, j, h => by simp [exI] at h
  | x :: l, i, j, h => by
    rw [exI] at h
    split at h
    · rename_i hq
      exact ⟨x, List.mem_cons_self, hq⟩
    · obtain ⟨y, hy, hq⟩ := exI_in l (i + 1) j h
      exact ⟨y, List.mem_cons_of_mem _ hy, hq⟩
theorem has_of {m : M} {f : FP} (h : (fdM m f.f0 f.f1).2 = true) : Has m f := by
  unfold fdM fdF at h
  cases he : exI f.f0 f.f1 (F38 ++ m.2) 1 with
  | some j => exact exI_in _ _ _ he
  | none =>
    rw [he] at h
    simp at h
theorem has_to {m : M} {f : FP} (h : Has m f) (hl : m.2.length ≤ 60) : (fdM m f.f0 f.f1).2 = true ∧ (fdM m f.f0 f.f1).1 < 127 := by
  obtain ⟨j, hj⟩ := exI_mem (F38 ++ m.2) 1 h
  have h2 := exI_range _ _ _ hj
  rw [List.length_append, F38_len] at h2
  unfold fdM fdF
  rw [hj]
  exact ⟨rfl, by simp only; omega⟩
theorem short_first : ∀ (r d : List FP) (m : M), m.1 = 4096 → sm m.2 ≤ sm (d.map enF) → (∀ f ∈ d, Has m f) → m.2.length ≤ d.length → (∀ f ∈ r, ¬ f.f2 = true) → sm ((d ++ r).map enF) ≤ 4096 →
    (∀ f ∈ d ++ r, Has (afts m r) f) ∧ (afts m r).2.length ≤ (d ++ r).length
  | [], d, m, h1, h2, h3, h4, h5, h6 => by
    rw [List.append_nil]
    exact ⟨h3, h4⟩
  | f :: r, d, m, h1, h2, h3, h4, h5, h6 => by
    rw [afts]
    have e : d ++ f :: r = (d ++ [f]) ++ r := by rw [List.append_assoc]; rfl
    have h6' := h6
    rw [e, List.map_append, sm_app, List.map_append, sm_app] at h6'
    have h7 : sm ([f].map enF) = es (enF f) := by simp [sm]
    have h8 := sm_nonneg (r.map enF)
    have h9 := sm_nonneg (d.map enF)
    rw [h7] at h6'
    have hes : es (enF f) = (f.f0.size : Int) + (f.f1.size : Int) + 32 := rfl
    rw [e]
    unfold aft
    rw [if_neg (h5 f List.mem_cons_self)]
    by_cases hw : (fdM m f.f0 f.f1).2 = true
    · rw [if_pos hw]
      refine short_first r (d ++ [f]) m h1 (by rw [List.map_append, sm_app, h7]; omega) (fun x hx => ?_) (by rw [List.length_append]; omega) (fun x hx => h5 x (List.mem_cons_of_mem _ hx)) (by rw [← e]; exact h6)
      rcases List.mem_append.mp hx with q | q
      · exact h3 x q
      · rw [List.mem_singleton.mp q]
        exact has_of hw
    · rw [if_neg hw, if_pos (by omega)]
      have ha : add m f.f0 f.f1 = (m.1, enF f :: m.2) := by
        unfold add
        rw [kp_all _ _ (by show sm (enF f :: m.2) ≤ m.1; rw [sm]; omega)]
        rfl
      rw [ha]
      refine short_first r (d ++ [f]) _ h1 (by rw [List.map_append, sm_app, h7]; show sm (enF f :: m.2) ≤ _; rw [sm]; omega) (fun x hx => ?_) (by rw [List.length_append]; show (enF f :: m.2).length ≤ _; rw [List.length_cons]; simp only [List.length_singleton]; omega) (fun x hx => h5 x (List.mem_cons_of_mem _ hx)) (by rw [← e]; exact h6)
      rcases List.mem_append.mp hx with q | q
      · obtain ⟨y, hy, hq⟩ := h3 x q
        refine ⟨y, ?_, hq⟩
        rcases List.mem_append.mp hy with z | z
        · exact List.mem_append_left _ z
        · exact List.mem_append_right _ (List.mem_cons_of_mem _ z)
      · rw [List.mem_singleton.mp q]
        exact ⟨enF f, List.mem_append_right _ List.mem_cons_self, rfl, rfl⟩
theorem short_second {m : M} (h : Wt m) (hl : m.2.length ≤ 60) : ∀ (r : List FP) (b : List Int), (∀ f ∈ r, Has m f ∧ ¬ f.f2 = true) → b.length + r.length ≤ 30000000 →
    ∃ y, y.length = r.length ∧ Ev (fun k => pkFields k ⟨mkT m, 4096, false⟩ b r) (b ++ y, ⟨mkT m, 4096, false⟩)
  | [], b, _, _ => ⟨[], rfl, Ev.congr (fun k => by rw [pkFields]) (ev_val (by rw [List.append_nil]))⟩
  | f :: r, b, hs, hb => by
    rw [List.length_cons] at hb
    obtain ⟨h1, h2⟩ := hs f List.mem_cons_self
    obtain ⟨h3, h4⟩ := has_to h1 hl
    have hx : (encI 128 (ful 7) (fdM m f.f0 f.f1).1).length = 1 := by
      unfold encI
      rw [if_pos (show (fdM m f.f0 f.f1).1 < ful 7 from h4)]
      rfl
    have u := pfield_whole h h2 h3 b (by omega) 4096 false
    obtain ⟨y, hy, v⟩ := short_second h hl r (b ++ encI 128 (ful 7) (fdM m f.f0 f.f1).1) (fun x hx => hs x (List.mem_cons_of_mem _ hx)) (by rw [List.length_append]; omega)
    refine ⟨encI 128 (ful 7) (fdM m f.f0 f.f1).1 ++ y, by rw [List.length_append, List.length_cons]; omega, ?_⟩
    rw [← List.append_assoc]
    refine Ev.congr (fun k => by rw [pkFields]) ?_
    exact Ev.bind u v
theorem fewF_loop (l : List FP) (hl : (l.length : Int) < 4000000000) : ∀ (r : List FP) (i : Nat) (n : Int), l.drop i = r → 0 ≤ n → n ≤ 20000 → ∃ b, Ev (fun k => nunciolaw13_FewFields.l0 k l n (i : Int)) b ∧ (b = true → n < 3000 ∧ ∀ f ∈ r, Sml f)
  | [], i, n, h, h0, h1 => by
    have := lenA_end h
    refine ⟨decide (n < 3000), ?_, fun h => ⟨of_decide_eq_true h, fun x hx => by cases hx⟩⟩
    refine Ev.step (fun k => by rw [nunciolaw13_FewFields.l0]) ?_
    exact ev_neg (by omega) (Ev.now _)
  | x :: r, i, n, h, h0, h1 => by
    have h2 := lenA_at h
    by_cases hn : n < 3000
    · have e1 := mn_le (x.f0.size : Int) 3000
      have e2 := mn_le (x.f1.size : Int) 3000
      obtain ⟨p, hp⟩ : ∃ p, mn (x.f0.size : Int) 3000 = p := ⟨_, rfl⟩
      obtain ⟨q, hq⟩ : ∃ q, mn (x.f1.size : Int) 3000 = q := ⟨_, rfl⟩
      rw [hp] at e1
      rw [hq] at e2
      obtain ⟨b, hb, hb2⟩ := fewF_loop l hl r (i + 1) (n + p + q) (dropA h).2 (by omega) (by omega)
      refine ⟨b, ?_, fun e => ?_⟩
      · refine Ev.step (fun k => by rw [nunciolaw13_FewFields.l0]) ?_
        refine ev_pos (by omega) ?_
        refine ev_pos hn ?_
        refine ev_pos (by omega) ?_
        rw [rdF_at h, hp, hq, w64 (x := n + p) (by omega) (by omega), w64 (x := n + p + q) (by omega) (by omega), w64 (x := (i : Int) + 1) (by omega) (by omega)]
        exact hb
      · obtain ⟨h3, h4⟩ := hb2 e
        refine ⟨hn, fun y hy => ?_⟩
        rcases List.mem_cons.1 hy with rfl | hy
        · exact ⟨by omega, by omega⟩
        · exact h4 y hy
    · refine ⟨false, ?_, fun h => by cases h⟩
      refine Ev.step (fun k => by rw [nunciolaw13_FewFields.l0]) ?_
      refine ev_pos (by omega) ?_
      exact ev_neg hn (ev_val (by simp [hn]))
theorem fewF_ev (l : List FP) (hl : (l.length : Int) < 9000000000000) : ∃ b, Ev (fun k => nunciolaw13_FewFields.f k l) b ∧ (b = true → ∀ f ∈ l, Sml f) := by
  have e := mn_le (l.length : Int) 3000
  by_cases h : (l.length : Int) < 4000000000
  · obtain ⟨b, hb, h2⟩ := fewF_loop l h l 0 (mn (l.length : Int) 3000) rfl (by omega) (by omega)
    exact ⟨b, hb, fun e => (h2 e).2⟩
  · have e2 : mn (l.length : Int) 3000 = 3000 := by omega
    refine ⟨false, ?_, fun h => by cases h⟩
    unfold nunciolaw13_FewFields.f
    rw [e2]
    refine Ev.step (fun k => by rw [nunciolaw13_FewFields.l0]) ?_
    refine ev_pos (by omega) ?_
    exact ev_neg (by omega) (ev_val (by simp))
theorem awake13_ev : Ev (fun k => nunciolaw13_awake.f k) true := Ev.of nunciolaw13_awake.mono (k := 400) nunciolaw13_awake_t
theorem pnew_f : pack_New.f = some ⟨mkT (mx 4096 0, []), 4096, false⟩ := rfl
theorem ptable_f {m : M} (h : Wt m) (le : Int) (c : Bool) : pack_Encoder_Table.f ⟨mkT m, le, c⟩ = some (mkT m) := copy_f h.1 (by omega)
theorem short_end {p : List FP} (hp : p.length ≤ 40) (hs : ∀ f ∈ p, ¬ f.f2 = true ∧ Sml f) (hz : sm (p.map enF) ≤ 4096) :
    Ev (fun k => (pack_New.f).bind fun t190 => ((pack_Encoder_Write.f k t190 p).bind fun bt192 => ((pack_Encoder_Table.f bt192.2).bind fun t194 => ((pack_Encoder_Write.f k bt192.2 p).bind fun bt196 => ((pack_Encoder_Table.f bt196.2).bind fun t198 => (if (bt196.1.size : Int) = (p.length : Int) then ((table_Table_Size.f t194).bind fun t200 => ((table_Table_Size.f t198).bind fun t201 => (some (t200 == t201)))) else (some false))))))) true := by
  obtain ⟨h3, h4⟩ := short_first p [] (mx 4096 0, []) rfl (by simp [sm]) (fun f hf => by cases hf) (Nat.le_refl _) (fun f hf => (hs f hf).1) (by rw [List.nil_append]; exact hz)
  rw [List.nil_append] at h3 h4
  have w := Wt.afts p wt_new (fun f hf => (hs f hf).2)
  obtain ⟨x, _, u⟩ := pwrite_ev wt_new (fun f hf => (hs f hf).2) (l := p) (by omega) 4096
  obtain ⟨y, hy, v⟩ := short_second w (by omega) p [] (fun f hf => ⟨h3 f hf, (hs f hf).1⟩) (by simp only [List.length_nil]; omega)
  have v2 : Ev (fun k => pack_Encoder_Write.f k ⟨mkT (afts (mx 4096 0, []) p), 4096, false⟩ p) (strOfNums y, ⟨mkT (afts (mx 4096 0, []) p), 4096, false⟩) := by
    refine Ev.congr (fun k => by rw [pack_Encoder_Write.f]) ?_
    refine ev_pos (by omega) ?_
    refine Ev.bind (show Ev (fun k => pkHead k ⟨mkT (afts (mx 4096 0, []) p), 4096, false⟩) [] from ⟨0, fun k _ => rfl⟩) ?_
    exact Ev.bind v (Ev.now _)
  refine ev_bind0 pnew_f ?_
  refine Ev.bind u ?_
  refine ev_bind0 (ptable_f w _ _) ?_
  refine Ev.bind v2 ?_
  refine ev_bind0 (ptable_f w _ _) ?_
  refine ev_pos (by simp only [strOfNums_size, hy]) ?_
  refine ev_bind0 (size_f _) ?_
  refine ev_bind0 (size_f _) ?_
  exact ev_val (by simp)
theorem short_loop (l : List FP) (hl : l.length ≤ 40) (hs : ∀ f ∈ l, Sml f) : ∀ (r : List FP) (i : Nat) (p : List FP), l.drop i = r → p.length + r.length ≤ 40 → (∀ f ∈ p, ¬ f.f2 = true ∧ Sml f) → Ev (fun k => nunciolaw13_PackShort.l0 k l p (sm (p.map enF)) (i : Int)) true
  | [], i, p, h, hi, hp => by
    have h1 := lenA_end h
    refine Ev.step (fun k => by rw [nunciolaw13_PackShort.l0]) ?_
    refine ev_neg (by omega) ?_
    by_cases hz : sm (p.map enF) > 4096
    · exact ev_pos hz (Ev.now _)
    · refine ev_neg hz ?_
      exact short_end (by simpa using hi) hp (by omega)
  | x :: r, i, p, h, hi, hp => by
    have h2 := lenA_at h
    have hx := hs x (List.mem_of_mem_drop (h ▸ List.mem_cons_self))
    rw [List.length_cons] at hi
    have n0 := sm_nonneg (p.map enF)
    have n1 := sm_le (p.map enF) (fun y hy => by
      obtain ⟨f, hf, rfl⟩ := List.mem_map.mp hy
      have := (hp f hf).2
      unfold es enF
      simp only
      have := this.1
      have := (hp f hf).2.2
      omega)
    rw [List.length_map] at n1
    have x0 := hx.1
    have x1 := hx.2
    refine Ev.step (fun k => by rw [nunciolaw13_PackShort.l0]) ?_
    refine ev_pos (by omega) ?_
    refine ev_pos (by omega) ?_
    rw [rdF_at h, w64 (x := (i : Int) + 1) (by omega) (by omega)]
    by_cases hn : x.f2 = true
    · refine ev_pos hn ?_
      exact short_loop l hl hs r (i + 1) p (dropA h).2 (by omega) hp
    · refine ev_neg hn ?_
      refine ev_pos (by omega) ?_
      rw [w64 (x := sm (p.map enF) + (x.f0.size : Int)) (by omega) (by omega), w64 (x := sm (p.map enF) + (x.f0.size : Int) + (x.f1.size : Int)) (by omega) (by omega), w64 (x := sm (p.map enF) + (x.f0.size : Int) + (x.f1.size : Int) + 32) (by omega) (by omega)]
      have ih := short_loop l hl hs r (i + 1) (p ++ [x]) (dropA h).2 (by rw [List.length_append, List.length_singleton]; omega) (fun f hf => by
        rcases List.mem_append.mp hf with q | q
        · exact hp f q
        · rw [List.mem_singleton.mp q]
          exact ⟨hn, hx⟩)
      have e : sm ((p ++ [x]).map enF) = sm (p.map enF) + (x.f0.size : Int) + (x.f1.size : Int) + 32 := by
        rw [List.map_append, sm_app]
        simp only [List.map_cons, List.map_nil, sm, es, enF]
        omega
      rw [e] at ih
      exact ih
theorem PackShort : nunciolaw13_PackShort.Pure := by
  intro l h0
  apply Ev.rounds
  obtain ⟨b, hb, hf⟩ := fewF_ev l (by omega)
  refine Ev.congr (fun k => by rw [nunciolaw13_PackShort.f]) ?_
  refine Ev.bind awake13_ev ?_
  refine ev_pos rfl ?_
  refine Ev.bind hb ?_
  have j : Ev (fun k => nunciolaw13_PackShort.j0 k l true) true := by
    refine Ev.step (fun k => by rw [nunciolaw13_PackShort.j0]) ?_
    exact ev_pos rfl (Ev.now _)
  by_cases hbt : b = true
  · refine ev_pos hbt ?_
    by_cases hl : (l.length : Int) > 40
    · rw [decide_eq_true hl]
      exact j
    · rw [decide_eq_false hl]
      refine Ev.step (fun k => by rw [nunciolaw13_PackShort.j0]) ?_
      refine ev_neg (by decide) ?_
      exact short_loop l (by omega) (hf hbt) l 0 [] rfl (by simp only [List.length_nil]; omega) (fun f hf => by cases hf)
  · refine ev_neg hbt ?_
    exact j
end Go.Proofs.YtfkdocmhbmameaaDoor.Pure
