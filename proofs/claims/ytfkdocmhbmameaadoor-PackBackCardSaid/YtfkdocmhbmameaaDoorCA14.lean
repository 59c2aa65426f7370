/- The walks and the plain laws that the rows come to: merged out of this repo's texts. -/
import Derived.Test.YtfkdocmhbmameaaDoorProg
import Derived.Below
import Derived.Deep.Draws
import Derived.Deep.AppendLies
import Derived.Maps.AppendAt
import Derived.OwnWalk
import Derived.Laws.BytesArg
import Derived.Laws.MakeOwn
import Derived.Laws.OwnMore
import Derived.Deep.OwnRows
import Derived.Tactics
import Derived.Lib.ConvBytes
import Derived.Laws.Slices
import Derived.WalkKit
import Derived.KernelRfl
import Derived.RowKit3
import Derived.Deep.LoopGhost
import Derived.Deep.QuietTactic
import Derived.BigQuiet
import Derived.WideLaws
import Derived.Deep.DeepCutAuto
import Derived.Deep.CutBlock
import Derived.Deep.RegionHeld3
import Derived.Laws.Rows
import Derived.Lib.AppendStr
import Derived.ArgAppend
import Derived.Laws.IdiomCopy
import Derived.RowKit
import Derived.OrdersHeld
import Derived.Laws.BitsLemmas
import Derived.Laws.StructEq
import Derived.Laws.CopyOwn
import Derived.SizedLaws
import Derived.ChangeSlices
import Derived.Deep.Slices
import Derived.Lib.SmallJoins
import Derived.Lib.OthersKept
import Derived.Lib.AppendZerosOnto
import Derived.WalkSpells
import Derived.Shelf.Utf8.RuneCount
import Derived.Shelf.Strings.Search1
import Derived.Shelf.Strings.Search2
import Derived.Shelf.Strings.Search3
import Derived.Shelf.Strings.Cut
import Derived.Shelf.Strings.Count
import Derived.Shelf.LaysM
import Derived.Shelf.Strings.Shaped
import Derived.Shelf.Strings.Split
import Derived.Shelf.Strings.SplitShaped
import Derived.Shelf.Unicode.Decode
import Derived.Shelf.Strings.RuneCount
import Derived.Shelf.Strings.Explode
import Derived.Shelf.Unicode.DecodeSlow
import Derived.Shelf.Unicode.DecodeAny
import Derived.Test.YtfkdocmhbmameaaDoorCA1
import Derived.Test.YtfkdocmhbmameaaDoorCA2
import Derived.Test.YtfkdocmhbmameaaDoorCA3
import Derived.Test.YtfkdocmhbmameaaDoorCA4
import Derived.Test.YtfkdocmhbmameaaDoorCA5
import Derived.Test.YtfkdocmhbmameaaDoorCA6
import Derived.Test.YtfkdocmhbmameaaDoorCA7
import Derived.Test.YtfkdocmhbmameaaDoorCA8
import Derived.Test.YtfkdocmhbmameaaDoorCA9
import Derived.Test.YtfkdocmhbmameaaDoorCA10
import Derived.Test.YtfkdocmhbmameaaDoorCA11
import Derived.Test.YtfkdocmhbmameaaDoorCA12
import Derived.Test.YtfkdocmhbmameaaDoorCA13
namespace Go.Proofs.YtfkdocmhbmameaaDoor.Mine
open Go.RowKit Go.Proofs Go.Proofs.YtfkdocmhbmameaaDoorW.PrintWords Go.Proofs.YtfkdocmhbmameaaDoorW.PrintLast Go.Proofs.YtfkdocmhbmameaaDoorW.PrintMore
attribute [local go_sem] max2_int min2_int max_two min_two max_three min_three max_four min_four
set_option linter.unusedVariables false
set_option linter.unusedSimpArgs false
def upShr (s : ByteArray) (a : Int) : Bool := bt s a / 32 == 1
theorem up_below {n m : Nat} {w0 wX w3 : World} (h : Below n w0 wX) (hn : n ≤ m) (hb : Below m wX w3) : Below n w0 w3 := h.trans ⟨hb.os, hb.tape, hb.output, hb.size, fun k hk => hb.block k (by omega)⟩
theorem up_keepb {w wX w3 : World} {g : Nat} {r : Option Nat} (h : KeepBut w wX g r) (hb : Below w.heap.size wX w3) : KeepBut w w3 g r := ⟨Nat.le_trans h.1 hb.size, fun i hi h1 h2 => (hb.block i hi).trans (h.2 i hi h1 h2)⟩
theorem up_keept {w w1 w2 : World} {g : Nat} {r : Option Nat} (h : KeepBut w w1 g r) (k : KeepBut w1 w2 g r) : KeepBut w w2 g r := KeepBut.trans h k (.inl rfl)
theorem up_keepg {w w1 w2 : World} {g gt : Nat} (h : KeepBut w w1 g (some gt)) (k : KeepBut w1 w2 gt none) : KeepBut w w2 g (some gt) := ⟨Nat.le_trans h.1 k.1, fun i hi hg hr => (k.2 i (Nat.lt_of_lt_of_le hi h.1) (fun q => hr (congrArg some q)) (by simp)).trans (h.2 i hi hg hr)⟩
theorem up_infoF : (Tryd.prog.info? 26).map (fun i => (i.zero, i.size, i.bytes)) = some (some (.agg #[.string ⟨#[]⟩, .string ⟨#[]⟩, .bool false]), k26.sz, 40) := by kernel_rfl
section
variable {w0 W W1 : World} {g gt base : Nat} {s : ByteArray} {a : Int} {t : TB} {ok : Nat → Prop} {v : Value} {out : List S26}
theorem up_rowsB (h : Kd.R k26 26 W base ok v out) (hI : IsB W g gt s a) (hk : KeepBut W W1 g none) : Kd.R k26 26 W1 base ok v out := Kd.R_mono (Kd.R_keep (Kd.R_types h hI (by decide)) hk (fun _ h => h.2)) (fun _ h => h.1)
theorem up_rowsT (h : Kd.R k26 26 W base ok v out) (hT : IsS77 w0 W gt t) (hk : KeepBut W W1 gt none) : Kd.R k26 26 W1 base ok v out := by
  obtain ⟨cs, hb⟩ := hT.blk
  exact Kd.R_mono (Kd.R_keep (Kd.R_types h hb (by decide)) hk (fun _ h => h.2)) (fun _ h => h.1)
theorem up_rows2 (h : Kd.R k26 26 W base ok v out) (hI : IsB W g gt s a) (hT : IsS77 w0 W gt t) (hk : KeepBut W W1 g (some gt)) : Kd.R k26 26 W1 base ok v out := by
  obtain ⟨cs, hb⟩ := hT.blk
  exact Kd.R_mono (Kd.R_keep2 (Kd.R_types (Kd.R_types h hI (by decide)) hb (by decide)) hk (fun _ h => ⟨h.1.2, h.2⟩)) (fun _ h => h.1.1)
end
def upStep (k : Nat) (t : TB) (s : ByteArray) (a : Int) (n : Nat) : Option (TB × Except Int (Int × Option S26)) :=
  if 0 ≤ a then (if upShr s a = true then ((upRes k t s a (decide (0 < n))).bind fun q => match q with | .error e => some (t, .error e) | .ok p => some (p.1, .ok (p.2, none)))
    else if n = 64 then some (t, .error 94)
    else if bt s a ≥ 128 then ((prefix_Get.f k s a 7).bind fun p => if p.2.2 = 0 then (if 0 ≤ p.1 ∧ p.1 ≤ 9223372036854775807 ∧ t.l.length < 4398046511104 ∧ t.fx.length < 4398046511104 then (if (tbAt t.fx t.l p.1).2.2 = true then some (t, .ok (p.2.1, some ⟨(tbAt t.fx t.l p.1).1, (tbAt t.fx t.l p.1).2.1, false⟩)) else some (t, .error 92)) else none) else some (t, .error p.2.2))
    else if bt s a ≥ 64 then ((upLit k t s a 6).bind fun q => match q with | .error e => some (t, .error e) | .ok p => ((table_Table_Add.f t p.1 p.2.1).bind fun t2 => some (t2, .ok (p.2.2, some ⟨p.1, p.2.1, false⟩))))
    else ((upLit k t s a 4).bind fun q => match q with | .error e => some (t, .error e) | .ok p => some (t, .ok (p.2.2, some ⟨p.1, p.2.1, decide (bt s a ≥ 16)⟩)))) else none
def upFld (k : Nat) : Nat → TB → ByteArray → Int → List S26 → Option (TB × Except Int (List S26))
  | 0, _, _, _, _ => none
  | r + 1, t, s, a, out => if a < (s.size : Int) then ((upStep k t s a out.length).bind fun q => match q.2 with | .error e => some (q.1, .error e) | .ok p => upFld k r q.1 s p.1 (out ++ p.2.toList)) else some (t, .ok out)
def PostF (base : Nat) (r : Except Int (List S26)) (en : Ending) (w' : World) : Prop := match r with
  | .error e => en = UP e
  | .ok l => ∃ v, en = .returned v ∧ Kd.R k26 26 w' base (fun _ => True) v l
set_option maxHeartbeats 8000000 in
set_option maxRecDepth 100000 in
theorem up_fields (k r g gt : Nat) (t : TB) (s : ByteArray) (a : Int) (R : TB × Except Int (List S26)) (w0 w : World) (hI : IsB w g gt s a) (hT : IsS77 w0 w gt t) (hne : g ≠ gt) (hg : w0.heap.size ≤ g) (hB : Below w0.heap.size w0 w) (h : upFld k r t s a [] = some R) :
    Calls Tryd.prog 47 #[.pointer (some ⟨g, 0, none⟩)] w fun en w' => Below w0.heap.size w0 w' ∧ KeepBut w w' g (some gt) ∧ IsS77 w0 w' gt R.1 ∧ PostF w.heap.size R.2 en w' := by
  have HA := Aside0.mk h
  have HI := Aside0.mk hI
  have HT := Aside0.mk hT
  have HB := Aside0.mk hB
  have HG := Aside0.mk (blk_lt hI)
  have HGT := Aside0.mk hT.lt
  have HS := Aside0.mk hB.size
  have hu26_ := Tryd.underlying26
  clear h hI hT hB
  go_enter Tryd.func47, Tryd.ntmps47
  go_wp2
  go_loopg [3] r (fun kq v3 wr => ∃ (t' : TB) (a' : Int) (out : List S26), Aside0 (upFld k kq t' s a' out = some R) ∧ Aside0 (IsB wr g gt s a') ∧ Aside0 (IsS77 w0 wr gt t') ∧ Aside0 (Below w0.heap.size w0 wr) ∧ Aside0 (KeepBut w wr g (some gt)) ∧ Aside0 (Kd.R k26 26 wr w.heap.size (fun _ => True) v3 out) ∧ Aside0 (out.length ≤ 64))
  case atStart => exact ⟨t, a, [], HA, HI, HT, HB, ⟨KeepBut.refl w g (some gt)⟩, ⟨Kd.R_nil _ _ _ _ _⟩, ⟨Nat.zero_le _⟩⟩
  case round =>
    clear HA HI HT HB
    obtain ⟨t', a', out, HA, HI, HT, HB, HK, HO, HL⟩ := hrel
    obtain ⟨A3_, k3_, e3_⟩ := Kd.R_slice HO.out
    subst e3_
    have c0 := HI.out.c0
    have c1 := HI.out.c1
    have c2 := HI.out.c2
    cases gk with
    | zero => exact absurd HA.out (by simp [upFld])
    | succ q =>
      have hA := HA.out
      unfold upFld at hA
      by_cases ha : a' < (s.size : Int)
      · rw [if_pos ha] at hA
        obtain ⟨⟨t2, E⟩, h1, h2⟩ := Option.bind_eq_some_iff.mp hA
        simp only at h2
        unfold upStep at h1
        by_cases h0 : 0 ≤ a'
        · rw [if_pos h0] at h1
          have q1 : decide (a' < (s.size : Int)) = true := decide_eq_true ha
          have p7 := eq_true h0
          have q7 := eq_true ha
          have hx7 := bt_at s a'
          have A2 := Aside0.mk h2
          have HId := Aside0.mk (fun n => show IsB (wr.drewN n) g gt s a' from HI.out)
          have HTd := Aside0.mk (fun n => show IsS77 w0 (wr.drewN n) gt t' from HT.out)
          have HBd := Aside0.mk (fun n => pw_below_drewN HB.out n)
          have HKd := Aside0.mk (fun n => keep_drewN HK.out n)
          have HOd := Aside0.mk (fun n => Kd.R_drewN HO.out n)
          clear hA h2 HA ha h0
          obtain ⟨sh, hsh⟩ : ∃ b, upShr s a' = b := ⟨_, rfl⟩
          rw [hsh] at h1
          have hsh2 : (bt s a' / 32 == 1) = sh := hsh
          clear hsh
          cases sh with
          | true =>
            rw [if_pos rfl] at h1
            obtain ⟨RR, h3, h4⟩ := Option.bind_eq_some_iff.mp h1
            have A3 := Aside0.mk h3
            clear h1 h3
            have qa : decide (0 < (out.length : Int)) = decide (0 < out.length) := decide_eq_decide.mpr (by omega)
            cases RR with
            | error e =>
              simp only [Option.some.injEq, Prod.mk.injEq] at h4
              obtain ⟨rfl, rfl⟩ := h4
              have h2 := A2.out
              simp only [Option.some.injEq] at h2
              subst h2
              clear A2
              go_wp2
              go_quiet (fail)
              go_wp2
              go_quiet (fail)
              go_wp2_with (first | (go_at_call 62; (with_reducible refine (up_resize k g gt t' s a' (decide (0 < out.length)) (.error e) w0 _ (HId.out _) (HTd.out _) hne hg (HBd.out _) A3.out).mono ?_); rintro en w4 ⟨hb, hk, rfl, ht⟩; have HB4 := Aside0.mk hb; have HK4 := Aside0.mk (up_keept (HKd.out _) hk); have HT4 := Aside0.mk ht; clear hb hk ht))
              exact ⟨rfl, HB4.out, HK4.out, HT4.out, rfl⟩
            | ok p =>
              simp only [Option.some.injEq, Prod.mk.injEq] at h4
              obtain ⟨rfl, rfl⟩ := h4
              have h2 := A2.out
              simp only [Option.toList, List.append_nil] at h2
              have A4 := Aside0.mk h2
              clear A2 h2
              go_wp2
              go_quiet (fail)
              go_wp2
              go_quiet (fail)
              go_wp2_with (first | (go_at_call 62; (with_reducible refine (up_resize k g gt t' s a' (decide (0 < out.length)) (.ok p) w0 _ (HId.out _) (HTd.out _) hne hg (HBd.out _) A3.out).mono ?_); rintro en w4 ⟨hb, hk, rfl, hi, ht⟩; have HB4 := Aside0.mk hb; have HK4 := Aside0.mk (up_keept (HKd.out _) hk); have HI4 := Aside0.mk hi; have HT4 := Aside0.mk ht; have HO4 := Aside0.mk (up_rows2 (HOd.out _) (HId.out _) (HTd.out _) hk); clear hb hk hi ht))
              go_roundg q
              case measure => omega
              case rel => exact ⟨p.1, p.2, out, A4, HI4, HT4, HB4, HK4, HO4, HL⟩
          | false =>
            rw [if_neg (by decide)] at h1
            by_cases hn : out.length = 64
            · rw [if_pos hn] at h1
              simp only [Option.some.injEq, Prod.mk.injEq] at h1
              obtain ⟨rfl, rfl⟩ := h1
              have h2 := A2.out
              simp only [Option.some.injEq] at h2
              subst h2
              clear A2
              have q2 : ((out.length : Int) == 64) = true := beq_iff_eq.mpr (by omega)
              have q3 : (out.length == 64) = true := beq_iff_eq.mpr hn
              have HN := Aside0.mk hn
              clear hn
              go_wp2
              go_quiet (fail)
              go_wp2
              go_quiet (fail)
              go_wp2
              exact ⟨rfl, HBd.out _, HKd.out _, HTd.out _, rfl⟩
            · rw [if_neg hn] at h1
              have q2 : ((out.length : Int) == 64) = false := beq_eq_false_iff_ne.mpr (by omega)
              have q3 : (out.length == 64) = false := beq_eq_false_iff_ne.mpr hn
              have HN := Aside0.mk hn
              have A1 := Aside0.mk h1
              clear hn h1
              go_wp2
              go_quiet (fail)
              go_wp2
              go_quiet (fail)
              go_upto_region 11 with (first | ((with_reducible refine gate_dst (N := 5) rfl ?_); refine box_event ?hg (N := 5) ?hd (cs := #[.string ⟨#[]⟩, .string ⟨#[]⟩, .bool false]) (t := 26) ?hr ?_; (case hd => rfl); (case hg => rfl); (case hr => first | (go_simp; done) | (go_simp; rfl)); intro g5 hg5 w2 hbox hb; have N5 := Aside0.mk (show g5 ≠ g by rw [hg5]; exact Nat.ne_of_gt (blk_lt (HId.out _))); have NT5 := Aside0.mk (show g5 ≠ gt by rw [hg5]; exact Nat.ne_of_gt (HTd.out _).lt); have W5 := Aside0.mk (show w.heap.size ≤ g5 by rw [hg5]; exact (HKd.out _).1); have B5 := Aside0.mk hbox; have HI2 := Aside0.mk ((HId.out _).below hb); have HT2 := Aside0.mk ((HTd.out _).below hb); have HB2 := Aside0.mk (below_then (HBd.out _) (HBd.out _).size hb); have HK2 := Aside0.mk (up_keepb (HKd.out _) ⟨hb.os, hb.tape, hb.output, hb.size, fun k hk => hb.block k (Nat.lt_of_lt_of_le hk (HKd.out 0).1)⟩); have HO2 := Aside0.mk (Kd.R_below (Kd.R_elderB (HOd.out _) g5 (by rw [hg5]; exact Nat.le_refl _)) hb); clear hg5 hbox hb HI HT HB HK HO HId HTd HBd HKd HOd))
              have c0 := HI2.out.c0
              have h1 := A1.out
              by_cases h128 : bt s a' ≥ 128
              · rw [if_pos h128] at h1
                have q4 : decide (128 ≤ bt s a') = true := decide_eq_true h128
                obtain ⟨⟨n, next, e⟩, h3, h4⟩ := Option.bind_eq_some_iff.mp h1
                simp only at h4
                have A5 := Aside0.mk h3
                clear A1 h1 h3 h128
                by_cases he : e = 0
                · subst he
                  rw [if_pos rfl] at h4
                  by_cases hc : 0 ≤ n ∧ n ≤ 9223372036854775807 ∧ t'.l.length < 4398046511104 ∧ t'.fx.length < 4398046511104
                  · rw [if_pos hc] at h4
                    have HC := Aside0.mk hc
                    obtain ⟨⟨nm, vl, ok⟩, hR⟩ : ∃ R, tbAt t'.fx t'.l n = R := ⟨_, rfl⟩
                    rw [hR] at h4
                    simp only at h4
                    have HR := Aside0.mk hR
                    clear hc hR
                    cases ok with
                    | true =>
                      simp only [if_true, Option.some.injEq, Prod.mk.injEq] at h4
                      obtain ⟨rfl, rfl⟩ := h4
                      have h2 := A2.out
                      simp only [Option.toList] at h2
                      have A7 := Aside0.mk h2
                      clear A2 h2
                      go_upto_region 16 with (first | (go_at_call 64; (with_reducible refine (up_number_ok k g gt s a' 7 n next w0 _ HI2.out hg HB2.out A5.out).mono ?_); rintro en w3 ⟨rfl, hi, hb, hk⟩; have HI3 := Aside0.mk hi; have HB3 := Aside0.mk hb; have HK3 := Aside0.mk (up_keept HK2.out (keep_one hk)); have HT3 := Aside0.mk (HT2.out.otherT (TyOf.mk HI2.out) hk (Ne.symm hne) (by decide)); have HO3 := Aside0.mk (up_rowsB HO2.out HI2.out hk); have B53 := Aside0.mk ((hk.2 g5 (blk_lt B5.out) N5.out (by simp)).trans B5.out); clear hi hb hk) | (go_at_call 63; (with_reducible refine (up_entry_ok g gt s nm vl next n t' w0 _ HI3.out HT3.out HC.out.2.2.1 HC.out.2.2.2 HC.out.1 HC.out.2.1 HR.out).mono ?_); rintro en w4 ⟨rfl, hb⟩; have HI4 := Aside0.mk (HI3.out.below hb); have HT4 := Aside0.mk (HT3.out.below hb); have HB4 := Aside0.mk (below_then HB3.out HB3.out.size hb); have HK4 := Aside0.mk (up_keepb HK3.out ⟨hb.os, hb.tape, hb.output, hb.size, fun k hk => hb.block k (Nat.lt_of_lt_of_le hk HK3.out.1)⟩); have HO4 := Aside0.mk (Kd.R_below HO3.out hb); have B54 := Aside0.mk (blk_below B53.out hb); clear hb; have y0 := (blk_cell B54.out 0).trans (rfl : _ = some (Value.string ⟨#[]⟩)); have y1 := (blk_cell B54.out 1).trans (rfl : _ = some (Value.string ⟨#[]⟩)); have f0 := blk_frozen B54.out 0; have f1 := blk_frozen B54.out 1))
                      have L5 := Aside0.mk (show w0.heap.size ≤ g5 from Nat.le_trans HS.out W5.out)
                      have B56 := Aside0.mk (blk_put (blk_put B54.out 0 (.string nm) rfl) 1 (.string vl) rfl)
                      have HI6 := Aside0.mk (show IsB ((w4.setCell ⟨g5, 0, none⟩ (.string nm)).setCell ⟨g5, 1, none⟩ (.string vl)) g gt s next from blk_far (p := ⟨g5, 1, none⟩) (blk_far (p := ⟨g5, 0, none⟩) HI4.out (Ne.symm N5.out) _) (Ne.symm N5.out) _)
                      have HT6 := Aside0.mk (IsS77.farT (p := ⟨g5, 1, none⟩) (IsS77.farT (p := ⟨g5, 0, none⟩) HT4.out (TyOf.mk B54.out) (by decide) (.string nm)) (TyOf.mk (blk_put B54.out 0 (.string nm) rfl)) (by decide) (.string vl))
                      have HB6 := Aside0.mk (below_set (g := g5) (j := 1) (v := .string vl) (below_set (g := g5) (j := 0) (v := .string nm) HB4.out L5.out) L5.out)
                      have HK6 := Aside0.mk (keep_far (p := ⟨g5, 1, none⟩) (keep_far (p := ⟨g5, 0, none⟩) HK4.out W5.out (.string nm)) W5.out (.string vl))
                      have HO6 := Aside0.mk (Kd.R_far (p := ⟨g5, 1, none⟩) (Kd.R_far (p := ⟨g5, 0, none⟩) HO4.out (fun _ h => h.2) (.string nm)) (fun _ h => h.2) (.string vl))
                      clear y0 y1 f0 f1
                      generalize (w4.setCell ⟨g5, 0, none⟩ (.string nm)).setCell ⟨g5, 1, none⟩ (.string vl) = w6 at B56 HI6 HT6 HB6 HK6 HO6 ⊢
                      have x0 := (blk_cell B56.out 0).trans (rfl : _ = some (Value.string nm))
                      have x1 := (blk_cell B56.out 1).trans (rfl : _ = some (Value.string vl))
                      have x2 := (blk_cell B56.out 2).trans (rfl : _ = some (Value.bool false))
                      have hlen := Aside0.mk (show (out ++ [(⟨nm, vl, false⟩ : S26)]).length ≤ 64 by have := HL.out; have := HN.out; rw [List.length_append, List.length_singleton]; omega)
                      go_wp2_with (first | ((with_reducible refine gate_builtin (b := .append) (xs := #[.tmp 68, .tmp 70]) rfl ?_); at_builtin; refine Kd.R_append k26 (w0 := w6) w.heap.size rfl (.tmp 68) (.tmp 70) 22 26 (.agg #[.string ⟨#[]⟩, .string ⟨#[]⟩, .bool false]) 40 rfl Tryd.underlying22 up_infoF rfl (by decide) (by omega) _ out (⟨nm, vl, false⟩) [.string (nm), .string (vl), .bool (false)] (fun k => True ∧ k ≠ g5) (fun _ => False) rfl (by first | (go_simp; done) | (go_simp; rfl)) (k26_mkM _ _ _ _) (fun _ hk => hk.elim) (fun k hk => ⟨trivial, by have := blk_lt B56.out; omega⟩) HO6.out (Below.refl w.heap.size w6) HK6.out.1 (by have := HL.out; omega) ?_; intro v2 w9 ho hb hg_ hat; have HO9 := Aside0.mk (Kd.R_mono ho (fun _ _ => trivial : ∀ k, _ → (fun _ => True) k)); have HI9 := Aside0.mk (show IsB w9 g gt s next from blk_grown HI6.out hg_ (Kd.R_ne HO6.out HI6.out (by decide))); have HT9 := Aside0.mk (IsS77.grownT HT6.out (Below.refl _ _) hg_ HO6.out (by decide)); have HB9 := Aside0.mk (up_below HB6.out HS.out hb); have HK9 := Aside0.mk (up_keepb HK6.out hb); clear ho hb hg_ hat))
                      go_roundg q
                      case measure => omega
                      case rel => exact ⟨_, next, out ++ [⟨nm, vl, false⟩], A7, HI9, HT9, HB9, HK9, HO9, hlen⟩
                    | false =>
                      simp only [Bool.false_eq_true, if_false, Option.some.injEq, Prod.mk.injEq] at h4
                      obtain ⟨rfl, rfl⟩ := h4
                      have h2 := A2.out
                      simp only [Option.some.injEq] at h2
                      subst h2
                      clear A2
                      go_wp2_with (first | (go_at_call 64; (with_reducible refine (up_number_ok k g gt s a' 7 n next w0 _ HI2.out hg HB2.out A5.out).mono ?_); rintro en w3 ⟨rfl, hi, hb, hk⟩; have HI3 := Aside0.mk hi; have HB3 := Aside0.mk hb; have HK3 := Aside0.mk (up_keept HK2.out (keep_one hk)); have HT3 := Aside0.mk (HT2.out.otherT (TyOf.mk HI2.out) hk (Ne.symm hne) (by decide)); have HO3 := Aside0.mk (up_rowsB HO2.out HI2.out hk); have B53 := Aside0.mk ((hk.2 g5 (blk_lt B5.out) N5.out (by simp)).trans B5.out); clear hi hb hk) | (go_at_call 63; (with_reducible refine (up_entry_no g gt s nm vl next n t' w0 _ HI3.out HT3.out HC.out.2.2.1 HC.out.2.2.2 HC.out.1 HC.out.2.1 HR.out).mono ?_); rintro en w4 ⟨rfl, hb⟩; have HT4 := Aside0.mk (HT3.out.below hb); have HB4 := Aside0.mk (below_then HB3.out HB3.out.size hb); have HK4 := Aside0.mk (up_keepb HK3.out ⟨hb.os, hb.tape, hb.output, hb.size, fun k hk => hb.block k (Nat.lt_of_lt_of_le hk HK3.out.1)⟩); clear hb))
                      exact ⟨rfl, HB4.out, HK4.out, HT4.out, rfl⟩
                  · rw [if_neg hc] at h4
                    exact absurd h4 (by simp)
                · rw [if_neg he] at h4
                  simp only [Option.some.injEq, Prod.mk.injEq] at h4
                  obtain ⟨rfl, rfl⟩ := h4
                  have h2 := A2.out
                  simp only [Option.some.injEq] at h2
                  subst h2
                  have A6 := Aside0.mk he
                  clear A2 he
                  go_wp2_with (first | (go_at_call 64; (with_reducible refine (up_number_no k g gt s a' 7 n next e w0 _ HI2.out hg HB2.out A5.out A6.out).mono ?_); rintro en w3 ⟨rfl, hi, hb, hk⟩; have HI3 := Aside0.mk hi; have HB3 := Aside0.mk hb; have HK3 := Aside0.mk (up_keept HK2.out (keep_one hk)); have HT3 := Aside0.mk (HT2.out.otherT (TyOf.mk HI2.out) hk (Ne.symm hne) (by decide)); have HO3 := Aside0.mk (up_rowsB HO2.out HI2.out hk); have B53 := Aside0.mk ((hk.2 g5 (blk_lt B5.out) N5.out (by simp)).trans B5.out); clear hi hb hk))
                  exact ⟨rfl, HB3.out, HK3.out, HT3.out, rfl⟩
              · rw [if_neg h128] at h1
                have q4 : decide (128 ≤ bt s a') = false := decide_eq_false h128
                clear h128
                by_cases h64 : bt s a' ≥ 64
                · rw [if_pos h64] at h1
                  have q5 : decide (64 ≤ bt s a') = true := decide_eq_true h64
                  obtain ⟨RR, h3, h4⟩ := Option.bind_eq_some_iff.mp h1
                  have A5 := Aside0.mk h3
                  clear A1 h1 h3 h64
                  cases RR with
                  | error e =>
                    simp only [Option.some.injEq, Prod.mk.injEq] at h4
                    obtain ⟨rfl, rfl⟩ := h4
                    have h2 := A2.out
                    simp only [Option.some.injEq] at h2
                    subst h2
                    clear A2
                    go_wp2_with (first | (go_at_call 65; (with_reducible refine (up_literal k g gt t' s a' 6 (.error e) w0 _ HI2.out HT2.out hne hg HB2.out A5.out).mono ?_); rintro en w3 ⟨hb, hk, rfl⟩; have HB3 := Aside0.mk hb; have HK3 := Aside0.mk (up_keept HK2.out (keep_one hk)); have HT3 := Aside0.mk (HT2.out.otherT (TyOf.mk HI2.out) hk (Ne.symm hne) (by decide)); have HO3 := Aside0.mk (up_rowsB HO2.out HI2.out hk); have B53 := Aside0.mk ((hk.2 g5 (blk_lt B5.out) N5.out (by simp)).trans B5.out); clear hb hk))
                    exact ⟨rfl, HB3.out, HK3.out, HT3.out, rfl⟩
                  | ok p =>
                    obtain ⟨nm, vl, next⟩ := p
                    simp only at h4
                    obtain ⟨t3, h5, h6⟩ := Option.bind_eq_some_iff.mp h4
                    simp only [Option.some.injEq, Prod.mk.injEq] at h6
                    obtain ⟨rfl, rfl⟩ := h6
                    have h2 := A2.out
                    simp only [Option.toList] at h2
                    have A7 := Aside0.mk h2
                    have A8 := Aside0.mk h5
                    clear A2 h2 h4 h5
                    go_upto_region 15 with (first | (go_at_call 65; (with_reducible refine (up_literal k g gt t' s a' 6 (.ok (nm, vl, next)) w0 _ HI2.out HT2.out hne hg HB2.out A5.out).mono ?_); rintro en w3 ⟨hb, hk, rfl, hi⟩; have HI3 := Aside0.mk hi; have HB3 := Aside0.mk hb; have HK3 := Aside0.mk (up_keept HK2.out (keep_one hk)); have HT3 := Aside0.mk (HT2.out.otherT (TyOf.mk HI2.out) hk (Ne.symm hne) (by decide)); have HO3 := Aside0.mk (up_rowsB HO2.out HI2.out hk); have B53 := Aside0.mk ((hk.2 g5 (blk_lt B5.out) N5.out (by simp)).trans B5.out); clear hi hb hk; have y0 := (blk_cell B53.out 0).trans (rfl : _ = some (Value.string ⟨#[]⟩)); have y1 := (blk_cell B53.out 1).trans (rfl : _ = some (Value.string ⟨#[]⟩)); have y2 := (blk_cell B53.out 2).trans (rfl : _ = some (Value.bool false)); have f0 := blk_frozen B53.out 0; have f1 := blk_frozen B53.out 1; have f2 := blk_frozen B53.out 2))
                    have L5 := Aside0.mk (show w0.heap.size ≤ g5 from Nat.le_trans HS.out W5.out)
                    have B56 := Aside0.mk (blk_put (blk_put (blk_put B53.out 0 (.string nm) rfl) 1 (.string vl) rfl) 2 (.bool false) rfl)
                    have HI6 := Aside0.mk (show IsB (((w3.setCell ⟨g5, 0, none⟩ (.string nm)).setCell ⟨g5, 1, none⟩ (.string vl)).setCell ⟨g5, 2, none⟩ (.bool false)) g gt s next from blk_far (p := ⟨g5, 2, none⟩) (blk_far (p := ⟨g5, 1, none⟩) (blk_far (p := ⟨g5, 0, none⟩) HI3.out (Ne.symm N5.out) _) (Ne.symm N5.out) _) (Ne.symm N5.out) _)
                    have HT6 := Aside0.mk (IsS77.farT (p := ⟨g5, 2, none⟩) (IsS77.farT (p := ⟨g5, 1, none⟩) (IsS77.farT (p := ⟨g5, 0, none⟩) HT3.out (TyOf.mk B53.out) (by decide) (.string nm)) (TyOf.mk (blk_put B53.out 0 (.string nm) rfl)) (by decide) (.string vl)) (TyOf.mk (blk_put (blk_put B53.out 0 (.string nm) rfl) 1 (.string vl) rfl)) (by decide) (.bool false))
                    have HB6 := Aside0.mk (below_set (g := g5) (j := 2) (v := .bool false) (below_set (g := g5) (j := 1) (v := .string vl) (below_set (g := g5) (j := 0) (v := .string nm) HB3.out L5.out) L5.out) L5.out)
                    have HK6 := Aside0.mk (keep_far (p := ⟨g5, 2, none⟩) (keep_far (p := ⟨g5, 1, none⟩) (keep_far (p := ⟨g5, 0, none⟩) HK3.out W5.out (.string nm)) W5.out (.string vl)) W5.out (.bool false))
                    have HO6 := Aside0.mk (Kd.R_far (p := ⟨g5, 2, none⟩) (Kd.R_far (p := ⟨g5, 1, none⟩) (Kd.R_far (p := ⟨g5, 0, none⟩) HO3.out (fun _ h => h.2) (.string nm)) (fun _ h => h.2) (.string vl)) (fun _ h => h.2) (.bool false))
                    clear y0 y1 y2 f0 f1 f2
                    generalize ((w3.setCell ⟨g5, 0, none⟩ (.string nm)).setCell ⟨g5, 1, none⟩ (.string vl)).setCell ⟨g5, 2, none⟩ (.bool false) = w6 at B56 HI6 HT6 HB6 HK6 HO6 ⊢
                    have x0 := (blk_cell B56.out 0).trans (rfl : _ = some (Value.string nm))
                    have x1 := (blk_cell B56.out 1).trans (rfl : _ = some (Value.string vl))
                    have x2 := (blk_cell B56.out 2).trans (rfl : _ = some (Value.bool false))
                    have c0 := HI6.out.c0
                    go_region_with (first | (go_at_call 55; (with_reducible refine (table_Table_Add.calls gt t' nm vl t3 w0 _ ?sI ?sB A8.out).mono ?_); (case sI => exact IsS77.drew HT6.out); (case sB => exact below_drew1 HB6.out); rintro en w7 ⟨rfl, hi, hb, hk⟩; have HT7 := Aside0.mk hi; have HB7 := Aside0.mk hb; have HK7 := Aside0.mk (up_keepg (keep_drew HK6.out) hk); have HI7 := Aside0.mk ((show IsB w6.drew g gt s next from HI6.out).keep hk hne); have HO7 := Aside0.mk (up_rowsT (Kd.R_drew HO6.out) (IsS77.drew HT6.out) hk); have B57 := Aside0.mk ((hk.2 g5 (show g5 < w6.drew.heap.size from blk_lt B56.out) NT5.out (by simp)).trans B56.out); clear hi hb hk x0 x1 x2 c0))
                    all_goals
                      have x0 := (blk_cell B57.out 0).trans (rfl : _ = some (Value.string nm))
                      have x1 := (blk_cell B57.out 1).trans (rfl : _ = some (Value.string vl))
                      have x2 := (blk_cell B57.out 2).trans (rfl : _ = some (Value.bool false))
                      have hlen := Aside0.mk (show (out ++ [(⟨nm, vl, false⟩ : S26)]).length ≤ 64 by have := HL.out; have := HN.out; rw [List.length_append, List.length_singleton]; omega)
                      go_wp2_with (first | ((with_reducible refine gate_builtin (b := .append) (xs := #[.tmp 68, .tmp 70]) rfl ?_); at_builtin; refine Kd.R_append k26 (w0 := w7) w.heap.size rfl (.tmp 68) (.tmp 70) 22 26 (.agg #[.string ⟨#[]⟩, .string ⟨#[]⟩, .bool false]) 40 rfl Tryd.underlying22 up_infoF rfl (by decide) (by omega) _ out (⟨nm, vl, false⟩) [.string (nm), .string (vl), .bool (false)] (fun k => True ∧ k ≠ g5) (fun _ => False) rfl (by first | (go_simp; done) | (go_simp; rfl)) (k26_mkM _ _ _ _) (fun _ hk => hk.elim) (fun k hk => ⟨trivial, by have := blk_lt B57.out; omega⟩) HO7.out (Below.refl w.heap.size w7) HK7.out.1 (by have := HL.out; omega) ?_; intro v2 w9 ho hb hg_ hat; have HO9 := Aside0.mk (Kd.R_mono ho (fun _ _ => trivial : ∀ k, _ → (fun _ => True) k)); have HI9 := Aside0.mk (show IsB w9 g gt s next from blk_grown HI7.out hg_ (Kd.R_ne HO7.out HI7.out (by decide))); have HT9 := Aside0.mk (IsS77.grownT HT7.out (Below.refl _ _) hg_ HO7.out (by decide)); have HB9 := Aside0.mk (up_below HB7.out HS.out hb); have HK9 := Aside0.mk (up_keepb HK7.out hb); clear ho hb hg_ hat))
                      go_roundg q
                      case measure => omega
                      case rel => exact ⟨_, next, out ++ [⟨nm, vl, false⟩], A7, HI9, HT9, HB9, HK9, HO9, hlen⟩
                · rw [if_neg h64] at h1
                  have q5 : decide (64 ≤ bt s a') = false := decide_eq_false h64
                  obtain ⟨RR, h3, h4⟩ := Option.bind_eq_some_iff.mp h1
                  have A5 := Aside0.mk h3
                  clear A1 h1 h3 h64
                  cases RR with
                  | error e =>
                    simp only [Option.some.injEq, Prod.mk.injEq] at h4
                    obtain ⟨rfl, rfl⟩ := h4
                    have h2 := A2.out
                    simp only [Option.some.injEq] at h2
                    subst h2
                    clear A2
                    go_wp2_with (first | (go_at_call 65; (with_reducible refine (up_literal k g gt t' s a' 4 (.error e) w0 _ HI2.out HT2.out hne hg HB2.out A5.out).mono ?_); rintro en w3 ⟨hb, hk, rfl⟩; have HB3 := Aside0.mk hb; have HK3 := Aside0.mk (up_keept HK2.out (keep_one hk)); have HT3 := Aside0.mk (HT2.out.otherT (TyOf.mk HI2.out) hk (Ne.symm hne) (by decide)); have HO3 := Aside0.mk (up_rowsB HO2.out HI2.out hk); have B53 := Aside0.mk ((hk.2 g5 (blk_lt B5.out) N5.out (by simp)).trans B5.out); clear hb hk))
                    exact ⟨rfl, HB3.out, HK3.out, HT3.out, rfl⟩
                  | ok p =>
                    obtain ⟨nm, vl, next⟩ := p
                    simp only [Option.some.injEq, Prod.mk.injEq] at h4
                    obtain ⟨rfl, rfl⟩ := h4
                    have h2 := A2.out
                    simp only [Option.toList] at h2
                    have A7 := Aside0.mk h2
                    clear A2 h2
                    go_upto_region 10 with (first | (go_at_call 65; (with_reducible refine (up_literal k g gt t' s a' 4 (.ok (nm, vl, next)) w0 _ HI2.out HT2.out hne hg HB2.out A5.out).mono ?_); rintro en w3 ⟨hb, hk, rfl, hi⟩; have HI3 := Aside0.mk hi; have HB3 := Aside0.mk hb; have HK3 := Aside0.mk (up_keept HK2.out (keep_one hk)); have HT3 := Aside0.mk (HT2.out.otherT (TyOf.mk HI2.out) hk (Ne.symm hne) (by decide)); have HO3 := Aside0.mk (up_rowsB HO2.out HI2.out hk); have B53 := Aside0.mk ((hk.2 g5 (blk_lt B5.out) N5.out (by simp)).trans B5.out); clear hi hb hk; have y0 := (blk_cell B53.out 0).trans (rfl : _ = some (Value.string ⟨#[]⟩)); have y1 := (blk_cell B53.out 1).trans (rfl : _ = some (Value.string ⟨#[]⟩)); have y2 := (blk_cell B53.out 2).trans (rfl : _ = some (Value.bool false)); have f0 := blk_frozen B53.out 0; have f1 := blk_frozen B53.out 1; have f2 := blk_frozen B53.out 2))
                    have L5 := Aside0.mk (show w0.heap.size ≤ g5 from Nat.le_trans HS.out W5.out)
                    have B56 := Aside0.mk (blk_put (blk_put (blk_put B53.out 0 (.string nm) rfl) 1 (.string vl) rfl) 2 (.bool false) rfl)
                    have HI6 := Aside0.mk (show IsB (((w3.setCell ⟨g5, 0, none⟩ (.string nm)).setCell ⟨g5, 1, none⟩ (.string vl)).setCell ⟨g5, 2, none⟩ (.bool false)) g gt s next from blk_far (p := ⟨g5, 2, none⟩) (blk_far (p := ⟨g5, 1, none⟩) (blk_far (p := ⟨g5, 0, none⟩) HI3.out (Ne.symm N5.out) _) (Ne.symm N5.out) _) (Ne.symm N5.out) _)
                    have HT6 := Aside0.mk (IsS77.farT (p := ⟨g5, 2, none⟩) (IsS77.farT (p := ⟨g5, 1, none⟩) (IsS77.farT (p := ⟨g5, 0, none⟩) HT3.out (TyOf.mk B53.out) (by decide) (.string nm)) (TyOf.mk (blk_put B53.out 0 (.string nm) rfl)) (by decide) (.string vl)) (TyOf.mk (blk_put (blk_put B53.out 0 (.string nm) rfl) 1 (.string vl) rfl)) (by decide) (.bool false))
                    have HB6 := Aside0.mk (below_set (g := g5) (j := 2) (v := .bool false) (below_set (g := g5) (j := 1) (v := .string vl) (below_set (g := g5) (j := 0) (v := .string nm) HB3.out L5.out) L5.out) L5.out)
                    have HK6 := Aside0.mk (keep_far (p := ⟨g5, 2, none⟩) (keep_far (p := ⟨g5, 1, none⟩) (keep_far (p := ⟨g5, 0, none⟩) HK3.out W5.out (.string nm)) W5.out (.string vl)) W5.out (.bool false))
                    have HO6 := Aside0.mk (Kd.R_far (p := ⟨g5, 2, none⟩) (Kd.R_far (p := ⟨g5, 1, none⟩) (Kd.R_far (p := ⟨g5, 0, none⟩) HO3.out (fun _ h => h.2) (.string nm)) (fun _ h => h.2) (.string vl)) (fun _ h => h.2) (.bool false))
                    clear y0 y1 y2 f0 f1 f2
                    generalize ((w3.setCell ⟨g5, 0, none⟩ (.string nm)).setCell ⟨g5, 1, none⟩ (.string vl)).setCell ⟨g5, 2, none⟩ (.bool false) = w6 at B56 HI6 HT6 HB6 HK6 HO6 ⊢
                    have x0 := (blk_cell B56.out 0).trans (rfl : _ = some (Value.string nm))
                    have x1 := (blk_cell B56.out 1).trans (rfl : _ = some (Value.string vl))
                    have x2 := (blk_cell B56.out 2).trans (rfl : _ = some (Value.bool false))
                    obtain ⟨nv, hnv⟩ : ∃ b, decide (bt s a' ≥ 16) = b := ⟨_, rfl⟩
                    have q6 : decide (16 ≤ bt s a') = nv := hnv
                    have A9 := Aside0.mk (show upFld k q t' s next (out ++ [⟨nm, vl, nv⟩]) = some R by rw [← hnv]; exact A7.out)
                    clear hnv A7
                    have f2 := blk_frozen B56.out 2
                    go_upto_region 16 with fail
                    have B58 := Aside0.mk (blk_put B56.out 2 (.bool nv) rfl)
                    have HI8 := Aside0.mk (show IsB (w6.setCell ⟨g5, 2, none⟩ (.bool nv)) g gt s next from blk_far (p := ⟨g5, 2, none⟩) HI6.out (Ne.symm N5.out) _)
                    have HT8 := Aside0.mk (IsS77.farT (p := ⟨g5, 2, none⟩) HT6.out (TyOf.mk B56.out) (by decide) (.bool nv))
                    have HB8 := Aside0.mk (below_set (g := g5) (j := 2) (v := .bool nv) HB6.out L5.out)
                    have HK8 := Aside0.mk (keep_far (p := ⟨g5, 2, none⟩) HK6.out W5.out (.bool nv))
                    have HO8 := Aside0.mk (Kd.R_far (p := ⟨g5, 2, none⟩) HO6.out (fun _ h => h.2) (.bool nv))
                    clear x0 x1 x2 f2
                    generalize w6.setCell ⟨g5, 2, none⟩ (.bool nv) = w8 at B58 HI8 HT8 HB8 HK8 HO8 ⊢
                    have x0 := (blk_cell B58.out 0).trans (rfl : _ = some (Value.string nm))
                    have x1 := (blk_cell B58.out 1).trans (rfl : _ = some (Value.string vl))
                    have x2 := (blk_cell B58.out 2).trans (rfl : _ = some (Value.bool nv))
                    have hlen := Aside0.mk (show (out ++ [(⟨nm, vl, nv⟩ : S26)]).length ≤ 64 by have := HL.out; have := HN.out; rw [List.length_append, List.length_singleton]; omega)
                    go_wp2_with (first | ((with_reducible refine gate_builtin (b := .append) (xs := #[.tmp 68, .tmp 70]) rfl ?_); at_builtin; refine Kd.R_append k26 (w0 := w8) w.heap.size rfl (.tmp 68) (.tmp 70) 22 26 (.agg #[.string ⟨#[]⟩, .string ⟨#[]⟩, .bool false]) 40 rfl Tryd.underlying22 up_infoF rfl (by decide) (by omega) _ out (⟨nm, vl, nv⟩) [.string (nm), .string (vl), .bool (nv)] (fun k => True ∧ k ≠ g5) (fun _ => False) rfl (by first | (go_simp; done) | (go_simp; rfl)) (k26_mkM _ _ _ _) (fun _ hk => hk.elim) (fun k hk => ⟨trivial, by have := blk_lt B58.out; omega⟩) HO8.out (Below.refl w.heap.size w8) HK8.out.1 (by have := HL.out; omega) ?_; intro v2 w9 ho hb hg_ hat; have HO9 := Aside0.mk (Kd.R_mono ho (fun _ _ => trivial : ∀ k, _ → (fun _ => True) k)); have HI9 := Aside0.mk (show IsB w9 g gt s next from blk_grown HI8.out hg_ (Kd.R_ne HO8.out HI8.out (by decide))); have HT9 := Aside0.mk (IsS77.grownT HT8.out (Below.refl _ _) hg_ HO8.out (by decide)); have HB9 := Aside0.mk (up_below HB8.out HS.out hb); have HK9 := Aside0.mk (up_keepb HK8.out hb); clear ho hb hg_ hat))
                    go_roundg q
                    case measure => omega
                    case rel => exact ⟨_, next, out ++ [⟨nm, vl, nv⟩], A9, HI9, HT9, HB9, HK9, HO9, hlen⟩
        · rw [if_neg h0] at h1
          exact absurd h1 (by simp)
      · rw [if_neg ha] at hA
        obtain rfl := Option.some.inj hA
        have q1 : decide (a' < (s.size : Int)) = false := decide_eq_false ha
        clear HA hA ha
        go_wp2
        go_quiet (fail)
        go_wp2
        go_ret
        exact ⟨pw_below_drewN HB.out _, keep_drewN HK.out _, (show IsS77 w0 (wr.drewN _) gt t' from HT.out), _, rfl, Kd.R_drewN HO.out _⟩
end Go.Proofs.YtfkdocmhbmameaaDoor.Mine
