/- The walks and the plain laws that the rows come to: merged out of this repo's texts. -/
import Derived.Test.YtfkdocmhbmameaaDoorProg
import Derived.Below
import Derived.Deep.Draws
import Derived.Deep.AppendLies
import Derived.Maps.AppendAt
import Derived.OwnWalk
import Derived.Laws.BytesArg
import Derived.Laws.MakeOwn
import Derived.Laws.OwnMore
import Derived.Deep.OwnRows
import Derived.Tactics
import Derived.Lib.ConvBytes
import Derived.Laws.Slices
import Derived.WalkKit
import Derived.KernelRfl
import Derived.RowKit3
import Derived.Deep.LoopGhost
import Derived.Deep.QuietTactic
import Derived.BigQuiet
import Derived.WideLaws
import Derived.Deep.DeepCutAuto
import Derived.Deep.CutBlock
import Derived.Deep.RegionHeld3
import Derived.Laws.Rows
import Derived.Lib.AppendStr
import Derived.ArgAppend
import Derived.Laws.IdiomCopy
import Derived.RowKit
import Derived.OrdersHeld
import Derived.Laws.BitsLemmas
import Derived.Laws.StructEq
import Derived.Laws.CopyOwn
import Derived.SizedLaws
import Derived.ChangeSlices
import Derived.Deep.Slices
import Derived.Lib.SmallJoins
import Derived.Lib.OthersKept
import Derived.Lib.AppendZerosOnto
import Derived.WalkSpells
import Derived.Shelf.Utf8.RuneCount
import Derived.Shelf.Strings.Search1
import Derived.Shelf.Strings.Search2
import Derived.Shelf.Strings.Search3
import Derived.Shelf.Strings.Cut
import Derived.Shelf.Strings.Count
import Derived.Shelf.LaysM
import Derived.Shelf.Strings.Shaped
import Derived.Shelf.Strings.Split
import Derived.Shelf.Strings.SplitShaped
import Derived.Shelf.Unicode.Decode
import Derived.Shelf.Strings.RuneCount
import Derived.Shelf.Strings.Explode
import Derived.Shelf.Unicode.DecodeSlow
import Derived.Shelf.Unicode.DecodeAny
import Derived.Recover
import Derived.WalkLawsBesides
import Derived.Test.YtfkdocmhbmameaaDoorCV1
import Derived.Test.YtfkdocmhbmameaaDoorCV2
import Derived.Test.YtfkdocmhbmameaaDoorCV3
import Derived.Test.YtfkdocmhbmameaaDoorCV4
import Derived.Test.YtfkdocmhbmameaaDoorCV6
import Derived.Test.YtfkdocmhbmameaaDoorCV7
import Derived.Test.YtfkdocmhbmameaaDoorCV8
import Derived.Test.YtfkdocmhbmameaaDoorCV10
import Derived.Test.YtfkdocmhbmameaaDoorCV12
import Derived.Test.YtfkdocmhbmameaaDoorCV13
import Derived.Test.YtfkdocmhbmameaaDoorCV14
import Derived.Test.YtfkdocmhbmameaaDoorCV15
import Derived.Test.YtfkdocmhbmameaaDoorCV16
import Derived.Test.YtfkdocmhbmameaaDoorCV17
import Derived.Test.YtfkdocmhbmameaaDoorCV18
import Derived.Test.YtfkdocmhbmameaaDoorCV19
namespace Go.Proofs.YtfkdocmhbmameaaDoor.Mine
open Go.RowKit Go.Proofs Go.Proofs.YtfkdocmhbmameaaDoorW.PrintWords Go.Proofs.YtfkdocmhbmameaaDoorW.PrintLast Go.Proofs.YtfkdocmhbmameaaDoorW.PrintMore
attribute [local go_sem] max2_int min2_int max_two min_two max_three min_three max_four min_four
set_option linter.unusedVariables false
set_option linter.unusedSimpArgs false
theorem pk_cells {p : Option Addr} {x : Int} {b : Bool} {W : World} {g : Nat} (hg : W.heap[g]? = some (.cells #[.pointer p, .int .i64 x, .bool b] 70 (0, 0))) {ad : Addr} (hb : ad.block = g) {s : ByteArray} (h : W.cell? ad = some (.string s)) : False := by
  subst hb
  rw [World.cell?, hg] at h
  simp only at h
  split at h
  · exact absurd h (by simp)
  · rcases Nat.lt_or_ge ad.off 3 with h4 | h4
    · have : ad.off = 0 ∨ ad.off = 1 ∨ ad.off = 2 := by omega
      rcases this with e | e | e <;> rw [e] at h <;> exact absurd h (by simp)
    · rw [Array.getElem?_eq_none (by simpa using h4)] at h
      exact absurd h (by simp)
theorem pk_keepC {w0 W W' : World} {A : Option Addr} {n g : Nat} {xs : List S26} {e : TE} (h : Kd.C k26 W A n xs) (hI : IsS70 w0 W g e) (hk : KeepBut W W' g (some (g - 1))) : Kd.C k26 W' A n xs := by
  obtain ⟨gt, hgt, hD, ⟨⟨A2, c2, B2, d2, hT, _⟩, _⟩⟩ := hI
  obtain ⟨h1, h2, h3⟩ := h
  refine ⟨h1, h2, fun h0 => ?_⟩
  obtain ⟨ad, e, hc⟩ := h3 h0
  refine ⟨ad, e, fun j p hj => ?_⟩
  obtain ⟨c, l1, l2, l3⟩ := hc j p hj
  have lo := k26_open l2
  subst lo
  refine ⟨_, l1, k26_mk _ _, fun i u hu => ?_⟩
  have hx := l3 i u hu
  have h0x := l3 0 (.string p.f0) rfl
  have hlt := World.block_lt_of_cell? _ _ hx
  have hb1 : (ad.add (j * k26.sz + i)).block ≠ g := fun hb => pk_cells hD (by rw [add_block] at hb ⊢; exact hb) h0x
  have hb2 : (ad.add (j * k26.sz + i)).block ≠ g - 1 := fun hb => tb_cells hT (by rw [add_block] at hb ⊢; omega) h0x
  exact (World.cell?_of_block (hk.2 _ hlt hb1 (fun q => hb2 (Option.some.inj q)))).trans hx
def pkFields (k : Nat) : TE → List Int → List S26 → Option (List Int × TE)
  | e, b, [] => some (b, e)
  | e, b, f :: r => (pkField k e b f).bind fun q => pkFields k q.2 q.1 r
def pkHead (k : Nat) (e : TE) : Option (List Int) :=
  if e.changed = true then (if e.least < e.t.most then (prefix_Put.f k [] 32 5 (IntKind.u64.wrap e.least)).bind fun b => prefix_Put.f k b 32 5 (IntKind.u64.wrap e.t.most) else prefix_Put.f k [] 32 5 (IntKind.u64.wrap e.t.most)) else some []
def pack_Encoder_Write.f (k : Nat) (e : TE) (l : List S26) : Option (ByteArray × TE) :=
  if l.length < 4398046511104 then (pkHead k e).bind fun b => (pkFields k ⟨e.t, 4096, false⟩ b l).bind fun q => some (strOfNums q.1, q.2) else none
set_option maxHeartbeats 8000000 in
set_option maxRecDepth 100000 in
theorem pack_Encoder_Write.calls (k g : Nat) (s0_0 : TE) (A1 : Option Addr) (c1 : Nat) (l1 : List S26) (r1 : ByteArray) (r2 : TE) (w0 w : World) (hI : IsS70 w0 w g s0_0) (hB : Below w0.heap.size w0 w) (hr1 : Kd.C k26 w A1 l1.length l1) (hc1 : l1.length ≤ c1) (h : pack_Encoder_Write.f k s0_0 l1 = some (r1, r2)) :
    Calls Tryd.prog 12 #[.pointer (some ⟨g, 0, none⟩), .slice A1 l1.length c1] w fun e w' => e = .returned (.string r1) ∧ IsS70 w0 w' g r2 ∧ Below w0.heap.size w0 w' ∧ KeepBut w w' g (some (g - 1)) := by
  unfold pack_Encoder_Write.f at h
  by_cases hlim : l1.length < 4398046511104
  · rw [if_pos hlim] at h
    obtain ⟨b0, h1, h2⟩ := Option.bind_eq_some_iff.mp h
    obtain ⟨⟨bR, eR⟩, h3, h4⟩ := Option.bind_eq_some_iff.mp h2
    simp only [Option.some.injEq, Prod.mk.injEq] at h4
    obtain ⟨rfl, rfl⟩ := h4
    have A1_ := Aside0.mk h1
    have A2_ := Aside0.mk h3
    have HC := Aside0.mk hr1
    have HIw := Aside0.mk hI
    have HL := Aside0.mk hlim
    have HGE := Aside0.mk hI.ge
    have HG := Aside0.mk hI.lt
    obtain ⟨t, least, ch⟩ := s0_0
    obtain ⟨gt, hgt, hD, hT⟩ := hI
    have GT := Aside0.mk hgt
    have HD := Aside0.mk (show w.heap[g]? = some (.cells #[.pointer (some ⟨gt, 0, none⟩), .int .i64 least, .bool ch] 70 (0, 0)) from hD)
    have HT := Aside0.mk (show IsS77 w0 w gt t from hT)
    have HM := Aside0.mk (show IsT w0 w gt t.most t.size t.l t.fx from hT.1)
    have HB := Aside0.mk hB
    have hg1 : g - 1 = gt := by omega
    have c0 := (blk_cell HD.out 0).trans (rfl : _ = some (Value.pointer (some ⟨gt, 0, none⟩)))
    have c1_ := (blk_cell HD.out 1).trans (rfl : _ = some (Value.int .i64 least))
    have c2 := (blk_cell HD.out 2).trans (rfl : _ = some (Value.bool ch))
    have hu26_ := Tryd.underlying26
    clear h h1 h2 h3 hr1 hlim hgt hD hT hB
    rw [hg1]
    go_enter Tryd.func12, Tryd.ntmps12
    go_upto_if 11 with (fail)
    go_cut [5] (fun v5 wc => Aside0 (Below w.heap.size w wc) ∧ Aside0 (Kd.R (Kd.int .u8) 5 wc w.heap.size (fun _ => True) v5 b0))
    case first =>
      have H0 := Aside0.mk (Below.refl w.heap.size w)
      cases ch with
      | false =>
        obtain rfl := Option.some.inj A1_.out
        go_wp2_with fail
        go_meet
        case rel => exact ⟨H0, ⟨Kd.R_nil _ _ _ _ _⟩⟩
      | true =>
        obtain ⟨lt, hlt⟩ : ∃ q, decide (least < t.most) = q := ⟨_, rfl⟩
        go_upto_region 3 with fail
        go_cut [21] (fun v21 wc => v21 = .bool lt ∧ Aside0 (Below w.heap.size w wc))
        case first =>
          go_region_with (first | (go_at_call 30; (with_reducible refine (tb_most gt t.most t.size t.l t.fx w0 _ ?sM).mono ?_); (case sM => exact HM.out.drew1); rintro en w3 ⟨rfl, hb⟩; have HB3 := Aside0.mk (below_step (below_drew1 H0.out) hb); have HD3 := Aside0.mk (blk_below (blk_drew HD.out) hb); clear hb; have c1' := (blk_cell HD3.out 1).trans (rfl : _ = some (Value.int .i64 least))))
          all_goals
            go_wp2_with fail
            go_meet
            case rel => exact ⟨by first | rfl | rw [hlt], HB3⟩
        case rest =>
          obtain ⟨rfl, HB3⟩ := hcut
          have HD3 := Aside0.mk (blk_below HD.out HB3.out)
          have HT3 := Aside0.mk (HT.out.below HB3.out)
          have HM3 := Aside0.mk (show IsT w0 wc gt t.most t.size t.l t.fx from HT3.out.1)
          have d0 := (blk_cell HD3.out 0).trans (rfl : _ = some (Value.pointer (some ⟨gt, 0, none⟩)))
          have d1 := (blk_cell HD3.out 1).trans (rfl : _ = some (Value.int .i64 least))
          have hh := A1_.out
          unfold pkHead at hh
          rw [if_pos rfl] at hh
          by_cases hq : least < t.most
          · rw [if_pos hq] at hh
            obtain rfl := (decide_eq_true hq).symm.trans hlt
            obtain ⟨b1, g1, g2⟩ := Option.bind_eq_some_iff.mp hh
            have G1 := Aside0.mk g1
            have G2 := Aside0.mk g2
            clear hh g1 g2 hlt hq
            have P1 := Aside0.mk (fun W => (show Calls Tryd.prog 35 #[.slice none 0 0, .int .u8 32, .int .i64 5, .int .u64 (IntKind.u64.wrap least)] W (fun e w' => ∃ v0_ : Value, e = .returned v0_ ∧ Kd.R (Kd.int .u8) 5 w' W.heap.size (fun _ => True) v0_ b1 ∧ Below W.heap.size W w') from prefix_Put.calls k none 0 [] 32 5 _ b1 W (Kd.C_nil _ _) (Nat.le_refl _) G1.out))
            go_wp2_with (first | (go_at_call 35; (with_reducible refine (P1.out _).mono ?_); rintro en w4 ⟨v, rfl, ho, hb⟩; obtain ⟨A4, c4, rfl⟩ := Kd.R_slice ho; have HO4 := Aside0.mk ho; have HB4 := Aside0.mk (below_step HB3.out hb); have HT4 := Aside0.mk (HT3.out.below hb); have HD4 := Aside0.mk (blk_below HD3.out hb); have HM4 := Aside0.mk (show IsT w0 w4 gt t.most t.size t.l t.fx from HT4.out.1); clear ho hb P1; have e0 := (blk_cell HD4.out 0).trans (rfl : _ = some (Value.pointer (some ⟨gt, 0, none⟩)))) | (go_at_call 30; (with_reducible refine (tb_most gt t.most t.size t.l t.fx w0 _ HM4.out).mono ?_); rintro en w5 ⟨rfl, hb⟩; have HB5 := Aside0.mk (below_step HB4.out hb); have HO5 := Aside0.mk (Kd.R_below HO4.out hb); clear hb) | (go_at_call 35; (with_reducible refine (prefix_Put.calls k _ _ b1 32 5 _ b0 _ (Kd.R_reads' HO5.out).2.2 (Kd.R_reads' HO5.out).2.1 G2.out).mono ?_); rintro en w6 ⟨v, rfl, ho, hb⟩; have HO6 := Aside0.mk ho; have HB6 := Aside0.mk (below_step HB5.out hb); clear ho hb))
            go_meet
            case rel => exact ⟨HB6, ⟨Kd.R_lower HO6.out HB5.out.size⟩⟩
          · rw [if_neg hq] at hh
            obtain rfl := (decide_eq_false hq).symm.trans hlt
            have G1 := Aside0.mk hh
            clear hh hlt hq
            have P1 := Aside0.mk (fun W => (show Calls Tryd.prog 35 #[.slice none 0 0, .int .u8 32, .int .i64 5, .int .u64 (IntKind.u64.wrap t.most)] W (fun e w' => ∃ v0_ : Value, e = .returned v0_ ∧ Kd.R (Kd.int .u8) 5 w' W.heap.size (fun _ => True) v0_ b0 ∧ Below W.heap.size W w') from prefix_Put.calls k none 0 [] 32 5 _ b0 W (Kd.C_nil _ _) (Nat.le_refl _) G1.out))
            go_wp2_with (first | (go_at_call 30; (with_reducible refine (tb_most gt t.most t.size t.l t.fx w0 _ HM3.out).mono ?_); rintro en w5 ⟨rfl, hb⟩; have HB5 := Aside0.mk (below_step HB3.out hb); clear hb) | (go_at_call 35; (with_reducible refine (P1.out _).mono ?_); rintro en w6 ⟨v, rfl, ho, hb⟩; have HO6 := Aside0.mk ho; have HB6 := Aside0.mk (below_step HB5.out hb); clear ho hb))
            go_meet
            case rel => exact ⟨HB6, ⟨Kd.R_lower HO6.out HB5.out.size⟩⟩
    case rest =>
      obtain ⟨HB2, HO⟩ := hcut
      obtain ⟨A5, c5, rfl⟩ := Kd.R_slice HO.out
      have HC2 := Aside0.mk (below_then HB.out HB.out.size HB2.out)
      have HD2 := Aside0.mk (blk_below HD.out HB2.out)
      have HT2 := Aside0.mk (HT.out.below HB2.out)
      have HF2 := Aside0.mk (Kd.C_below HC.out HB2.out)
      have D3 := Aside0.mk (blk_put (blk_put HD2.out 1 (.int .i64 4096) rfl) 2 (.bool false) rfl)
      have T3 := Aside0.mk (IsS77.farT (p := ⟨g, 2, none⟩) (IsS77.farT (p := ⟨g, 1, none⟩) HT2.out (TyOf.mk HD2.out) (by decide) (.int .i64 4096)) (TyOf.mk (blk_put HD2.out 1 (.int .i64 4096) rfl)) (by decide) (.bool false))
      have HK3 := Aside0.mk (up_keepset (j := 2) (v := .bool false) (up_keepset (j := 1) (v := .int .i64 4096) (KeepBut.of_below HB2.out g (some gt))))
      have HB3 := Aside0.mk (below_set (j := 2) (v := .bool false) (below_set (j := 1) (v := .int .i64 4096) HC2.out HGE.out) HGE.out)
      have HO3 := Aside0.mk (Kd.R_mono (Kd.R_keep (Kd.R_types HO.out HD2.out (by decide)) (up_keepset (j := 2) (v := .bool false) (up_keepset (j := 1) (v := .int .i64 4096) (KeepBut.refl wc g none))) (fun _ h => h.2)) (fun _ h => h.1))
      have HF3 := Aside0.mk (pk_keepC (g := g) (e := ⟨t, least, ch⟩) HF2.out ⟨gt, GT.out, HD2.out, HT2.out⟩ (up_keepset (j := 2) (v := .bool false) (up_keepset (j := 1) (v := .int .i64 4096) (KeepBut.refl wc g (some (g - 1))))))
      have p0 := eq_true (show g < wc.heap.size from Nat.lt_of_lt_of_le HG.out HB2.out.size)
      have d1 := (blk_cell HD2.out 1).trans (rfl : _ = some (Value.int .i64 least))
      have d2 := (blk_cell (blk_put HD2.out 1 (.int .i64 4096) rfl) 2).trans (rfl : _ = some (Value.bool ch))
      have d2' := (blk_cell HD2.out 2).trans (rfl : _ = some (Value.bool ch))
      have f1 := blk_frozen HD2.out 1
      have f2 := blk_frozen (blk_put HD2.out 1 (.int .i64 4096) rfl) 2
      go_wp2_with fail
      go_loopg [5, 45] l1.length (fun kq v5 v45 wr => ∃ (e' : TE) (b : List Int) (i : Nat), v45 = .int .i64 (i : Int) ∧ i + kq = l1.length ∧ Aside0 (pkFields k e' b (l1.drop i) = some (bR, eR)) ∧ Aside0 (IsS70 w0 wr g e') ∧ Aside0 (Below w0.heap.size w0 wr) ∧ Aside0 (KeepBut w wr g (some gt)) ∧ Aside0 (Kd.C k26 wr A1 l1.length l1) ∧ Aside0 (Kd.R (Kd.int .u8) 5 wr w.heap.size (fun _ => True) v5 b))
      case atStart => exact ⟨⟨t, 4096, false⟩, b0, 0, rfl, Nat.zero_add _, A2_, ⟨gt, GT.out, D3.out, T3.out⟩, HB3, HK3, HF3, HO3⟩
      case round =>
        clear HB2 HO HC2 HD2 HT2 HF2 D3 T3 HK3 HB3 HO3 HF3 d1 d2 d2' f1 f2 p0 c0 c1_ c2
        obtain ⟨e', b, i, rfl, hi, HA, HI, HB4, HK4, HF4, HO4⟩ := hrel
        obtain ⟨A6, c6, rfl⟩ := Kd.R_slice HO4.out
        by_cases hlt : i < l1.length
        · obtain ⟨q, rfl⟩ : ∃ q, gk = q + 1 := ⟨gk - 1, by omega⟩
          have hdr : l1.drop i = rd_T26 l1 (i : Int) :: l1.drop (i + 1) := by
            rw [List.drop_eq_getElem_cons hlt]
            unfold rd_T26
            rw [Int.toNat_natCast, List.getD_eq_getElem?_getD, List.getElem?_eq_getElem hlt, Option.getD_some]
          have hA := HA.out
          rw [hdr, pkFields] at hA
          obtain ⟨⟨b2, e2⟩, g1, g2⟩ := Option.bind_eq_some_iff.mp hA
          have p1 : (0 : Int) ≤ (i : Int) := Int.natCast_nonneg i
          have q1 : (i : Int) < (l1.length : Int) := Int.ofNat_lt.mpr hlt
          obtain ⟨ad, ea, hx0, hx1, hx2⟩ := at_T26 HF4.out (i : Int) p1 q1
          cases ea
          obtain ⟨⟨f0, f1, fn⟩, hf⟩ : ∃ f, rd_T26 l1 (i : Int) = f := ⟨_, rfl⟩
          rw [hf] at hx0 hx1 hx2 g1
          rw [Int.toNat_natCast] at hx0 hx1 hx2
          simp only at hx0 hx1 hx2
          have hw : wrap64 ((i : Int) + 1) = ((i + 1 : Nat) : Int) := by
            have := HL.out
            unfold wrap64
            omega
          have G1 := Aside0.mk g1
          have G2 := Aside0.mk g2
          have qa : decide ((i : Int) < (l1.length : Int)) = true := decide_eq_true q1
          have qn : decide (i < l1.length) = true := decide_eq_true hlt
          have qm := eq_true hlt
          replace p1 := eq_true p1
          replace q1 := eq_true q1
          have HS4 := Aside0.mk HK4.out.1
          clear hA g1 g2 HA hf hdr hlt
          have hb := fun o : Obj => below_alloc (o := o) (Below.refl wr.heap.size wr)
          have HI1 := Aside0.mk (fun o => HI.out.below (hb o))
          have HB1 := Aside0.mk (fun o => below_then HB4.out HB4.out.size (hb o))
          have HR1 := Aside0.mk (fun o => Kd.R_below HO4.out (hb o))
          have HF1 := Aside0.mk (fun o => Kd.C_below HF4.out (hb o))
          have HS1 := Aside0.mk (fun o => Nat.le_trans HS4.out (hb o).size)
          have HK1 := Aside0.mk (fun o => pk_keepb HK4.out ⟨(hb o).os, (hb o).tape, (hb o).output, (hb o).size, fun k hk => (hb o).block k (Nat.lt_of_lt_of_le hk HS4.out)⟩)
          clear hb
          go_wp2_with (first | (go_at_call 36; ((with_reducible refine (pk_field k g e' A6 c6 b ⟨f0, f1, fn⟩ b2 e2 w.heap.size (fun _ => True) w0 _ (HI1.out _) (HB1.out _) (HR1.out _) G1.out).mono ?_); rintro en w7 ⟨v, rfl, ho, hi7, hb7, hk7⟩; have HI7 := Aside0.mk hi7; have HB7 := Aside0.mk hb7; have HF7 := Aside0.mk (pk_keepC (HF1.out _) (HI1.out _) hk7); rw [hg1] at hk7; have HK7 := Aside0.mk (KeepBut.trans (HK1.out _) hk7 (.inl rfl)); have HO7 := Aside0.mk (Kd.R_lower ho (HS1.out _)); clear ho hi7 hb7 hk7)))
          go_roundg q
          case measure => omega
          case rel => exact ⟨e2, b2, i + 1, by first | exact congrArg (Value.int .i64) hw | (rw [hw]) | (simp only [IntKind.wrap_i64]; rw [hw]), by omega, G2, HI7, HB7, HK7, HF7, HO7⟩
        · have hA := HA.out
          rw [List.drop_eq_nil_of_le (by omega), pkFields] at hA
          obtain ⟨rfl, rfl⟩ := Prod.mk.inj (Option.some.inj hA)
          have qa : decide ((i : Int) < (l1.length : Int)) = false := decide_eq_false (by omega)
          have qn : decide (i < l1.length) = false := decide_eq_false hlt
          have qm := eq_false hlt
          have hcv := own_string (P := Tryd.prog) Tryd.underlying71 Tryd.underlying5 Tryd.underlying9 (Kd.own_of_R HO4.out)
          clear hA HA hlt
          have hcvd := fun (n_ : Nat) => own_string (P := Tryd.prog) Tryd.underlying71 Tryd.underlying5 Tryd.underlying9 (Kd.own_of_R (Kd.R_drewN HO4.out n_))
          go_wp2_with fail
          repeat (go_quiet (fail); try go_wp2)
          go_ret
          exact ⟨rfl, HI.out, HB4.out, HK4.out⟩
  · rw [if_neg hlim] at h
    exact absurd h (by simp)
theorem leO_map {α β : Type} {f : α → β} {a b : Option α} (h : LeO a b) : LeO (a.map f) (b.map f) := by
  intro r hr
  obtain ⟨x, h1, h2⟩ := Option.map_eq_some_iff.mp hr
  rw [h x h1]
  exact congrArg some h2
theorem pkHead.mono (e : TE) (k : Nat) : LeO (pkHead k e) (pkHead (k + 1) e) := by
  unfold pkHead
  exact LeO.ite (LeO.ite (LeO.bind (prefix_Put.mono _ _ _ _ _) (fun _ => prefix_Put.mono _ _ _ _ _)) (prefix_Put.mono _ _ _ _ _)) (LeO.refl _)
theorem pkField.mono (e : TE) (b : List Int) (f : S26) (k : Nat) : LeO (pkField k e b f) (pkField (k + 1) e b f) := by
  unfold pkField
  exact LeO.ite (LeO.ite (leO_map (pack_literal.mono _ _ _ _ _ _ _ _)) (LeO.ite (leO_map (prefix_Put.mono _ _ _ _ _)) (LeO.ite (LeO.bind (LeO.refl _) (fun _ => leO_map (pack_literal.mono _ _ _ _ _ _ _ _))) (leO_map (pack_literal.mono _ _ _ _ _ _ _ _))))) (LeO.refl _)
theorem pkFields.mono : ∀ (l : List S26) (e : TE) (b : List Int) (k : Nat), LeO (pkFields k e b l) (pkFields (k + 1) e b l)
  | [], e, b, k => LeO.refl _
  | f :: r, e, b, k => by
    rw [pkFields, pkFields]
    exact LeO.bind (pkField.mono _ _ _ _) (fun q => pkFields.mono r _ _ _)
theorem pack_Encoder_Write.mono (e : TE) (l : List S26) (k : Nat) : LeO (pack_Encoder_Write.f k e l) (pack_Encoder_Write.f (k + 1) e l) := by
  unfold pack_Encoder_Write.f
  exact LeO.ite (LeO.bind (pkHead.mono _ _) (fun _ => LeO.bind (pkFields.mono _ _ _ _) (fun _ => LeO.refl _))) (LeO.refl _)
end Go.Proofs.YtfkdocmhbmameaaDoor.Mine
