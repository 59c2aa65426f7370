-- Written by this repo's own printer (wip/print), which builds on the kit's.
import Derived.Test.YthkdfnbhlinhiaaMinex0
namespace Go.Proofs.Ythkdfnbhlinhiaa.Mine
open Go.RowKit Go.Proofs.YthkdfnbhlinhiaaW.PrintWords Go.Proofs.YthkdfnbhlinhiaaW.PrintLast Go.Proofs.YthkdfnbhlinhiaaW.PrintMore
attribute [local go_sem] max2_int min2_int max_two min_two max_three min_three max_four min_four   -- for this text's walks alone
set_option linter.unusedVariables false
set_option linter.unusedSimpArgs false

/-! ### nunciolaw04_Few: function 51 -/
def nunciolaw04_Few.l0 : Nat → List ByteArray → Int → Int → Option (Bool)
 | 0, _, _, _ => none
 | k + 1, x0, x3, x4 => if x4 < (x0.length : Int) then (if x3 < 5000 then (if 0 ≤ x4 then (nunciolaw04_Few.l0 k x0 (wrap64 (x3 + (mn ((rdOf ByteArray.empty x0 x4).size : Int) 5000))) (wrap64 (x4 + 1))) else (none)) else (some (decide (x3 < 5000)))) else (some (decide (x3 < 5000)))
def nunciolaw04_Few.f (k : Nat) (l0 : List ByteArray) : Option (Bool) := nunciolaw04_Few.l0 k l0 (mn (l0.length : Int) 5000) 0
theorem nunciolaw04_Few.mono_l : ∀ k, (∀ y0 y1 y2, LeO (nunciolaw04_Few.l0 k y0 y1 y2) (nunciolaw04_Few.l0 (k + 1) y0 y1 y2))
 | 0 => fun _ _ _ r h => by simp [nunciolaw04_Few.l0] at h
 | k + 1 => by
  have ih0:=nunciolaw04_Few.mono_l k
  ·
   intro y0 y1 y2
   unfold nunciolaw04_Few.l0
   repeat' first
   | (with_reducible exact ih0 _ _ _)
   | (with_reducible exact LeO.refl _)
   | (with_reducible exact LeO.none _)
   | (with_reducible refine LeO.ite ?_ ?_)
   | (with_reducible refine LeO.bind ?_ (fun _ => ?_))
   | exact ih0 _ _ _
   | exact LeO.none _
   | refine LeO.ite ?_ ?_
   | refine LeO.bind ?_ (fun _ => ?_)
theorem nunciolaw04_Few.mono : ∀ a0 k, LeO (nunciolaw04_Few.f k a0) (nunciolaw04_Few.f (k + 1) a0) := by
 intro a0 k
 have ih0:=nunciolaw04_Few.mono_l k
 unfold nunciolaw04_Few.f
 repeat' first
   | (with_reducible exact ih0 _ _ _)
   | (with_reducible exact LeO.refl _)
   | (with_reducible exact LeO.none _)
   | (with_reducible refine LeO.ite ?_ ?_)
   | (with_reducible refine LeO.bind ?_ (fun _ => ?_))
   | exact ih0 _ _ _
   | exact LeO.none _
   | refine LeO.ite ?_ ?_
   | refine LeO.bind ?_ (fun _ => ?_)
set_option maxHeartbeats 8000000 in
set_option maxRecDepth 100000 in
theorem nunciolaw04_Few.calls (k : Nat) (A0 : Option Addr) (c0 : Nat) (l0 : List ByteArray) (r : Bool) (w : World) (hr0 : Kd.C Kd.string w A0 l0.length l0) (hc0 : l0.length ≤ c0) (h : nunciolaw04_Few.f k l0 = some r) :
  Calls Try.prog 51 #[.slice A0 l0.length c0] w fun e w'=>e = .returned (.bool r)∧Below w.heap.size w w':=by
 have HR0:=qqm hr0
 have HC0:=qqm hc0
 clear hr0 hc0
 have HB:=qqm (Below.refl w.heap.size w)
 have H:(nunciolaw04_Few.l0 k l0 (mn (l0.length:Int) 5000) 0) = some r:=h
 clear h
 obtain ⟨ji2,hji2⟩:∃ j_:Int,(mn (l0.length:Int) 5000) = j_:=⟨_,rfl⟩
 replace H:(nunciolaw04_Few.l0 k l0 ji2 0) = some r:=by first|(rw [hji2] at H;exact H)|(simp only [hji2] at H ⊢;exact H)
 (try (have hji2h:ji2 ≤ 5000:=by (rw [← hji2];unfold mn;(repeat' split) <;> omega)))
 (try (have hji2g:ji2 ≤ 64:=by omega))
 (try (have hji2l:0 ≤ ji2:=by (rw [← hji2];unfold mn;(repeat' split) <;> omega)))
 (try (have hji2m:0 ≤ ji2:=by omega))
 have hji2_:(if 5000 < (l0.length:Int) then 5000 else (l0.length:Int)) = ji2:=hji2
 have H':=qqm H
 clear H
 go_enter Try.func51,Try.ntmps51
 go_wp2
 go_loopg [3,4] k (fun kq v3 v4 w'=>∃ (x3_1:Int) (x4_1:Int),v3 = .int .i64 x3_1∧v4 = .int .i64 x4_1∧Aside0 (nunciolaw04_Few.l0 kq l0 x3_1 x4_1 = some r)∧Aside0 (kq ≤ k)∧Aside0 (Below w.heap.size w w'))
 case atStart=>exact ⟨(ji2),(0),(by first|rfl|(simp;done)|(simp only [← hji2] <;> (first|rfl|simp))|(simp [*];done)),(by first|rfl|(simp;done)|(simp [*];done)),H',⟨Nat.le_refl _⟩,⟨by with_reducible repeat first|exact HB.out|apply qqf|apply qqd|apply qqe⟩⟩
 case round =>
  clear H'
  try clear p2
  obtain ⟨x3_1,x4_1,rfl,rfl,HA,HK1,HB⟩:=hrel
  cases gk with
  | zero => exact absurd HA.out (by simp [nunciolaw04_Few.l0])
  | succ k1 =>
   have H:=HA.out
   clear HA
   simp only [nunciolaw04_Few.l0] at H
   by_cases c3:x4_1 < (l0.length:Int)
   ·
    rw [if_pos c3] at H
    have c3b0:decide (x4_1 < (l0.length:Int)) = true:=decide_eq_true c3
    clear c3
    by_cases c4:x3_1 < 5000
    ·
     rw [if_pos c4] at H
     have c4b0:decide (x3_1 < 5000) = true:=decide_eq_true c4
     clear c4
     by_cases c5:0 ≤ x4_1
     ·
      rw [if_pos c5] at H
      have c5b0:decide (0 ≤ x4_1) = true:=decide_eq_true c5
      clear c5
      obtain ⟨ji6,hji6⟩:∃ j_:Int,(mn ((rdOf ByteArray.empty l0 x4_1).size:Int) 5000) = j_:=⟨_,rfl⟩
      replace H:(nunciolaw04_Few.l0 k1 l0 (wrap64 (x3_1 + (ji6))) (wrap64 (x4_1 + 1))) = some r:=by first|(rw [hji6] at H;exact H)|(simp only [hji6] at H ⊢;exact H)
      have hji6_:(if 5000 < ((rdOf ByteArray.empty l0 x4_1).size:Int) then 5000 else ((rdOf ByteArray.empty l0 x4_1).size:Int)) = ji6:=hji6
      have H':=qqm H
      clear H
      have p219:0 ≤ (x4_1:Int):=of_decide_eq_true (by first|(with_reducible assumption)|assumption)
      have q219:x4_1 < (l0.length:Int):=of_decide_eq_true (by first|(with_reducible assumption)|assumption)
      obtain ⟨ad219,e219,hx219_0⟩:=Kd.at_string HR0.out x4_1 p219 q219
      cases e219
      replace hx219_0:=qqo HB.out hx219_0
      replace p219:=eq_true p219
      replace q219:=eq_true q219
      go_wp2
      go_roundg k1
      case measure=>have:=HK1.out;omega
      case rel=>exact ⟨(wrap64 (x3_1 + (ji6))),(wrap64 (x4_1 + 1)),(by first|rfl|(simp;done)|(simp only [← hji6] <;> (first|rfl|simp))|(simp [*];done)),(by first|rfl|(simp;done)|(simp [*];done)),H',⟨by have:=HK1.out;omega⟩,⟨by with_reducible repeat first|exact HB.out|apply qqf|apply qqd|apply qqe⟩⟩
     ·
      rw [if_neg c5] at H
      exact absurd H (by simp)
    ·
     rw [if_neg c4] at H
     have c4b0:decide (x3_1 < 5000) = false:=decide_eq_false c4
     clear c4
     obtain rfl:=Option.some.inj H
     go_wp2
     go_ret
     exact ⟨by first|rfl|(simp [errW_none,errW_some] <;> rfl)|(simp only [← hji2];first|rfl|(simp [errW_none,errW_some] <;> rfl))|(simp [*,errW_none,errW_some] <;> rfl),by with_reducible repeat first|exact HB.out|apply qqf|apply qqd|apply qqe⟩
   ·
    rw [if_neg c3] at H
    have c3b0:decide (x4_1 < (l0.length:Int)) = false:=decide_eq_false c3
    clear c3
    obtain rfl:=Option.some.inj H
    go_wp2
    go_ret
    exact ⟨by first|rfl|(simp [errW_none,errW_some] <;> rfl)|(simp only [← hji2];first|rfl|(simp [errW_none,errW_some] <;> rfl))|(simp [*,errW_none,errW_some] <;> rfl),by with_reducible repeat first|exact HB.out|apply qqf|apply qqd|apply qqe⟩

/-! ### nunciolaw05_Few: function 32 -/
def nunciolaw05_Few.f (k : Nat) (a0_0 : ByteArray) (a0_1 : Int) (a0_2 : Int) (a0_3 : Int) (l0_4 : List ByteArray) (l0_5 : List Int) (l0_6 : List ByteArray) : Option (Bool) := (nunciolaw04_Few.f k l0_4).bind fun t221 => (if t221 = true then ((nunciolaw04_Few.f k l0_6).bind fun t222 => (if t222 = true then (if (l0_5.length : Int) ≤ 5000 then (some (decide ((a0_0.size : Int) ≤ 5000))) else (some false)) else (some false))) else (some false))
theorem nunciolaw05_Few.mono : ∀ a0 a1 a2 a3 a4 a5 a6 k, LeO (nunciolaw05_Few.f k a0 a1 a2 a3 a4 a5 a6) (nunciolaw05_Few.f (k + 1) a0 a1 a2 a3 a4 a5 a6) := by
 intro a0 a1 a2 a3 a4 a5 a6 k
 unfold nunciolaw05_Few.f
 repeat' first
   | (with_reducible exact nunciolaw04_Few.mono _ _)
   | (with_reducible exact LeO.refl _)
   | (with_reducible exact LeO.none _)
   | (with_reducible refine LeO.ite ?_ ?_)
   | (with_reducible refine LeO.bind ?_ (fun _ => ?_))
   | exact nunciolaw04_Few.mono _ _
   | exact LeO.none _
   | refine LeO.ite ?_ ?_
   | refine LeO.bind ?_ (fun _ => ?_)
set_option maxHeartbeats 8000000 in
set_option maxRecDepth 100000 in
theorem nunciolaw05_Few.calls (k : Nat) (a0_0 : ByteArray) (a0_1 : Int) (a0_2 : Int) (a0_3 : Int) (A0_4 : Option Addr) (c0_4 : Nat) (l0_4 : List ByteArray) (A0_5 : Option Addr) (c0_5 : Nat) (l0_5 : List Int) (A0_6 : Option Addr) (c0_6 : Nat) (l0_6 : List ByteArray) (r : Bool) (w : World) (hr0_4 : Kd.C Kd.string w A0_4 l0_4.length l0_4) (hc0_4 : l0_4.length ≤ c0_4) (hr0_5 : Kd.C (Kd.int .u32) w A0_5 l0_5.length l0_5) (hc0_5 : l0_5.length ≤ c0_5) (hr0_6 : Kd.C Kd.string w A0_6 l0_6.length l0_6) (hc0_6 : l0_6.length ≤ c0_6) (h : nunciolaw05_Few.f k a0_0 a0_1 a0_2 a0_3 l0_4 l0_5 l0_6 = some r) :
  Calls Try.prog 32 #[.agg #[.string a0_0,.int .u16 a0_1,.int .u16 a0_2,.int .u32 a0_3,.slice A0_4 l0_4.length c0_4,.slice A0_5 l0_5.length c0_5,.slice A0_6 l0_6.length c0_6]] w fun e w'=>e = .returned (.bool r)∧Below w.heap.size w w':=by
 have hu51:=Try.underlying51
 have HR0_4:=qqm hr0_4
 have HC0_4:=qqm hc0_4
 clear hr0_4 hc0_4
 have HR0_5:=qqm hr0_5
 have HC0_5:=qqm hc0_5
 clear hr0_5 hc0_5
 have HR0_6:=qqm hr0_6
 have HC0_6:=qqm hc0_6
 clear hr0_6 hc0_6
 have HB:=qqm (Below.refl w.heap.size w)
 have H:((nunciolaw04_Few.f k l0_4).bind fun t221=>(if t221 = true then ((nunciolaw04_Few.f k l0_6).bind fun t222=>(if t222 = true then (if (l0_5.length:Int) ≤ 5000 then (some (decide ((a0_0.size:Int) ≤ 5000))) else (some false)) else (some false))) else (some false))) = some r:=h
 clear h
 replace H:=Option.bind_eq_some_iff.mp H
 obtain ⟨t221,A20,H⟩:=H
 replace H:(if t221 = true then ((nunciolaw04_Few.f k l0_6).bind fun t222=>(if t222 = true then (if (l0_5.length:Int) ≤ 5000 then (some (decide ((a0_0.size:Int) ≤ 5000))) else (some false)) else (some false))) else (some false)) = some r:=H
 have A2:=qqm A20
 clear A20
 by_cases c3:t221 = true
 rotate_left
 ·
  replace c3:=Bool.eq_false_iff.mpr c3
  subst c3
  have H1:(some false) = some r:=by rw [if_neg (show ¬ (false = true) by decide)] at H;exact H
  clear H
  have H:=H1
  clear H1
  obtain rfl:=Option.some.inj H
  go_enter Try.func32,Try.ntmps32
  go_wp2_with (first|((with_reducible refine gate_dst (N:=1) rfl ?_);(try (refine gate_guard (by rfl) ?_;dsimp only));refine box_event ?hg (N:=1) ?hd (cs:=#[.string a0_0,.int .u16 a0_1,.int .u16 a0_2,.int .u32 a0_3,.slice A0_4 l0_4.length c0_4,.slice A0_5 l0_5.length c0_5,.slice A0_6 l0_6.length c0_6]) (t:=51) ?hr ?_;(case hd=>rfl);(case hg=>rfl);(case hr=>first|(go_simp;done)|(go_simp;rfl));intro gb220 hg w30 hbox hb;have n0_:=qqm (below_step (by with_reducible repeat first|exact HB.out|apply qqf|apply qqd|apply qqe) hb);have n1_:=qqm (hbox);have n2_:=qqm ((by rw [hg];exact (below_size (by with_reducible repeat first|exact HB.out|apply qqf|apply qqd|apply qqe)):w.heap.size ≤ gb220));have n3_:=n2_;clear HB;have HB:=n0_;have BK220:=n1_;have GW220:=n2_;have GE220:=n3_;clear n0_ n1_ n2_ n3_ hb hbox hg;obtain ⟨hcz31_0,hcz31_1,hcz31_2,hcz31_3,hcz31_4,hcz31_5,hcz31_6⟩:=qc7 BK220.out;obtain ⟨hfz31_0,hfz31_1,hfz31_2,hfz31_3,hfz31_4,hfz31_5,hfz31_6⟩:=qf7 BK220.out)|((with_reducible refine gate_callee (f:=51) rfl ?_);refine goesL_ (some 5) rfl rfl Try.func51 (by kernel_rfl) rfl #[.slice A0_4 l0_4.length c0_4] rfl (by (try simp only [List.map_toArray,List.map_cons,List.map_nil]);first|done|rfl|(simp only [List.length_drop,List.length_take];rfl)) ?_;(with_reducible refine (nunciolaw04_Few.calls k _ _ l0_4 false _ ?side1 ?side2 A2.out).mono ?_);(case side1=>repeat (first|exact (Kd.C_below HR0_4.out HB.out)|(with_reducible first|apply Kd.C_alloc|apply Kd.C_drewN|apply Kd.C_drew)));(case side2=>exact HC0_4.out);rintro e w32 ⟨rfl,hb⟩;refine ⟨_,rfl,?_⟩;have n0_:=qqm (blk_below (g:=gb220) (o:=.cells #[.string a0_0,.int .u16 a0_1,.int .u16 a0_2,.int .u32 a0_3,.slice A0_4 l0_4.length c0_4,.slice A0_5 l0_5.length c0_5,.slice A0_6 l0_6.length c0_6] 51 (0,0)) (by (with_reducible repeat first|apply qqa|apply qqb|apply qqc);exact BK220.out) hb);have n1_:=qqm (below_step (by with_reducible repeat first|exact HB.out|apply qqf|apply qqd|apply qqe|refine qqg ?_ GE220.out) hb);clear BK220 HB;have BK220:=n0_;have HB:=n1_;clear n0_ n1_;(try clear hb);(try clear hb2);(try clear hk);(try clear hi)))
  go_ret
  exact ⟨by first|rfl|(simp [errW_none,errW_some] <;> rfl)|(simp [*,errW_none,errW_some] <;> rfl),by with_reducible repeat first|exact HB.out|apply qqf|apply qqd|apply qqe|refine qqg ?_ GE220.out⟩
 subst c3
 have H1:((nunciolaw04_Few.f k l0_6).bind fun t222=>(if t222 = true then (if (l0_5.length:Int) ≤ 5000 then (some (decide ((a0_0.size:Int) ≤ 5000))) else (some false)) else (some false))) = some r:=by rw [if_pos rfl] at H;exact H
 clear H
 have H:=H1
 clear H1
 replace H:=Option.bind_eq_some_iff.mp H
 obtain ⟨t222,A40,H⟩:=H
 replace H:(if t222 = true then (if (l0_5.length:Int) ≤ 5000 then (some (decide ((a0_0.size:Int) ≤ 5000))) else (some false)) else (some false)) = some r:=H
 have A4:=qqm A40
 clear A40
 by_cases c5:t222 = true
 rotate_left
 ·
  replace c5:=Bool.eq_false_iff.mpr c5
  subst c5
  have H1:(some false) = some r:=by rw [if_neg (show ¬ (false = true) by decide)] at H;exact H
  clear H
  have H:=H1
  clear H1
  obtain rfl:=Option.some.inj H
  go_enter Try.func32,Try.ntmps32
  have tk28:True:=trivial
  have tk29:True:=trivial
  go_wp2_with (first|((with_reducible refine gate_dst (N:=1) rfl ?_);(try (refine gate_guard (by rfl) ?_;dsimp only));refine box_event ?hg (N:=1) ?hd (cs:=#[.string a0_0,.int .u16 a0_1,.int .u16 a0_2,.int .u32 a0_3,.slice A0_4 l0_4.length c0_4,.slice A0_5 l0_5.length c0_5,.slice A0_6 l0_6.length c0_6]) (t:=51) ?hr ?_;(case hd=>rfl);(case hg=>rfl);(case hr=>first|(go_simp;done)|(go_simp;rfl));intro gb220 hg w23 hbox hb;have n0_:=qqm (below_step (by with_reducible repeat first|exact HB.out|apply qqf|apply qqd|apply qqe) hb);have n1_:=qqm (hbox);have n2_:=qqm ((by rw [hg];exact (below_size (by with_reducible repeat first|exact HB.out|apply qqf|apply qqd|apply qqe)):w.heap.size ≤ gb220));have n3_:=n2_;clear HB;have HB:=n0_;have BK220:=n1_;have GW220:=n2_;have GE220:=n3_;clear n0_ n1_ n2_ n3_ hb hbox hg;obtain ⟨hcz24_0,hcz24_1,hcz24_2,hcz24_3,hcz24_4,hcz24_5,hcz24_6⟩:=qc7 BK220.out;obtain ⟨hfz24_0,hfz24_1,hfz24_2,hfz24_3,hfz24_4,hfz24_5,hfz24_6⟩:=qf7 BK220.out)|(have _t:True:=tk28;clear tk28 _t;(with_reducible refine gate_callee (f:=51) rfl ?_);refine goesL_ (some 5) rfl rfl Try.func51 (by kernel_rfl) rfl #[.slice A0_4 l0_4.length c0_4] rfl (by (try simp only [List.map_toArray,List.map_cons,List.map_nil]);first|done|rfl|(simp only [List.length_drop,List.length_take];rfl)) ?_;(with_reducible refine (nunciolaw04_Few.calls k _ _ l0_4 true _ ?side1 ?side2 A2.out).mono ?_);(case side1=>repeat (first|exact (Kd.C_below HR0_4.out HB.out)|(with_reducible first|apply Kd.C_alloc|apply Kd.C_drewN|apply Kd.C_drew)));(case side2=>exact HC0_4.out);rintro e w25 ⟨rfl,hb⟩;refine ⟨_,rfl,?_⟩;have n0_:=qqm (blk_below (g:=gb220) (o:=.cells #[.string a0_0,.int .u16 a0_1,.int .u16 a0_2,.int .u32 a0_3,.slice A0_4 l0_4.length c0_4,.slice A0_5 l0_5.length c0_5,.slice A0_6 l0_6.length c0_6] 51 (0,0)) (by (with_reducible repeat first|apply qqa|apply qqb|apply qqc);exact BK220.out) hb);have n1_:=qqm (below_step (by with_reducible repeat first|exact HB.out|apply qqf|apply qqd|apply qqe|refine qqg ?_ GE220.out) hb);clear BK220 HB;have BK220:=n0_;have HB:=n1_;clear n0_ n1_;(try clear hb);(try clear hb2);(try clear hk);(try clear hi);obtain ⟨hcz26_0,hcz26_1,hcz26_2,hcz26_3,hcz26_4,hcz26_5,hcz26_6⟩:=qc7 BK220.out;obtain ⟨hfz26_0,hfz26_1,hfz26_2,hfz26_3,hfz26_4,hfz26_5,hfz26_6⟩:=qf7 BK220.out)|(have _t:True:=tk29;clear tk29 _t;go_at_call 51;(with_reducible refine (nunciolaw04_Few.calls k _ _ l0_6 false _ ?side1 ?side2 A4.out).mono ?_);(case side1=>repeat (first|exact (Kd.C_below HR0_6.out HB.out)|(with_reducible first|apply Kd.C_alloc|apply Kd.C_drewN|apply Kd.C_drew)));(case side2=>exact HC0_6.out);rintro e w27 ⟨rfl,hb⟩;have n0_:=qqm (blk_below (g:=gb220) (o:=.cells #[.string a0_0,.int .u16 a0_1,.int .u16 a0_2,.int .u32 a0_3,.slice A0_4 l0_4.length c0_4,.slice A0_5 l0_5.length c0_5,.slice A0_6 l0_6.length c0_6] 51 (0,0)) (by (with_reducible repeat first|apply qqa|apply qqb|apply qqc);exact BK220.out) hb);have n1_:=qqm (below_step (by with_reducible repeat first|exact HB.out|apply qqf|apply qqd|apply qqe|refine qqg ?_ GE220.out) hb);clear BK220 HB;have BK220:=n0_;have HB:=n1_;clear n0_ n1_;(try clear hb);(try clear hb2);(try clear hk);(try clear hi)))
  go_ret
  exact ⟨by first|rfl|(simp [errW_none,errW_some] <;> rfl)|(simp [*,errW_none,errW_some] <;> rfl),by with_reducible repeat first|exact HB.out|apply qqf|apply qqd|apply qqe|refine qqg ?_ GE220.out⟩
 subst c5
 have H1:(if (l0_5.length:Int) ≤ 5000 then (some (decide ((a0_0.size:Int) ≤ 5000))) else (some false)) = some r:=by rw [if_pos rfl] at H;exact H
 clear H
 have H:=H1
 clear H1
 by_cases c6:(l0_5.length:Int) ≤ 5000
 ·
  rw [if_pos c6] at H
  have c6b0:decide ((l0_5.length:Int) ≤ 5000) = true:=decide_eq_true c6
  have c6b1:decide (l0_5.length ≤ 5000) = true:=decide_eq_true (by omega)
  clear c6
  obtain rfl:=Option.some.inj H
  go_enter Try.func32,Try.ntmps32
  have tk13:True:=trivial
  have tk14:True:=trivial
  go_wp2_with (first|((with_reducible refine gate_dst (N:=1) rfl ?_);(try (refine gate_guard (by rfl) ?_;dsimp only));refine box_event ?hg (N:=1) ?hd (cs:=#[.string a0_0,.int .u16 a0_1,.int .u16 a0_2,.int .u32 a0_3,.slice A0_4 l0_4.length c0_4,.slice A0_5 l0_5.length c0_5,.slice A0_6 l0_6.length c0_6]) (t:=51) ?hr ?_;(case hd=>rfl);(case hg=>rfl);(case hr=>first|(go_simp;done)|(go_simp;rfl));intro gb220 hg w7 hbox hb;have n0_:=qqm (below_step (by with_reducible repeat first|exact HB.out|apply qqf|apply qqd|apply qqe) hb);have n1_:=qqm (hbox);have n2_:=qqm ((by rw [hg];exact (below_size (by with_reducible repeat first|exact HB.out|apply qqf|apply qqd|apply qqe)):w.heap.size ≤ gb220));have n3_:=n2_;clear HB;have HB:=n0_;have BK220:=n1_;have GW220:=n2_;have GE220:=n3_;clear n0_ n1_ n2_ n3_ hb hbox hg;obtain ⟨hcz8_0,hcz8_1,hcz8_2,hcz8_3,hcz8_4,hcz8_5,hcz8_6⟩:=qc7 BK220.out;obtain ⟨hfz8_0,hfz8_1,hfz8_2,hfz8_3,hfz8_4,hfz8_5,hfz8_6⟩:=qf7 BK220.out)|(have _t:True:=tk13;clear tk13 _t;(with_reducible refine gate_callee (f:=51) rfl ?_);refine goesL_ (some 5) rfl rfl Try.func51 (by kernel_rfl) rfl #[.slice A0_4 l0_4.length c0_4] rfl (by (try simp only [List.map_toArray,List.map_cons,List.map_nil]);first|done|rfl|(simp only [List.length_drop,List.length_take];rfl)) ?_;(with_reducible refine (nunciolaw04_Few.calls k _ _ l0_4 true _ ?side1 ?side2 A2.out).mono ?_);(case side1=>repeat (first|exact (Kd.C_below HR0_4.out HB.out)|(with_reducible first|apply Kd.C_alloc|apply Kd.C_drewN|apply Kd.C_drew)));(case side2=>exact HC0_4.out);rintro e w9 ⟨rfl,hb⟩;refine ⟨_,rfl,?_⟩;have n0_:=qqm (blk_below (g:=gb220) (o:=.cells #[.string a0_0,.int .u16 a0_1,.int .u16 a0_2,.int .u32 a0_3,.slice A0_4 l0_4.length c0_4,.slice A0_5 l0_5.length c0_5,.slice A0_6 l0_6.length c0_6] 51 (0,0)) (by (with_reducible repeat first|apply qqa|apply qqb|apply qqc);exact BK220.out) hb);have n1_:=qqm (below_step (by with_reducible repeat first|exact HB.out|apply qqf|apply qqd|apply qqe|refine qqg ?_ GE220.out) hb);clear BK220 HB;have BK220:=n0_;have HB:=n1_;clear n0_ n1_;(try clear hb);(try clear hb2);(try clear hk);(try clear hi);obtain ⟨hcz10_0,hcz10_1,hcz10_2,hcz10_3,hcz10_4,hcz10_5,hcz10_6⟩:=qc7 BK220.out;obtain ⟨hfz10_0,hfz10_1,hfz10_2,hfz10_3,hfz10_4,hfz10_5,hfz10_6⟩:=qf7 BK220.out)|(have _t:True:=tk14;clear tk14 _t;go_at_call 51;(with_reducible refine (nunciolaw04_Few.calls k _ _ l0_6 true _ ?side1 ?side2 A4.out).mono ?_);(case side1=>repeat (first|exact (Kd.C_below HR0_6.out HB.out)|(with_reducible first|apply Kd.C_alloc|apply Kd.C_drewN|apply Kd.C_drew)));(case side2=>exact HC0_6.out);rintro e w11 ⟨rfl,hb⟩;have n0_:=qqm (blk_below (g:=gb220) (o:=.cells #[.string a0_0,.int .u16 a0_1,.int .u16 a0_2,.int .u32 a0_3,.slice A0_4 l0_4.length c0_4,.slice A0_5 l0_5.length c0_5,.slice A0_6 l0_6.length c0_6] 51 (0,0)) (by (with_reducible repeat first|apply qqa|apply qqb|apply qqc);exact BK220.out) hb);have n1_:=qqm (below_step (by with_reducible repeat first|exact HB.out|apply qqf|apply qqd|apply qqe|refine qqg ?_ GE220.out) hb);clear BK220 HB;have BK220:=n0_;have HB:=n1_;clear n0_ n1_;(try clear hb);(try clear hb2);(try clear hk);(try clear hi);obtain ⟨hcz12_0,hcz12_1,hcz12_2,hcz12_3,hcz12_4,hcz12_5,hcz12_6⟩:=qc7 BK220.out;obtain ⟨hfz12_0,hfz12_1,hfz12_2,hfz12_3,hfz12_4,hfz12_5,hfz12_6⟩:=qf7 BK220.out))
  go_ret
  exact ⟨by first|rfl|(simp [errW_none,errW_some] <;> rfl)|(simp [*,errW_none,errW_some] <;> rfl),by with_reducible repeat first|exact HB.out|apply qqf|apply qqd|apply qqe|refine qqg ?_ GE220.out⟩
 rw [if_neg c6] at H
 have c6b0:decide ((l0_5.length:Int) ≤ 5000) = false:=decide_eq_false c6
 have c6b1:decide (l0_5.length ≤ 5000) = false:=decide_eq_false (by omega)
 clear c6
 obtain rfl:=Option.some.inj H
 go_enter Try.func32,Try.ntmps32
 have tk21:True:=trivial
 have tk22:True:=trivial
 go_wp2_with (first|((with_reducible refine gate_dst (N:=1) rfl ?_);(try (refine gate_guard (by rfl) ?_;dsimp only));refine box_event ?hg (N:=1) ?hd (cs:=#[.string a0_0,.int .u16 a0_1,.int .u16 a0_2,.int .u32 a0_3,.slice A0_4 l0_4.length c0_4,.slice A0_5 l0_5.length c0_5,.slice A0_6 l0_6.length c0_6]) (t:=51) ?hr ?_;(case hd=>rfl);(case hg=>rfl);(case hr=>first|(go_simp;done)|(go_simp;rfl));intro gb220 hg w15 hbox hb;have n0_:=qqm (below_step (by with_reducible repeat first|exact HB.out|apply qqf|apply qqd|apply qqe) hb);have n1_:=qqm (hbox);have n2_:=qqm ((by rw [hg];exact (below_size (by with_reducible repeat first|exact HB.out|apply qqf|apply qqd|apply qqe)):w.heap.size ≤ gb220));have n3_:=n2_;clear HB;have HB:=n0_;have BK220:=n1_;have GW220:=n2_;have GE220:=n3_;clear n0_ n1_ n2_ n3_ hb hbox hg;obtain ⟨hcz16_0,hcz16_1,hcz16_2,hcz16_3,hcz16_4,hcz16_5,hcz16_6⟩:=qc7 BK220.out;obtain ⟨hfz16_0,hfz16_1,hfz16_2,hfz16_3,hfz16_4,hfz16_5,hfz16_6⟩:=qf7 BK220.out)|(have _t:True:=tk21;clear tk21 _t;(with_reducible refine gate_callee (f:=51) rfl ?_);refine goesL_ (some 5) rfl rfl Try.func51 (by kernel_rfl) rfl #[.slice A0_4 l0_4.length c0_4] rfl (by (try simp only [List.map_toArray,List.map_cons,List.map_nil]);first|done|rfl|(simp only [List.length_drop,List.length_take];rfl)) ?_;(with_reducible refine (nunciolaw04_Few.calls k _ _ l0_4 true _ ?side1 ?side2 A2.out).mono ?_);(case side1=>repeat (first|exact (Kd.C_below HR0_4.out HB.out)|(with_reducible first|apply Kd.C_alloc|apply Kd.C_drewN|apply Kd.C_drew)));(case side2=>exact HC0_4.out);rintro e w17 ⟨rfl,hb⟩;refine ⟨_,rfl,?_⟩;have n0_:=qqm (blk_below (g:=gb220) (o:=.cells #[.string a0_0,.int .u16 a0_1,.int .u16 a0_2,.int .u32 a0_3,.slice A0_4 l0_4.length c0_4,.slice A0_5 l0_5.length c0_5,.slice A0_6 l0_6.length c0_6] 51 (0,0)) (by (with_reducible repeat first|apply qqa|apply qqb|apply qqc);exact BK220.out) hb);have n1_:=qqm (below_step (by with_reducible repeat first|exact HB.out|apply qqf|apply qqd|apply qqe|refine qqg ?_ GE220.out) hb);clear BK220 HB;have BK220:=n0_;have HB:=n1_;clear n0_ n1_;(try clear hb);(try clear hb2);(try clear hk);(try clear hi);obtain ⟨hcz18_0,hcz18_1,hcz18_2,hcz18_3,hcz18_4,hcz18_5,hcz18_6⟩:=qc7 BK220.out;obtain ⟨hfz18_0,hfz18_1,hfz18_2,hfz18_3,hfz18_4,hfz18_5,hfz18_6⟩:=qf7 BK220.out)|(have _t:True:=tk22;clear tk22 _t;go_at_call 51;(with_reducible refine (nunciolaw04_Few.calls k _ _ l0_6 true _ ?side1 ?side2 A4.out).mono ?_);(case side1=>repeat (first|exact (Kd.C_below HR0_6.out HB.out)|(with_reducible first|apply Kd.C_alloc|apply Kd.C_drewN|apply Kd.C_drew)));(case side2=>exact HC0_6.out);rintro e w19 ⟨rfl,hb⟩;have n0_:=qqm (blk_below (g:=gb220) (o:=.cells #[.string a0_0,.int .u16 a0_1,.int .u16 a0_2,.int .u32 a0_3,.slice A0_4 l0_4.length c0_4,.slice A0_5 l0_5.length c0_5,.slice A0_6 l0_6.length c0_6] 51 (0,0)) (by (with_reducible repeat first|apply qqa|apply qqb|apply qqc);exact BK220.out) hb);have n1_:=qqm (below_step (by with_reducible repeat first|exact HB.out|apply qqf|apply qqd|apply qqe|refine qqg ?_ GE220.out) hb);clear BK220 HB;have BK220:=n0_;have HB:=n1_;clear n0_ n1_;(try clear hb);(try clear hb2);(try clear hk);(try clear hi);obtain ⟨hcz20_0,hcz20_1,hcz20_2,hcz20_3,hcz20_4,hcz20_5,hcz20_6⟩:=qc7 BK220.out;obtain ⟨hfz20_0,hfz20_1,hfz20_2,hfz20_3,hfz20_4,hfz20_5,hfz20_6⟩:=qf7 BK220.out))
 go_ret
 exact ⟨by first|rfl|(simp [errW_none,errW_some] <;> rfl)|(simp [*,errW_none,errW_some] <;> rfl),by with_reducible repeat first|exact HB.out|apply qqf|apply qqd|apply qqe|refine qqg ?_ GE220.out⟩

end Go.Proofs.Ythkdfnbhlinhiaa.Mine
