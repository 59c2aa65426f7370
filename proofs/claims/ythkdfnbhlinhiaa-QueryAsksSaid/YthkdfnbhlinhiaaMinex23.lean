-- Written by this repo's own printer (wip/print), which builds on the kit's.
import Derived.Test.YthkdfnbhlinhiaaMinex0
namespace Go.Proofs.Ythkdfnbhlinhiaa.Mine
open Go.RowKit Go.Proofs.YthkdfnbhlinhiaaW.PrintWords Go.Proofs.YthkdfnbhlinhiaaW.PrintLast Go.Proofs.YthkdfnbhlinhiaaW.PrintMore
attribute [local go_sem] max2_int min2_int max_two min_two max_three min_three max_four min_four   -- for this text's walks alone
set_option linter.unusedVariables false
set_option linter.unusedSimpArgs false

/-! ### nuncioref08_opcode: function 37 -/
def nuncioref08_opcode.f (a0 : Int) : Option (Int) := some (Int.tmod (wrap64 (Int.tdiv (wrap64 (a0)) 2048)) 16)
set_option maxHeartbeats 8000000 in
set_option maxRecDepth 100000 in
theorem nuncioref08_opcode.calls (a0 : Int) (r : Int) (w : World) (h : nuncioref08_opcode.f a0 = some r) :
  Calls Try.prog 37 #[.int .u16 a0] w fun e w'=>e = .returned (.int .i64 r)∧Drawn0 w w':=by
 have H:(some (Int.tmod (wrap64 (Int.tdiv (wrap64 (a0)) 2048)) 16)) = some r:=h
 clear h
 obtain rfl:=Option.some.inj H
 go_enter Try.func37,Try.ntmps37
 go_wp2
 go_ret
 exact ⟨by first|rfl|(simp;done)|(simp [*];done),by repeat (first|exact Drawn0.refl _|apply Drawn0.step)⟩

/-! ### nuncioref08_DO: function 38 -/
def nuncioref08_DO.l0 : Nat → Int → Int → Int → List (S53) → List (S51) → List (S51) → List (S51) → Option (Bool)
 | 0, _, _, _, _, _, _, _ => none
 | k + 1, x3, x274000, x274001, x274002, x274003, x274004, x274005 => if x3 < (x274005.length : Int) then (if 0 ≤ x3 then (if ((rd_T51 x274005 x3).f1) = 41 then (some ((((Int.tdiv ((rd_T51 x274005 x3).f3) 32768) % 4294967296) % 2) == 1)) else (nuncioref08_DO.l0 k (wrap64 (x3 + 1)) x274000 x274001 x274002 x274003 x274004 x274005)) else (none)) else (some false)
def nuncioref08_DO.f (k : Nat) (a0_0 : Int) (a0_1 : Int) (l0_2 : List (S53)) (l0_3 : List (S51)) (l0_4 : List (S51)) (l0_5 : List (S51)) : Option (Bool) := nuncioref08_DO.l0 k 0 a0_0 a0_1 l0_2 l0_3 l0_4 l0_5
theorem nuncioref08_DO.mono_l : ∀ k, (∀ y0 y1 y2 y3 y4 y5 y6, LeO (nuncioref08_DO.l0 k y0 y1 y2 y3 y4 y5 y6) (nuncioref08_DO.l0 (k + 1) y0 y1 y2 y3 y4 y5 y6))
 | 0 => fun _ _ _ _ _ _ _ r h => by simp [nuncioref08_DO.l0] at h
 | k + 1 => by
  have ih0:=nuncioref08_DO.mono_l k
  ·
   intro y0 y1 y2 y3 y4 y5 y6
   unfold nuncioref08_DO.l0
   repeat' first
   | (with_reducible exact ih0 _ _ _ _ _ _ _)
   | (with_reducible exact LeO.refl _)
   | (with_reducible exact LeO.none _)
   | (with_reducible refine LeO.ite ?_ ?_)
   | (with_reducible refine LeO.bind ?_ (fun _ => ?_))
   | exact ih0 _ _ _ _ _ _ _
   | exact LeO.none _
   | refine LeO.ite ?_ ?_
   | refine LeO.bind ?_ (fun _ => ?_)
theorem nuncioref08_DO.mono : ∀ a0 a1 a2 a3 a4 a5 k, LeO (nuncioref08_DO.f k a0 a1 a2 a3 a4 a5) (nuncioref08_DO.f (k + 1) a0 a1 a2 a3 a4 a5) := by
 intro a0 a1 a2 a3 a4 a5 k
 have ih0:=nuncioref08_DO.mono_l k
 unfold nuncioref08_DO.f
 repeat' first
   | (with_reducible exact ih0 _ _ _ _ _ _ _)
   | (with_reducible exact LeO.refl _)
   | (with_reducible exact LeO.none _)
   | (with_reducible refine LeO.ite ?_ ?_)
   | (with_reducible refine LeO.bind ?_ (fun _ => ?_))
   | exact ih0 _ _ _ _ _ _ _
   | exact LeO.none _
   | refine LeO.ite ?_ ?_
   | refine LeO.bind ?_ (fun _ => ?_)
set_option maxHeartbeats 8000000 in
set_option maxRecDepth 100000 in
theorem nuncioref08_DO.calls (k : Nat) (a0_0 : Int) (a0_1 : Int) (A0_2 : Option Addr) (c0_2 : Nat) (l0_2 : List (S53)) (A0_3 : Option Addr) (c0_3 : Nat) (l0_3 : List (S51)) (A0_4 : Option Addr) (c0_4 : Nat) (l0_4 : List (S51)) (A0_5 : Option Addr) (c0_5 : Nat) (l0_5 : List (S51)) (r : Bool) (w : World) (hr0_2 : Kd.C k53 w A0_2 l0_2.length l0_2) (hc0_2 : l0_2.length ≤ c0_2) (hr0_3 : Kd.C k51 w A0_3 l0_3.length l0_3) (hc0_3 : l0_3.length ≤ c0_3) (hr0_4 : Kd.C k51 w A0_4 l0_4.length l0_4) (hc0_4 : l0_4.length ≤ c0_4) (hr0_5 : Kd.C k51 w A0_5 l0_5.length l0_5) (hc0_5 : l0_5.length ≤ c0_5) (h : nuncioref08_DO.f k a0_0 a0_1 l0_2 l0_3 l0_4 l0_5 = some r) :
  Calls Try.prog 38 #[.agg #[.int .u16 a0_0,.int .u16 a0_1,.slice A0_2 l0_2.length c0_2,.slice A0_3 l0_3.length c0_3,.slice A0_4 l0_4.length c0_4,.slice A0_5 l0_5.length c0_5]] w fun e w'=>e = .returned (.bool r)∧Below w.heap.size w w':=by
 have hu26:=Try.underlying26
 have HR0_2:=qqm hr0_2
 have HC0_2:=qqm hc0_2
 clear hr0_2 hc0_2
 have HR0_3:=qqm hr0_3
 have HC0_3:=qqm hc0_3
 clear hr0_3 hc0_3
 have HR0_4:=qqm hr0_4
 have HC0_4:=qqm hc0_4
 clear hr0_4 hc0_4
 have HR0_5:=qqm hr0_5
 have HC0_5:=qqm hc0_5
 clear hr0_5 hc0_5
 have HB:=qqm (Below.refl w.heap.size w)
 have H:(nuncioref08_DO.l0 k 0 a0_0 a0_1 l0_2 l0_3 l0_4 l0_5) = some r:=h
 clear h
 have H':=qqm H
 clear H
 go_enter Try.func38,Try.ntmps38
 go_wp2_with (first|((with_reducible refine gate_dst (N:=1) rfl ?_);refine box_event ?hg (N:=1) ?hd (cs:=#[.int .u16 a0_0,.int .u16 a0_1,.slice A0_2 l0_2.length c0_2,.slice A0_3 l0_3.length c0_3,.slice A0_4 l0_4.length c0_4,.slice A0_5 l0_5.length c0_5]) (t:=26) ?hr ?_;(case hd=>rfl);(case hg=>rfl);(case hr=>first|(go_simp;done)|(go_simp;rfl));intro gb273 hg w2 hbox hb;have n0_:=qqm (below_step (by with_reducible repeat first|exact HB.out|apply qqf|apply qqd|apply qqe) hb);have n1_:=qqm (hbox);have n2_:=qqm ((by rw [hg];exact (below_size (by with_reducible repeat first|exact HB.out|apply qqf|apply qqd|apply qqe)):w.heap.size ≤ gb273));have n3_:=n2_;clear HB;have HB:=n0_;have BK273:=n1_;have GW273:=n2_;have GE273:=n3_;clear n0_ n1_ n2_ n3_ hb hbox hg))
 go_loopg [3] k (fun kq v3 w'=>∃ (x3_1:Int),v3 = .int .i64 x3_1∧Aside0 (nuncioref08_DO.l0 kq x3_1 a0_0 a0_1 l0_2 l0_3 l0_4 l0_5 = some r)∧Aside0 (kq ≤ k)∧Aside0 (w'.heap[gb273]? = some (.cells #[.int .u16 a0_0,.int .u16 a0_1,(.slice A0_2 l0_2.length c0_2),(.slice A0_3 l0_3.length c0_3),(.slice A0_4 l0_4.length c0_4),(.slice A0_5 l0_5.length c0_5)] 26 (0,0)))∧Aside0 (Below w.heap.size w w'))
 case atStart=>exact ⟨(0),(by first|rfl|(simp;done)|(simp [*];done)),H',⟨Nat.le_refl _⟩,⟨by (with_reducible repeat first|apply qqa|apply qqb|apply qqc);exact BK273.out⟩,⟨by with_reducible repeat first|exact HB.out|apply qqf|apply qqd|apply qqe|refine qqg ?_ GE273.out⟩⟩
 case round =>
  clear H'
  try clear p2
  obtain ⟨x3_1,rfl,HA,HK1,BK273,HB⟩:=hrel
  cases gk with
  | zero => exact absurd HA.out (by simp [nuncioref08_DO.l0])
  | succ k1 =>
   have H:=HA.out
   clear HA
   simp only [nuncioref08_DO.l0] at H
   by_cases c3:x3_1 < (l0_5.length:Int)
   ·
    rw [if_pos c3] at H
    have c3b0:decide (x3_1 < (l0_5.length:Int)) = true:=decide_eq_true c3
    clear c3
    by_cases c4:0 ≤ x3_1
    ·
     rw [if_pos c4] at H
     have c4b0:decide (0 ≤ x3_1) = true:=decide_eq_true c4
     clear c4
     by_cases c5:((rd_T51 l0_5 x3_1).f1) = 41
     ·
      rw [if_pos c5] at H
      have c5b0:(((rd_T51 l0_5 x3_1).f1) == 41) = true:=beq_iff_eq.mpr c5
      have c5b1:(((rd_T51 l0_5 x3_1).f1) != 41) = false:=bne_eq_false_iff_eq.mpr c5
      clear c5
      obtain rfl:=Option.some.inj H
      obtain ⟨hcz6_0,hcz6_1,hcz6_2,hcz6_3,hcz6_4,hcz6_5⟩:=qc6 BK273.out
      obtain ⟨hfz6_0,hfz6_1,hfz6_2,hfz6_3,hfz6_4,hfz6_5⟩:=qf6 BK273.out
      have p274:0 ≤ (x3_1:Int):=of_decide_eq_true (by first|(with_reducible assumption)|assumption)
      have q274:x3_1 < (l0_5.length:Int):=of_decide_eq_true (by first|(with_reducible assumption)|assumption)
      obtain ⟨ad274,A274_4,c274_4,A274_5,c274_5,A274_6,c274_6,e274,hx274_0,hx274_1,hx274_2,hx274_3,hx274_4,hx274_5,hx274_6,hl274_4,hi274_4,hl274_5,hi274_5,hl274_6,hi274_6⟩:=at_T51 HR0_5.out x3_1 p274 q274
      cases e274
      replace hx274_0:=qqo HB.out hx274_0
      replace hx274_1:=qqo HB.out hx274_1
      replace hx274_2:=qqo HB.out hx274_2
      replace hx274_3:=qqo HB.out hx274_3
      replace hx274_4:=qqo HB.out hx274_4
      replace hx274_5:=qqo HB.out hx274_5
      replace hx274_6:=qqo HB.out hx274_6
      have HR274_4:=qqm hi274_4
      have HC274_4:=qqm hl274_4
      clear hi274_4 hl274_4
      have HR274_5:=qqm hi274_5
      have HC274_5:=qqm hl274_5
      clear hi274_5 hl274_5
      have HR274_6:=qqm hi274_6
      have HC274_6:=qqm hl274_6
      clear hi274_6 hl274_6
      replace p274:=eq_true p274
      replace q274:=eq_true q274
      have p275:0 ≤ (x3_1:Int):=of_decide_eq_true (by first|(with_reducible assumption)|assumption)
      have q275:x3_1 < (l0_5.length:Int):=of_decide_eq_true (by first|(with_reducible assumption)|assumption)
      obtain ⟨ad275,A275_4,c275_4,A275_5,c275_5,A275_6,c275_6,e275,hx275_0,hx275_1,hx275_2,hx275_3,hx275_4,hx275_5,hx275_6,hl275_4,hi275_4,hl275_5,hi275_5,hl275_6,hi275_6⟩:=at_T51 HR0_5.out x3_1 p275 q275
      obtain rfl:ad274 = ad275:=(by injection e275)
      replace hx275_0:=qqo HB.out hx275_0
      replace hx275_1:=qqo HB.out hx275_1
      replace hx275_2:=qqo HB.out hx275_2
      replace hx275_3:=qqo HB.out hx275_3
      replace hx275_4:=qqo HB.out hx275_4
      replace hx275_5:=qqo HB.out hx275_5
      replace hx275_6:=qqo HB.out hx275_6
      have HR275_4:=qqm hi275_4
      have HC275_4:=qqm hl275_4
      clear hi275_4 hl275_4
      have HR275_5:=qqm hi275_5
      have HC275_5:=qqm hl275_5
      clear hi275_5 hl275_5
      have HR275_6:=qqm hi275_6
      have HC275_6:=qqm hl275_6
      clear hi275_6 hl275_6
      replace p275:=eq_true p275
      replace q275:=eq_true q275
      have ea_:=Option.some.inj (hx274_4.symm.trans hx275_4)
      injection ea_ with ea_ en_ ec_
      subst ea_
      subst ec_
      clear en_
      have ea_:=Option.some.inj (hx274_5.symm.trans hx275_5)
      injection ea_ with ea_ en_ ec_
      subst ea_
      subst ec_
      clear en_
      have ea_:=Option.some.inj (hx274_6.symm.trans hx275_6)
      injection ea_ with ea_ en_ ec_
      subst ea_
      subst ec_
      clear en_
      go_wp2
      go_ret
      exact ⟨by first|rfl|(simp [errW_none,errW_some] <;> rfl)|(simp [*,errW_none,errW_some] <;> rfl),by with_reducible repeat first|exact HB.out|apply qqf|apply qqd|apply qqe|refine qqg ?_ GE273.out⟩
     ·
      rw [if_neg c5] at H
      have c5b0:(((rd_T51 l0_5 x3_1).f1) == 41) = false:=beq_eq_false_iff_ne.mpr c5
      have c5b1:(((rd_T51 l0_5 x3_1).f1) != 41) = true:=bne_iff_ne.mpr c5
      have H':=qqm H
      clear H
      obtain ⟨hcz7_0,hcz7_1,hcz7_2,hcz7_3,hcz7_4,hcz7_5⟩:=qc6 BK273.out
      obtain ⟨hfz7_0,hfz7_1,hfz7_2,hfz7_3,hfz7_4,hfz7_5⟩:=qf6 BK273.out
      have p274:0 ≤ (x3_1:Int):=of_decide_eq_true (by first|(with_reducible assumption)|assumption)
      have q274:x3_1 < (l0_5.length:Int):=of_decide_eq_true (by first|(with_reducible assumption)|assumption)
      obtain ⟨ad274,A274_4,c274_4,A274_5,c274_5,A274_6,c274_6,e274,hx274_0,hx274_1,hx274_2,hx274_3,hx274_4,hx274_5,hx274_6,hl274_4,hi274_4,hl274_5,hi274_5,hl274_6,hi274_6⟩:=at_T51 HR0_5.out x3_1 p274 q274
      cases e274
      replace hx274_0:=qqo HB.out hx274_0
      replace hx274_1:=qqo HB.out hx274_1
      replace hx274_2:=qqo HB.out hx274_2
      replace hx274_3:=qqo HB.out hx274_3
      replace hx274_4:=qqo HB.out hx274_4
      replace hx274_5:=qqo HB.out hx274_5
      replace hx274_6:=qqo HB.out hx274_6
      have HR274_4:=qqm hi274_4
      have HC274_4:=qqm hl274_4
      clear hi274_4 hl274_4
      have HR274_5:=qqm hi274_5
      have HC274_5:=qqm hl274_5
      clear hi274_5 hl274_5
      have HR274_6:=qqm hi274_6
      have HC274_6:=qqm hl274_6
      clear hi274_6 hl274_6
      replace p274:=eq_true p274
      replace q274:=eq_true q274
      go_wp2
      go_roundg k1
      case measure=>have:=HK1.out;omega
      case rel=>exact ⟨(wrap64 (x3_1 + 1)),(by first|rfl|(simp;done)|(simp [*];done)),H',⟨by have:=HK1.out;omega⟩,⟨by (with_reducible repeat first|apply qqa|apply qqb|apply qqc);exact BK273.out⟩,⟨by with_reducible repeat first|exact HB.out|apply qqf|apply qqd|apply qqe|refine qqg ?_ GE273.out⟩⟩
    ·
     rw [if_neg c4] at H
     exact absurd H (by simp)
   ·
    rw [if_neg c3] at H
    have c3b0:decide (x3_1 < (l0_5.length:Int)) = false:=decide_eq_false c3
    clear c3
    obtain rfl:=Option.some.inj H
    obtain ⟨hcz8_0,hcz8_1,hcz8_2,hcz8_3,hcz8_4,hcz8_5⟩:=qc6 BK273.out
    obtain ⟨hfz8_0,hfz8_1,hfz8_2,hfz8_3,hfz8_4,hfz8_5⟩:=qf6 BK273.out
    go_wp2
    go_ret
    exact ⟨by first|rfl|(simp [errW_none,errW_some] <;> rfl)|(simp [*,errW_none,errW_some] <;> rfl),by with_reducible repeat first|exact HB.out|apply qqf|apply qqd|apply qqe|refine qqg ?_ GE273.out⟩

end Go.Proofs.Ythkdfnbhlinhiaa.Mine
