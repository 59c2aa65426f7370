-- Written by this repo's own printer (wip/print), which builds on the kit's.
import Derived.Test.YthkdfnbhlinhiaaMinex0
namespace Go.Proofs.Ythkdfnbhlinhiaa.Mine
open Go.RowKit Go.Proofs.YthkdfnbhlinhiaaW.PrintWords Go.Proofs.YthkdfnbhlinhiaaW.PrintLast Go.Proofs.YthkdfnbhlinhiaaW.PrintMore
attribute [local go_sem] max2_int min2_int max_two min_two max_three min_three max_four min_four   -- for this text's walks alone
set_option linter.unusedVariables false
set_option linter.unusedSimpArgs false

/-! ### query_opcode: function 33 -/
def query_opcode.f (a0_0 : Int) (a0_1 : Int) (l0_2 : List (S53)) (l0_3 : List (S51)) (l0_4 : List (S51)) (l0_5 : List (S51)) : Option (Int) := some (wrap64 (Go.bits .and .u16 (a0_1 / 2048) 15))
set_option maxHeartbeats 8000000 in
set_option maxRecDepth 100000 in
theorem query_opcode.calls (a0_0 : Int) (a0_1 : Int) (A0_2 : Option Addr) (c0_2 : Nat) (l0_2 : List (S53)) (A0_3 : Option Addr) (c0_3 : Nat) (l0_3 : List (S51)) (A0_4 : Option Addr) (c0_4 : Nat) (l0_4 : List (S51)) (A0_5 : Option Addr) (c0_5 : Nat) (l0_5 : List (S51)) (r : Int) (w : World) (hr0_2 : Kd.C k53 w A0_2 l0_2.length l0_2) (hc0_2 : l0_2.length ≤ c0_2) (hr0_3 : Kd.C k51 w A0_3 l0_3.length l0_3) (hc0_3 : l0_3.length ≤ c0_3) (hr0_4 : Kd.C k51 w A0_4 l0_4.length l0_4) (hc0_4 : l0_4.length ≤ c0_4) (hr0_5 : Kd.C k51 w A0_5 l0_5.length l0_5) (hc0_5 : l0_5.length ≤ c0_5) (h : query_opcode.f a0_0 a0_1 l0_2 l0_3 l0_4 l0_5 = some r) :
  Calls Try.prog 33 #[.agg #[.int .u16 a0_0,.int .u16 a0_1,.slice A0_2 l0_2.length c0_2,.slice A0_3 l0_3.length c0_3,.slice A0_4 l0_4.length c0_4,.slice A0_5 l0_5.length c0_5]] w fun e w'=>e = .returned (.int .i64 r)∧Below w.heap.size w w':=by
 have hu26:=Try.underlying26
 have HR0_2:=qqm hr0_2
 have HC0_2:=qqm hc0_2
 clear hr0_2 hc0_2
 have HR0_3:=qqm hr0_3
 have HC0_3:=qqm hc0_3
 clear hr0_3 hc0_3
 have HR0_4:=qqm hr0_4
 have HC0_4:=qqm hc0_4
 clear hr0_4 hc0_4
 have HR0_5:=qqm hr0_5
 have HC0_5:=qqm hc0_5
 clear hr0_5 hc0_5
 have HB:=qqm (Below.refl w.heap.size w)
 have H:(some (wrap64 (Go.bits .and .u16 (a0_1 / 2048) 15))) = some r:=h
 clear h
 obtain rfl:=Option.some.inj H
 go_enter Try.func33,Try.ntmps33
 go_wp2_with (first|((with_reducible refine gate_dst (N:=1) rfl ?_);refine box_event ?hg (N:=1) ?hd (cs:=#[.int .u16 a0_0,.int .u16 a0_1,.slice A0_2 l0_2.length c0_2,.slice A0_3 l0_3.length c0_3,.slice A0_4 l0_4.length c0_4,.slice A0_5 l0_5.length c0_5]) (t:=26) ?hr ?_;(case hd=>rfl);(case hg=>rfl);(case hr=>first|(go_simp;done)|(go_simp;rfl));intro gb101 hg w2 hbox hb;have n0_:=qqm (below_step (by with_reducible repeat first|exact HB.out|apply qqf|apply qqd|apply qqe) hb);have n1_:=qqm (hbox);have n2_:=qqm ((by rw [hg];exact (below_size (by with_reducible repeat first|exact HB.out|apply qqf|apply qqd|apply qqe)):w.heap.size ≤ gb101));have n3_:=n2_;clear HB;have HB:=n0_;have BK101:=n1_;have GW101:=n2_;have GE101:=n3_;clear n0_ n1_ n2_ n3_ hb hbox hg;obtain ⟨hcz3_0,hcz3_1,hcz3_2,hcz3_3,hcz3_4,hcz3_5⟩:=qc6 BK101.out;obtain ⟨hfz3_0,hfz3_1,hfz3_2,hfz3_3,hfz3_4,hfz3_5⟩:=qf6 BK101.out))
 go_ret
 exact ⟨by first|rfl|(simp [errW_none,errW_some] <;> rfl)|(simp [*,errW_none,errW_some] <;> rfl),by with_reducible repeat first|exact HB.out|apply qqf|apply qqd|apply qqe|refine qqg ?_ GE101.out⟩

/-! ### name_split: function 65 -/
def name_split.l0 : Nat → ByteArray → List ByteArray → Option (List ByteArray × Bool)
 | 0, _, _ => none
 | k + 1, x0, x4 => if (x0.size : Int) > 0 then (if 0 < (x0.size : Int) then (if (wrap64 (bt x0 0)) = 0 then (some (x4, ((x0.size : Int) == 1))) else (if (wrap64 (bt x0 0)) > 63 then (some (([] : List ByteArray), false)) else (if (wrap64 (bt x0 0)) ≥ (x0.size : Int) then (some (([] : List ByteArray), false)) else (if 1 ≤ (wrap64 ((wrap64 (bt x0 0)) + 1)) then (if (wrap64 ((wrap64 (bt x0 0)) + 1)) ≤ (x0.size : Int) then (if x4.length < 8796093022208 then (if 0 ≤ (wrap64 ((wrap64 (bt x0 0)) + 1)) then (name_split.l0 k (x0.extract ((wrap64 ((wrap64 (bt x0 0)) + 1)) : Int).toNat x0.size) (x4 ++ [x0.extract 1 ((wrap64 ((wrap64 (bt x0 0)) + 1)) : Int).toNat])) else (none)) else (none)) else (none)) else (none))))) else (none)) else (some (([] : List ByteArray), false))
def name_split.f (k : Nat) (a0 : ByteArray) : Option (List ByteArray × Bool) := if (a0.size : Int) > 255 then (some (([] : List ByteArray), false)) else (name_split.l0 k a0 ([] : List ByteArray))
theorem name_split.mono_l : ∀ k, (∀ y0 y1, LeO (name_split.l0 k y0 y1) (name_split.l0 (k + 1) y0 y1))
 | 0 => fun _ _ r h => by simp [name_split.l0] at h
 | k + 1 => by
  have ih0:=name_split.mono_l k
  ·
   intro y0 y1
   unfold name_split.l0
   repeat' first
   | (with_reducible exact ih0 _ _)
   | (with_reducible exact LeO.refl _)
   | (with_reducible exact LeO.none _)
   | (with_reducible refine LeO.ite ?_ ?_)
   | (with_reducible refine LeO.bind ?_ (fun _ => ?_))
   | exact ih0 _ _
   | exact LeO.none _
   | refine LeO.ite ?_ ?_
   | refine LeO.bind ?_ (fun _ => ?_)
theorem name_split.mono : ∀ a0 k, LeO (name_split.f k a0) (name_split.f (k + 1) a0) := by
 intro a0 k
 have ih0:=name_split.mono_l k
 unfold name_split.f
 repeat' first
   | (with_reducible exact ih0 _ _)
   | (with_reducible exact LeO.refl _)
   | (with_reducible exact LeO.none _)
   | (with_reducible refine LeO.ite ?_ ?_)
   | (with_reducible refine LeO.bind ?_ (fun _ => ?_))
   | exact ih0 _ _
   | exact LeO.none _
   | refine LeO.ite ?_ ?_
   | refine LeO.bind ?_ (fun _ => ?_)
set_option maxHeartbeats 8000000 in
set_option maxRecDepth 100000 in
theorem name_split.calls (k : Nat) (a0 : ByteArray) (r1 : List ByteArray) (r2 : Bool) (w : World) (h : name_split.f k a0 = some (r1, r2)) :
  Calls Try.prog 65 #[.string a0] w fun e w'=>∃ v0_:Value,e = .returned (.tuple #[v0_,.bool r2])∧Kd.R Kd.string 9 w' w.heap.size (fun _=>True) v0_ r1∧Below w.heap.size w w':=by
 have HB:=qqm (Below.refl w.heap.size w)
 have H:(if (a0.size:Int) > 255 then (some (([]:List ByteArray),false)) else (name_split.l0 k a0 ([]:List ByteArray))) = some (r1,r2):=h
 clear h
 by_cases c2:(a0.size:Int) > 255
 ·
  rw [if_pos c2] at H
  have c2b0:decide (255 < (a0.size:Int)) = true:=decide_eq_true c2
  have c2b1:decide (255 < a0.size) = true:=decide_eq_true (by omega)
  clear c2
  simp only [Option.some.injEq,Prod.mk.injEq] at H
  obtain ⟨rfl,rfl⟩:=H
  go_enter Try.func65,Try.ntmps65
  go_wp2
  go_ret2
  exact ⟨_,by first|rfl|(simp [errW_none,errW_some] <;> rfl)|(simp [*,errW_none,errW_some] <;> rfl),by first|exact Kd.R_nil _ _ _ _ _|exact Kd.N_nil _ _ _ _ _|exact Kd.V_nil _ _ _ _ _|exact Kd.Q_nil _ _ _ _ _|exact Kd.S_nil _ _ _ _ _,by with_reducible repeat first|exact HB.out|apply qqf|apply qqd|apply qqe⟩
 rw [if_neg c2] at H
 have c2b0:decide (255 < (a0.size:Int)) = false:=decide_eq_false c2
 have c2b1:decide (255 < a0.size) = false:=decide_eq_false (by omega)
 clear c2
 have H':=qqm H
 clear H
 go_enter Try.func65,Try.ntmps65
 go_wp2
 go_loopg [0,4] k (fun kq v0 v4 w'=>∃ (x0_1:ByteArray) (x4_1:List ByteArray),v0 = .string x0_1∧Aside0 (name_split.l0 kq x0_1 x4_1 = some (r1,r2))∧Aside0 (kq ≤ k)∧Aside0 (Kd.R Kd.string 9 w' w.heap.size (fun _=>True) v4 x4_1)∧Aside0 (Below w.heap.size w w'))
 case atStart=>exact ⟨(a0),(([]:List ByteArray)),(by first|rfl|(simp;done)|(simp [*];done)),H',⟨Nat.le_refl _⟩,⟨by first|exact Kd.R_nil _ _ _ _ _|exact Kd.N_nil _ _ _ _ _|exact Kd.V_nil _ _ _ _ _|exact Kd.Q_nil _ _ _ _ _|exact Kd.S_nil _ _ _ _ _⟩,⟨by with_reducible repeat first|exact HB.out|apply qqf|apply qqd|apply qqe⟩⟩
 case round =>
  clear H'
  try clear c2
  try clear c2b0
  try clear c2b1
  try clear p2
  obtain ⟨x0_1,x4_1,rfl,HA,HK1,HO_4,HB⟩:=hrel
  cases gk with
  | zero => exact absurd HA.out (by simp [name_split.l0])
  | succ k1 =>
   have H:=HA.out
   clear HA
   simp only [name_split.l0] at H
   by_cases c3:(x0_1.size:Int) > 0
   ·
    rw [if_pos c3] at H
    have c3b0:decide (0 < (x0_1.size:Int)) = true:=decide_eq_true c3
    have c3b1:decide (0 < x0_1.size) = true:=decide_eq_true (by omega)
    clear c3
    by_cases c4:0 < (x0_1.size:Int)
    ·
     rw [if_pos c4] at H
     have c4b0:decide (0 < (x0_1.size:Int)) = true:=decide_eq_true c4
     have c4b1:decide (0 < x0_1.size) = true:=decide_eq_true (by omega)
     clear c4
     by_cases c6:(wrap64 (bt x0_1 0)) = 0
     ·
      rw [if_pos c6] at H
      have c6b0:((wrap64 (bt x0_1 0)) == 0) = true:=beq_iff_eq.mpr c6
      have c6b1:((wrap64 (bt x0_1 0)) != 0) = false:=bne_eq_false_iff_eq.mpr c6
      clear c6
      simp only [Option.some.injEq,Prod.mk.injEq] at H
      obtain ⟨rfl,rfl⟩:=H
      have p5:0 ≤ (0:Int):=(by omega)
      have q5:0 < x0_1.size:=(by have:(0:Int) < (x0_1.size:Int):=of_decide_eq_true (by first|(with_reducible assumption)|assumption);omega)
      have hx5:∀ h:0 < x0_1.size,((x0_1[0]'h).toNat:Int) = bt x0_1 0:=bt_at x0_1 0
      clear p5
      have qi5:(0 < (x0_1.size:Int)) = True:=eq_true (of_decide_eq_true (by first|(with_reducible assumption)|assumption))
      replace q5:=eq_true q5
      go_wp2
      go_ret2
      exact ⟨_,by first|rfl|(simp [errW_none,errW_some] <;> rfl)|(simp [*,errW_none,errW_some] <;> rfl),by (with_reducible repeat (first|apply Kd.R_alloc|apply Kd.R_drewN|apply Kd.R_drew));exact HO_4.out,by with_reducible repeat first|exact HB.out|apply qqf|apply qqd|apply qqe⟩
     ·
      rw [if_neg c6] at H
      have c6b0:((wrap64 (bt x0_1 0)) == 0) = false:=beq_eq_false_iff_ne.mpr c6
      have c6b1:((wrap64 (bt x0_1 0)) != 0) = true:=bne_iff_ne.mpr c6
      by_cases c7:(wrap64 (bt x0_1 0)) > 63
      ·
       rw [if_pos c7] at H
       have c7b0:decide (63 < (wrap64 (bt x0_1 0))) = true:=decide_eq_true c7
       clear c7
       simp only [Option.some.injEq,Prod.mk.injEq] at H
       obtain ⟨rfl,rfl⟩:=H
       have p5:0 ≤ (0:Int):=(by omega)
       have q5:0 < x0_1.size:=(by have:(0:Int) < (x0_1.size:Int):=of_decide_eq_true (by first|(with_reducible assumption)|assumption);omega)
       have hx5:∀ h:0 < x0_1.size,((x0_1[0]'h).toNat:Int) = bt x0_1 0:=bt_at x0_1 0
       clear p5
       have qi5:(0 < (x0_1.size:Int)) = True:=eq_true (of_decide_eq_true (by first|(with_reducible assumption)|assumption))
       replace q5:=eq_true q5
       go_wp2
       go_ret2
       exact ⟨_,by first|rfl|(simp [errW_none,errW_some] <;> rfl)|(simp [*,errW_none,errW_some] <;> rfl),by first|exact Kd.R_nil _ _ _ _ _|exact Kd.N_nil _ _ _ _ _|exact Kd.V_nil _ _ _ _ _|exact Kd.Q_nil _ _ _ _ _|exact Kd.S_nil _ _ _ _ _,by with_reducible repeat first|exact HB.out|apply qqf|apply qqd|apply qqe⟩
      ·
       rw [if_neg c7] at H
       have c7b0:decide (63 < (wrap64 (bt x0_1 0))) = false:=decide_eq_false c7
       clear c7
       by_cases c8:(wrap64 (bt x0_1 0)) ≥ (x0_1.size:Int)
       ·
        rw [if_pos c8] at H
        have c8b0:decide ((x0_1.size:Int) ≤ (wrap64 (bt x0_1 0))) = true:=decide_eq_true c8
        clear c8
        simp only [Option.some.injEq,Prod.mk.injEq] at H
        obtain ⟨rfl,rfl⟩:=H
        have p5:0 ≤ (0:Int):=(by omega)
        have q5:0 < x0_1.size:=(by have:(0:Int) < (x0_1.size:Int):=of_decide_eq_true (by first|(with_reducible assumption)|assumption);omega)
        have hx5:∀ h:0 < x0_1.size,((x0_1[0]'h).toNat:Int) = bt x0_1 0:=bt_at x0_1 0
        clear p5
        have qi5:(0 < (x0_1.size:Int)) = True:=eq_true (of_decide_eq_true (by first|(with_reducible assumption)|assumption))
        replace q5:=eq_true q5
        go_wp2
        go_ret2
        exact ⟨_,by first|rfl|(simp [errW_none,errW_some] <;> rfl)|(simp [*,errW_none,errW_some] <;> rfl),by first|exact Kd.R_nil _ _ _ _ _|exact Kd.N_nil _ _ _ _ _|exact Kd.V_nil _ _ _ _ _|exact Kd.Q_nil _ _ _ _ _|exact Kd.S_nil _ _ _ _ _,by with_reducible repeat first|exact HB.out|apply qqf|apply qqd|apply qqe⟩
       ·
        rw [if_neg c8] at H
        have c8b0:decide ((x0_1.size:Int) ≤ (wrap64 (bt x0_1 0))) = false:=decide_eq_false c8
        clear c8
        by_cases c9:1 ≤ (wrap64 ((wrap64 (bt x0_1 0)) + 1))
        ·
         rw [if_pos c9] at H
         have c9b0:=eq_true c9
         have c9b1:decide (1 ≤ (wrap64 ((wrap64 (bt x0_1 0)) + 1))) = true:=decide_eq_true c9
         by_cases c10:(wrap64 ((wrap64 (bt x0_1 0)) + 1)) ≤ (x0_1.size:Int)
         ·
          rw [if_pos c10] at H
          have c10b0:=eq_true c10
          have c10b1:decide ((wrap64 ((wrap64 (bt x0_1 0)) + 1)) ≤ (x0_1.size:Int)) = true:=decide_eq_true c10
          by_cases c11:x4_1.length < 8796093022208
          ·
           rw [if_pos c11] at H
           have LMc11:=qqm c11
           clear c11
           obtain ⟨y102,hy102⟩:∃ y_:List ByteArray,y_ = (x4_1 ++ [x0_1.extract 1 ((wrap64 ((wrap64 (bt x0_1 0)) + 1)):Int).toNat]):=⟨_,rfl⟩
           replace H:(if 0 ≤ (wrap64 ((wrap64 (bt x0_1 0)) + 1)) then (name_split.l0 k1 (x0_1.extract ((wrap64 ((wrap64 (bt x0_1 0)) + 1)):Int).toNat x0_1.size) y102) else (none)) = some (r1,r2):=by first|(rw [hy102];with_reducible exact H)|(have H2_:=(Option.bind_some _ _).symm.trans H;rw [hy102];with_reducible exact H2_)|(have H2_:=(Option.bind_some _ _).symm.trans H;with_reducible exact H2_)|with_reducible exact H|(rw [hy102];exact H)|exact H
           have Ny102:=qqm hy102
           clear hy102
           obtain ⟨ji12,hji12⟩:∃ j_:Int,(wrap64 ((wrap64 (bt x0_1 0)) + 1)) = j_:=⟨_,rfl⟩
           replace H:(if 0 ≤ (ji12) then (name_split.l0 k1 (x0_1.extract ((ji12):Int).toNat x0_1.size) y102) else (none)) = some (r1,r2):=by first|(rw [hji12] at H;exact H)|(simp only [hji12] at H ⊢;exact H)
           (try rw [hji12] at c9b0)
           (try rw [hji12] at c9b1)
           (try rw [hji12] at c9)
           (try rw [hji12] at c10b0)
           (try rw [hji12] at c10b1)
           (try rw [hji12] at c10)
           (try rw [hji12] at Ny102)
           have hji12w:(IntKind.i64.wrap ((wrap64 (bt x0_1 0)) + 1)) = ji12:=(i64_w _).trans hji12
           by_cases c13:0 ≤ (ji12)
           ·
            rw [if_pos c13] at H
            have c13b0:=eq_true c13
            have c13b1:decide (0 ≤ (ji12)) = true:=decide_eq_true c13
            clear c13
            have c14b0:=eq_true (of_decide_eq_true (by first|(with_reducible assumption)|assumption):(ji12) ≤ (x0_1.size:Int))
            have H':=qqm H
            clear H
            have p5:0 ≤ (0:Int):=(by omega)
            have q5:0 < x0_1.size:=(by have:(0:Int) < (x0_1.size:Int):=of_decide_eq_true (by first|(with_reducible assumption)|assumption);omega)
            have hx5:∀ h:0 < x0_1.size,((x0_1[0]'h).toNat:Int) = bt x0_1 0:=bt_at x0_1 0
            clear p5
            have qi5:(0 < (x0_1.size:Int)) = True:=eq_true (of_decide_eq_true (by first|(with_reducible assumption)|assumption))
            replace q5:=eq_true q5
            go_wp2_with (first|((with_reducible refine gate_builtin (b:=.append) (xs:=#[.tmp 29,.tmp 34]) rfl ?_);(try (refine gate_guard (by rfl) ?_;dsimp only));at_builtin;refine Kd.R_append Kd.string (w0:=w) w.heap.size rfl (.tmp 29) (.tmp 34) 48 9 (.string ⟨#[]⟩) 16 rfl Try.underlying48 info9 rfl (by decide) (by omega) u4 x4_1 (x0_1.extract 1 ((ji12):Int).toNat) [.string (x0_1.extract 1 ((ji12):Int).toNat)] (fun _=>True) (fun _=>False) rfl rfl ?aP (fun _ hk=>hk.elim) ?aF ?aO ?aB ?aS ?aL ?_;(case aP=>exact rfl);(case aB=>exact (by with_reducible repeat first|exact HB.out|apply qqf|apply qqd|apply qqe));(case aF=>exact (fun _ _=>trivial));(case aO=>exact (by (with_reducible repeat (first|apply Kd.R_alloc|apply Kd.R_drewN|apply Kd.R_drew));exact HO_4.out));(case aS=>exact (below_size (by with_reducible repeat first|exact HB.out|apply qqf|apply qqd|apply qqe)));(case aL=>have:=LMc11.out;omega);intro v103 w15 ho hb hg hat;rw [← Ny102.out] at ho;have n0_:=qqm (hb);have n1_:=qqm (ho);clear HB HO_4;have HB:=n0_;have HO104:=n1_;clear n0_ n1_ ho hb hg hat))
            go_roundg k1
            case measure=>have:=HK1.out;omega
            case rel=>exact ⟨(x0_1.extract ((ji12):Int).toNat x0_1.size),(y102),(by first|rfl|(simp;done)|(simp only [← hji12] <;> (first|rfl|simp))|(simp [*];done)),H',⟨by have:=HK1.out;omega⟩,⟨by (with_reducible repeat (first|apply Kd.R_alloc|apply Kd.R_drewN|apply Kd.R_drew));exact HO104.out⟩,⟨by with_reducible repeat first|exact HB.out|apply qqf|apply qqd|apply qqe⟩⟩
           ·
            rw [if_neg c13] at H
            exact absurd H (by simp)
          ·
           rw [if_neg c11] at H
           exact absurd H (by simp)
         ·
          rw [if_neg c10] at H
          exact absurd H (by simp)
        ·
         rw [if_neg c9] at H
         exact absurd H (by simp)
    ·
     rw [if_neg c4] at H
     exact absurd H (by simp)
   ·
    rw [if_neg c3] at H
    have c3b0:decide (0 < (x0_1.size:Int)) = false:=decide_eq_false c3
    have c3b1:decide (0 < x0_1.size) = false:=decide_eq_false (by omega)
    clear c3
    simp only [Option.some.injEq,Prod.mk.injEq] at H
    obtain ⟨rfl,rfl⟩:=H
    go_wp2
    go_ret2
    exact ⟨_,by first|rfl|(simp [errW_none,errW_some] <;> rfl)|(simp [*,errW_none,errW_some] <;> rfl),by first|exact Kd.R_nil _ _ _ _ _|exact Kd.N_nil _ _ _ _ _|exact Kd.V_nil _ _ _ _ _|exact Kd.Q_nil _ _ _ _ _|exact Kd.S_nil _ _ _ _ _,by with_reducible repeat first|exact HB.out|apply qqf|apply qqd|apply qqe⟩

/-! ### name_Is: function 58 -/
def name_Is.f (k : Nat) (a0 : ByteArray) : Option (Bool) := (name_split.f k a0).bind fun bt105 => (some bt105.2)
theorem name_Is.mono : ∀ a0 k, LeO (name_Is.f k a0) (name_Is.f (k + 1) a0) := by
 intro a0 k
 unfold name_Is.f
 repeat' first
   | (with_reducible exact name_split.mono _ _)
   | (with_reducible exact LeO.refl _)
   | (with_reducible exact LeO.none _)
   | (with_reducible refine LeO.ite ?_ ?_)
   | (with_reducible refine LeO.bind ?_ (fun _ => ?_))
   | exact name_split.mono _ _
   | exact LeO.none _
   | refine LeO.ite ?_ ?_
   | refine LeO.bind ?_ (fun _ => ?_)
set_option maxHeartbeats 8000000 in
set_option maxRecDepth 100000 in
theorem name_Is.calls (k : Nat) (a0 : ByteArray) (r : Bool) (w : World) (h : name_Is.f k a0 = some r) :
  Calls Try.prog 58 #[.string a0] w fun e w'=>e = .returned (.bool r)∧Below w.heap.size w w':=by
 have HB:=qqm (Below.refl w.heap.size w)
 have H:((name_split.f k a0).bind fun bt105=>(some bt105.2)) = some r:=h
 clear h
 replace H:=Option.bind_eq_some_iff.mp H
 obtain ⟨⟨t105,t106⟩,A20,H⟩:=H
 replace H:(some t106) = some r:=H
 have A2:=qqm A20
 clear A20
 obtain rfl:=Option.some.inj H
 go_enter Try.func58,Try.ntmps58
 go_wp2_with (first|((with_reducible refine gate_callee (f:=65) rfl ?_);refine goesL_ (some 7) rfl rfl Try.func65 (by kernel_rfl) rfl #[.string a0] rfl (by (try simp only [List.map_toArray,List.map_cons,List.map_nil]);first|done|rfl|(simp only [List.length_drop,List.length_take];rfl)) ?_;(with_reducible refine (name_split.calls k a0 t105 t106 _ A2.out).mono ?_);rintro e w3 ⟨v107,rfl,ho0,hb⟩;refine ⟨_,rfl,?_⟩;have n0_:=qqm (Kd.R_lower ho0 (below_size (by with_reducible repeat first|exact HB.out|apply qqf|apply qqd|apply qqe)));have n1_:=qqm (below_step (by with_reducible repeat first|exact HB.out|apply qqf|apply qqd|apply qqe) hb);clear HB;have HO108:=n0_;have HB:=n1_;clear n0_ n1_;(try clear hb);(try clear hb2);(try clear hk);(try clear hi);(try clear ho0)))
 go_ret
 exact ⟨by first|rfl|(simp [errW_none,errW_some] <;> rfl)|(simp [*,errW_none,errW_some] <;> rfl),by with_reducible repeat first|exact HB.out|apply qqf|apply qqd|apply qqe⟩

end Go.Proofs.Ythkdfnbhlinhiaa.Mine
