-- Written by this repo's own printer (wip/print), which builds on the kit's.
import Derived.Test.YthkdfnbhlinhiaaMinex0
namespace Go.Proofs.Ythkdfnbhlinhiaa.Mine
open Go.RowKit Go.Proofs.YthkdfnbhlinhiaaW.PrintWords Go.Proofs.YthkdfnbhlinhiaaW.PrintLast Go.Proofs.YthkdfnbhlinhiaaW.PrintMore
attribute [local go_sem] max2_int min2_int max_two min_two max_three min_three max_four min_four   -- for this text's walks alone
set_option linter.unusedVariables false
set_option linter.unusedSimpArgs false

/-! ### nuncioref04_Labels: function 48 -/
mutual
def nuncioref04_Labels.l0 : Nat → ByteArray → List ByteArray → Int → Option (List ByteArray × Bool)
 | 0, _, _, _ => none
 | k + 1, x0, x4, x5 => if x5 < (x0.size : Int) then (nuncioref04_Labels.j1 k x0 x4 x5 (decide ((x0.size : Int) ≤ 255))) else (nuncioref04_Labels.j1 k x0 x4 x5 false)
def nuncioref04_Labels.j1 : Nat → ByteArray → List ByteArray → Int → Bool → Option (List ByteArray × Bool)
 | 0, _, _, _, _ => none
 | k + 1, x0, x4, x5, x15 => if x15 = true then (if 0 ≤ x5 then (if x5 < (x0.size : Int) then (if (wrap64 (bt x0 x5)) = 0 then (some (x4, (x5 == (wrap64 ((x0.size : Int) - 1))))) else (if (wrap64 (bt x0 x5)) > 63 then (some (([] : List ByteArray), false)) else (if (wrap64 (bt x0 x5)) > (wrap64 ((wrap64 ((x0.size : Int) - 1)) - x5)) then (some (([] : List ByteArray), false)) else (if 0 ≤ (wrap64 (x5 + 1)) then (if (wrap64 (x5 + 1)) ≤ (wrap64 ((wrap64 (x5 + 1)) + (wrap64 (bt x0 x5)))) then (if (wrap64 ((wrap64 (x5 + 1)) + (wrap64 (bt x0 x5)))) ≤ (x0.size : Int) then (if x4.length < 8796093022208 then (nuncioref04_Labels.l0 k x0 (x4 ++ [x0.extract ((wrap64 (x5 + 1)) : Int).toNat ((wrap64 ((wrap64 (x5 + 1)) + (wrap64 (bt x0 x5)))) : Int).toNat]) (wrap64 ((wrap64 (x5 + 1)) + (wrap64 (bt x0 x5))))) else (none)) else (none)) else (none)) else (none))))) else (none)) else (none)) else (some (([] : List ByteArray), false))
end
def nuncioref04_Labels.f (k : Nat) (a0 : ByteArray) : Option (List ByteArray × Bool) := nuncioref04_Labels.l0 k a0 ([] : List ByteArray) 0
theorem nuncioref04_Labels.mono_l : ∀ k, (∀ y0 y1 y2, LeO (nuncioref04_Labels.l0 k y0 y1 y2) (nuncioref04_Labels.l0 (k + 1) y0 y1 y2)) ∧ (∀ y0 y1 y2 y3, LeO (nuncioref04_Labels.j1 k y0 y1 y2 y3) (nuncioref04_Labels.j1 (k + 1) y0 y1 y2 y3))
 | 0 => ⟨fun _ _ _ r h => by simp [nuncioref04_Labels.l0] at h, fun _ _ _ _ r h => by simp [nuncioref04_Labels.j1] at h⟩
 | k + 1 => by
  obtain ⟨ih0,ih1⟩:=nuncioref04_Labels.mono_l k
  refine ⟨?_,?_⟩
  ·
   intro y0 y1 y2
   unfold nuncioref04_Labels.l0
   repeat' first
   | (with_reducible exact ih0 _ _ _)
   | (with_reducible exact ih1 _ _ _ _)
   | (with_reducible exact LeO.refl _)
   | (with_reducible exact LeO.none _)
   | (with_reducible refine LeO.ite ?_ ?_)
   | (with_reducible refine LeO.bind ?_ (fun _ => ?_))
   | exact ih0 _ _ _
   | exact ih1 _ _ _ _
   | exact LeO.none _
   | refine LeO.ite ?_ ?_
   | refine LeO.bind ?_ (fun _ => ?_)
  ·
   intro y0 y1 y2 y3
   unfold nuncioref04_Labels.j1
   repeat' first
   | (with_reducible exact ih0 _ _ _)
   | (with_reducible exact ih1 _ _ _ _)
   | (with_reducible exact LeO.refl _)
   | (with_reducible exact LeO.none _)
   | (with_reducible refine LeO.ite ?_ ?_)
   | (with_reducible refine LeO.bind ?_ (fun _ => ?_))
   | exact ih0 _ _ _
   | exact ih1 _ _ _ _
   | exact LeO.none _
   | refine LeO.ite ?_ ?_
   | refine LeO.bind ?_ (fun _ => ?_)
theorem nuncioref04_Labels.mono : ∀ a0 k, LeO (nuncioref04_Labels.f k a0) (nuncioref04_Labels.f (k + 1) a0) := by
 intro a0 k
 obtain ⟨ih0,ih1⟩:=nuncioref04_Labels.mono_l k
 unfold nuncioref04_Labels.f
 repeat' first
   | (with_reducible exact ih0 _ _ _)
   | (with_reducible exact ih1 _ _ _ _)
   | (with_reducible exact LeO.refl _)
   | (with_reducible exact LeO.none _)
   | (with_reducible refine LeO.ite ?_ ?_)
   | (with_reducible refine LeO.bind ?_ (fun _ => ?_))
   | exact ih0 _ _ _
   | exact ih1 _ _ _ _
   | exact LeO.none _
   | refine LeO.ite ?_ ?_
   | refine LeO.bind ?_ (fun _ => ?_)
set_option maxHeartbeats 8000000 in
set_option maxRecDepth 100000 in
theorem nuncioref04_Labels.calls (k : Nat) (a0 : ByteArray) (r1 : List ByteArray) (r2 : Bool) (w : World) (h : nuncioref04_Labels.f k a0 = some (r1, r2)) :
  Calls Try.prog 48 #[.string a0] w fun e w'=>∃ v0_:Value,e = .returned (.tuple #[v0_,.bool r2])∧Kd.R Kd.string 9 w' w.heap.size (fun _=>True) v0_ r1∧Below w.heap.size w w':=by
 have HB:=qqm (Below.refl w.heap.size w)
 have H:(nuncioref04_Labels.l0 k a0 ([]:List ByteArray) 0) = some (r1,r2):=h
 clear h
 have H':=qqm H
 clear H
 go_enter Try.func48,Try.ntmps48
 go_wp2
 go_loopg [4,5] k (fun kq v4 v5 w'=>∃ (x4_1:List ByteArray) (x5_1:Int),v5 = .int .i64 x5_1∧Aside0 (nuncioref04_Labels.l0 kq a0 x4_1 x5_1 = some (r1,r2))∧Aside0 (kq ≤ k)∧Aside0 (Kd.R Kd.string 9 w' w.heap.size (fun _=>True) v4 x4_1)∧Aside0 (Below w.heap.size w w'))
 case atStart=>exact ⟨(([]:List ByteArray)),(0),(by first|rfl|(simp;done)|(simp [*];done)),H',⟨Nat.le_refl _⟩,⟨by first|exact Kd.R_nil _ _ _ _ _|exact Kd.N_nil _ _ _ _ _|exact Kd.V_nil _ _ _ _ _|exact Kd.Q_nil _ _ _ _ _|exact Kd.S_nil _ _ _ _ _⟩,⟨by with_reducible repeat first|exact HB.out|apply qqf|apply qqd|apply qqe⟩⟩
 case round =>
  clear H'
  obtain ⟨x4_1,x5_1,rfl,HA,HK1,HO_4,HB⟩:=hrel
  cases gk with
  | zero => exact absurd HA.out (by simp [nuncioref04_Labels.l0])
  | succ k1 =>
   have H:=HA.out
   clear HA
   simp only [nuncioref04_Labels.l0] at H
   have HC2:=qqm H
   clear H
   go_upto_region 3 with (fail)
   go_cut [15] (fun v15 wc=>∃ (kq:Nat) (x15_1:Bool),v15 = .bool x15_1∧Aside0 (nuncioref04_Labels.j1 kq a0 x4_1 x5_1 x15_1 = some (r1,r2))∧Aside0 (kq ≤ k1)∧Aside0 (Kd.R Kd.string 9 wc w.heap.size (fun _=>True) u4 x4_1)∧Aside0 (Below w.heap.size w wc))
   case first =>
    have H:=HC2.out
    clear HC2
    by_cases c3:x5_1 < (a0.size:Int)
    ·
     rw [if_pos c3] at H
     have c3b0:decide (x5_1 < (a0.size:Int)) = true:=decide_eq_true c3
     clear c3
     (first|rw [c3b0]|rw [c3b1]|(simp only [i64_w,i32_w];rw [c3b0])|skip)
     have H':=qqm H
     clear H
     go_wp2
     go_meet
     case rel=>exact ⟨_,(decide ((a0.size:Int) ≤ 255)),(by first|rfl|(simp;done)|(simp [*];done)),H',⟨by have:=HK1.out;first|omega|exact Nat.le_refl _⟩,⟨by (with_reducible repeat (first|apply Kd.R_alloc|apply Kd.R_drewN|apply Kd.R_drew));exact HO_4.out⟩,⟨by with_reducible repeat first|exact HB.out|apply qqf|apply qqd|apply qqe⟩⟩
    ·
     rw [if_neg c3] at H
     have c3b0:decide (x5_1 < (a0.size:Int)) = false:=decide_eq_false c3
     clear c3
     (first|rw [c3b0]|rw [c3b1]|(simp only [i64_w,i32_w];rw [c3b0])|skip)
     have H':=qqm H
     clear H
     go_wp2
     go_meet
     case rel=>exact ⟨_,(false),(by first|rfl|(simp;done)|(simp [*];done)),H',⟨by have:=HK1.out;first|omega|exact Nat.le_refl _⟩,⟨by (with_reducible repeat (first|apply Kd.R_alloc|apply Kd.R_drewN|apply Kd.R_drew));exact HO_4.out⟩,⟨by with_reducible repeat first|exact HB.out|apply qqf|apply qqd|apply qqe⟩⟩
   case rest =>
    clear HC2
    try clear p2
    try clear c3
    try clear c3b0
    try clear c3b1
    obtain ⟨kq,x15_1,rfl,HA,HJ1,HO_4,HB⟩:=hcut
    cases kq with
    | zero => exact absurd HA.out (by simp [nuncioref04_Labels.j1])
    | succ kj1 =>
     have H:=HA.out
     clear HA
     simp only [nuncioref04_Labels.j1] at H
     by_cases c4:x15_1 = true
     ·
      subst c4
      have H1:(if 0 ≤ x5_1 then (if x5_1 < (a0.size:Int) then (if (wrap64 (bt a0 x5_1)) = 0 then (some (x4_1,(x5_1 == (wrap64 ((a0.size:Int) - 1))))) else (if (wrap64 (bt a0 x5_1)) > 63 then (some (([]:List ByteArray),false)) else (if (wrap64 (bt a0 x5_1)) > (wrap64 ((wrap64 ((a0.size:Int) - 1)) - x5_1)) then (some (([]:List ByteArray),false)) else (if 0 ≤ (wrap64 (x5_1 + 1)) then (if (wrap64 (x5_1 + 1)) ≤ (wrap64 ((wrap64 (x5_1 + 1)) + (wrap64 (bt a0 x5_1)))) then (if (wrap64 ((wrap64 (x5_1 + 1)) + (wrap64 (bt a0 x5_1)))) ≤ (a0.size:Int) then (if x4_1.length < 8796093022208 then (nuncioref04_Labels.l0 kj1 a0 (x4_1 ++ [a0.extract ((wrap64 (x5_1 + 1)):Int).toNat ((wrap64 ((wrap64 (x5_1 + 1)) + (wrap64 (bt a0 x5_1)))):Int).toNat]) (wrap64 ((wrap64 (x5_1 + 1)) + (wrap64 (bt a0 x5_1))))) else (none)) else (none)) else (none)) else (none))))) else (none)) else (none)) = some (r1,r2):=by rw [if_pos rfl] at H;exact H
      clear H
      have H:=H1
      clear H1
      by_cases c5:0 ≤ x5_1
      ·
       rw [if_pos c5] at H
       have c5b0:decide (0 ≤ x5_1) = true:=decide_eq_true c5
       clear c5
       by_cases c6:x5_1 < (a0.size:Int)
       ·
        rw [if_pos c6] at H
        have c6b0:decide (x5_1 < (a0.size:Int)) = true:=decide_eq_true c6
        clear c6
        by_cases c8:(wrap64 (bt a0 x5_1)) = 0
        ·
         rw [if_pos c8] at H
         have c8b0:((wrap64 (bt a0 x5_1)) == 0) = true:=beq_iff_eq.mpr c8
         have c8b1:((wrap64 (bt a0 x5_1)) != 0) = false:=bne_eq_false_iff_eq.mpr c8
         clear c8
         simp only [Option.some.injEq,Prod.mk.injEq] at H
         obtain ⟨rfl,rfl⟩:=H
         have p7:0 ≤ (x5_1:Int):=of_decide_eq_true (by first|(with_reducible assumption)|assumption)
         have q7:x5_1 < (a0.size:Int):=of_decide_eq_true (by first|(with_reducible assumption)|assumption)
         have hx7:=bt_at a0 x5_1
         replace p7:=eq_true p7
         replace q7:=eq_true q7
         go_wp2
         go_ret2
         exact ⟨_,by first|rfl|(simp [errW_none,errW_some] <;> rfl)|(simp [*,errW_none,errW_some] <;> rfl),by (with_reducible repeat (first|apply Kd.R_alloc|apply Kd.R_drewN|apply Kd.R_drew));exact HO_4.out,by with_reducible repeat first|exact HB.out|apply qqf|apply qqd|apply qqe⟩
        ·
         rw [if_neg c8] at H
         have c8b0:((wrap64 (bt a0 x5_1)) == 0) = false:=beq_eq_false_iff_ne.mpr c8
         have c8b1:((wrap64 (bt a0 x5_1)) != 0) = true:=bne_iff_ne.mpr c8
         by_cases c9:(wrap64 (bt a0 x5_1)) > 63
         ·
          rw [if_pos c9] at H
          have c9b0:decide (63 < (wrap64 (bt a0 x5_1))) = true:=decide_eq_true c9
          clear c9
          simp only [Option.some.injEq,Prod.mk.injEq] at H
          obtain ⟨rfl,rfl⟩:=H
          have p7:0 ≤ (x5_1:Int):=of_decide_eq_true (by first|(with_reducible assumption)|assumption)
          have q7:x5_1 < (a0.size:Int):=of_decide_eq_true (by first|(with_reducible assumption)|assumption)
          have hx7:=bt_at a0 x5_1
          replace p7:=eq_true p7
          replace q7:=eq_true q7
          go_wp2
          go_ret2
          exact ⟨_,by first|rfl|(simp [errW_none,errW_some] <;> rfl)|(simp [*,errW_none,errW_some] <;> rfl),by first|exact Kd.R_nil _ _ _ _ _|exact Kd.N_nil _ _ _ _ _|exact Kd.V_nil _ _ _ _ _|exact Kd.Q_nil _ _ _ _ _|exact Kd.S_nil _ _ _ _ _,by with_reducible repeat first|exact HB.out|apply qqf|apply qqd|apply qqe⟩
         ·
          rw [if_neg c9] at H
          have c9b0:decide (63 < (wrap64 (bt a0 x5_1))) = false:=decide_eq_false c9
          clear c9
          by_cases c10:(wrap64 (bt a0 x5_1)) > (wrap64 ((wrap64 ((a0.size:Int) - 1)) - x5_1))
          ·
           rw [if_pos c10] at H
           have c10b0:decide ((wrap64 ((wrap64 ((a0.size:Int) - 1)) - x5_1)) < (wrap64 (bt a0 x5_1))) = true:=decide_eq_true c10
           clear c10
           simp only [Option.some.injEq,Prod.mk.injEq] at H
           obtain ⟨rfl,rfl⟩:=H
           have p7:0 ≤ (x5_1:Int):=of_decide_eq_true (by first|(with_reducible assumption)|assumption)
           have q7:x5_1 < (a0.size:Int):=of_decide_eq_true (by first|(with_reducible assumption)|assumption)
           have hx7:=bt_at a0 x5_1
           replace p7:=eq_true p7
           replace q7:=eq_true q7
           go_wp2
           go_ret2
           exact ⟨_,by first|rfl|(simp [errW_none,errW_some] <;> rfl)|(simp [*,errW_none,errW_some] <;> rfl),by first|exact Kd.R_nil _ _ _ _ _|exact Kd.N_nil _ _ _ _ _|exact Kd.V_nil _ _ _ _ _|exact Kd.Q_nil _ _ _ _ _|exact Kd.S_nil _ _ _ _ _,by with_reducible repeat first|exact HB.out|apply qqf|apply qqd|apply qqe⟩
          ·
           rw [if_neg c10] at H
           have c10b0:decide ((wrap64 ((wrap64 ((a0.size:Int) - 1)) - x5_1)) < (wrap64 (bt a0 x5_1))) = false:=decide_eq_false c10
           clear c10
           obtain ⟨ji11,hji11⟩:∃ j_:Int,(wrap64 (x5_1 + 1)) = j_:=⟨_,rfl⟩
           replace H:(if 0 ≤ (ji11) then (if (ji11) ≤ (wrap64 ((ji11) + (wrap64 (bt a0 x5_1)))) then (if (wrap64 ((ji11) + (wrap64 (bt a0 x5_1)))) ≤ (a0.size:Int) then (if x4_1.length < 8796093022208 then (nuncioref04_Labels.l0 kj1 a0 (x4_1 ++ [a0.extract ((ji11):Int).toNat ((wrap64 ((ji11) + (wrap64 (bt a0 x5_1)))):Int).toNat]) (wrap64 ((ji11) + (wrap64 (bt a0 x5_1))))) else (none)) else (none)) else (none)) else (none)) = some (r1,r2):=by first|(rw [hji11] at H;exact H)|(simp only [hji11] at H ⊢;exact H)
           have hji11w:(IntKind.i64.wrap (x5_1 + 1)) = ji11:=(i64_w _).trans hji11
           by_cases c12:0 ≤ (ji11)
           ·
            rw [if_pos c12] at H
            have c12b0:=eq_true c12
            have c12b1:decide (0 ≤ (ji11)) = true:=decide_eq_true c12
            clear c12
            by_cases c13:(ji11) ≤ (wrap64 ((ji11) + (wrap64 (bt a0 x5_1))))
            ·
             rw [if_pos c13] at H
             have c13b0:=eq_true c13
             have c13b1:decide ((ji11) ≤ (wrap64 ((ji11) + (wrap64 (bt a0 x5_1))))) = true:=decide_eq_true c13
             by_cases c14:(wrap64 ((ji11) + (wrap64 (bt a0 x5_1)))) ≤ (a0.size:Int)
             ·
              rw [if_pos c14] at H
              have c14b0:=eq_true c14
              have c14b1:decide ((wrap64 ((ji11) + (wrap64 (bt a0 x5_1)))) ≤ (a0.size:Int)) = true:=decide_eq_true c14
              by_cases c15:x4_1.length < 8796093022208
              ·
               rw [if_pos c15] at H
               have LMc15:=qqm c15
               clear c15
               obtain ⟨y238,hy238⟩:∃ y_:List ByteArray,y_ = (x4_1 ++ [a0.extract ((ji11):Int).toNat ((wrap64 ((ji11) + (wrap64 (bt a0 x5_1)))):Int).toNat]):=⟨_,rfl⟩
               replace H:(nuncioref04_Labels.l0 kj1 a0 y238 (wrap64 ((ji11) + (wrap64 (bt a0 x5_1))))) = some (r1,r2):=by first|(rw [hy238];with_reducible exact H)|(have H2_:=(Option.bind_some _ _).symm.trans H;rw [hy238];with_reducible exact H2_)|(have H2_:=(Option.bind_some _ _).symm.trans H;with_reducible exact H2_)|with_reducible exact H|(rw [hy238];exact H)|exact H
               have Ny238:=qqm hy238
               clear hy238
               have H':=qqm H
               clear H
               have p7:0 ≤ (x5_1:Int):=of_decide_eq_true (by first|(with_reducible assumption)|assumption)
               have q7:x5_1 < (a0.size:Int):=of_decide_eq_true (by first|(with_reducible assumption)|assumption)
               have hx7:=bt_at a0 x5_1
               replace p7:=eq_true p7
               replace q7:=eq_true q7
               go_wp2_with (first|((with_reducible refine gate_builtin (b:=.append) (xs:=#[.tmp 39,.tmp 48]) rfl ?_);(try (refine gate_guard (by rfl) ?_;dsimp only));at_builtin;refine Kd.R_append Kd.string (w0:=w) w.heap.size rfl (.tmp 39) (.tmp 48) 48 9 (.string ⟨#[]⟩) 16 rfl Try.underlying48 info9 rfl (by decide) (by omega) u4 x4_1 (a0.extract ((ji11):Int).toNat ((wrap64 ((ji11) + (wrap64 (bt a0 x5_1)))):Int).toNat) [.string (a0.extract ((ji11):Int).toNat ((wrap64 ((ji11) + (wrap64 (bt a0 x5_1)))):Int).toNat)] (fun _=>True) (fun _=>False) rfl rfl ?aP (fun _ hk=>hk.elim) ?aF ?aO ?aB ?aS ?aL ?_;(case aP=>exact rfl);(case aB=>exact (by with_reducible repeat first|exact HB.out|apply qqf|apply qqd|apply qqe));(case aF=>exact (fun _ _=>trivial));(case aO=>exact (by (with_reducible repeat (first|apply Kd.R_alloc|apply Kd.R_drewN|apply Kd.R_drew));exact HO_4.out));(case aS=>exact (below_size (by with_reducible repeat first|exact HB.out|apply qqf|apply qqd|apply qqe)));(case aL=>have:=LMc15.out;omega);intro v239 w16 ho hb hg hat;rw [← Ny238.out] at ho;have n0_:=qqm (hb);have n1_:=qqm (ho);clear HB HO_4;have HB:=n0_;have HO240:=n1_;clear n0_ n1_ ho hb hg hat))
               go_roundg kj1
               case measure=>have:=HK1.out;have:=HJ1.out;omega
               case rel=>exact ⟨(y238),(wrap64 ((ji11) + (wrap64 (bt a0 x5_1)))),(by first|rfl|(simp;done)|(simp only [← hji11] <;> (first|rfl|simp))|(simp [*];done)),H',⟨by have:=HK1.out;have:=HJ1.out;omega⟩,⟨by (with_reducible repeat (first|apply Kd.R_alloc|apply Kd.R_drewN|apply Kd.R_drew));exact HO240.out⟩,⟨by with_reducible repeat first|exact HB.out|apply qqf|apply qqd|apply qqe⟩⟩
              ·
               rw [if_neg c15] at H
               exact absurd H (by simp)
             ·
              rw [if_neg c14] at H
              exact absurd H (by simp)
            ·
             rw [if_neg c13] at H
             exact absurd H (by simp)
           ·
            rw [if_neg c12] at H
            exact absurd H (by simp)
       ·
        rw [if_neg c6] at H
        exact absurd H (by simp)
      ·
       rw [if_neg c5] at H
       exact absurd H (by simp)
     ·
      replace c4:=Bool.eq_false_iff.mpr c4
      subst c4
      have H1:(some (([]:List ByteArray),false)) = some (r1,r2):=by rw [if_neg (show ¬ (false = true) by decide)] at H;exact H
      clear H
      have H:=H1
      clear H1
      simp only [Option.some.injEq,Prod.mk.injEq] at H
      obtain ⟨rfl,rfl⟩:=H
      go_wp2
      go_ret2
      exact ⟨_,by first|rfl|(simp [errW_none,errW_some] <;> rfl)|(simp [*,errW_none,errW_some] <;> rfl),by first|exact Kd.R_nil _ _ _ _ _|exact Kd.N_nil _ _ _ _ _|exact Kd.V_nil _ _ _ _ _|exact Kd.Q_nil _ _ _ _ _|exact Kd.S_nil _ _ _ _ _,by with_reducible repeat first|exact HB.out|apply qqf|apply qqd|apply qqe⟩

/-! ### nuncioref04_Is: function 29 -/
def nuncioref04_Is.f (k : Nat) (a0 : ByteArray) : Option (Bool) := (nuncioref04_Labels.f k a0).bind fun bt241 => (some bt241.2)
theorem nuncioref04_Is.mono : ∀ a0 k, LeO (nuncioref04_Is.f k a0) (nuncioref04_Is.f (k + 1) a0) := by
 intro a0 k
 unfold nuncioref04_Is.f
 repeat' first
   | (with_reducible exact nuncioref04_Labels.mono _ _)
   | (with_reducible exact LeO.refl _)
   | (with_reducible exact LeO.none _)
   | (with_reducible refine LeO.ite ?_ ?_)
   | (with_reducible refine LeO.bind ?_ (fun _ => ?_))
   | exact nuncioref04_Labels.mono _ _
   | exact LeO.none _
   | refine LeO.ite ?_ ?_
   | refine LeO.bind ?_ (fun _ => ?_)
set_option maxHeartbeats 8000000 in
set_option maxRecDepth 100000 in
theorem nuncioref04_Is.calls (k : Nat) (a0 : ByteArray) (r : Bool) (w : World) (h : nuncioref04_Is.f k a0 = some r) :
  Calls Try.prog 29 #[.string a0] w fun e w'=>e = .returned (.bool r)∧Below w.heap.size w w':=by
 have HB:=qqm (Below.refl w.heap.size w)
 have H:((nuncioref04_Labels.f k a0).bind fun bt241=>(some bt241.2)) = some r:=h
 clear h
 replace H:=Option.bind_eq_some_iff.mp H
 obtain ⟨⟨t241,t242⟩,A20,H⟩:=H
 replace H:(some t242) = some r:=H
 have A2:=qqm A20
 clear A20
 obtain rfl:=Option.some.inj H
 go_enter Try.func29,Try.ntmps29
 go_wp2_with (first|((with_reducible refine gate_callee (f:=48) rfl ?_);refine goesL_ (some 7) rfl rfl Try.func48 (by kernel_rfl) rfl #[.string a0] rfl (by (try simp only [List.map_toArray,List.map_cons,List.map_nil]);first|done|rfl|(simp only [List.length_drop,List.length_take];rfl)) ?_;(with_reducible refine (nuncioref04_Labels.calls k a0 t241 t242 _ A2.out).mono ?_);rintro e w3 ⟨v243,rfl,ho0,hb⟩;refine ⟨_,rfl,?_⟩;have n0_:=qqm (Kd.R_lower ho0 (below_size (by with_reducible repeat first|exact HB.out|apply qqf|apply qqd|apply qqe)));have n1_:=qqm (below_step (by with_reducible repeat first|exact HB.out|apply qqf|apply qqd|apply qqe) hb);clear HB;have HO244:=n0_;have HB:=n1_;clear n0_ n1_;(try clear hb);(try clear hb2);(try clear hk);(try clear hi);(try clear ho0)))
 go_ret
 exact ⟨by first|rfl|(simp [errW_none,errW_some] <;> rfl)|(simp [*,errW_none,errW_some] <;> rfl),by with_reducible repeat first|exact HB.out|apply qqf|apply qqd|apply qqe⟩

end Go.Proofs.Ythkdfnbhlinhiaa.Mine
