-- Written by this repo's own printer (wip/print), which builds on the kit's.
import Derived.Test.YthkdfnbhlinhiaaMinex0
import Derived.Test.YthkdfnbhlinhiaaMinex20
import Derived.Test.YthkdfnbhlinhiaaMinex21
namespace Go.Proofs.Ythkdfnbhlinhiaa.Mine
open Go.RowKit Go.Proofs.YthkdfnbhlinhiaaW.PrintWords Go.Proofs.YthkdfnbhlinhiaaW.PrintLast Go.Proofs.YthkdfnbhlinhiaaW.PrintMore
attribute [local go_sem] max2_int min2_int max_two min_two max_three min_three max_four min_four   -- for this text's walks alone
set_option linter.unusedVariables false
set_option linter.unusedSimpArgs false

/-! ### nuncioref02_in: function 64 -/
def nuncioref02_in.f (a0 : Int) (a1 : Int) (a2 : Int) : Option (Bool) := if a0 ≥ a1 then (some (decide (a0 ≤ a2))) else (some false)
set_option maxHeartbeats 8000000 in
set_option maxRecDepth 100000 in
theorem nuncioref02_in.calls (a0 : Int) (a1 : Int) (a2 : Int) (r : Bool) (w : World) (h : nuncioref02_in.f a0 a1 a2 = some r) :
  Calls Try.prog 64 #[.int .u8 a0,.int .u8 a1,.int .u8 a2] w fun e w'=>e = .returned (.bool r)∧Drawn0 w w':=by
 have H:(if a0 ≥ a1 then (some (decide (a0 ≤ a2))) else (some false)) = some r:=h
 clear h
 by_cases c4:a0 ≥ a1
 ·
  rw [if_pos c4] at H
  have c4b0:decide (a1 ≤ a0) = true:=decide_eq_true c4
  clear c4
  obtain rfl:=Option.some.inj H
  go_enter Try.func64,Try.ntmps64
  go_wp2
  go_ret
  exact ⟨by first|rfl|(simp;done)|(simp [*];done),by repeat (first|exact Drawn0.refl _|apply Drawn0.step)⟩
 rw [if_neg c4] at H
 have c4b0:decide (a1 ≤ a0) = false:=decide_eq_false c4
 clear c4
 obtain rfl:=Option.some.inj H
 go_enter Try.func64,Try.ntmps64
 go_wp2
 go_ret
 exact ⟨by first|rfl|(simp;done)|(simp [*];done),by repeat (first|exact Drawn0.refl _|apply Drawn0.step)⟩

/-! ### nuncioref02_Fold: function 57 -/
def nuncioref02_Fold.l0 : Nat → ByteArray → List Int → Int → Option (ByteArray)
 | 0, _, _, _ => none
 | k + 1, x0, x3, x4 => if x4 < (x0.size : Int) then (if 0 ≤ x4 then ((nuncioref02_in.f (bt x0 x4) 65 90).bind fun t252 => (if t252 = true then (if x3.length < 140737488355328 then (nuncioref02_Fold.l0 k x0 (x3 ++ [((bt x0 x4) + 32) % 256]) (wrap64 (x4 + 1))) else (none)) else (if x3.length < 140737488355328 then (nuncioref02_Fold.l0 k x0 (x3 ++ [bt x0 x4]) (wrap64 (x4 + 1))) else (none)))) else (none)) else (some (strOfNums x3))
def nuncioref02_Fold.f (k : Nat) (a0 : ByteArray) : Option (ByteArray) := nuncioref02_Fold.l0 k a0 ([] : List Int) 0
theorem nuncioref02_Fold.mono_l : ∀ k, (∀ y0 y1 y2, LeO (nuncioref02_Fold.l0 k y0 y1 y2) (nuncioref02_Fold.l0 (k + 1) y0 y1 y2))
 | 0 => fun _ _ _ r h => by simp [nuncioref02_Fold.l0] at h
 | k + 1 => by
  have ih0:=nuncioref02_Fold.mono_l k
  ·
   intro y0 y1 y2
   unfold nuncioref02_Fold.l0
   repeat' first
   | (with_reducible exact ih0 _ _ _)
   | (with_reducible exact LeO.refl _)
   | (with_reducible exact LeO.none _)
   | (with_reducible refine LeO.ite ?_ ?_)
   | (with_reducible refine LeO.bind ?_ (fun _ => ?_))
   | exact ih0 _ _ _
   | exact LeO.none _
   | refine LeO.ite ?_ ?_
   | refine LeO.bind ?_ (fun _ => ?_)
theorem nuncioref02_Fold.mono : ∀ a0 k, LeO (nuncioref02_Fold.f k a0) (nuncioref02_Fold.f (k + 1) a0) := by
 intro a0 k
 have ih0:=nuncioref02_Fold.mono_l k
 unfold nuncioref02_Fold.f
 repeat' first
   | (with_reducible exact ih0 _ _ _)
   | (with_reducible exact LeO.refl _)
   | (with_reducible exact LeO.none _)
   | (with_reducible refine LeO.ite ?_ ?_)
   | (with_reducible refine LeO.bind ?_ (fun _ => ?_))
   | exact ih0 _ _ _
   | exact LeO.none _
   | refine LeO.ite ?_ ?_
   | refine LeO.bind ?_ (fun _ => ?_)
set_option maxHeartbeats 8000000 in
set_option maxRecDepth 100000 in
theorem nuncioref02_Fold.calls (k : Nat) (a0 : ByteArray) (r : ByteArray) (w : World) (h : nuncioref02_Fold.f k a0 = some r) :
  Calls Try.prog 57 #[.string a0] w fun e w'=>e = .returned (.string r)∧Below w.heap.size w w':=by
 have HB:=qqm (Below.refl w.heap.size w)
 have H:(nuncioref02_Fold.l0 k a0 ([]:List Int) 0) = some r:=h
 clear h
 have H':=qqm H
 clear H
 go_enter Try.func57,Try.ntmps57
 go_wp2
 go_loopg [3,4] k (fun kq v3 v4 w'=>∃ (x3_1:List Int) (x4_1:Int),v4 = .int .i64 x4_1∧Aside0 (nuncioref02_Fold.l0 kq a0 x3_1 x4_1 = some r)∧Aside0 (kq ≤ k)∧Aside0 (Kd.R (Kd.int .u8) 5 w' w.heap.size (fun _=>True) v3 x3_1)∧Aside0 (Below w.heap.size w w'))
 case atStart=>exact ⟨(([]:List Int)),(0),(by first|rfl|(simp;done)|(simp [*];done)),H',⟨Nat.le_refl _⟩,⟨by first|exact Kd.R_nil _ _ _ _ _|exact Kd.N_nil _ _ _ _ _|exact Kd.V_nil _ _ _ _ _|exact Kd.Q_nil _ _ _ _ _|exact Kd.S_nil _ _ _ _ _⟩,⟨by with_reducible repeat first|exact HB.out|apply qqf|apply qqd|apply qqe⟩⟩
 case round =>
  clear H'
  obtain ⟨x3_1,x4_1,rfl,HA,HK1,HO_3,HB⟩:=hrel
  cases gk with
  | zero => exact absurd HA.out (by simp [nuncioref02_Fold.l0])
  | succ k1 =>
   have H:=HA.out
   clear HA
   simp only [nuncioref02_Fold.l0] at H
   by_cases c2:x4_1 < (a0.size:Int)
   ·
    rw [if_pos c2] at H
    have c2b0:decide (x4_1 < (a0.size:Int)) = true:=decide_eq_true c2
    clear c2
    by_cases c3:0 ≤ x4_1
    ·
     rw [if_pos c3] at H
     have c3b0:decide (0 ≤ x4_1) = true:=decide_eq_true c3
     clear c3
     replace H:=Option.bind_eq_some_iff.mp H
     obtain ⟨t252,A50,H⟩:=H
     replace H:(if t252 = true then (if x3_1.length < 140737488355328 then (nuncioref02_Fold.l0 k1 a0 (x3_1 ++ [((bt a0 x4_1) + 32) % 256]) (wrap64 (x4_1 + 1))) else (none)) else (if x3_1.length < 140737488355328 then (nuncioref02_Fold.l0 k1 a0 (x3_1 ++ [bt a0 x4_1]) (wrap64 (x4_1 + 1))) else (none))) = some r:=H
     have A5:=qqm A50
     clear A50
     by_cases c6:t252 = true
     ·
      subst c6
      have H1:(if x3_1.length < 140737488355328 then (nuncioref02_Fold.l0 k1 a0 (x3_1 ++ [((bt a0 x4_1) + 32) % 256]) (wrap64 (x4_1 + 1))) else (none)) = some r:=by rw [if_pos rfl] at H;exact H
      clear H
      have H:=H1
      clear H1
      by_cases c7:x3_1.length < 140737488355328
      ·
       rw [if_pos c7] at H
       have LMc7:=qqm c7
       clear c7
       obtain ⟨y253,hy253⟩:∃ y_:List Int,y_ = (x3_1 ++ [((bt a0 x4_1) + 32) % 256]):=⟨_,rfl⟩
       replace H:(nuncioref02_Fold.l0 k1 a0 y253 (wrap64 (x4_1 + 1))) = some r:=by first|(rw [hy253];with_reducible exact H)|(have H2_:=(Option.bind_some _ _).symm.trans H;rw [hy253];with_reducible exact H2_)|(have H2_:=(Option.bind_some _ _).symm.trans H;with_reducible exact H2_)|with_reducible exact H|(rw [hy253];exact H)|exact H
       have Ny253:=qqm hy253
       clear hy253
       have H':=qqm H
       clear H
       have p4:0 ≤ (x4_1:Int):=of_decide_eq_true (by first|(with_reducible assumption)|assumption)
       have q4:x4_1 < (a0.size:Int):=of_decide_eq_true (by first|(with_reducible assumption)|assumption)
       have hx4:=bt_at a0 x4_1
       replace p4:=eq_true p4
       replace q4:=eq_true q4
       go_wp2_with (first|((with_reducible refine gate_callee (f:=64) rfl ?_);refine goesL_ (some 16) rfl rfl Try.func64 (by kernel_rfl) rfl #[.int .u8 (bt a0 x4_1),.int .u8 65,.int .u8 90] rfl (by (try simp only [List.map_toArray,List.map_cons,List.map_nil]);first|done|rfl|(simp only [List.length_drop,List.length_take];rfl)) ?_;(with_reducible refine (nuncioref02_in.calls (bt a0 x4_1) 65 90 true _ A5.out).mono ?_);rintro e w' ⟨rfl,⟨nd,rfl⟩⟩;refine ⟨_,rfl,?_⟩)|((with_reducible refine gate_builtin (b:=.append) (xs:=#[.tmp 19,.tmp 21]) rfl ?_);at_builtin;refine Kd.R_append (Kd.int .u8) (w0:=w) w.heap.size rfl (.tmp 19) (.tmp 21) 82 5 (.int .u8 0) 1 rfl Try.underlying82 info5 rfl (by decide) (by omega) u3 x3_1 (((bt a0 x4_1) + 32) % 256) [.int .u8 (((bt a0 x4_1) + 32) % 256)] (fun _=>True) (fun _=>False) rfl rfl ?aP (fun _ hk=>hk.elim) ?aF ?aO ?aB ?aS ?aL ?_;(case aP=>exact rfl);(case aB=>exact (by with_reducible repeat first|exact HB.out|apply qqf|apply qqd|apply qqe));(case aF=>exact (fun _ _=>trivial));(case aO=>exact (by (with_reducible repeat (first|apply Kd.R_alloc|apply Kd.R_drewN|apply Kd.R_drew));exact HO_3.out));(case aS=>exact (below_size (by with_reducible repeat first|exact HB.out|apply qqf|apply qqd|apply qqe)));(case aL=>have:=LMc7.out;omega);intro v254 w8 ho hb hg hat;rw [← Ny253.out] at ho;have n0_:=qqm (hb);have n1_:=qqm (ho);clear HB HO_3;have HB:=n0_;have HO255:=n1_;clear n0_ n1_ ho hb hg hat))
       go_roundg k1
       case measure=>have:=HK1.out;omega
       case rel=>exact ⟨(y253),(wrap64 (x4_1 + 1)),(by first|rfl|(simp;done)|(simp [*];done)),H',⟨by have:=HK1.out;omega⟩,⟨by (with_reducible repeat (first|apply Kd.R_alloc|apply Kd.R_drewN|apply Kd.R_drew));exact HO255.out⟩,⟨by with_reducible repeat first|exact HB.out|apply qqf|apply qqd|apply qqe⟩⟩
      ·
       rw [if_neg c7] at H
       exact absurd H (by simp)
     ·
      replace c6:=Bool.eq_false_iff.mpr c6
      subst c6
      have H1:(if x3_1.length < 140737488355328 then (nuncioref02_Fold.l0 k1 a0 (x3_1 ++ [bt a0 x4_1]) (wrap64 (x4_1 + 1))) else (none)) = some r:=by rw [if_neg (show ¬ (false = true) by decide)] at H;exact H
      clear H
      have H:=H1
      clear H1
      by_cases c9:x3_1.length < 140737488355328
      ·
       rw [if_pos c9] at H
       have LMc9:=qqm c9
       clear c9
       obtain ⟨y256,hy256⟩:∃ y_:List Int,y_ = (x3_1 ++ [bt a0 x4_1]):=⟨_,rfl⟩
       replace H:(nuncioref02_Fold.l0 k1 a0 y256 (wrap64 (x4_1 + 1))) = some r:=by first|(rw [hy256];with_reducible exact H)|(have H2_:=(Option.bind_some _ _).symm.trans H;rw [hy256];with_reducible exact H2_)|(have H2_:=(Option.bind_some _ _).symm.trans H;with_reducible exact H2_)|with_reducible exact H|(rw [hy256];exact H)|exact H
       have Ny256:=qqm hy256
       clear hy256
       have H':=qqm H
       clear H
       have p4:0 ≤ (x4_1:Int):=of_decide_eq_true (by first|(with_reducible assumption)|assumption)
       have q4:x4_1 < (a0.size:Int):=of_decide_eq_true (by first|(with_reducible assumption)|assumption)
       have hx4:=bt_at a0 x4_1
       replace p4:=eq_true p4
       replace q4:=eq_true q4
       go_wp2_with (first|((with_reducible refine gate_callee (f:=64) rfl ?_);refine goesL_ (some 16) rfl rfl Try.func64 (by kernel_rfl) rfl #[.int .u8 (bt a0 x4_1),.int .u8 65,.int .u8 90] rfl (by (try simp only [List.map_toArray,List.map_cons,List.map_nil]);first|done|rfl|(simp only [List.length_drop,List.length_take];rfl)) ?_;(with_reducible refine (nuncioref02_in.calls (bt a0 x4_1) 65 90 false _ A5.out).mono ?_);rintro e w' ⟨rfl,⟨nd,rfl⟩⟩;refine ⟨_,rfl,?_⟩)|((with_reducible refine gate_builtin (b:=.append) (xs:=#[.tmp 19,.tmp 21]) rfl ?_);at_builtin;refine Kd.R_append (Kd.int .u8) (w0:=w) w.heap.size rfl (.tmp 19) (.tmp 21) 82 5 (.int .u8 0) 1 rfl Try.underlying82 info5 rfl (by decide) (by omega) u3 x3_1 (bt a0 x4_1) [.int .u8 (bt a0 x4_1)] (fun _=>True) (fun _=>False) rfl rfl ?aP (fun _ hk=>hk.elim) ?aF ?aO ?aB ?aS ?aL ?_;(case aP=>exact rfl);(case aB=>exact (by with_reducible repeat first|exact HB.out|apply qqf|apply qqd|apply qqe));(case aF=>exact (fun _ _=>trivial));(case aO=>exact (by (with_reducible repeat (first|apply Kd.R_alloc|apply Kd.R_drewN|apply Kd.R_drew));exact HO_3.out));(case aS=>exact (below_size (by with_reducible repeat first|exact HB.out|apply qqf|apply qqd|apply qqe)));(case aL=>have:=LMc9.out;omega);intro v257 w10 ho hb hg hat;rw [← Ny256.out] at ho;have n0_:=qqm (hb);have n1_:=qqm (ho);clear HB HO_3;have HB:=n0_;have HO258:=n1_;clear n0_ n1_ ho hb hg hat))
       go_roundg k1
       case measure=>have:=HK1.out;omega
       case rel=>exact ⟨(y256),(wrap64 (x4_1 + 1)),(by first|rfl|(simp;done)|(simp [*];done)),H',⟨by have:=HK1.out;omega⟩,⟨by (with_reducible repeat (first|apply Kd.R_alloc|apply Kd.R_drewN|apply Kd.R_drew));exact HO258.out⟩,⟨by with_reducible repeat first|exact HB.out|apply qqf|apply qqd|apply qqe⟩⟩
      ·
       rw [if_neg c9] at H
       exact absurd H (by simp)
    ·
     rw [if_neg c3] at H
     exact absurd H (by simp)
   ·
    rw [if_neg c2] at H
    have c2b0:decide (x4_1 < (a0.size:Int)) = false:=decide_eq_false c2
    clear c2
    obtain rfl:=Option.some.inj H
    have hcv11:=own_string (P:=Try.prog) Try.underlying82 Try.underlying5 Try.underlying9 (Kd.own_of_R HO_3.out)
    go_wp2
    go_ret
    exact ⟨by first|rfl|(simp [errW_none,errW_some] <;> rfl)|(simp [*,errW_none,errW_some] <;> rfl),by with_reducible repeat first|exact HB.out|apply qqf|apply qqd|apply qqe⟩

/-! ### nuncioref04_folded: function 50 -/
def nuncioref04_folded.l0 : Nat → List ByteArray → List ByteArray → Int → Option (List ByteArray)
 | 0, _, _, _ => none
 | k + 1, x0, x3, x4 => if x4 < (x0.length : Int) then (if 0 ≤ x4 then ((nuncioref02_Fold.f k (rdOf ByteArray.empty x0 x4)).bind fun t260 => (if x3.length < 8796093022208 then (nuncioref04_folded.l0 k x0 (x3 ++ [t260]) (wrap64 (x4 + 1))) else (none))) else (none)) else (some x3)
def nuncioref04_folded.f (k : Nat) (l0 : List ByteArray) : Option (List ByteArray) := nuncioref04_folded.l0 k l0 ([] : List ByteArray) 0
theorem nuncioref04_folded.mono_l : ∀ k, (∀ y0 y1 y2, LeO (nuncioref04_folded.l0 k y0 y1 y2) (nuncioref04_folded.l0 (k + 1) y0 y1 y2))
 | 0 => fun _ _ _ r h => by simp [nuncioref04_folded.l0] at h
 | k + 1 => by
  have ih0:=nuncioref04_folded.mono_l k
  ·
   intro y0 y1 y2
   unfold nuncioref04_folded.l0
   repeat' first
   | (with_reducible exact ih0 _ _ _)
   | (with_reducible exact nuncioref02_Fold.mono _ _)
   | (with_reducible exact LeO.refl _)
   | (with_reducible exact LeO.none _)
   | (with_reducible refine LeO.ite ?_ ?_)
   | (with_reducible refine LeO.bind ?_ (fun _ => ?_))
   | exact ih0 _ _ _
   | exact nuncioref02_Fold.mono _ _
   | exact LeO.none _
   | refine LeO.ite ?_ ?_
   | refine LeO.bind ?_ (fun _ => ?_)
theorem nuncioref04_folded.mono : ∀ a0 k, LeO (nuncioref04_folded.f k a0) (nuncioref04_folded.f (k + 1) a0) := by
 intro a0 k
 have ih0:=nuncioref04_folded.mono_l k
 unfold nuncioref04_folded.f
 repeat' first
   | (with_reducible exact ih0 _ _ _)
   | (with_reducible exact nuncioref02_Fold.mono _ _)
   | (with_reducible exact LeO.refl _)
   | (with_reducible exact LeO.none _)
   | (with_reducible refine LeO.ite ?_ ?_)
   | (with_reducible refine LeO.bind ?_ (fun _ => ?_))
   | exact ih0 _ _ _
   | exact nuncioref02_Fold.mono _ _
   | exact LeO.none _
   | refine LeO.ite ?_ ?_
   | refine LeO.bind ?_ (fun _ => ?_)
set_option maxHeartbeats 8000000 in
set_option maxRecDepth 100000 in
theorem nuncioref04_folded.calls (k : Nat) (A0 : Option Addr) (c0 : Nat) (l0 : List ByteArray) (r : List ByteArray) (w : World) (hr0 : Kd.C Kd.string w A0 l0.length l0) (hc0 : l0.length ≤ c0) (h : nuncioref04_folded.f k l0 = some r) :
  Calls Try.prog 50 #[.slice A0 l0.length c0] w fun e w'=>∃ v0_:Value,e = .returned (v0_)∧Kd.R Kd.string 9 w' w.heap.size (fun _=>True) v0_ r∧Below w.heap.size w w':=by
 have HR0:=qqm hr0
 have HC0:=qqm hc0
 clear hr0 hc0
 have HB:=qqm (Below.refl w.heap.size w)
 have H:(nuncioref04_folded.l0 k l0 ([]:List ByteArray) 0) = some r:=h
 clear h
 have H':=qqm H
 clear H
 go_enter Try.func50,Try.ntmps50
 go_wp2
 go_loopg [3,4] k (fun kq v3 v4 w'=>∃ (x3_1:List ByteArray) (x4_1:Int),v4 = .int .i64 x4_1∧Aside0 (nuncioref04_folded.l0 kq l0 x3_1 x4_1 = some r)∧Aside0 (kq ≤ k)∧Aside0 (Kd.R Kd.string 9 w' w.heap.size (fun _=>True) v3 x3_1)∧Aside0 (Below w.heap.size w w'))
 case atStart=>exact ⟨(([]:List ByteArray)),(0),(by first|rfl|(simp;done)|(simp [*];done)),H',⟨Nat.le_refl _⟩,⟨by first|exact Kd.R_nil _ _ _ _ _|exact Kd.N_nil _ _ _ _ _|exact Kd.V_nil _ _ _ _ _|exact Kd.Q_nil _ _ _ _ _|exact Kd.S_nil _ _ _ _ _⟩,⟨by with_reducible repeat first|exact HB.out|apply qqf|apply qqd|apply qqe⟩⟩
 case round =>
  clear H'
  obtain ⟨x3_1,x4_1,rfl,HA,HK1,HO_3,HB⟩:=hrel
  cases gk with
  | zero => exact absurd HA.out (by simp [nuncioref04_folded.l0])
  | succ k1 =>
   have H:=HA.out
   clear HA
   simp only [nuncioref04_folded.l0] at H
   by_cases c2:x4_1 < (l0.length:Int)
   ·
    rw [if_pos c2] at H
    have c2b0:decide (x4_1 < (l0.length:Int)) = true:=decide_eq_true c2
    clear c2
    by_cases c3:0 ≤ x4_1
    ·
     rw [if_pos c3] at H
     have c3b0:decide (0 ≤ x4_1) = true:=decide_eq_true c3
     clear c3
     replace H:=Option.bind_eq_some_iff.mp H
     obtain ⟨t260,A40,H⟩:=H
     replace H:(if x3_1.length < 8796093022208 then (nuncioref04_folded.l0 k1 l0 (x3_1 ++ [t260]) (wrap64 (x4_1 + 1))) else (none)) = some r:=H
     have A4:=qqm A40
     clear A40
     by_cases c5:x3_1.length < 8796093022208
     ·
      rw [if_pos c5] at H
      have LMc5:=qqm c5
      clear c5
      obtain ⟨y261,hy261⟩:∃ y_:List ByteArray,y_ = (x3_1 ++ [t260]):=⟨_,rfl⟩
      replace H:(nuncioref04_folded.l0 k1 l0 y261 (wrap64 (x4_1 + 1))) = some r:=by first|(rw [hy261];with_reducible exact H)|(have H2_:=(Option.bind_some _ _).symm.trans H;rw [hy261];with_reducible exact H2_)|(have H2_:=(Option.bind_some _ _).symm.trans H;with_reducible exact H2_)|with_reducible exact H|(rw [hy261];exact H)|exact H
      have Ny261:=qqm hy261
      clear hy261
      have H':=qqm H
      clear H
      have p259:0 ≤ (x4_1:Int):=of_decide_eq_true (by first|(with_reducible assumption)|assumption)
      have q259:x4_1 < (l0.length:Int):=of_decide_eq_true (by first|(with_reducible assumption)|assumption)
      obtain ⟨ad259,e259,hx259_0⟩:=Kd.at_string HR0.out x4_1 p259 q259
      cases e259
      replace hx259_0:=qqo HB.out hx259_0
      replace p259:=eq_true p259
      replace q259:=eq_true q259
      go_wp2_with (first|((with_reducible refine gate_callee (f:=57) rfl ?_);refine goesL_ (some 16) rfl rfl Try.func57 (by kernel_rfl) rfl #[.string (rdOf ByteArray.empty l0 x4_1)] rfl (by (try simp only [List.map_toArray,List.map_cons,List.map_nil]);first|done|rfl|(simp only [List.length_drop,List.length_take];rfl)) ?_;(with_reducible refine (nuncioref02_Fold.calls k1 (rdOf ByteArray.empty l0 x4_1) t260 _ A4.out).mono ?_);rintro e w6 ⟨rfl,hb⟩;refine ⟨_,rfl,?_⟩;have n0_:=qqm (Kd.R_below (by (with_reducible repeat (first|apply Kd.R_alloc|apply Kd.R_drewN|apply Kd.R_drew));exact HO_3.out) hb);have n1_:=qqm (below_step (by with_reducible repeat first|exact HB.out|apply qqf|apply qqd|apply qqe) hb);clear HO_3 HB;have HO_3:=n0_;have HB:=n1_;clear n0_ n1_;(try clear hb);(try clear hb2);(try clear hk);(try clear hi))|((with_reducible refine gate_builtin (b:=.append) (xs:=#[.tmp 11,.tmp 17]) rfl ?_);at_builtin;refine Kd.R_append Kd.string (w0:=w) w.heap.size rfl (.tmp 11) (.tmp 17) 48 9 (.string ⟨#[]⟩) 16 rfl Try.underlying48 info9 rfl (by decide) (by omega) u3 x3_1 t260 [.string t260] (fun _=>True) (fun _=>False) rfl rfl ?aP (fun _ hk=>hk.elim) ?aF ?aO ?aB ?aS ?aL ?_;(case aP=>exact rfl);(case aB=>exact (by with_reducible repeat first|exact HB.out|apply qqf|apply qqd|apply qqe));(case aF=>exact (fun _ _=>trivial));(case aO=>exact (by (with_reducible repeat (first|apply Kd.R_alloc|apply Kd.R_drewN|apply Kd.R_drew));exact HO_3.out));(case aS=>exact (below_size (by with_reducible repeat first|exact HB.out|apply qqf|apply qqd|apply qqe)));(case aL=>have:=LMc5.out;omega);intro v262 w7 ho hb hg hat;rw [← Ny261.out] at ho;have n0_:=qqm (hb);have n1_:=qqm (ho);clear HB HO_3;have HB:=n0_;have HO263:=n1_;clear n0_ n1_ ho hb hg hat))
      go_roundg k1
      case measure=>have:=HK1.out;omega
      case rel=>exact ⟨(y261),(wrap64 (x4_1 + 1)),(by first|rfl|(simp;done)|(simp [*];done)),H',⟨by have:=HK1.out;omega⟩,⟨by (with_reducible repeat (first|apply Kd.R_alloc|apply Kd.R_drewN|apply Kd.R_drew));exact HO263.out⟩,⟨by with_reducible repeat first|exact HB.out|apply qqf|apply qqd|apply qqe⟩⟩
     ·
      rw [if_neg c5] at H
      exact absurd H (by simp)
    ·
     rw [if_neg c3] at H
     exact absurd H (by simp)
   ·
    rw [if_neg c2] at H
    have c2b0:decide (x4_1 < (l0.length:Int)) = false:=decide_eq_false c2
    clear c2
    obtain rfl:=Option.some.inj H
    go_wp2
    go_ret
    exact ⟨_,by first|rfl|(simp [errW_none,errW_some] <;> rfl)|(simp [*,errW_none,errW_some] <;> rfl),by (with_reducible repeat (first|apply Kd.R_alloc|apply Kd.R_drewN|apply Kd.R_drew));exact HO_3.out,by with_reducible repeat first|exact HB.out|apply qqf|apply qqd|apply qqe⟩

/-! ### nuncioref04_Fold: function 30 -/
def nuncioref04_Fold.f (k : Nat) (a0 : ByteArray) : Option (ByteArray) := (nuncioref04_Labels.f k a0).bind fun bt264 => (if bt264.2 = true then ((nuncioref04_folded.f k bt264.1).bind fun t268 => ((nuncioref04_Make.f k t268).bind fun bt271 => (some bt271.1))) else (some (⟨#[]⟩ : ByteArray)))
theorem nuncioref04_Fold.mono : ∀ a0 k, LeO (nuncioref04_Fold.f k a0) (nuncioref04_Fold.f (k + 1) a0) := by
 intro a0 k
 unfold nuncioref04_Fold.f
 repeat' first
   | (with_reducible exact nuncioref04_Labels.mono _ _)
   | (with_reducible exact nuncioref04_Make.mono _ _)
   | (with_reducible exact nuncioref04_folded.mono _ _)
   | (with_reducible exact LeO.refl _)
   | (with_reducible exact LeO.none _)
   | (with_reducible refine LeO.ite ?_ ?_)
   | (with_reducible refine LeO.bind ?_ (fun _ => ?_))
   | exact nuncioref04_Labels.mono _ _
   | exact nuncioref04_Make.mono _ _
   | exact nuncioref04_folded.mono _ _
   | exact LeO.none _
   | refine LeO.ite ?_ ?_
   | refine LeO.bind ?_ (fun _ => ?_)
set_option maxHeartbeats 8000000 in
set_option maxRecDepth 100000 in
theorem nuncioref04_Fold.calls (k : Nat) (a0 : ByteArray) (r : ByteArray) (w : World) (h : nuncioref04_Fold.f k a0 = some r) :
  Calls Try.prog 30 #[.string a0] w fun e w'=>e = .returned (.string r)∧Below w.heap.size w w':=by
 have HB:=qqm (Below.refl w.heap.size w)
 have H:((nuncioref04_Labels.f k a0).bind fun bt264=>(if bt264.2 = true then ((nuncioref04_folded.f k bt264.1).bind fun t268=>((nuncioref04_Make.f k t268).bind fun bt271=>(some bt271.1))) else (some (⟨#[]⟩:ByteArray)))) = some r:=h
 clear h
 replace H:=Option.bind_eq_some_iff.mp H
 obtain ⟨⟨t264,t265⟩,A20,H⟩:=H
 replace H:(if t265 = true then ((nuncioref04_folded.f k t264).bind fun t268=>((nuncioref04_Make.f k t268).bind fun bt271=>(some bt271.1))) else (some (⟨#[]⟩:ByteArray))) = some r:=H
 have A2:=qqm A20
 clear A20
 by_cases c3:t265 = true
 rotate_left
 ·
  replace c3:=Bool.eq_false_iff.mpr c3
  subst c3
  have H1:(some (⟨#[]⟩:ByteArray)) = some r:=by rw [if_neg (show ¬ (false = true) by decide)] at H;exact H
  clear H
  have H:=H1
  clear H1
  obtain rfl:=Option.some.inj H
  go_enter Try.func30,Try.ntmps30
  go_wp2_with (first|((with_reducible refine gate_callee (f:=48) rfl ?_);refine goesL_ (some 9) rfl rfl Try.func48 (by kernel_rfl) rfl #[.string a0] rfl (by (try simp only [List.map_toArray,List.map_cons,List.map_nil]);first|done|rfl|(simp only [List.length_drop,List.length_take];rfl)) ?_;(with_reducible refine (nuncioref04_Labels.calls k a0 t264 false _ A2.out).mono ?_);rintro e w11 ⟨v266,rfl,ho0,hb⟩;refine ⟨_,rfl,?_⟩;have n0_:=qqm (Kd.R_lower ho0 (below_size (by with_reducible repeat first|exact HB.out|apply qqf|apply qqd|apply qqe)));have n1_:=qqm (below_step (by with_reducible repeat first|exact HB.out|apply qqf|apply qqd|apply qqe) hb);clear HB;have HO267:=n0_;have HB:=n1_;clear n0_ n1_;(try clear hb);(try clear hb2);(try clear hk);(try clear hi);(try clear ho0)))
  go_ret
  exact ⟨by first|rfl|(simp [errW_none,errW_some] <;> rfl)|(simp [*,errW_none,errW_some] <;> rfl),by with_reducible repeat first|exact HB.out|apply qqf|apply qqd|apply qqe⟩
 subst c3
 have H1:((nuncioref04_folded.f k t264).bind fun t268=>((nuncioref04_Make.f k t268).bind fun bt271=>(some bt271.1))) = some r:=by rw [if_pos rfl] at H;exact H
 clear H
 have H:=H1
 clear H1
 replace H:=Option.bind_eq_some_iff.mp H
 obtain ⟨t268,A40,H⟩:=H
 replace H:((nuncioref04_Make.f k t268).bind fun bt271=>(some bt271.1)) = some r:=H
 have A4:=qqm A40
 clear A40
 replace H:=Option.bind_eq_some_iff.mp H
 obtain ⟨⟨t271,t272⟩,A50,H⟩:=H
 replace H:(some t271) = some r:=H
 have A5:=qqm A50
 clear A50
 obtain rfl:=Option.some.inj H
 go_enter Try.func30,Try.ntmps30
 go_wp2_with (first|((with_reducible refine gate_callee (f:=48) rfl ?_);refine goesL_ (some 9) rfl rfl Try.func48 (by kernel_rfl) rfl #[.string a0] rfl (by (try simp only [List.map_toArray,List.map_cons,List.map_nil]);first|done|rfl|(simp only [List.length_drop,List.length_take];rfl)) ?_;(with_reducible refine (nuncioref04_Labels.calls k a0 t264 true _ A2.out).mono ?_);rintro e w6 ⟨v266,rfl,ho0,hb⟩;refine ⟨_,rfl,?_⟩;have n0_:=qqm (Kd.R_lower ho0 (below_size (by with_reducible repeat first|exact HB.out|apply qqf|apply qqd|apply qqe)));have n1_:=qqm (below_step (by with_reducible repeat first|exact HB.out|apply qqf|apply qqd|apply qqe) hb);clear HB;have HO267:=n0_;have HB:=n1_;clear n0_ n1_;(try clear hb);(try clear hb2);(try clear hk);(try clear hi);(try clear ho0);obtain ⟨Ao7,co7,eo7⟩:=Kd.R_slice HO267.out;subst eo7)|((with_reducible refine gate_callee (f:=50) rfl ?_);refine goesL_ (some 16) rfl rfl Try.func50 (by kernel_rfl) rfl #[.slice Ao7 t264.length co7] rfl (by (try simp only [List.map_toArray,List.map_cons,List.map_nil]);first|done|rfl|(simp only [List.length_drop,List.length_take];rfl)) ?_;(with_reducible refine (nuncioref04_folded.calls k _ _ t264 t268 _ ?side1 ?side2 A4.out).mono ?_);(case side1=>repeat (first|exact (Kd.R_reads' HO267.out).2.2|(with_reducible first|apply Kd.C_alloc|apply Kd.C_drewN|apply Kd.C_drew)));(case side2=>exact (Kd.R_reads' HO267.out).2.1);rintro e w8 ⟨v269,rfl,ho0,hb⟩;refine ⟨_,rfl,?_⟩;have n0_:=qqm (Kd.R_elder' (by (with_reducible repeat (first|apply Kd.R_alloc|apply Kd.R_drewN|apply Kd.R_drew));exact HO267.out) (Kd.R_base ho0) hb);have n1_:=qqm (Kd.R_lower (Kd.R_new' ho0 (Kd.R_lt (by (with_reducible repeat (first|apply Kd.R_alloc|apply Kd.R_drewN|apply Kd.R_drew));exact HO267.out))) (below_size (by with_reducible repeat first|exact HB.out|apply qqf|apply qqd|apply qqe)));have n2_:=qqm (below_step (by with_reducible repeat first|exact HB.out|apply qqf|apply qqd|apply qqe) hb);clear HO267 HB;have HO267:=n0_;have HO270:=n1_;have HB:=n2_;clear n0_ n1_ n2_;(try clear hb);(try clear hb2);(try clear hk);(try clear hi);(try clear ho0);obtain ⟨Ao9,co9,eo9⟩:=Kd.R_slice HO270.out;subst eo9)|((with_reducible refine gate_callee (f:=49) rfl ?_);refine goesL_ (some 17) rfl rfl Try.func49 (by kernel_rfl) rfl #[.slice Ao9 t268.length co9] rfl (by (try simp only [List.map_toArray,List.map_cons,List.map_nil]);first|done|rfl|(simp only [List.length_drop,List.length_take];rfl)) ?_;(with_reducible refine (nuncioref04_Make.calls k _ _ t268 t271 t272 _ ?side1 ?side2 A5.out).mono ?_);(case side1=>repeat (first|exact (Kd.R_reads' HO270.out).2.2|(with_reducible first|apply Kd.C_alloc|apply Kd.C_drewN|apply Kd.C_drew)));(case side2=>exact (Kd.R_reads' HO270.out).2.1);rintro e w10 ⟨rfl,hb⟩;refine ⟨_,rfl,?_⟩;have n0_:=qqm (Kd.R_below (by (with_reducible repeat (first|apply Kd.R_alloc|apply Kd.R_drewN|apply Kd.R_drew));exact HO267.out) hb);have n1_:=qqm (Kd.R_below (by (with_reducible repeat (first|apply Kd.R_alloc|apply Kd.R_drewN|apply Kd.R_drew));exact HO270.out) hb);have n2_:=qqm (below_step (by with_reducible repeat first|exact HB.out|apply qqf|apply qqd|apply qqe) hb);clear HO267 HO270 HB;have HO267:=n0_;have HO270:=n1_;have HB:=n2_;clear n0_ n1_ n2_;(try clear hb);(try clear hb2);(try clear hk);(try clear hi)))
 go_ret
 exact ⟨by first|rfl|(simp [errW_none,errW_some] <;> rfl)|(simp [*,errW_none,errW_some] <;> rfl),by with_reducible repeat first|exact HB.out|apply qqf|apply qqd|apply qqe⟩

/-! ### nuncioref08_qr: function 36 -/
def nuncioref08_qr.f (a0 : Int) : Option (Bool) := some (decide (a0 ≥ 32768))
set_option maxHeartbeats 8000000 in
set_option maxRecDepth 100000 in
theorem nuncioref08_qr.calls (a0 : Int) (r : Bool) (w : World) (h : nuncioref08_qr.f a0 = some r) :
  Calls Try.prog 36 #[.int .u16 a0] w fun e w'=>e = .returned (.bool r)∧Drawn0 w w':=by
 have H:(some (decide (a0 ≥ 32768))) = some r:=h
 clear h
 obtain rfl:=Option.some.inj H
 go_enter Try.func36,Try.ntmps36
 go_wp2
 go_ret
 exact ⟨by first|rfl|(simp;done)|(simp [*];done),by repeat (first|exact Drawn0.refl _|apply Drawn0.step)⟩

end Go.Proofs.Ythkdfnbhlinhiaa.Mine
