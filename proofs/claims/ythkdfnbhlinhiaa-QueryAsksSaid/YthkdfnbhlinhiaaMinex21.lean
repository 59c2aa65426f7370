-- Written by this repo's own printer (wip/print), which builds on the kit's.
import Derived.Test.YthkdfnbhlinhiaaMinex0
namespace Go.Proofs.Ythkdfnbhlinhiaa.Mine
open Go.RowKit Go.Proofs.YthkdfnbhlinhiaaW.PrintWords Go.Proofs.YthkdfnbhlinhiaaW.PrintLast Go.Proofs.YthkdfnbhlinhiaaW.PrintMore
attribute [local go_sem] max2_int min2_int max_two min_two max_three min_three max_four min_four   -- for this text's walks alone
set_option linter.unusedVariables false
set_option linter.unusedSimpArgs false

/-! ### nuncioref04_Make: function 49 -/
mutual
def nuncioref04_Make.l0 : Nat → List ByteArray → Int → Option (ByteArray × Int)
 | 0, _, _ => none
 | k + 1, x0, x4 => if x4 < (x0.length : Int) then (if 0 ≤ x4 then (if ((rdOf ByteArray.empty x0 x4).size : Int) < 1 then (some ((⟨#[]⟩ : ByteArray), 41)) else (if ((rdOf ByteArray.empty x0 x4).size : Int) > 63 then (some ((⟨#[]⟩ : ByteArray), 41)) else (nuncioref04_Make.l0 k x0 (wrap64 (x4 + 1))))) else (none)) else (nuncioref04_Make.l1 k x0 (⟨#[]⟩ : ByteArray) 0)
def nuncioref04_Make.l1 : Nat → List ByteArray → ByteArray → Int → Option (ByteArray × Int)
 | 0, _, _, _ => none
 | k + 1, x0, x5, x6 => if x6 < (x0.length : Int) then (if 0 ≤ x6 then ((some (([(((rdOf ByteArray.empty x0 x6).size : Int)) % 256] : List Int) : List Int)).bind fun y248 => (if x5.size + (strOfNums y248).size ≤ 9223372036854775807 then (if (x5.size + (strOfNums y248).size) + (rdOf ByteArray.empty x0 x6).size ≤ 9223372036854775807 then (if (((x5.size : Int) + ((strOfNums y248).size : Int)) + ((rdOf ByteArray.empty x0 x6).size : Int)) > 254 then (some ((⟨#[]⟩ : ByteArray), 40)) else (nuncioref04_Make.l1 k x0 ((x5 ++ (strOfNums y248)) ++ (rdOf ByteArray.empty x0 x6)) (wrap64 (x6 + 1)))) else (none)) else (none))) else (none)) else (if x5.size + 1 ≤ 9223372036854775807 then (some (x5 ++ (⟨#[0]⟩ : ByteArray), 0)) else (none))
end
def nuncioref04_Make.f (k : Nat) (l0 : List ByteArray) : Option (ByteArray × Int) := nuncioref04_Make.l0 k l0 0
theorem nuncioref04_Make.mono_l : ∀ k, (∀ y0 y1, LeO (nuncioref04_Make.l0 k y0 y1) (nuncioref04_Make.l0 (k + 1) y0 y1)) ∧ (∀ y0 y1 y2, LeO (nuncioref04_Make.l1 k y0 y1 y2) (nuncioref04_Make.l1 (k + 1) y0 y1 y2))
 | 0 => ⟨fun _ _ r h => by simp [nuncioref04_Make.l0] at h, fun _ _ _ r h => by simp [nuncioref04_Make.l1] at h⟩
 | k + 1 => by
  obtain ⟨ih0,ih1⟩:=nuncioref04_Make.mono_l k
  refine ⟨?_,?_⟩
  ·
   intro y0 y1
   unfold nuncioref04_Make.l0
   repeat' first
   | (with_reducible exact ih0 _ _)
   | (with_reducible exact ih1 _ _ _)
   | (with_reducible exact LeO.refl _)
   | (with_reducible exact LeO.none _)
   | (with_reducible refine LeO.ite ?_ ?_)
   | (with_reducible refine LeO.bind ?_ (fun _ => ?_))
   | exact ih0 _ _
   | exact ih1 _ _ _
   | exact LeO.none _
   | refine LeO.ite ?_ ?_
   | refine LeO.bind ?_ (fun _ => ?_)
  ·
   intro y0 y1 y2
   unfold nuncioref04_Make.l1
   repeat' first
   | (with_reducible exact ih0 _ _)
   | (with_reducible exact ih1 _ _ _)
   | (with_reducible exact LeO.refl _)
   | (with_reducible exact LeO.none _)
   | (with_reducible refine LeO.ite ?_ ?_)
   | (with_reducible refine LeO.bind ?_ (fun _ => ?_))
   | exact ih0 _ _
   | exact ih1 _ _ _
   | exact LeO.none _
   | refine LeO.ite ?_ ?_
   | refine LeO.bind ?_ (fun _ => ?_)
theorem nuncioref04_Make.mono : ∀ a0 k, LeO (nuncioref04_Make.f k a0) (nuncioref04_Make.f (k + 1) a0) := by
 intro a0 k
 obtain ⟨ih0,ih1⟩:=nuncioref04_Make.mono_l k
 unfold nuncioref04_Make.f
 repeat' first
   | (with_reducible exact ih0 _ _)
   | (with_reducible exact ih1 _ _ _)
   | (with_reducible exact LeO.refl _)
   | (with_reducible exact LeO.none _)
   | (with_reducible refine LeO.ite ?_ ?_)
   | (with_reducible refine LeO.bind ?_ (fun _ => ?_))
   | exact ih0 _ _
   | exact ih1 _ _ _
   | exact LeO.none _
   | refine LeO.ite ?_ ?_
   | refine LeO.bind ?_ (fun _ => ?_)
def nuncioref04_Make.T10 : Bool × List (List Nat × List Nat) := (true, [([], []), ([], []), ([], []), ([1, 2], [1, 2]), ([3], [3]), ([4], [4]), ([5], [5]), ([6], [6]), ([7], [7]), ([0, 8], [0, 8]), ([], []), ([], []), ([10, 11], [10, 11]), ([12], [12]), ([9, 13], [9, 13]), ([14, 0, 1, 2, 3, 4, 5, 6, 7, 8, 9, 10, 11, 12, 13, 14], [0, 14])])
def nuncioref04_Make.B10 : List Nat := [0, 0, 0, 6, 14, 30, 62, 126, 254, 511, 0, 0, 3072, 7168, 16383, 32767]
theorem nuncioref04_Make.tab10 : rtab .any (opsOf Try.f49 10) = nuncioref04_Make.T10 := by kernel_rfl
theorem nuncioref04_Make.bits10 : waitsOk nuncioref04_Make.T10.2 nuncioref04_Make.B10 = true := by kernel_rfl
set_option maxHeartbeats 8000000 in
set_option maxRecDepth 100000 in
theorem nuncioref04_Make.calls (k : Nat) (A0 : Option Addr) (c0 : Nat) (l0 : List ByteArray) (r1 : ByteArray) (r2 : Int) (w : World) (hr0 : Kd.C Kd.string w A0 l0.length l0) (hc0 : l0.length ≤ c0) (h : nuncioref04_Make.f k l0 = some (r1, r2)) :
  Calls Try.prog 49 #[.slice A0 l0.length c0] w fun e w'=>e = .returned (.tuple #[.string r1,.int .i64 r2])∧Below w.heap.size w w':=by
 have HR0:=qqm hr0
 have HC0:=qqm hc0
 clear hr0 hc0
 have HB:=qqm (Below.refl w.heap.size w)
 have H:(nuncioref04_Make.l0 k l0 0) = some (r1,r2):=h
 clear h
 have H':=qqm H
 clear H
 go_enter Try.func49,Try.ntmps49
 go_wp2
 go_loopg [4] k (fun kq v4 w'=>∃ (x4_1:Int),v4 = .int .i64 x4_1∧Aside0 (nuncioref04_Make.l0 kq l0 x4_1 = some (r1,r2))∧Aside0 (kq ≤ k)∧Aside0 (Below w.heap.size w w'))
 case atStart=>exact ⟨(0),(by first|rfl|(simp;done)|(simp [*];done)),H',⟨Nat.le_refl _⟩,⟨by with_reducible repeat first|exact HB.out|apply qqf|apply qqd|apply qqe⟩⟩
 case round =>
  clear H'
  obtain ⟨x4_1,rfl,HA,HK1,HB⟩:=hrel
  cases gk with
  | zero => exact absurd HA.out (by simp [nuncioref04_Make.l0])
  | succ k1 =>
   have H:=HA.out
   clear HA
   simp only [nuncioref04_Make.l0] at H
   by_cases c2:x4_1 < (l0.length:Int)
   ·
    rw [if_pos c2] at H
    have c2b0:decide (x4_1 < (l0.length:Int)) = true:=decide_eq_true c2
    clear c2
    by_cases c3:0 ≤ x4_1
    ·
     rw [if_pos c3] at H
     have c3b0:decide (0 ≤ x4_1) = true:=decide_eq_true c3
     clear c3
     by_cases c4:((rdOf ByteArray.empty l0 x4_1).size:Int) < 1
     ·
      rw [if_pos c4] at H
      have c4b0:decide (((rdOf ByteArray.empty l0 x4_1).size:Int) < 1) = true:=decide_eq_true c4
      have c4b1:decide ((rdOf ByteArray.empty l0 x4_1).size < 1) = true:=decide_eq_true (by omega)
      clear c4
      simp only [Option.some.injEq,Prod.mk.injEq] at H
      obtain ⟨rfl,rfl⟩:=H
      have p245:0 ≤ (x4_1:Int):=of_decide_eq_true (by first|(with_reducible assumption)|assumption)
      have q245:x4_1 < (l0.length:Int):=of_decide_eq_true (by first|(with_reducible assumption)|assumption)
      obtain ⟨ad245,e245,hx245_0⟩:=Kd.at_string HR0.out x4_1 p245 q245
      cases e245
      replace hx245_0:=qqo HB.out hx245_0
      replace p245:=eq_true p245
      replace q245:=eq_true q245
      go_wp2
      go_ret2
      exact ⟨by first|rfl|(simp [errW_none,errW_some] <;> rfl)|(simp [*,errW_none,errW_some] <;> rfl),by with_reducible repeat first|exact HB.out|apply qqf|apply qqd|apply qqe⟩
     ·
      rw [if_neg c4] at H
      have c4b0:decide (((rdOf ByteArray.empty l0 x4_1).size:Int) < 1) = false:=decide_eq_false c4
      have c4b1:decide ((rdOf ByteArray.empty l0 x4_1).size < 1) = false:=decide_eq_false (by omega)
      clear c4
      by_cases c5:((rdOf ByteArray.empty l0 x4_1).size:Int) > 63
      ·
       rw [if_pos c5] at H
       have c5b0:decide (63 < ((rdOf ByteArray.empty l0 x4_1).size:Int)) = true:=decide_eq_true c5
       have c5b1:decide (63 < (rdOf ByteArray.empty l0 x4_1).size) = true:=decide_eq_true (by omega)
       clear c5
       simp only [Option.some.injEq,Prod.mk.injEq] at H
       obtain ⟨rfl,rfl⟩:=H
       have p245:0 ≤ (x4_1:Int):=of_decide_eq_true (by first|(with_reducible assumption)|assumption)
       have q245:x4_1 < (l0.length:Int):=of_decide_eq_true (by first|(with_reducible assumption)|assumption)
       obtain ⟨ad245,e245,hx245_0⟩:=Kd.at_string HR0.out x4_1 p245 q245
       cases e245
       replace hx245_0:=qqo HB.out hx245_0
       replace p245:=eq_true p245
       replace q245:=eq_true q245
       have p246:0 ≤ (x4_1:Int):=of_decide_eq_true (by first|(with_reducible assumption)|assumption)
       have q246:x4_1 < (l0.length:Int):=of_decide_eq_true (by first|(with_reducible assumption)|assumption)
       obtain ⟨ad246,e246,hx246_0⟩:=Kd.at_string HR0.out x4_1 p246 q246
       obtain rfl:ad245 = ad246:=(by injection e246)
       replace hx246_0:=qqo HB.out hx246_0
       replace p246:=eq_true p246
       replace q246:=eq_true q246
       go_wp2
       go_ret2
       exact ⟨by first|rfl|(simp [errW_none,errW_some] <;> rfl)|(simp [*,errW_none,errW_some] <;> rfl),by with_reducible repeat first|exact HB.out|apply qqf|apply qqd|apply qqe⟩
      ·
       rw [if_neg c5] at H
       have c5b0:decide (63 < ((rdOf ByteArray.empty l0 x4_1).size:Int)) = false:=decide_eq_false c5
       have c5b1:decide (63 < (rdOf ByteArray.empty l0 x4_1).size) = false:=decide_eq_false (by omega)
       clear c5
       have H':=qqm H
       clear H
       have p245:0 ≤ (x4_1:Int):=of_decide_eq_true (by first|(with_reducible assumption)|assumption)
       have q245:x4_1 < (l0.length:Int):=of_decide_eq_true (by first|(with_reducible assumption)|assumption)
       obtain ⟨ad245,e245,hx245_0⟩:=Kd.at_string HR0.out x4_1 p245 q245
       cases e245
       replace hx245_0:=qqo HB.out hx245_0
       replace p245:=eq_true p245
       replace q245:=eq_true q245
       have p246:0 ≤ (x4_1:Int):=of_decide_eq_true (by first|(with_reducible assumption)|assumption)
       have q246:x4_1 < (l0.length:Int):=of_decide_eq_true (by first|(with_reducible assumption)|assumption)
       obtain ⟨ad246,e246,hx246_0⟩:=Kd.at_string HR0.out x4_1 p246 q246
       obtain rfl:ad245 = ad246:=(by injection e246)
       replace hx246_0:=qqo HB.out hx246_0
       replace p246:=eq_true p246
       replace q246:=eq_true q246
       go_wp2
       go_roundg k1
       case measure=>have:=HK1.out;omega
       case rel=>exact ⟨(wrap64 (x4_1 + 1)),(by first|rfl|(simp;done)|(simp [*];done)),H',⟨by have:=HK1.out;omega⟩,⟨by with_reducible repeat first|exact HB.out|apply qqf|apply qqd|apply qqe⟩⟩
    ·
     rw [if_neg c3] at H
     exact absurd H (by simp)
   ·
    rw [if_neg c2] at H
    have c2b0:decide (x4_1 < (l0.length:Int)) = false:=decide_eq_false c2
    clear c2
    have H':=qqm H
    clear H
    go_wp2
    go_loopg [5,6] k1 (fun kq v5 v6 w'=>∃ (x5_2:ByteArray) (x6_2:Int),v5 = .string x5_2∧v6 = .int .i64 x6_2∧Aside0 (nuncioref04_Make.l1 kq l0 x5_2 x6_2 = some (r1,r2))∧Aside0 (kq ≤ k1)∧Aside0 (Below w.heap.size w w'))
    case atStart=>exact ⟨((⟨#[]⟩:ByteArray)),(0),(by first|rfl|(simp;done)|(simp [*];done)),(by first|rfl|(simp;done)|(simp [*];done)),H',⟨Nat.le_refl _⟩,⟨by with_reducible repeat first|exact HB.out|apply qqf|apply qqd|apply qqe⟩⟩
    case round =>
     clear H'
     try clear c2
     try clear c2b0
     try clear p2
     try clear q2
     try clear hx2
     try clear c3
     try clear c3b0
     try clear c4
     try clear c4b0
     try clear c4b1
     try clear c5
     try clear c5b0
     try clear c5b1
     try clear hx245_0
     try clear hx246_0
     try clear p245
     try clear p246
     try clear q245
     try clear q246
     obtain ⟨x5_2,x6_2,rfl,rfl,HA,HK2,HB⟩:=hrel
     cases gk with
     | zero => exact absurd HA.out (by simp [nuncioref04_Make.l1])
     | succ k2 =>
      have H:=HA.out
      clear HA
      simp only [nuncioref04_Make.l1] at H
      by_cases c6:x6_2 < (l0.length:Int)
      ·
       rw [if_pos c6] at H
       have c6b0:decide (x6_2 < (l0.length:Int)) = true:=decide_eq_true c6
       clear c6
       by_cases c7:0 ≤ x6_2
       ·
        rw [if_pos c7] at H
        have c7b0:decide (0 ≤ x6_2) = true:=decide_eq_true c7
        clear c7
        obtain ⟨y248,hy248⟩:∃ y_:List Int,y_ = (([(((rdOf ByteArray.empty l0 x6_2).size:Int)) % 256]:List Int)):=⟨_,rfl⟩
        replace H:(if x5_2.size + (strOfNums y248).size ≤ 9223372036854775807 then (if (x5_2.size + (strOfNums y248).size) + (rdOf ByteArray.empty l0 x6_2).size ≤ 9223372036854775807 then (if (((x5_2.size:Int) + ((strOfNums y248).size:Int)) + ((rdOf ByteArray.empty l0 x6_2).size:Int)) > 254 then (some ((⟨#[]⟩:ByteArray),40)) else (nuncioref04_Make.l1 k2 l0 ((x5_2 ++ (strOfNums y248)) ++ (rdOf ByteArray.empty l0 x6_2)) (wrap64 (x6_2 + 1)))) else (none)) else (none)) = some (r1,r2):=by first|(rw [hy248];with_reducible exact H)|(have H2_:=(Option.bind_some _ _).symm.trans H;rw [hy248];with_reducible exact H2_)|(have H2_:=(Option.bind_some _ _).symm.trans H;with_reducible exact H2_)|with_reducible exact H|(rw [hy248];exact H)|exact H
        have Ny248:=qqm hy248
        clear hy248
        by_cases c8:x5_2.size + (strOfNums y248).size ≤ 9223372036854775807
        ·
         rw [if_pos c8] at H
         have c8b0:=eq_true c8
         have c8b1:decide (x5_2.size + (strOfNums y248).size ≤ 9223372036854775807) = true:=decide_eq_true c8
         try have c8b2:(9223372036854775807 < x5_2.size + (strOfNums y248).size) = False:=eq_false (Nat.not_lt.2 c8)
         by_cases c9:(x5_2.size + (strOfNums y248).size) + (rdOf ByteArray.empty l0 x6_2).size ≤ 9223372036854775807
         ·
          rw [if_pos c9] at H
          have c9b0:=eq_true c9
          have c9b1:decide ((x5_2.size + (strOfNums y248).size) + (rdOf ByteArray.empty l0 x6_2).size ≤ 9223372036854775807) = true:=decide_eq_true c9
          try have c9b2:(9223372036854775807 < (x5_2.size + (strOfNums y248).size) + (rdOf ByteArray.empty l0 x6_2).size) = False:=eq_false (Nat.not_lt.2 c9)
          by_cases c10:(((x5_2.size:Int) + ((strOfNums y248).size:Int)) + ((rdOf ByteArray.empty l0 x6_2).size:Int)) > 254
          ·
           rw [if_pos c10] at H
           have c10b0:decide (254 < (((x5_2.size:Int) + ((strOfNums y248).size:Int)) + ((rdOf ByteArray.empty l0 x6_2).size:Int))) = true:=decide_eq_true c10
           clear c10
           simp only [Option.some.injEq,Prod.mk.injEq] at H
           obtain ⟨rfl,rfl⟩:=H
           try go_wp2
           have n0_:=qqm (qqe HB.out)
           clear HB
           have HB:=n0_
           clear n0_
           have p247:0 ≤ (x6_2:Int):=of_decide_eq_true (by first|(with_reducible assumption)|assumption)
           have q247:x6_2 < (l0.length:Int):=of_decide_eq_true (by first|(with_reducible assumption)|assumption)
           obtain ⟨ad247,e247,hx247_0⟩:=Kd.at_string HR0.out x6_2 p247 q247
           have hw247_0:=hx247_0
           cases e247
           replace hx247_0:=qqo HB.out hx247_0
           replace p247:=eq_true p247
           replace q247:=eq_true q247
           have p251:0 ≤ (x6_2:Int):=of_decide_eq_true (by first|(with_reducible assumption)|assumption)
           have q251:x6_2 < (l0.length:Int):=of_decide_eq_true (by first|(with_reducible assumption)|assumption)
           obtain ⟨ad251,e251,hx251_0⟩:=Kd.at_string HR0.out x6_2 p251 q251
           have hw251_0:=hx251_0
           obtain rfl:ad247 = ad251:=(by injection e251)
           replace hx251_0:=qqo HB.out hx251_0
           replace p251:=eq_true p251
           replace q251:=eq_true q251
           refine start_ (n:=16) (S:=fun w'=>w'.cell? (ad247.add (x6_2).toNat) = some (.string (rdOf ByteArray.empty l0 x6_2))∧w'.cell? (ad247.add (x6_2).toNat) = some (.string (rdOf ByteArray.empty l0 x6_2))) (ds:=[]) (qqz 16 0) (by kernel_rfl) rfl rfl ⟨((HB.out.cell (World.block_lt_of_cell? w _ hw247_0)).trans hw247_0),((HB.out.cell (World.block_lt_of_cell? w _ hw251_0)).trans hw251_0)⟩ (fun hHeld=>?_);refine with_tabW nuncioref04_Make.tab10 nuncioref04_Make.bits10 (fun HT_ HW_=>?_)
           generalize wr.drew = w11 at HB hx247_0 hx251_0 hHeld ⊢
           refine pure_ (i:=0) (N:=some 33) (qqz 16 1) rfl rfl (any_of HT_.out (by kernel_rfl)) (fun _ _ _ h=>h) (Or.inl ⟨by rfl,by intro w';go_simp;with_reducible rfl⟩) (by simp only [Act.put,qqj,qqk,qql,i64_w,i32_w];rfl) ?_
           refine pure_ (i:=1) (N:=some 34) (qqz 16 3) rfl rfl (any_of HT_.out (by kernel_rfl)) (fun _ _ _ h=>h) (Or.inl ⟨by rfl,by intro w';go_simp;with_reducible rfl⟩) (by simp only [Act.put,qqj,qqk,qql,i64_w,i32_w];rfl) ?_
           refine pure_ (i:=2) (N:=some 35) (qqz 16 7) rfl rfl (any_of HT_.out (by kernel_rfl)) (fun _ _ _ h=>h) (Or.inl ⟨by rfl,by intro w';go_simp;with_reducible rfl⟩) (by simp only [Act.put,qqj,qqk,qql,i64_w,i32_w];rfl) ?_
           refine pure_ (i:=3) (N:=some 36) (qqz 16 15) rfl rfl (any_of HT_.out (by kernel_rfl)) (fun _ _ _ h=>h) (Or.inl ⟨by rfl,by intro w';go_simp;with_reducible rfl⟩) (by simp only [Act.put,qqj,qqk,qql,i64_w,i32_w];rfl) ?_
           refine pure_ (i:=10) (N:=some 43) (qqz 16 1039) rfl rfl (any_of HT_.out (by kernel_rfl)) (fun _ _ _ h=>h) (Or.inl ⟨by rfl,by intro w';go_simp;with_reducible rfl⟩) (by simp only [Act.put,qqj,qqk,qql,i64_w,i32_w];rfl) ?_
           refine pure_ (i:=11) (N:=some 44) (qqz 16 3087) rfl rfl (any_of HT_.out (by kernel_rfl)) (fun _ _ _ h=>h) (Or.inl ⟨by rfl,by intro w';go_simp;with_reducible rfl⟩) (by simp only [Act.put,qqj,qqk,qql,i64_w,i32_w];rfl) ?_
           refine pure_ (i:=12) (N:=some 45) (qqz 16 7183) rfl rfl (any_of HT_.out (by kernel_rfl)) (fun _ _ _ h=>h) (Or.inl ⟨by rfl,by intro w';go_simp;with_reducible rfl⟩) (by simp only [Act.put,qqj,qqk,qql,i64_w,i32_w];rfl) ?_
           refine take_ (i:=4) (N:=some 37) (qqz 16 7199) rfl rfl (take_ofW HT_.out HW_.out (by kernel_rfl)) (fun _ _ _ h=>h) (Or.inl ⟨by rfl,by rintro w' ⟨s0,s1⟩;go_simp;with_reducible rfl⟩) hHeld (by simp only [Act.put,qqj,qqk,qql,i64_w,i32_w];rfl) ?_
           refine pure_ (i:=5) (N:=some 38) (qqz 16 7231) rfl rfl (any_of HT_.out (by kernel_rfl)) (fun _ _ _ h=>h) (Or.inl ⟨by rfl,by intro w';go_simp;with_reducible rfl⟩) (by simp only [Act.put,qqj,qqk,qql,i64_w,i32_w];rfl) ?_
           refine pure_ (i:=6) (N:=some 39) (qqz 16 7295) rfl rfl (any_of HT_.out (by kernel_rfl)) (fun _ _ _ h=>h) (Or.inl ⟨by rfl,by intro w';go_simp;with_reducible rfl⟩) (by simp only [Act.put,qqj,qqk,qql,i64_w,i32_w];rfl) ?_
           refine take_ (i:=13) (N:=some 46) (qqz 16 15487) rfl rfl (take_ofW HT_.out HW_.out (by kernel_rfl)) (fun _ _ _ h=>h) (Or.inl ⟨by rfl,by rintro w' ⟨s0,s1⟩;go_simp;with_reducible rfl⟩) hHeld (by simp only [Act.put,qqj,qqk,qql,i64_w,i32_w];rfl) ?_
           refine one_ (i:=7) (N:=some 40) (qqz 16 15615) rfl rfl (one_of HT_.out (by kernel_rfl)) (by decide) (fun K hK=>?_)
           refine Kd.R_lit_step (Kd.int .u8) _ 5 ?hg (N:=40) ?hd (xs:=([(((rdOf ByteArray.empty l0 x6_2).size:Int)) % 256]:List Int)) (inner:=[.int .u8 ((((rdOf ByteArray.empty l0 x6_2).size:Int)) % 256)]) (ok:=fun _=>True) (okp:=fun _=>True) ?hr ?hp (fun _ hk=>hk) trivial (Below.refl _ _) (Nat.le_refl _) (by simp) ?_;(case hd=>rfl);(case hg=>rfl);(case hr=>first|(go_simp;done)|(go_simp;rfl));(case hp=>exact (Reps.one (show Kd.M (Kd.int .u8) _ _ _ ((((rdOf ByteArray.empty l0 x6_2).size:Int)) % 256) [.int .u8 ((((rdOf ByteArray.empty l0 x6_2).size:Int)) % 256)] from rfl) (Reps.none _ _)))
           intro v249 w12 ho13 hb hg_ hnew_
           clear hg_ hnew_
           (first|rw [← Ny248.out] at ho13|(simp only [Int.reduceToNat] at ho13;rw [← Ny248.out] at ho13))
           have n0_:=qqm (Kd.R_lower ho13 (below_size (by with_reducible repeat first|exact HB.out|apply qqf|apply qqd|apply qqe)))
           have n1_:=qqm (below_step (by with_reducible repeat first|exact HB.out|apply qqf|apply qqd|apply qqe) hb)
           clear HB
           have HO250:=n0_
           have HB:=n1_
           clear n0_ n1_
           clear hb ho13
           refine hK.out _ _ ⟨((HB.out.cell (World.block_lt_of_cell? w _ hw247_0)).trans hw247_0),((HB.out.cell (World.block_lt_of_cell? w _ hw251_0)).trans hw251_0)⟩ (fun hHeld=>?_)
           clear hK K
           refine norm_ (a':=?_) ?_ ?_
           rotate_left
           ·
            show Act.put _ (some 40) _ = _
            simp only [Act.put,qqj,qqk,qql,i64_w,i32_w]
            rfl
           refine one_ (i:=8) (N:=some 41) (qqz 16 15871) rfl rfl (one_of HT_.out (by kernel_rfl)) (by decide) (fun K hK=>?_)
           have hcv14:=own_string (P:=Try.prog) Try.underlying82 Try.underlying5 Try.underlying9 (Kd.own_of_R HO250.out)
           refine value_ (w1:=?_) (v:=?_) (by rfl) rfl ?_ ?_
           rotate_left 2
           ·
            go_simp
            constructor
            ·
             rfl
            ·
             rfl
           clear hcv14
           refine hK.out _ _ ⟨((HB.out.cell (World.block_lt_of_cell? w _ hw247_0)).trans hw247_0),((HB.out.cell (World.block_lt_of_cell? w _ hw251_0)).trans hw251_0)⟩ (fun hHeld=>?_)
           clear hK K
           refine norm_ (a':=?_) ?_ ?_
           rotate_left
           ·
            show Act.put _ (some 41) _ = _
            simp only [Act.put,qqj,qqk,qql,i64_w,i32_w]
            rfl
           refine pure_ (i:=9) (N:=some 42) (qqz 16 16383) rfl rfl (any_of HT_.out (by kernel_rfl)) (fun _ _ _ h=>h) (Or.inl ⟨by rfl,by intro w';go_simp;with_reducible rfl⟩) (by simp only [Act.put,qqj,qqk,qql,i64_w,i32_w];rfl) ?_
           refine pure_ (i:=14) (N:=some 47) (qqz 16 32767) rfl rfl (any_of HT_.out (by kernel_rfl)) (fun _ _ _ h=>h) (Or.inl ⟨by rfl,by intro w';go_simp;with_reducible rfl⟩) (by simp only [Act.put,qqj,qqk,qql,i64_w,i32_w];rfl) ?_
           refine pure_ (i:=15) (N:=some 5) (qqz 16 65535) rfl rfl (any_of HT_.out (by kernel_rfl)) (fun _ _ _ h=>h) (Or.inl ⟨by rfl,by intro w';go_simp;with_reducible rfl⟩) (by simp only [Act.put,qqj,qqk,qql,i64_w,i32_w];rfl) ?_
           refine done_ (done_of HT_.out (by kernel_rfl)) ?_
           try go_wp2
           go_ret2
           exact ⟨by first|rfl|(simp [errW_none,errW_some] <;> rfl)|(simp [*,errW_none,errW_some] <;> rfl),by with_reducible repeat first|exact HB.out|apply qqf|apply qqd|apply qqe⟩
          ·
           rw [if_neg c10] at H
           have c10b0:decide (254 < (((x5_2.size:Int) + ((strOfNums y248).size:Int)) + ((rdOf ByteArray.empty l0 x6_2).size:Int))) = false:=decide_eq_false c10
           clear c10
           have H':=qqm H
           clear H
           try go_wp2
           have n0_:=qqm (qqe HB.out)
           clear HB
           have HB:=n0_
           clear n0_
           have p247:0 ≤ (x6_2:Int):=of_decide_eq_true (by first|(with_reducible assumption)|assumption)
           have q247:x6_2 < (l0.length:Int):=of_decide_eq_true (by first|(with_reducible assumption)|assumption)
           obtain ⟨ad247,e247,hx247_0⟩:=Kd.at_string HR0.out x6_2 p247 q247
           have hw247_0:=hx247_0
           cases e247
           replace hx247_0:=qqo HB.out hx247_0
           replace p247:=eq_true p247
           replace q247:=eq_true q247
           have p251:0 ≤ (x6_2:Int):=of_decide_eq_true (by first|(with_reducible assumption)|assumption)
           have q251:x6_2 < (l0.length:Int):=of_decide_eq_true (by first|(with_reducible assumption)|assumption)
           obtain ⟨ad251,e251,hx251_0⟩:=Kd.at_string HR0.out x6_2 p251 q251
           have hw251_0:=hx251_0
           obtain rfl:ad247 = ad251:=(by injection e251)
           replace hx251_0:=qqo HB.out hx251_0
           replace p251:=eq_true p251
           replace q251:=eq_true q251
           refine start_ (n:=16) (S:=fun w'=>w'.cell? (ad247.add (x6_2).toNat) = some (.string (rdOf ByteArray.empty l0 x6_2))∧w'.cell? (ad247.add (x6_2).toNat) = some (.string (rdOf ByteArray.empty l0 x6_2))) (ds:=[]) (qqz 16 0) (by kernel_rfl) rfl rfl ⟨((HB.out.cell (World.block_lt_of_cell? w _ hw247_0)).trans hw247_0),((HB.out.cell (World.block_lt_of_cell? w _ hw251_0)).trans hw251_0)⟩ (fun hHeld=>?_);refine with_tabW nuncioref04_Make.tab10 nuncioref04_Make.bits10 (fun HT_ HW_=>?_)
           generalize wr.drew = w15 at HB hx247_0 hx251_0 hHeld ⊢
           refine pure_ (i:=0) (N:=some 33) (qqz 16 1) rfl rfl (any_of HT_.out (by kernel_rfl)) (fun _ _ _ h=>h) (Or.inl ⟨by rfl,by intro w';go_simp;with_reducible rfl⟩) (by simp only [Act.put,qqj,qqk,qql,i64_w,i32_w];rfl) ?_
           refine pure_ (i:=1) (N:=some 34) (qqz 16 3) rfl rfl (any_of HT_.out (by kernel_rfl)) (fun _ _ _ h=>h) (Or.inl ⟨by rfl,by intro w';go_simp;with_reducible rfl⟩) (by simp only [Act.put,qqj,qqk,qql,i64_w,i32_w];rfl) ?_
           refine pure_ (i:=2) (N:=some 35) (qqz 16 7) rfl rfl (any_of HT_.out (by kernel_rfl)) (fun _ _ _ h=>h) (Or.inl ⟨by rfl,by intro w';go_simp;with_reducible rfl⟩) (by simp only [Act.put,qqj,qqk,qql,i64_w,i32_w];rfl) ?_
           refine pure_ (i:=3) (N:=some 36) (qqz 16 15) rfl rfl (any_of HT_.out (by kernel_rfl)) (fun _ _ _ h=>h) (Or.inl ⟨by rfl,by intro w';go_simp;with_reducible rfl⟩) (by simp only [Act.put,qqj,qqk,qql,i64_w,i32_w];rfl) ?_
           refine pure_ (i:=10) (N:=some 43) (qqz 16 1039) rfl rfl (any_of HT_.out (by kernel_rfl)) (fun _ _ _ h=>h) (Or.inl ⟨by rfl,by intro w';go_simp;with_reducible rfl⟩) (by simp only [Act.put,qqj,qqk,qql,i64_w,i32_w];rfl) ?_
           refine pure_ (i:=11) (N:=some 44) (qqz 16 3087) rfl rfl (any_of HT_.out (by kernel_rfl)) (fun _ _ _ h=>h) (Or.inl ⟨by rfl,by intro w';go_simp;with_reducible rfl⟩) (by simp only [Act.put,qqj,qqk,qql,i64_w,i32_w];rfl) ?_
           refine pure_ (i:=12) (N:=some 45) (qqz 16 7183) rfl rfl (any_of HT_.out (by kernel_rfl)) (fun _ _ _ h=>h) (Or.inl ⟨by rfl,by intro w';go_simp;with_reducible rfl⟩) (by simp only [Act.put,qqj,qqk,qql,i64_w,i32_w];rfl) ?_
           refine take_ (i:=4) (N:=some 37) (qqz 16 7199) rfl rfl (take_ofW HT_.out HW_.out (by kernel_rfl)) (fun _ _ _ h=>h) (Or.inl ⟨by rfl,by rintro w' ⟨s0,s1⟩;go_simp;with_reducible rfl⟩) hHeld (by simp only [Act.put,qqj,qqk,qql,i64_w,i32_w];rfl) ?_
           refine pure_ (i:=5) (N:=some 38) (qqz 16 7231) rfl rfl (any_of HT_.out (by kernel_rfl)) (fun _ _ _ h=>h) (Or.inl ⟨by rfl,by intro w';go_simp;with_reducible rfl⟩) (by simp only [Act.put,qqj,qqk,qql,i64_w,i32_w];rfl) ?_
           refine pure_ (i:=6) (N:=some 39) (qqz 16 7295) rfl rfl (any_of HT_.out (by kernel_rfl)) (fun _ _ _ h=>h) (Or.inl ⟨by rfl,by intro w';go_simp;with_reducible rfl⟩) (by simp only [Act.put,qqj,qqk,qql,i64_w,i32_w];rfl) ?_
           refine take_ (i:=13) (N:=some 46) (qqz 16 15487) rfl rfl (take_ofW HT_.out HW_.out (by kernel_rfl)) (fun _ _ _ h=>h) (Or.inl ⟨by rfl,by rintro w' ⟨s0,s1⟩;go_simp;with_reducible rfl⟩) hHeld (by simp only [Act.put,qqj,qqk,qql,i64_w,i32_w];rfl) ?_
           refine one_ (i:=7) (N:=some 40) (qqz 16 15615) rfl rfl (one_of HT_.out (by kernel_rfl)) (by decide) (fun K hK=>?_)
           refine Kd.R_lit_step (Kd.int .u8) _ 5 ?hg (N:=40) ?hd (xs:=([(((rdOf ByteArray.empty l0 x6_2).size:Int)) % 256]:List Int)) (inner:=[.int .u8 ((((rdOf ByteArray.empty l0 x6_2).size:Int)) % 256)]) (ok:=fun _=>True) (okp:=fun _=>True) ?hr ?hp (fun _ hk=>hk) trivial (Below.refl _ _) (Nat.le_refl _) (by simp) ?_;(case hd=>rfl);(case hg=>rfl);(case hr=>first|(go_simp;done)|(go_simp;rfl));(case hp=>exact (Reps.one (show Kd.M (Kd.int .u8) _ _ _ ((((rdOf ByteArray.empty l0 x6_2).size:Int)) % 256) [.int .u8 ((((rdOf ByteArray.empty l0 x6_2).size:Int)) % 256)] from rfl) (Reps.none _ _)))
           intro v249 w16 ho17 hb hg_ hnew_
           clear hg_ hnew_
           (first|rw [← Ny248.out] at ho17|(simp only [Int.reduceToNat] at ho17;rw [← Ny248.out] at ho17))
           have n0_:=qqm (Kd.R_lower ho17 (below_size (by with_reducible repeat first|exact HB.out|apply qqf|apply qqd|apply qqe)))
           have n1_:=qqm (below_step (by with_reducible repeat first|exact HB.out|apply qqf|apply qqd|apply qqe) hb)
           clear HB
           have HO250:=n0_
           have HB:=n1_
           clear n0_ n1_
           clear hb ho17
           refine hK.out _ _ ⟨((HB.out.cell (World.block_lt_of_cell? w _ hw247_0)).trans hw247_0),((HB.out.cell (World.block_lt_of_cell? w _ hw251_0)).trans hw251_0)⟩ (fun hHeld=>?_)
           clear hK K
           refine norm_ (a':=?_) ?_ ?_
           rotate_left
           ·
            show Act.put _ (some 40) _ = _
            simp only [Act.put,qqj,qqk,qql,i64_w,i32_w]
            rfl
           refine one_ (i:=8) (N:=some 41) (qqz 16 15871) rfl rfl (one_of HT_.out (by kernel_rfl)) (by decide) (fun K hK=>?_)
           have hcv18:=own_string (P:=Try.prog) Try.underlying82 Try.underlying5 Try.underlying9 (Kd.own_of_R HO250.out)
           refine value_ (w1:=?_) (v:=?_) (by rfl) rfl ?_ ?_
           rotate_left 2
           ·
            go_simp
            constructor
            ·
             rfl
            ·
             rfl
           clear hcv18
           refine hK.out _ _ ⟨((HB.out.cell (World.block_lt_of_cell? w _ hw247_0)).trans hw247_0),((HB.out.cell (World.block_lt_of_cell? w _ hw251_0)).trans hw251_0)⟩ (fun hHeld=>?_)
           clear hK K
           refine norm_ (a':=?_) ?_ ?_
           rotate_left
           ·
            show Act.put _ (some 41) _ = _
            simp only [Act.put,qqj,qqk,qql,i64_w,i32_w]
            rfl
           refine pure_ (i:=9) (N:=some 42) (qqz 16 16383) rfl rfl (any_of HT_.out (by kernel_rfl)) (fun _ _ _ h=>h) (Or.inl ⟨by rfl,by intro w';go_simp;with_reducible rfl⟩) (by simp only [Act.put,qqj,qqk,qql,i64_w,i32_w];rfl) ?_
           refine pure_ (i:=14) (N:=some 47) (qqz 16 32767) rfl rfl (any_of HT_.out (by kernel_rfl)) (fun _ _ _ h=>h) (Or.inl ⟨by rfl,by intro w';go_simp;with_reducible rfl⟩) (by simp only [Act.put,qqj,qqk,qql,i64_w,i32_w];rfl) ?_
           refine pure_ (i:=15) (N:=some 5) (qqz 16 65535) rfl rfl (any_of HT_.out (by kernel_rfl)) (fun _ _ _ h=>h) (Or.inl ⟨by rfl,by intro w';go_simp;with_reducible rfl⟩) (by simp only [Act.put,qqj,qqk,qql,i64_w,i32_w];rfl) ?_
           refine done_ (done_of HT_.out (by kernel_rfl)) ?_
           try go_wp2
           go_roundg k2
           case measure=>have:=HK1.out;have:=HK2.out;omega
           case rel=>exact ⟨((x5_2 ++ (strOfNums y248)) ++ (rdOf ByteArray.empty l0 x6_2)),(wrap64 (x6_2 + 1)),(by first|rfl|(simp;done)|(simp [*];done)),(by first|rfl|(simp;done)|(simp [*];done)),H',⟨by have:=HK1.out;have:=HK2.out;omega⟩,⟨by with_reducible repeat first|exact HB.out|apply qqf|apply qqd|apply qqe⟩⟩
         ·
          rw [if_neg c9] at H
          exact absurd H (by simp)
        ·
         rw [if_neg c8] at H
         exact absurd H (by simp)
       ·
        rw [if_neg c7] at H
        exact absurd H (by simp)
      ·
       rw [if_neg c6] at H
       have c6b0:decide (x6_2 < (l0.length:Int)) = false:=decide_eq_false c6
       clear c6
       by_cases c19:x5_2.size + 1 ≤ 9223372036854775807
       ·
        rw [if_pos c19] at H
        have c19b0:=eq_true c19
        have c19b1:decide (x5_2.size + 1 ≤ 9223372036854775807) = true:=decide_eq_true c19
        try have c19b2:(9223372036854775807 < x5_2.size + 1) = False:=eq_false (Nat.not_lt.2 c19)
        simp only [Option.some.injEq,Prod.mk.injEq] at H
        obtain ⟨rfl,rfl⟩:=H
        go_wp2
        go_ret2
        exact ⟨by first|rfl|(simp [errW_none,errW_some] <;> rfl)|(simp [*,errW_none,errW_some] <;> rfl),by with_reducible repeat first|exact HB.out|apply qqf|apply qqd|apply qqe⟩
       ·
        rw [if_neg c19] at H
        exact absurd H (by simp)

end Go.Proofs.Ythkdfnbhlinhiaa.Mine
