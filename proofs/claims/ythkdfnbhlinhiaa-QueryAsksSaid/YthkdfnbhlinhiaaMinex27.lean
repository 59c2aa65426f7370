-- Written by this repo's own printer (wip/print), which builds on the kit's.
import Derived.Test.YthkdfnbhlinhiaaMinex0
import Derived.Test.YthkdfnbhlinhiaaMinex26
namespace Go.Proofs.Ythkdfnbhlinhiaa.Mine
open Go.RowKit Go.Proofs.YthkdfnbhlinhiaaW.PrintWords Go.Proofs.YthkdfnbhlinhiaaW.PrintLast Go.Proofs.YthkdfnbhlinhiaaW.PrintMore
attribute [local go_sem] max2_int min2_int max_two min_two max_three min_three max_four min_four   -- for this text's walks alone
set_option linter.unusedVariables false
set_option linter.unusedSimpArgs false

/-! ### nuncioref06_records: function 39 -/
def nuncioref06_records.l0 : Nat → List (S51) → List (S51) → Int → Option (Bool)
 | 0, _, _, _ => none
 | k + 1, x0, x1, x5 => if x5 < (x0.length : Int) then (if 0 ≤ x5 then (if x5 < (x1.length : Int) then ((nuncioref05_Same.f k ((rd_T51 x0 x5).f0) ((rd_T51 x0 x5).f1) ((rd_T51 x0 x5).f2) ((rd_T51 x0 x5).f3) ((rd_T51 x0 x5).f4) ((rd_T51 x0 x5).f5) ((rd_T51 x0 x5).f6) ((rd_T51 x1 x5).f0) ((rd_T51 x1 x5).f1) ((rd_T51 x1 x5).f2) ((rd_T51 x1 x5).f3) ((rd_T51 x1 x5).f4) ((rd_T51 x1 x5).f5) ((rd_T51 x1 x5).f6)).bind fun t295 => (if t295 = true then (nuncioref06_records.l0 k x0 x1 (wrap64 (x5 + 1))) else (some false))) else (none)) else (none)) else (some true)
def nuncioref06_records.f (k : Nat) (l0 : List (S51)) (l1 : List (S51)) : Option (Bool) := if (l0.length : Int) = (l1.length : Int) then (nuncioref06_records.l0 k l0 l1 0) else (some false)
theorem nuncioref06_records.mono_l : ∀ k, (∀ y0 y1 y2, LeO (nuncioref06_records.l0 k y0 y1 y2) (nuncioref06_records.l0 (k + 1) y0 y1 y2))
 | 0 => fun _ _ _ r h => by simp [nuncioref06_records.l0] at h
 | k + 1 => by
  have ih0:=nuncioref06_records.mono_l k
  ·
   intro y0 y1 y2
   unfold nuncioref06_records.l0
   repeat' first
   | (with_reducible exact ih0 _ _ _)
   | (with_reducible exact nuncioref05_Same.mono _ _ _ _ _ _ _ _ _ _ _ _ _ _ _)
   | (with_reducible exact LeO.refl _)
   | (with_reducible exact LeO.none _)
   | (with_reducible refine LeO.ite ?_ ?_)
   | (with_reducible refine LeO.bind ?_ (fun _ => ?_))
   | exact ih0 _ _ _
   | exact nuncioref05_Same.mono _ _ _ _ _ _ _ _ _ _ _ _ _ _ _
   | exact LeO.none _
   | refine LeO.ite ?_ ?_
   | refine LeO.bind ?_ (fun _ => ?_)
theorem nuncioref06_records.mono : ∀ a0 a1 k, LeO (nuncioref06_records.f k a0 a1) (nuncioref06_records.f (k + 1) a0 a1) := by
 intro a0 a1 k
 have ih0:=nuncioref06_records.mono_l k
 unfold nuncioref06_records.f
 repeat' first
   | (with_reducible exact ih0 _ _ _)
   | (with_reducible exact nuncioref05_Same.mono _ _ _ _ _ _ _ _ _ _ _ _ _ _ _)
   | (with_reducible exact LeO.refl _)
   | (with_reducible exact LeO.none _)
   | (with_reducible refine LeO.ite ?_ ?_)
   | (with_reducible refine LeO.bind ?_ (fun _ => ?_))
   | exact ih0 _ _ _
   | exact nuncioref05_Same.mono _ _ _ _ _ _ _ _ _ _ _ _ _ _ _
   | exact LeO.none _
   | refine LeO.ite ?_ ?_
   | refine LeO.bind ?_ (fun _ => ?_)
def nuncioref06_records.T6 : Bool × List (List Nat × List Nat) := (true, [([], []), ([], []), ([0, 1], [0, 1]), ([2], [2]), ([], []), ([], []), ([4, 5], [4, 5]), ([6], [6]), ([3, 7], [3, 7]), ([8], [8])])
def nuncioref06_records.B6 : List Nat := [0, 0, 3, 7, 0, 0, 48, 112, 255, 511]
theorem nuncioref06_records.tab6 : rtab .any (opsOf Try.f39 6) = nuncioref06_records.T6 := by kernel_rfl
theorem nuncioref06_records.bits6 : waitsOk nuncioref06_records.T6.2 nuncioref06_records.B6 = true := by kernel_rfl
set_option maxHeartbeats 8000000 in
set_option maxRecDepth 100000 in
theorem nuncioref06_records.calls (k : Nat) (A0 : Option Addr) (c0 : Nat) (l0 : List (S51)) (A1 : Option Addr) (c1 : Nat) (l1 : List (S51)) (r : Bool) (w : World) (hr0 : Kd.C k51 w A0 l0.length l0) (hc0 : l0.length ≤ c0) (hr1 : Kd.C k51 w A1 l1.length l1) (hc1 : l1.length ≤ c1) (h : nuncioref06_records.f k l0 l1 = some r) :
  Calls Try.prog 39 #[.slice A0 l0.length c0,.slice A1 l1.length c1] w fun e w'=>e = .returned (.bool r)∧Below w.heap.size w w':=by
 have hu51:=Try.underlying51
 have HR0:=qqm hr0
 have HC0:=qqm hc0
 clear hr0 hc0
 have HR1:=qqm hr1
 have HC1:=qqm hc1
 clear hr1 hc1
 have HB:=qqm (Below.refl w.heap.size w)
 have H:(if (l0.length:Int) = (l1.length:Int) then (nuncioref06_records.l0 k l0 l1 0) else (some false)) = some r:=h
 clear h
 by_cases c3:(l0.length:Int) = (l1.length:Int)
 rotate_left
 ·
  rw [if_neg c3] at H
  have c3b0:((l0.length:Int) == (l1.length:Int)) = false:=beq_eq_false_iff_ne.mpr c3
  have c3b1:((l0.length:Int) != (l1.length:Int)) = true:=bne_iff_ne.mpr c3
  have c3b2:(l0.length == l1.length) = false:=by first|simpa using c3|(simp at c3 ⊢;omega)
  obtain rfl:=Option.some.inj H
  go_enter Try.func39,Try.ntmps39
  go_wp2
  go_ret
  exact ⟨by first|rfl|(simp [errW_none,errW_some] <;> rfl)|(simp [*,errW_none,errW_some] <;> rfl),by with_reducible repeat first|exact HB.out|apply qqf|apply qqd|apply qqe⟩
 rw [if_pos c3] at H
 have c3b0:((l0.length:Int) == (l1.length:Int)) = true:=beq_iff_eq.mpr c3
 have c3b1:((l0.length:Int) != (l1.length:Int)) = false:=bne_eq_false_iff_eq.mpr c3
 have c3b2:(l0.length == l1.length) = true:=by first|simpa using c3|(simp at c3 ⊢;omega)
 clear c3
 have H':=qqm H
 clear H
 go_enter Try.func39,Try.ntmps39
 go_wp2
 go_loopg [5] k (fun kq v5 w'=>∃ (x5_1:Int),v5 = .int .i64 x5_1∧Aside0 (nuncioref06_records.l0 kq l0 l1 x5_1 = some r)∧Aside0 (kq ≤ k)∧Aside0 (Below w.heap.size w w'))
 case atStart=>exact ⟨(0),(by first|rfl|(simp;done)|(simp [*];done)),H',⟨Nat.le_refl _⟩,⟨by with_reducible repeat first|exact HB.out|apply qqf|apply qqd|apply qqe⟩⟩
 case round =>
  clear H'
  try clear c1
  try clear p2
  try clear c3
  try clear c3b0
  try clear c3b1
  try clear c3b2
  obtain ⟨x5_1,rfl,HA,HK1,HB⟩:=hrel
  cases gk with
  | zero => exact absurd HA.out (by simp [nuncioref06_records.l0])
  | succ k1 =>
   have H:=HA.out
   clear HA
   simp only [nuncioref06_records.l0] at H
   by_cases c4:x5_1 < (l0.length:Int)
   ·
    rw [if_pos c4] at H
    have c4b0:decide (x5_1 < (l0.length:Int)) = true:=decide_eq_true c4
    clear c4
    by_cases c5:0 ≤ x5_1
    ·
     rw [if_pos c5] at H
     have c5b0:decide (0 ≤ x5_1) = true:=decide_eq_true c5
     clear c5
     by_cases c6:x5_1 < (l1.length:Int)
     ·
      rw [if_pos c6] at H
      have c6b0:decide (x5_1 < (l1.length:Int)) = true:=decide_eq_true c6
      clear c6
      replace H:=Option.bind_eq_some_iff.mp H
      obtain ⟨t295,A70,H⟩:=H
      replace H:(if t295 = true then (nuncioref06_records.l0 k1 l0 l1 (wrap64 (x5_1 + 1))) else (some false)) = some r:=H
      have A7:=qqm A70
      clear A70
      by_cases c8:t295 = true
      ·
       subst c8
       have H1:(nuncioref06_records.l0 k1 l0 l1 (wrap64 (x5_1 + 1))) = some r:=by rw [if_pos rfl] at H;exact H
       clear H
       have H:=H1
       clear H1
       have H':=qqm H
       clear H
       try go_wp2
       have n0_:=qqm (qqe HB.out)
       clear HB
       have HB:=n0_
       clear n0_
       have p293:0 ≤ (x5_1:Int):=of_decide_eq_true (by first|(with_reducible assumption)|assumption)
       have q293:x5_1 < (l0.length:Int):=of_decide_eq_true (by first|(with_reducible assumption)|assumption)
       obtain ⟨ad293,A293_4,c293_4,A293_5,c293_5,A293_6,c293_6,e293,hx293_0,hx293_1,hx293_2,hx293_3,hx293_4,hx293_5,hx293_6,hl293_4,hi293_4,hl293_5,hi293_5,hl293_6,hi293_6⟩:=at_T51 HR0.out x5_1 p293 q293
       have hw293_6:=hx293_6
       have hw293_5:=hx293_5
       have hw293_4:=hx293_4
       have hw293_3:=hx293_3
       have hw293_2:=hx293_2
       have hw293_1:=hx293_1
       have hw293_0:=hx293_0
       cases e293
       replace hx293_0:=qqo HB.out hx293_0
       replace hx293_1:=qqo HB.out hx293_1
       replace hx293_2:=qqo HB.out hx293_2
       replace hx293_3:=qqo HB.out hx293_3
       replace hx293_4:=qqo HB.out hx293_4
       replace hx293_5:=qqo HB.out hx293_5
       replace hx293_6:=qqo HB.out hx293_6
       have HR293_4:=qqm hi293_4
       have HC293_4:=qqm hl293_4
       clear hi293_4 hl293_4
       have HR293_5:=qqm hi293_5
       have HC293_5:=qqm hl293_5
       clear hi293_5 hl293_5
       have HR293_6:=qqm hi293_6
       have HC293_6:=qqm hl293_6
       clear hi293_6 hl293_6
       replace p293:=eq_true p293
       replace q293:=eq_true q293
       have p294:0 ≤ (x5_1:Int):=of_decide_eq_true (by first|(with_reducible assumption)|assumption)
       have q294:x5_1 < (l1.length:Int):=of_decide_eq_true (by first|(with_reducible assumption)|assumption)
       obtain ⟨ad294,A294_4,c294_4,A294_5,c294_5,A294_6,c294_6,e294,hx294_0,hx294_1,hx294_2,hx294_3,hx294_4,hx294_5,hx294_6,hl294_4,hi294_4,hl294_5,hi294_5,hl294_6,hi294_6⟩:=at_T51 HR1.out x5_1 p294 q294
       have hw294_6:=hx294_6
       have hw294_5:=hx294_5
       have hw294_4:=hx294_4
       have hw294_3:=hx294_3
       have hw294_2:=hx294_2
       have hw294_1:=hx294_1
       have hw294_0:=hx294_0
       cases e294
       replace hx294_0:=qqo HB.out hx294_0
       replace hx294_1:=qqo HB.out hx294_1
       replace hx294_2:=qqo HB.out hx294_2
       replace hx294_3:=qqo HB.out hx294_3
       replace hx294_4:=qqo HB.out hx294_4
       replace hx294_5:=qqo HB.out hx294_5
       replace hx294_6:=qqo HB.out hx294_6
       have HR294_4:=qqm hi294_4
       have HC294_4:=qqm hl294_4
       clear hi294_4 hl294_4
       have HR294_5:=qqm hi294_5
       have HC294_5:=qqm hl294_5
       clear hi294_5 hl294_5
       have HR294_6:=qqm hi294_6
       have HC294_6:=qqm hl294_6
       clear hi294_6 hl294_6
       replace p294:=eq_true p294
       replace q294:=eq_true q294
       refine start_ (n:=10) (S:=fun w'=>w'.cell? (ad293.add ((x5_1).toNat * 7)) = some (.string ((rd_T51 l0 x5_1).f0))∧w'.cell? ⟨(ad293.add ((x5_1).toNat * 7)).block,(ad293.add ((x5_1).toNat * 7)).off + 1,none⟩ = some (.int .u16 ((rd_T51 l0 x5_1).f1))∧w'.cell? ⟨(ad293.add ((x5_1).toNat * 7)).block,(ad293.add ((x5_1).toNat * 7)).off + 2,none⟩ = some (.int .u16 ((rd_T51 l0 x5_1).f2))∧w'.cell? ⟨(ad293.add ((x5_1).toNat * 7)).block,(ad293.add ((x5_1).toNat * 7)).off + 3,none⟩ = some (.int .u32 ((rd_T51 l0 x5_1).f3))∧w'.cell? ⟨(ad293.add ((x5_1).toNat * 7)).block,(ad293.add ((x5_1).toNat * 7)).off + 4,none⟩ = some (.slice A293_4 ((rd_T51 l0 x5_1).f4).length c293_4)∧w'.cell? ⟨(ad293.add ((x5_1).toNat * 7)).block,(ad293.add ((x5_1).toNat * 7)).off + 5,none⟩ = some (.slice A293_5 ((rd_T51 l0 x5_1).f5).length c293_5)∧w'.cell? ⟨(ad293.add ((x5_1).toNat * 7)).block,(ad293.add ((x5_1).toNat * 7)).off + 6,none⟩ = some (.slice A293_6 ((rd_T51 l0 x5_1).f6).length c293_6)∧w'.cell? (ad294.add ((x5_1).toNat * 7)) = some (.string ((rd_T51 l1 x5_1).f0))∧w'.cell? ⟨(ad294.add ((x5_1).toNat * 7)).block,(ad294.add ((x5_1).toNat * 7)).off + 1,none⟩ = some (.int .u16 ((rd_T51 l1 x5_1).f1))∧w'.cell? ⟨(ad294.add ((x5_1).toNat * 7)).block,(ad294.add ((x5_1).toNat * 7)).off + 2,none⟩ = some (.int .u16 ((rd_T51 l1 x5_1).f2))∧w'.cell? ⟨(ad294.add ((x5_1).toNat * 7)).block,(ad294.add ((x5_1).toNat * 7)).off + 3,none⟩ = some (.int .u32 ((rd_T51 l1 x5_1).f3))∧w'.cell? ⟨(ad294.add ((x5_1).toNat * 7)).block,(ad294.add ((x5_1).toNat * 7)).off + 4,none⟩ = some (.slice A294_4 ((rd_T51 l1 x5_1).f4).length c294_4)∧w'.cell? ⟨(ad294.add ((x5_1).toNat * 7)).block,(ad294.add ((x5_1).toNat * 7)).off + 5,none⟩ = some (.slice A294_5 ((rd_T51 l1 x5_1).f5).length c294_5)∧w'.cell? ⟨(ad294.add ((x5_1).toNat * 7)).block,(ad294.add ((x5_1).toNat * 7)).off + 6,none⟩ = some (.slice A294_6 ((rd_T51 l1 x5_1).f6).length c294_6)) (ds:=[]) (qqz 10 0) (by kernel_rfl) rfl rfl ⟨((HB.out.cell (World.block_lt_of_cell? w _ hw293_0)).trans hw293_0),((HB.out.cell (World.block_lt_of_cell? w _ hw293_1)).trans hw293_1),((HB.out.cell (World.block_lt_of_cell? w _ hw293_2)).trans hw293_2),((HB.out.cell (World.block_lt_of_cell? w _ hw293_3)).trans hw293_3),((HB.out.cell (World.block_lt_of_cell? w _ hw293_4)).trans hw293_4),((HB.out.cell (World.block_lt_of_cell? w _ hw293_5)).trans hw293_5),((HB.out.cell (World.block_lt_of_cell? w _ hw293_6)).trans hw293_6),((HB.out.cell (World.block_lt_of_cell? w _ hw294_0)).trans hw294_0),((HB.out.cell (World.block_lt_of_cell? w _ hw294_1)).trans hw294_1),((HB.out.cell (World.block_lt_of_cell? w _ hw294_2)).trans hw294_2),((HB.out.cell (World.block_lt_of_cell? w _ hw294_3)).trans hw294_3),((HB.out.cell (World.block_lt_of_cell? w _ hw294_4)).trans hw294_4),((HB.out.cell (World.block_lt_of_cell? w _ hw294_5)).trans hw294_5),((HB.out.cell (World.block_lt_of_cell? w _ hw294_6)).trans hw294_6)⟩ (fun hHeld=>?_);refine with_tabW nuncioref06_records.tab6 nuncioref06_records.bits6 (fun HT_ HW_=>?_)
       generalize wr.drew = w9 at HB HR293_4 HR293_5 HR293_6 HR294_4 HR294_5 HR294_6 hx293_0 hx293_1 hx293_2 hx293_3 hx293_4 hx293_5 hx293_6 hx294_0 hx294_1 hx294_2 hx294_3 hx294_4 hx294_5 hx294_6 hHeld ⊢
       refine pure_ (i:=0) (N:=some 17) (qqz 10 1) rfl rfl (any_of HT_.out (by kernel_rfl)) (fun _ _ _ h=>h) (Or.inl ⟨by rfl,by intro w';go_simp;with_reducible rfl⟩) (by simp only [Act.put,qqj,qqk,qql,i64_w,i32_w];rfl) ?_
       refine pure_ (i:=1) (N:=some 18) (qqz 10 3) rfl rfl (any_of HT_.out (by kernel_rfl)) (fun _ _ _ h=>h) (Or.inl ⟨by rfl,by intro w';go_simp;with_reducible rfl⟩) (by simp only [Act.put,qqj,qqk,qql,i64_w,i32_w];rfl) ?_
       refine pure_ (i:=2) (N:=some 19) (qqz 10 7) rfl rfl (any_of HT_.out (by kernel_rfl)) (fun _ _ _ h=>h) (Or.inl ⟨by rfl,by intro w';go_simp;with_reducible rfl⟩) (by simp only [Act.put,qqj,qqk,qql,i64_w,i32_w];rfl) ?_
       refine pure_ (i:=4) (N:=some 21) (qqz 10 23) rfl rfl (any_of HT_.out (by kernel_rfl)) (fun _ _ _ h=>h) (Or.inl ⟨by rfl,by intro w';go_simp;with_reducible rfl⟩) (by simp only [Act.put,qqj,qqk,qql,i64_w,i32_w];rfl) ?_
       refine pure_ (i:=5) (N:=some 22) (qqz 10 55) rfl rfl (any_of HT_.out (by kernel_rfl)) (fun _ _ _ h=>h) (Or.inl ⟨by rfl,by intro w';go_simp;with_reducible rfl⟩) (by simp only [Act.put,qqj,qqk,qql,i64_w,i32_w];rfl) ?_
       refine pure_ (i:=6) (N:=some 23) (qqz 10 119) rfl rfl (any_of HT_.out (by kernel_rfl)) (fun _ _ _ h=>h) (Or.inl ⟨by rfl,by intro w';go_simp;with_reducible rfl⟩) (by simp only [Act.put,qqj,qqk,qql,i64_w,i32_w];rfl) ?_
       refine take_ (i:=3) (N:=some 20) (qqz 10 127) rfl rfl (take_ofW HT_.out HW_.out (by kernel_rfl)) (fun _ _ _ h=>h) (Or.inl ⟨by rfl,by rintro w' ⟨s0,s1,s2,s3,s4,s5,s6,s7,s8,s9,s10,s11,s12,s13⟩;go_simp;with_reducible rfl⟩) hHeld (by simp only [Act.put,qqj,qqk,qql,i64_w,i32_w];rfl) ?_
       refine take_ (i:=7) (N:=some 24) (qqz 10 255) rfl rfl (take_ofW HT_.out HW_.out (by kernel_rfl)) (fun _ _ _ h=>h) (Or.inl ⟨by rfl,by rintro w' ⟨s0,s1,s2,s3,s4,s5,s6,s7,s8,s9,s10,s11,s12,s13⟩;go_simp;with_reducible rfl⟩) hHeld (by simp only [Act.put,qqj,qqk,qql,i64_w,i32_w];rfl) ?_
       refine one_ (i:=8) (N:=some 25) (qqz 10 511) rfl rfl (one_of HT_.out (by kernel_rfl)) (by decide) (fun K hK=>?_)
       refine goes_ Try.func53 (by kernel_rfl) rfl #[.agg #[.string ((rd_T51 l0 x5_1).f0),.int .u16 ((rd_T51 l0 x5_1).f1),.int .u16 ((rd_T51 l0 x5_1).f2),.int .u32 ((rd_T51 l0 x5_1).f3),.slice A293_4 ((rd_T51 l0 x5_1).f4).length c293_4,.slice A293_5 ((rd_T51 l0 x5_1).f5).length c293_5,.slice A293_6 ((rd_T51 l0 x5_1).f6).length c293_6],.agg #[.string ((rd_T51 l1 x5_1).f0),.int .u16 ((rd_T51 l1 x5_1).f1),.int .u16 ((rd_T51 l1 x5_1).f2),.int .u32 ((rd_T51 l1 x5_1).f3),.slice A294_4 ((rd_T51 l1 x5_1).f4).length c294_4,.slice A294_5 ((rd_T51 l1 x5_1).f5).length c294_5,.slice A294_6 ((rd_T51 l1 x5_1).f6).length c294_6]] (by rfl) rfl rfl (by (try simp only [List.map_toArray,List.map_cons,List.map_nil]);first|done|rfl|(simp only [List.length_drop,List.length_take];rfl)) ?_
       with_reducible refine (nuncioref05_Same.calls k1 ((rd_T51 l0 x5_1).f0) ((rd_T51 l0 x5_1).f1) ((rd_T51 l0 x5_1).f2) ((rd_T51 l0 x5_1).f3) _ _ ((rd_T51 l0 x5_1).f4) _ _ ((rd_T51 l0 x5_1).f5) _ _ ((rd_T51 l0 x5_1).f6) ((rd_T51 l1 x5_1).f0) ((rd_T51 l1 x5_1).f1) ((rd_T51 l1 x5_1).f2) ((rd_T51 l1 x5_1).f3) _ _ ((rd_T51 l1 x5_1).f4) _ _ ((rd_T51 l1 x5_1).f5) _ _ ((rd_T51 l1 x5_1).f6) true _ ?side1 ?side2 ?side3 ?side4 ?side5 ?side6 ?side7 ?side8 ?side9 ?side10 ?side11 ?side12 A7.out).mono ?_
       (case side1=>repeat (first|exact (Kd.C_below HR293_4.out HB.out)|(with_reducible first|apply Kd.C_alloc|apply Kd.C_drewN|apply Kd.C_drew)))
       (case side2=>exact HC293_4.out)
       (case side3=>repeat (first|exact (Kd.C_below HR293_5.out HB.out)|(with_reducible first|apply Kd.C_alloc|apply Kd.C_drewN|apply Kd.C_drew)))
       (case side4=>exact HC293_5.out)
       (case side5=>repeat (first|exact (Kd.C_below HR293_6.out HB.out)|(with_reducible first|apply Kd.C_alloc|apply Kd.C_drewN|apply Kd.C_drew)))
       (case side6=>exact HC293_6.out)
       (case side7=>repeat (first|exact (Kd.C_below HR294_4.out HB.out)|(with_reducible first|apply Kd.C_alloc|apply Kd.C_drewN|apply Kd.C_drew)))
       (case side8=>exact HC294_4.out)
       (case side9=>repeat (first|exact (Kd.C_below HR294_5.out HB.out)|(with_reducible first|apply Kd.C_alloc|apply Kd.C_drewN|apply Kd.C_drew)))
       (case side10=>exact HC294_5.out)
       (case side11=>repeat (first|exact (Kd.C_below HR294_6.out HB.out)|(with_reducible first|apply Kd.C_alloc|apply Kd.C_drewN|apply Kd.C_drew)))
       (case side12=>exact HC294_6.out)
       rintro e w10 ⟨rfl,hb⟩
       refine ⟨_,rfl,?_⟩
       have n0_:=qqm (below_step (by with_reducible repeat first|exact HB.out|apply qqf|apply qqd|apply qqe) hb)
       clear HB
       have HB:=n0_
       clear n0_
       (try clear hb)
       (try clear hb2)
       (try clear hk)
       (try clear hi)
       refine hK.out _ _ ⟨((HB.out.cell (World.block_lt_of_cell? w _ hw293_0)).trans hw293_0),((HB.out.cell (World.block_lt_of_cell? w _ hw293_1)).trans hw293_1),((HB.out.cell (World.block_lt_of_cell? w _ hw293_2)).trans hw293_2),((HB.out.cell (World.block_lt_of_cell? w _ hw293_3)).trans hw293_3),((HB.out.cell (World.block_lt_of_cell? w _ hw293_4)).trans hw293_4),((HB.out.cell (World.block_lt_of_cell? w _ hw293_5)).trans hw293_5),((HB.out.cell (World.block_lt_of_cell? w _ hw293_6)).trans hw293_6),((HB.out.cell (World.block_lt_of_cell? w _ hw294_0)).trans hw294_0),((HB.out.cell (World.block_lt_of_cell? w _ hw294_1)).trans hw294_1),((HB.out.cell (World.block_lt_of_cell? w _ hw294_2)).trans hw294_2),((HB.out.cell (World.block_lt_of_cell? w _ hw294_3)).trans hw294_3),((HB.out.cell (World.block_lt_of_cell? w _ hw294_4)).trans hw294_4),((HB.out.cell (World.block_lt_of_cell? w _ hw294_5)).trans hw294_5),((HB.out.cell (World.block_lt_of_cell? w _ hw294_6)).trans hw294_6)⟩ (fun hHeld=>?_)
       clear hK K
       refine norm_ (a':=?_) ?_ ?_
       rotate_left
       ·
        show Act.put _ (some 25) _ = _
        simp only [Act.put,qqj,qqk,qql,i64_w,i32_w]
        rfl
       refine pure_ (i:=9) (N:=some 26) (qqz 10 1023) rfl rfl (any_of HT_.out (by kernel_rfl)) (fun _ _ _ h=>h) (Or.inl ⟨by rfl,by intro w';go_simp;with_reducible rfl⟩) (by simp only [Act.put,qqj,qqk,qql,i64_w,i32_w];rfl) ?_
       refine done_ (done_of HT_.out (by kernel_rfl)) ?_
       try go_wp2
       go_roundg k1
       case measure=>have:=HK1.out;omega
       case rel=>exact ⟨(wrap64 (x5_1 + 1)),(by first|rfl|(simp;done)|(simp [*];done)),H',⟨by have:=HK1.out;omega⟩,⟨by with_reducible repeat first|exact HB.out|apply qqf|apply qqd|apply qqe⟩⟩
      ·
       replace c8:=Bool.eq_false_iff.mpr c8
       subst c8
       have H1:(some false) = some r:=by rw [if_neg (show ¬ (false = true) by decide)] at H;exact H
       clear H
       have H:=H1
       clear H1
       obtain rfl:=Option.some.inj H
       try go_wp2
       have n0_:=qqm (qqe HB.out)
       clear HB
       have HB:=n0_
       clear n0_
       have p293:0 ≤ (x5_1:Int):=of_decide_eq_true (by first|(with_reducible assumption)|assumption)
       have q293:x5_1 < (l0.length:Int):=of_decide_eq_true (by first|(with_reducible assumption)|assumption)
       obtain ⟨ad293,A293_4,c293_4,A293_5,c293_5,A293_6,c293_6,e293,hx293_0,hx293_1,hx293_2,hx293_3,hx293_4,hx293_5,hx293_6,hl293_4,hi293_4,hl293_5,hi293_5,hl293_6,hi293_6⟩:=at_T51 HR0.out x5_1 p293 q293
       have hw293_6:=hx293_6
       have hw293_5:=hx293_5
       have hw293_4:=hx293_4
       have hw293_3:=hx293_3
       have hw293_2:=hx293_2
       have hw293_1:=hx293_1
       have hw293_0:=hx293_0
       cases e293
       replace hx293_0:=qqo HB.out hx293_0
       replace hx293_1:=qqo HB.out hx293_1
       replace hx293_2:=qqo HB.out hx293_2
       replace hx293_3:=qqo HB.out hx293_3
       replace hx293_4:=qqo HB.out hx293_4
       replace hx293_5:=qqo HB.out hx293_5
       replace hx293_6:=qqo HB.out hx293_6
       have HR293_4:=qqm hi293_4
       have HC293_4:=qqm hl293_4
       clear hi293_4 hl293_4
       have HR293_5:=qqm hi293_5
       have HC293_5:=qqm hl293_5
       clear hi293_5 hl293_5
       have HR293_6:=qqm hi293_6
       have HC293_6:=qqm hl293_6
       clear hi293_6 hl293_6
       replace p293:=eq_true p293
       replace q293:=eq_true q293
       have p294:0 ≤ (x5_1:Int):=of_decide_eq_true (by first|(with_reducible assumption)|assumption)
       have q294:x5_1 < (l1.length:Int):=of_decide_eq_true (by first|(with_reducible assumption)|assumption)
       obtain ⟨ad294,A294_4,c294_4,A294_5,c294_5,A294_6,c294_6,e294,hx294_0,hx294_1,hx294_2,hx294_3,hx294_4,hx294_5,hx294_6,hl294_4,hi294_4,hl294_5,hi294_5,hl294_6,hi294_6⟩:=at_T51 HR1.out x5_1 p294 q294
       have hw294_6:=hx294_6
       have hw294_5:=hx294_5
       have hw294_4:=hx294_4
       have hw294_3:=hx294_3
       have hw294_2:=hx294_2
       have hw294_1:=hx294_1
       have hw294_0:=hx294_0
       cases e294
       replace hx294_0:=qqo HB.out hx294_0
       replace hx294_1:=qqo HB.out hx294_1
       replace hx294_2:=qqo HB.out hx294_2
       replace hx294_3:=qqo HB.out hx294_3
       replace hx294_4:=qqo HB.out hx294_4
       replace hx294_5:=qqo HB.out hx294_5
       replace hx294_6:=qqo HB.out hx294_6
       have HR294_4:=qqm hi294_4
       have HC294_4:=qqm hl294_4
       clear hi294_4 hl294_4
       have HR294_5:=qqm hi294_5
       have HC294_5:=qqm hl294_5
       clear hi294_5 hl294_5
       have HR294_6:=qqm hi294_6
       have HC294_6:=qqm hl294_6
       clear hi294_6 hl294_6
       replace p294:=eq_true p294
       replace q294:=eq_true q294
       refine start_ (n:=10) (S:=fun w'=>w'.cell? (ad293.add ((x5_1).toNat * 7)) = some (.string ((rd_T51 l0 x5_1).f0))∧w'.cell? ⟨(ad293.add ((x5_1).toNat * 7)).block,(ad293.add ((x5_1).toNat * 7)).off + 1,none⟩ = some (.int .u16 ((rd_T51 l0 x5_1).f1))∧w'.cell? ⟨(ad293.add ((x5_1).toNat * 7)).block,(ad293.add ((x5_1).toNat * 7)).off + 2,none⟩ = some (.int .u16 ((rd_T51 l0 x5_1).f2))∧w'.cell? ⟨(ad293.add ((x5_1).toNat * 7)).block,(ad293.add ((x5_1).toNat * 7)).off + 3,none⟩ = some (.int .u32 ((rd_T51 l0 x5_1).f3))∧w'.cell? ⟨(ad293.add ((x5_1).toNat * 7)).block,(ad293.add ((x5_1).toNat * 7)).off + 4,none⟩ = some (.slice A293_4 ((rd_T51 l0 x5_1).f4).length c293_4)∧w'.cell? ⟨(ad293.add ((x5_1).toNat * 7)).block,(ad293.add ((x5_1).toNat * 7)).off + 5,none⟩ = some (.slice A293_5 ((rd_T51 l0 x5_1).f5).length c293_5)∧w'.cell? ⟨(ad293.add ((x5_1).toNat * 7)).block,(ad293.add ((x5_1).toNat * 7)).off + 6,none⟩ = some (.slice A293_6 ((rd_T51 l0 x5_1).f6).length c293_6)∧w'.cell? (ad294.add ((x5_1).toNat * 7)) = some (.string ((rd_T51 l1 x5_1).f0))∧w'.cell? ⟨(ad294.add ((x5_1).toNat * 7)).block,(ad294.add ((x5_1).toNat * 7)).off + 1,none⟩ = some (.int .u16 ((rd_T51 l1 x5_1).f1))∧w'.cell? ⟨(ad294.add ((x5_1).toNat * 7)).block,(ad294.add ((x5_1).toNat * 7)).off + 2,none⟩ = some (.int .u16 ((rd_T51 l1 x5_1).f2))∧w'.cell? ⟨(ad294.add ((x5_1).toNat * 7)).block,(ad294.add ((x5_1).toNat * 7)).off + 3,none⟩ = some (.int .u32 ((rd_T51 l1 x5_1).f3))∧w'.cell? ⟨(ad294.add ((x5_1).toNat * 7)).block,(ad294.add ((x5_1).toNat * 7)).off + 4,none⟩ = some (.slice A294_4 ((rd_T51 l1 x5_1).f4).length c294_4)∧w'.cell? ⟨(ad294.add ((x5_1).toNat * 7)).block,(ad294.add ((x5_1).toNat * 7)).off + 5,none⟩ = some (.slice A294_5 ((rd_T51 l1 x5_1).f5).length c294_5)∧w'.cell? ⟨(ad294.add ((x5_1).toNat * 7)).block,(ad294.add ((x5_1).toNat * 7)).off + 6,none⟩ = some (.slice A294_6 ((rd_T51 l1 x5_1).f6).length c294_6)) (ds:=[]) (qqz 10 0) (by kernel_rfl) rfl rfl ⟨((HB.out.cell (World.block_lt_of_cell? w _ hw293_0)).trans hw293_0),((HB.out.cell (World.block_lt_of_cell? w _ hw293_1)).trans hw293_1),((HB.out.cell (World.block_lt_of_cell? w _ hw293_2)).trans hw293_2),((HB.out.cell (World.block_lt_of_cell? w _ hw293_3)).trans hw293_3),((HB.out.cell (World.block_lt_of_cell? w _ hw293_4)).trans hw293_4),((HB.out.cell (World.block_lt_of_cell? w _ hw293_5)).trans hw293_5),((HB.out.cell (World.block_lt_of_cell? w _ hw293_6)).trans hw293_6),((HB.out.cell (World.block_lt_of_cell? w _ hw294_0)).trans hw294_0),((HB.out.cell (World.block_lt_of_cell? w _ hw294_1)).trans hw294_1),((HB.out.cell (World.block_lt_of_cell? w _ hw294_2)).trans hw294_2),((HB.out.cell (World.block_lt_of_cell? w _ hw294_3)).trans hw294_3),((HB.out.cell (World.block_lt_of_cell? w _ hw294_4)).trans hw294_4),((HB.out.cell (World.block_lt_of_cell? w _ hw294_5)).trans hw294_5),((HB.out.cell (World.block_lt_of_cell? w _ hw294_6)).trans hw294_6)⟩ (fun hHeld=>?_);refine with_tabW nuncioref06_records.tab6 nuncioref06_records.bits6 (fun HT_ HW_=>?_)
       generalize wr.drew = w11 at HB HR293_4 HR293_5 HR293_6 HR294_4 HR294_5 HR294_6 hx293_0 hx293_1 hx293_2 hx293_3 hx293_4 hx293_5 hx293_6 hx294_0 hx294_1 hx294_2 hx294_3 hx294_4 hx294_5 hx294_6 hHeld ⊢
       refine pure_ (i:=0) (N:=some 17) (qqz 10 1) rfl rfl (any_of HT_.out (by kernel_rfl)) (fun _ _ _ h=>h) (Or.inl ⟨by rfl,by intro w';go_simp;with_reducible rfl⟩) (by simp only [Act.put,qqj,qqk,qql,i64_w,i32_w];rfl) ?_
       refine pure_ (i:=1) (N:=some 18) (qqz 10 3) rfl rfl (any_of HT_.out (by kernel_rfl)) (fun _ _ _ h=>h) (Or.inl ⟨by rfl,by intro w';go_simp;with_reducible rfl⟩) (by simp only [Act.put,qqj,qqk,qql,i64_w,i32_w];rfl) ?_
       refine pure_ (i:=2) (N:=some 19) (qqz 10 7) rfl rfl (any_of HT_.out (by kernel_rfl)) (fun _ _ _ h=>h) (Or.inl ⟨by rfl,by intro w';go_simp;with_reducible rfl⟩) (by simp only [Act.put,qqj,qqk,qql,i64_w,i32_w];rfl) ?_
       refine pure_ (i:=4) (N:=some 21) (qqz 10 23) rfl rfl (any_of HT_.out (by kernel_rfl)) (fun _ _ _ h=>h) (Or.inl ⟨by rfl,by intro w';go_simp;with_reducible rfl⟩) (by simp only [Act.put,qqj,qqk,qql,i64_w,i32_w];rfl) ?_
       refine pure_ (i:=5) (N:=some 22) (qqz 10 55) rfl rfl (any_of HT_.out (by kernel_rfl)) (fun _ _ _ h=>h) (Or.inl ⟨by rfl,by intro w';go_simp;with_reducible rfl⟩) (by simp only [Act.put,qqj,qqk,qql,i64_w,i32_w];rfl) ?_
       refine pure_ (i:=6) (N:=some 23) (qqz 10 119) rfl rfl (any_of HT_.out (by kernel_rfl)) (fun _ _ _ h=>h) (Or.inl ⟨by rfl,by intro w';go_simp;with_reducible rfl⟩) (by simp only [Act.put,qqj,qqk,qql,i64_w,i32_w];rfl) ?_
       refine take_ (i:=3) (N:=some 20) (qqz 10 127) rfl rfl (take_ofW HT_.out HW_.out (by kernel_rfl)) (fun _ _ _ h=>h) (Or.inl ⟨by rfl,by rintro w' ⟨s0,s1,s2,s3,s4,s5,s6,s7,s8,s9,s10,s11,s12,s13⟩;go_simp;with_reducible rfl⟩) hHeld (by simp only [Act.put,qqj,qqk,qql,i64_w,i32_w];rfl) ?_
       refine take_ (i:=7) (N:=some 24) (qqz 10 255) rfl rfl (take_ofW HT_.out HW_.out (by kernel_rfl)) (fun _ _ _ h=>h) (Or.inl ⟨by rfl,by rintro w' ⟨s0,s1,s2,s3,s4,s5,s6,s7,s8,s9,s10,s11,s12,s13⟩;go_simp;with_reducible rfl⟩) hHeld (by simp only [Act.put,qqj,qqk,qql,i64_w,i32_w];rfl) ?_
       refine one_ (i:=8) (N:=some 25) (qqz 10 511) rfl rfl (one_of HT_.out (by kernel_rfl)) (by decide) (fun K hK=>?_)
       refine goes_ Try.func53 (by kernel_rfl) rfl #[.agg #[.string ((rd_T51 l0 x5_1).f0),.int .u16 ((rd_T51 l0 x5_1).f1),.int .u16 ((rd_T51 l0 x5_1).f2),.int .u32 ((rd_T51 l0 x5_1).f3),.slice A293_4 ((rd_T51 l0 x5_1).f4).length c293_4,.slice A293_5 ((rd_T51 l0 x5_1).f5).length c293_5,.slice A293_6 ((rd_T51 l0 x5_1).f6).length c293_6],.agg #[.string ((rd_T51 l1 x5_1).f0),.int .u16 ((rd_T51 l1 x5_1).f1),.int .u16 ((rd_T51 l1 x5_1).f2),.int .u32 ((rd_T51 l1 x5_1).f3),.slice A294_4 ((rd_T51 l1 x5_1).f4).length c294_4,.slice A294_5 ((rd_T51 l1 x5_1).f5).length c294_5,.slice A294_6 ((rd_T51 l1 x5_1).f6).length c294_6]] (by rfl) rfl rfl (by (try simp only [List.map_toArray,List.map_cons,List.map_nil]);first|done|rfl|(simp only [List.length_drop,List.length_take];rfl)) ?_
       with_reducible refine (nuncioref05_Same.calls k1 ((rd_T51 l0 x5_1).f0) ((rd_T51 l0 x5_1).f1) ((rd_T51 l0 x5_1).f2) ((rd_T51 l0 x5_1).f3) _ _ ((rd_T51 l0 x5_1).f4) _ _ ((rd_T51 l0 x5_1).f5) _ _ ((rd_T51 l0 x5_1).f6) ((rd_T51 l1 x5_1).f0) ((rd_T51 l1 x5_1).f1) ((rd_T51 l1 x5_1).f2) ((rd_T51 l1 x5_1).f3) _ _ ((rd_T51 l1 x5_1).f4) _ _ ((rd_T51 l1 x5_1).f5) _ _ ((rd_T51 l1 x5_1).f6) false _ ?side1 ?side2 ?side3 ?side4 ?side5 ?side6 ?side7 ?side8 ?side9 ?side10 ?side11 ?side12 A7.out).mono ?_
       (case side1=>repeat (first|exact (Kd.C_below HR293_4.out HB.out)|(with_reducible first|apply Kd.C_alloc|apply Kd.C_drewN|apply Kd.C_drew)))
       (case side2=>exact HC293_4.out)
       (case side3=>repeat (first|exact (Kd.C_below HR293_5.out HB.out)|(with_reducible first|apply Kd.C_alloc|apply Kd.C_drewN|apply Kd.C_drew)))
       (case side4=>exact HC293_5.out)
       (case side5=>repeat (first|exact (Kd.C_below HR293_6.out HB.out)|(with_reducible first|apply Kd.C_alloc|apply Kd.C_drewN|apply Kd.C_drew)))
       (case side6=>exact HC293_6.out)
       (case side7=>repeat (first|exact (Kd.C_below HR294_4.out HB.out)|(with_reducible first|apply Kd.C_alloc|apply Kd.C_drewN|apply Kd.C_drew)))
       (case side8=>exact HC294_4.out)
       (case side9=>repeat (first|exact (Kd.C_below HR294_5.out HB.out)|(with_reducible first|apply Kd.C_alloc|apply Kd.C_drewN|apply Kd.C_drew)))
       (case side10=>exact HC294_5.out)
       (case side11=>repeat (first|exact (Kd.C_below HR294_6.out HB.out)|(with_reducible first|apply Kd.C_alloc|apply Kd.C_drewN|apply Kd.C_drew)))
       (case side12=>exact HC294_6.out)
       rintro e w12 ⟨rfl,hb⟩
       refine ⟨_,rfl,?_⟩
       have n0_:=qqm (below_step (by with_reducible repeat first|exact HB.out|apply qqf|apply qqd|apply qqe) hb)
       clear HB
       have HB:=n0_
       clear n0_
       (try clear hb)
       (try clear hb2)
       (try clear hk)
       (try clear hi)
       refine hK.out _ _ ⟨((HB.out.cell (World.block_lt_of_cell? w _ hw293_0)).trans hw293_0),((HB.out.cell (World.block_lt_of_cell? w _ hw293_1)).trans hw293_1),((HB.out.cell (World.block_lt_of_cell? w _ hw293_2)).trans hw293_2),((HB.out.cell (World.block_lt_of_cell? w _ hw293_3)).trans hw293_3),((HB.out.cell (World.block_lt_of_cell? w _ hw293_4)).trans hw293_4),((HB.out.cell (World.block_lt_of_cell? w _ hw293_5)).trans hw293_5),((HB.out.cell (World.block_lt_of_cell? w _ hw293_6)).trans hw293_6),((HB.out.cell (World.block_lt_of_cell? w _ hw294_0)).trans hw294_0),((HB.out.cell (World.block_lt_of_cell? w _ hw294_1)).trans hw294_1),((HB.out.cell (World.block_lt_of_cell? w _ hw294_2)).trans hw294_2),((HB.out.cell (World.block_lt_of_cell? w _ hw294_3)).trans hw294_3),((HB.out.cell (World.block_lt_of_cell? w _ hw294_4)).trans hw294_4),((HB.out.cell (World.block_lt_of_cell? w _ hw294_5)).trans hw294_5),((HB.out.cell (World.block_lt_of_cell? w _ hw294_6)).trans hw294_6)⟩ (fun hHeld=>?_)
       clear hK K
       refine norm_ (a':=?_) ?_ ?_
       rotate_left
       ·
        show Act.put _ (some 25) _ = _
        simp only [Act.put,qqj,qqk,qql,i64_w,i32_w]
        rfl
       refine pure_ (i:=9) (N:=some 26) (qqz 10 1023) rfl rfl (any_of HT_.out (by kernel_rfl)) (fun _ _ _ h=>h) (Or.inl ⟨by rfl,by intro w';go_simp;with_reducible rfl⟩) (by simp only [Act.put,qqj,qqk,qql,i64_w,i32_w];rfl) ?_
       refine done_ (done_of HT_.out (by kernel_rfl)) ?_
       try go_wp2
       go_ret
       exact ⟨by first|rfl|(simp [errW_none,errW_some] <;> rfl)|(simp [*,errW_none,errW_some] <;> rfl),by with_reducible repeat first|exact HB.out|apply qqf|apply qqd|apply qqe⟩
     ·
      rw [if_neg c6] at H
      exact absurd H (by simp)
    ·
     rw [if_neg c5] at H
     exact absurd H (by simp)
   ·
    rw [if_neg c4] at H
    have c4b0:decide (x5_1 < (l0.length:Int)) = false:=decide_eq_false c4
    clear c4
    obtain rfl:=Option.some.inj H
    go_wp2
    go_ret
    exact ⟨by first|rfl|(simp [errW_none,errW_some] <;> rfl)|(simp [*,errW_none,errW_some] <;> rfl),by with_reducible repeat first|exact HB.out|apply qqf|apply qqd|apply qqe⟩

end Go.Proofs.Ythkdfnbhlinhiaa.Mine
