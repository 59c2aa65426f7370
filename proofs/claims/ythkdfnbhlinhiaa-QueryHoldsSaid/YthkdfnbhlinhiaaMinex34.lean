-- Written by this repo's own printer (wip/print), which builds on the kit's.
import Derived.Test.YthkdfnbhlinhiaaMinex0
import Derived.Test.YthkdfnbhlinhiaaMinex11
import Derived.Test.YthkdfnbhlinhiaaMinex17
import Derived.Test.YthkdfnbhlinhiaaMinex33
namespace Go.Proofs.Ythkdfnbhlinhiaa.Mine
open Go.RowKit Go.Proofs.YthkdfnbhlinhiaaW.PrintWords Go.Proofs.YthkdfnbhlinhiaaW.PrintLast Go.Proofs.YthkdfnbhlinhiaaW.PrintMore
attribute [local go_sem] max2_int min2_int max_two min_two max_three min_three max_four min_four   -- for this text's walks alone
set_option linter.unusedVariables false
set_option linter.unusedSimpArgs false

/-! ### nuncioref08_Least: function 21 (by hand) -/
def nuncioref08_Least.f (k : Nat) (a0_0 : Int) (a0_1 : Int) (l0_2 : List S53) (l0_3 : List S51) (l0_4 : List S51) (l0_5 : List S51) : Option Int :=
 (nuncioref08_Negative.f k a0_0 a0_1 l0_2 l0_3 l0_4 l0_5).bind fun b => if b = true then some (query_Least.soa l0_4) else (nuncioref07_Records.f a0_0 a0_1 l0_2 l0_3 l0_4 l0_5).bind fun l => some (query_Least.low 0 false l)
theorem nuncioref08_Least.mono : ∀ a0 a1 a2 a3 a4 a5 k, LeO (nuncioref08_Least.f k a0 a1 a2 a3 a4 a5) (nuncioref08_Least.f (k + 1) a0 a1 a2 a3 a4 a5) := by
 intro a0 a1 a2 a3 a4 a5 k
 unfold nuncioref08_Least.f
 exact LeO.bind (nuncioref08_Negative.mono _ _ _ _ _ _ _) (fun _ => LeO.refl _)
set_option maxHeartbeats 8000000 in
set_option maxRecDepth 100000 in
theorem nuncioref08_Least.calls (k : Nat) (a0_0 : Int) (a0_1 : Int) (A0_2 : Option Addr) (c0_2 : Nat) (l0_2 : List (S53)) (A0_3 : Option Addr) (c0_3 : Nat) (l0_3 : List (S51)) (A0_4 : Option Addr) (c0_4 : Nat) (l0_4 : List (S51)) (A0_5 : Option Addr) (c0_5 : Nat) (l0_5 : List (S51)) (r : Int) (w : World) (hr0_2 : Kd.C k53 w A0_2 l0_2.length l0_2) (hc0_2 : l0_2.length ≤ c0_2) (hr0_3 : Kd.C k51 w A0_3 l0_3.length l0_3) (hc0_3 : l0_3.length ≤ c0_3) (hr0_4 : Kd.C k51 w A0_4 l0_4.length l0_4) (hc0_4 : l0_4.length ≤ c0_4) (hr0_5 : Kd.C k51 w A0_5 l0_5.length l0_5) (hc0_5 : l0_5.length ≤ c0_5) (h : nuncioref08_Least.f k a0_0 a0_1 l0_2 l0_3 l0_4 l0_5 = some r) :
  Calls Try.prog 21 #[.agg #[.int .u16 a0_0,.int .u16 a0_1,.slice A0_2 l0_2.length c0_2,.slice A0_3 l0_3.length c0_3,.slice A0_4 l0_4.length c0_4,.slice A0_5 l0_5.length c0_5]] w fun e w' => e = .returned (.int .u32 r)∧Below w.heap.size w w':=by
 obtain ⟨b,hb,H⟩:=Option.bind_eq_some_iff.mp h
 clear h
 have HR2:=Aside0.mk hr0_2
 have HC2:=Aside0.mk hc0_2
 have HR3:=Aside0.mk hr0_3
 have HC3:=Aside0.mk hc0_3
 have HR4:=Aside0.mk hr0_4
 have HC4:=Aside0.mk hc0_4
 have HR5:=Aside0.mk hr0_5
 have HC5:=Aside0.mk hc0_5
 have HN:=Aside0.mk hb
 clear hb hr0_2 hc0_2 hr0_3 hc0_3 hr0_4 hc0_4 hr0_5 hc0_5
 have hu26:=Try.underlying26
 have hu51:=Try.underlying51
 obtain ⟨i0,hi0,hz0,hs0,hy0⟩:=info_parts info51
 cases b with
 | true =>
  rw [if_pos rfl] at H
  obtain rfl:=Option.some.inj H
  clear H
  have hl4 : l0_4.length ≤ 9223372036854775807:=HR4.out.2.1
  go_enter Try.func21,Try.ntmps21
  go_wp2_with (first|((with_reducible refine gate_dst (N:=1) rfl ?_);refine box_event ?hg (N:=1) ?hd (cs:=#[.int .u16 a0_0,.int .u16 a0_1,.slice A0_2 l0_2.length c0_2,.slice A0_3 l0_3.length c0_3,.slice A0_4 l0_4.length c0_4,.slice A0_5 l0_5.length c0_5]) (t:=26) ?hr ?_;(case hd => rfl);(case hg => rfl);(case hr => first|(go_simp;done)|(go_simp;rfl));intro gb hg w1 hbox hb;have hx0 : w1.cell? ⟨gb,0,none⟩ = some (.int .u16 a0_0):=(qqh hbox 0).trans rfl;have hx1 : w1.cell? ⟨gb,1,none⟩ = some (.int .u16 a0_1):=(qqh hbox 1).trans rfl;have hx2 : w1.cell? ⟨gb,2,none⟩ = some (.slice A0_2 l0_2.length c0_2):=(qqh hbox 2).trans rfl;have hx3 : w1.cell? ⟨gb,3,none⟩ = some (.slice A0_3 l0_3.length c0_3):=(qqh hbox 3).trans rfl;have hx4 : w1.cell? ⟨gb,4,none⟩ = some (.slice A0_4 l0_4.length c0_4):=(qqh hbox 4).trans rfl;have hx5 : w1.cell? ⟨gb,5,none⟩ = some (.slice A0_5 l0_5.length c0_5):=(qqh hbox 5).trans rfl;have BK:=Aside0.mk hbox;have HB:=Aside0.mk hb;clear hbox hb hg)|(go_at_call 19;(with_reducible refine (nuncioref08_Negative.calls k a0_0 a0_1 A0_2 c0_2 l0_2 A0_3 c0_3 l0_3 A0_4 c0_4 l0_4 A0_5 c0_5 l0_5 true _ (Kd.C_below HR2.out HB.out) HC2.out (Kd.C_below HR3.out HB.out) HC3.out (Kd.C_below HR4.out HB.out) HC4.out (Kd.C_below HR5.out HB.out) HC5.out HN.out).mono ?_);rintro e w3 ⟨rfl,hb⟩;have n1_:=Aside0.mk (below_step HB.out hb);have n2_:=Aside0.mk (blk_below BK.out hb);clear HB BK hb hx0 hx1 hx2 hx3 hx4 hx5;have HB:=n1_;have BK:=n2_;clear n1_ n2_;have hx0 : w3.cell? ⟨gb,0,none⟩ = some (.int .u16 a0_0):=(qqh BK.out 0).trans rfl;have hx1 : w3.cell? ⟨gb,1,none⟩ = some (.int .u16 a0_1):=(qqh BK.out 1).trans rfl;have hx2 : w3.cell? ⟨gb,2,none⟩ = some (.slice A0_2 l0_2.length c0_2):=(qqh BK.out 2).trans rfl;have hx3 : w3.cell? ⟨gb,3,none⟩ = some (.slice A0_3 l0_3.length c0_3):=(qqh BK.out 3).trans rfl;have hx4 : w3.cell? ⟨gb,4,none⟩ = some (.slice A0_4 l0_4.length c0_4):=(qqh BK.out 4).trans rfl;have hx5 : w3.cell? ⟨gb,5,none⟩ = some (.slice A0_5 l0_5.length c0_5):=(qqh BK.out 5).trans rfl))
  have HRL:=Aside0.mk (Kd.C_below HR4.out HB.out)
  clear HR2 HC2 HR3 HC3 HR4 HC4 HR5 HC5 HN hx0 hx1 hx2 hx3 hx4 hx5
  obtain ⟨w6,ew6⟩ : ∃ x,x = w3:=⟨_,rfl⟩
  rw [← ew6] at HRL HB BK ⊢
  clear ew6
  go_loopw [3] (fun v3 wr => ∃ j : Nat,j ≤ l0_4.length∧v3 = .int .i64 j∧Aside0 (query_Least.soa (l0_4.drop j) = query_Least.soa l0_4)∧Aside0 (Below w6.heap.size w6 wr)) (fun v3 _ => l0_4.length - (intOf v3).toNat)
  case atStart => exact ⟨0,by omega,rfl,⟨by rw [List.drop_zero]⟩,⟨Below.refl _ _⟩⟩
  case round =>
   obtain ⟨j,hj,rfl,HC,HL⟩:=hrel
   have hxm : wr.cell? ⟨gb,4,none⟩ = some (.slice A0_4 l0_4.length c0_4):=(qqh (blk_below BK.out HL.out) 4).trans rfl
   by_cases hlt : j < l0_4.length
   ·
    have hd : l0_4.drop j = l0_4[j] :: l0_4.drop (j + 1):=List.drop_eq_getElem_cons hlt
    have h1:=HC.out
    rw [hd] at h1
    have hrd : rd_T51 l0_4 (j : Int) = l0_4[j]:=by simp [rd_T51,hlt]
    obtain ⟨ad,A4,c4,A5,c5,A6,c6,e0,hx0,hx1,hx2,hx3,hx4,hx5,hx6,_,_,_,hn5,_⟩:=at_T51 HRL.out (j : Int) (by omega) (by omega)
    subst e0
    rw [hrd,Int.toNat_natCast] at hx0 hx1 hx2 hx3 hx4 hx5 hx6
    rw [hrd] at hn5
    clear hrd hd HC
    generalize l0_4[j] = el at *
    have HK:=Aside0.mk h1
    have HN5:=Aside0.mk hn5
    clear h1 hn5
    replace hx0:=(HL.out.cell (World.block_lt_of_cell? w6 _ hx0)).trans hx0
    replace hx1:=(HL.out.cell (World.block_lt_of_cell? w6 _ hx1)).trans hx1
    replace hx2:=(HL.out.cell (World.block_lt_of_cell? w6 _ hx2)).trans hx2
    replace hx3:=(HL.out.cell (World.block_lt_of_cell? w6 _ hx3)).trans hx3
    replace hx4:=(HL.out.cell (World.block_lt_of_cell? w6 _ hx4)).trans hx4
    replace hx5:=(HL.out.cell (World.block_lt_of_cell? w6 _ hx5)).trans hx5
    replace hx6:=(HL.out.cell (World.block_lt_of_cell? w6 _ hx6)).trans hx6
    by_cases q6 : el.f1 = 6
    ·
     have q6b : (el.f1 != 6) = false:=bne_eq_false_iff_eq.mpr q6
     have hk:=HK.out
     rw [query_Least.soa,if_pos q6] at hk
     have HK2:=Aside0.mk hk
     clear hk HK q6
     by_cases q5 : el.f5.length = 5
     ·
      have q5b : ((el.f5.length : Int) != 5) = false:=by rw [q5];rfl
      have hk:=HK2.out
      rw [if_pos q5] at hk
      have HK:=Aside0.mk hk
      have Q5:=Aside0.mk q5
      clear hk HK2 q5
      go_upto_region 6 with (first|((with_reducible refine gate_dst (N:=4) rfl ?_);refine box_event ?hg (N:=4) ?hd (cs:=#[.string (⟨#[]⟩ : ByteArray),.int .u16 0,.int .u16 0,.int .u32 0,.slice none 0 0,.slice none 0 0,.slice none 0 0]) (t:=51) ?hr ?_;(case hd => rfl);(case hg => rfl);(case hr => first|(go_simp;done)|(go_simp;rfl));intro gq hg w7 hbox hb;have hz0 : w7.cell? ⟨gq,0,none⟩ = some (.string (⟨#[]⟩ : ByteArray)):=(qqh hbox 0).trans rfl;have hf0:=qqi hbox 0;have hz1 : w7.cell? ⟨gq,1,none⟩ = some (.int .u16 0):=(qqh hbox 1).trans rfl;have hf1:=qqi hbox 1;have hz2 : w7.cell? ⟨gq,2,none⟩ = some (.int .u16 0):=(qqh hbox 2).trans rfl;have hf2:=qqi hbox 2;have hz3 : w7.cell? ⟨gq,3,none⟩ = some (.int .u32 0):=(qqh hbox 3).trans rfl;have hf3:=qqi hbox 3;have hz4 : w7.cell? ⟨gq,4,none⟩ = some (.slice none 0 0):=(qqh hbox 4).trans rfl;have hf4:=qqi hbox 4;have hz5 : w7.cell? ⟨gq,5,none⟩ = some (.slice none 0 0):=(qqh hbox 5).trans rfl;have hf5:=qqi hbox 5;have hz6 : w7.cell? ⟨gq,6,none⟩ = some (.slice none 0 0):=(qqh hbox 6).trans rfl;have hf6:=qqi hbox 6;have BQ:=Aside0.mk hbox;have GE:=Aside0.mk (show w6.heap.size ≤ gq by have:=HL.out.size;omega);have n3_:=Aside0.mk (below_step HL.out hb);clear hbox hb hg HL;have HL:=n3_;clear n3_))
      (try simp only [Act.put,qqj,qqk,qql])
      have n1_:=Aside0.mk (show (((((((w7.setCell ⟨gq,0,none⟩ (.string el.f0)).setCell ⟨gq,1,none⟩ (.int .u16 el.f1)).setCell ⟨gq,2,none⟩ (.int .u16 el.f2)).setCell ⟨gq,3,none⟩ (.int .u32 el.f3)).setCell ⟨gq,4,none⟩ (.slice A4 el.f4.length c4)).setCell ⟨gq,5,none⟩ (.slice A5 el.f5.length c5)).setCell ⟨gq,6,none⟩ (.slice A6 el.f6.length c6)).heap[gq]? = some (.cells #[.string el.f0,.int .u16 el.f1,.int .u16 el.f2,.int .u32 el.f3,.slice A4 el.f4.length c4,.slice A5 el.f5.length c5,.slice A6 el.f6.length c6] 51 (0,0)) from (blk_put (blk_put (blk_put (blk_put (blk_put (blk_put (blk_put BQ.out 0 _ rfl) 1 _ rfl) 2 _ rfl) 3 _ rfl) 4 _ rfl) 5 _ rfl) 6 _ rfl))
      have n2_:=Aside0.mk (show Below w6.heap.size w6 (((((((w7.setCell ⟨gq,0,none⟩ (.string el.f0)).setCell ⟨gq,1,none⟩ (.int .u16 el.f1)).setCell ⟨gq,2,none⟩ (.int .u16 el.f2)).setCell ⟨gq,3,none⟩ (.int .u32 el.f3)).setCell ⟨gq,4,none⟩ (.slice A4 el.f4.length c4)).setCell ⟨gq,5,none⟩ (.slice A5 el.f5.length c5)).setCell ⟨gq,6,none⟩ (.slice A6 el.f6.length c6)) from (qqg (qqg (qqg (qqg (qqg (qqg (qqg HL.out GE.out) GE.out) GE.out) GE.out) GE.out) GE.out) GE.out))
      have hj1:=(qqh n1_.out 1).trans (show _ = some (Value.int .u16 el.f1) from rfl)
      have hj3:=(qqh n1_.out 3).trans (show _ = some (Value.int .u32 el.f3) from rfl)
      have hj5:=(qqh n1_.out 5).trans (show _ = some (Value.slice A5 el.f5.length c5) from rfl)
      clear BQ HL hz0 hf0 hz1 hf1 hz2 hf2 hz3 hf3 hz4 hf4 hz5 hf5 hz6 hf6 hx0 hx1 hx2 hx3 hx4 hx5 hx6
      generalize ((((((w7.setCell ⟨gq,0,none⟩ (.string el.f0)).setCell ⟨gq,1,none⟩ (.int .u16 el.f1)).setCell ⟨gq,2,none⟩ (.int .u16 el.f2)).setCell ⟨gq,3,none⟩ (.int .u32 el.f3)).setCell ⟨gq,4,none⟩ (.slice A4 el.f4.length c4)).setCell ⟨gq,5,none⟩ (.slice A5 el.f5.length c5)).setCell ⟨gq,6,none⟩ (.slice A6 el.f6.length c6) = wA at n1_ n2_ hj1 hj3 hj5 ⊢
      have HL:=n2_
      clear n1_ n2_
      have hr5:=Kd.reads_of_C (enc:=Value.int .u32) (d:=(0 : Int)) (h1:=fun _ => rfl) (Kd.C_below HN5.out HL.out)
      obtain ⟨a5,e5,hc5⟩:=hr5.2.2 (by have:=Q5.out;omega)
      subst e5
      have hk4:=hc5 4 (by have:=Q5.out;omega)
      have hk4b : wA.cell? ⟨a5.block,a5.off + 4,none⟩ = some (.int .u32 (el.f5.getD 4 0)):=hk4
      obtain ⟨m4,em4⟩ : ∃ x,x = el.f5.getD 4 0:=⟨_,rfl⟩
      rw [← em4] at hk4b
      have HKm:=HK.out
      rw [← em4] at HKm
      have HK:=Aside0.mk HKm
      clear HKm hk4 em4
      have q5l : (4 : Int) < el.f5.length:=by have:=Q5.out;omega
      have q5m : 4 < el.f5.length:=by have:=Q5.out;omega
      clear hc5 hr5
      by_cases qm : m4 < el.f3
      ·
       have qmb : decide (m4 < el.f3) = true:=decide_eq_true qm
       go_wp2
       go_region
       all_goals go_wp2
       all_goals go_ret
       all_goals refine ⟨?_,below_step HB.out (qqe HL.out)⟩
       all_goals (rw [← HK.out,if_neg (by omega)];rfl)
      ·
       have qmb : decide (m4 < el.f3) = false:=decide_eq_false qm
       have HK9 : (if el.f3 < m4 then el.f3 else m4) = el.f3:=by split <;> omega
       go_wp2
       go_region
       all_goals go_wp2
       all_goals go_ret
       all_goals refine ⟨?_,below_step HB.out (qqe HL.out)⟩
       all_goals (rw [← HK.out,HK9];rfl)
     ·
      have q5b : ((el.f5.length : Int) != 5) = true:=bne_iff_ne.mpr (by omega)
      have hk:=HK2.out
      rw [if_neg q5] at hk
      have HK:=Aside0.mk hk
      clear hk HK2 q5
      go_upto_region 6 with (first|((with_reducible refine gate_dst (N:=4) rfl ?_);refine box_event ?hg (N:=4) ?hd (cs:=#[.string (⟨#[]⟩ : ByteArray),.int .u16 0,.int .u16 0,.int .u32 0,.slice none 0 0,.slice none 0 0,.slice none 0 0]) (t:=51) ?hr ?_;(case hd => rfl);(case hg => rfl);(case hr => first|(go_simp;done)|(go_simp;rfl));intro gq hg w7 hbox hb;have hz0 : w7.cell? ⟨gq,0,none⟩ = some (.string (⟨#[]⟩ : ByteArray)):=(qqh hbox 0).trans rfl;have hf0:=qqi hbox 0;have hz1 : w7.cell? ⟨gq,1,none⟩ = some (.int .u16 0):=(qqh hbox 1).trans rfl;have hf1:=qqi hbox 1;have hz2 : w7.cell? ⟨gq,2,none⟩ = some (.int .u16 0):=(qqh hbox 2).trans rfl;have hf2:=qqi hbox 2;have hz3 : w7.cell? ⟨gq,3,none⟩ = some (.int .u32 0):=(qqh hbox 3).trans rfl;have hf3:=qqi hbox 3;have hz4 : w7.cell? ⟨gq,4,none⟩ = some (.slice none 0 0):=(qqh hbox 4).trans rfl;have hf4:=qqi hbox 4;have hz5 : w7.cell? ⟨gq,5,none⟩ = some (.slice none 0 0):=(qqh hbox 5).trans rfl;have hf5:=qqi hbox 5;have hz6 : w7.cell? ⟨gq,6,none⟩ = some (.slice none 0 0):=(qqh hbox 6).trans rfl;have hf6:=qqi hbox 6;have BQ:=Aside0.mk hbox;have GE:=Aside0.mk (show w6.heap.size ≤ gq by have:=HL.out.size;omega);have n3_:=Aside0.mk (below_step HL.out hb);clear hbox hb hg HL;have HL:=n3_;clear n3_))
      (try simp only [Act.put,qqj,qqk,qql])
      have n1_:=Aside0.mk (show (((((((w7.setCell ⟨gq,0,none⟩ (.string el.f0)).setCell ⟨gq,1,none⟩ (.int .u16 el.f1)).setCell ⟨gq,2,none⟩ (.int .u16 el.f2)).setCell ⟨gq,3,none⟩ (.int .u32 el.f3)).setCell ⟨gq,4,none⟩ (.slice A4 el.f4.length c4)).setCell ⟨gq,5,none⟩ (.slice A5 el.f5.length c5)).setCell ⟨gq,6,none⟩ (.slice A6 el.f6.length c6)).heap[gq]? = some (.cells #[.string el.f0,.int .u16 el.f1,.int .u16 el.f2,.int .u32 el.f3,.slice A4 el.f4.length c4,.slice A5 el.f5.length c5,.slice A6 el.f6.length c6] 51 (0,0)) from (blk_put (blk_put (blk_put (blk_put (blk_put (blk_put (blk_put BQ.out 0 _ rfl) 1 _ rfl) 2 _ rfl) 3 _ rfl) 4 _ rfl) 5 _ rfl) 6 _ rfl))
      have n2_:=Aside0.mk (show Below w6.heap.size w6 (((((((w7.setCell ⟨gq,0,none⟩ (.string el.f0)).setCell ⟨gq,1,none⟩ (.int .u16 el.f1)).setCell ⟨gq,2,none⟩ (.int .u16 el.f2)).setCell ⟨gq,3,none⟩ (.int .u32 el.f3)).setCell ⟨gq,4,none⟩ (.slice A4 el.f4.length c4)).setCell ⟨gq,5,none⟩ (.slice A5 el.f5.length c5)).setCell ⟨gq,6,none⟩ (.slice A6 el.f6.length c6)) from (qqg (qqg (qqg (qqg (qqg (qqg (qqg HL.out GE.out) GE.out) GE.out) GE.out) GE.out) GE.out) GE.out))
      have hj1:=(qqh n1_.out 1).trans (show _ = some (Value.int .u16 el.f1) from rfl)
      have hj3:=(qqh n1_.out 3).trans (show _ = some (Value.int .u32 el.f3) from rfl)
      have hj5:=(qqh n1_.out 5).trans (show _ = some (Value.slice A5 el.f5.length c5) from rfl)
      clear BQ HL hz0 hf0 hz1 hf1 hz2 hf2 hz3 hf3 hz4 hf4 hz5 hf5 hz6 hf6 hx0 hx1 hx2 hx3 hx4 hx5 hx6
      generalize ((((((w7.setCell ⟨gq,0,none⟩ (.string el.f0)).setCell ⟨gq,1,none⟩ (.int .u16 el.f1)).setCell ⟨gq,2,none⟩ (.int .u16 el.f2)).setCell ⟨gq,3,none⟩ (.int .u32 el.f3)).setCell ⟨gq,4,none⟩ (.slice A4 el.f4.length c4)).setCell ⟨gq,5,none⟩ (.slice A5 el.f5.length c5)).setCell ⟨gq,6,none⟩ (.slice A6 el.f6.length c6) = wA at n1_ n2_ hj1 hj3 hj5 ⊢
      have HL:=n2_
      clear n1_ n2_
      go_wp2
      go_ret
      exact ⟨by rw [← HK.out];rfl,below_step HB.out HL.out⟩
    ·
     have q6b : (el.f1 != 6) = true:=bne_iff_ne.mpr q6
     have hk:=HK.out
     rw [query_Least.soa,if_neg q6] at hk
     have HK2:=Aside0.mk hk
     clear hk HK q6
     go_upto_region 6 with (first|((with_reducible refine gate_dst (N:=4) rfl ?_);refine box_event ?hg (N:=4) ?hd (cs:=#[.string (⟨#[]⟩ : ByteArray),.int .u16 0,.int .u16 0,.int .u32 0,.slice none 0 0,.slice none 0 0,.slice none 0 0]) (t:=51) ?hr ?_;(case hd => rfl);(case hg => rfl);(case hr => first|(go_simp;done)|(go_simp;rfl));intro gq hg w7 hbox hb;have hz0 : w7.cell? ⟨gq,0,none⟩ = some (.string (⟨#[]⟩ : ByteArray)):=(qqh hbox 0).trans rfl;have hf0:=qqi hbox 0;have hz1 : w7.cell? ⟨gq,1,none⟩ = some (.int .u16 0):=(qqh hbox 1).trans rfl;have hf1:=qqi hbox 1;have hz2 : w7.cell? ⟨gq,2,none⟩ = some (.int .u16 0):=(qqh hbox 2).trans rfl;have hf2:=qqi hbox 2;have hz3 : w7.cell? ⟨gq,3,none⟩ = some (.int .u32 0):=(qqh hbox 3).trans rfl;have hf3:=qqi hbox 3;have hz4 : w7.cell? ⟨gq,4,none⟩ = some (.slice none 0 0):=(qqh hbox 4).trans rfl;have hf4:=qqi hbox 4;have hz5 : w7.cell? ⟨gq,5,none⟩ = some (.slice none 0 0):=(qqh hbox 5).trans rfl;have hf5:=qqi hbox 5;have hz6 : w7.cell? ⟨gq,6,none⟩ = some (.slice none 0 0):=(qqh hbox 6).trans rfl;have hf6:=qqi hbox 6;have BQ:=Aside0.mk hbox;have GE:=Aside0.mk (show w6.heap.size ≤ gq by have:=HL.out.size;omega);have n3_:=Aside0.mk (below_step HL.out hb);clear hbox hb hg HL;have HL:=n3_;clear n3_))
     (try simp only [Act.put,qqj,qqk,qql])
     have n1_:=Aside0.mk (show (((((((w7.setCell ⟨gq,0,none⟩ (.string el.f0)).setCell ⟨gq,1,none⟩ (.int .u16 el.f1)).setCell ⟨gq,2,none⟩ (.int .u16 el.f2)).setCell ⟨gq,3,none⟩ (.int .u32 el.f3)).setCell ⟨gq,4,none⟩ (.slice A4 el.f4.length c4)).setCell ⟨gq,5,none⟩ (.slice A5 el.f5.length c5)).setCell ⟨gq,6,none⟩ (.slice A6 el.f6.length c6)).heap[gq]? = some (.cells #[.string el.f0,.int .u16 el.f1,.int .u16 el.f2,.int .u32 el.f3,.slice A4 el.f4.length c4,.slice A5 el.f5.length c5,.slice A6 el.f6.length c6] 51 (0,0)) from (blk_put (blk_put (blk_put (blk_put (blk_put (blk_put (blk_put BQ.out 0 _ rfl) 1 _ rfl) 2 _ rfl) 3 _ rfl) 4 _ rfl) 5 _ rfl) 6 _ rfl))
     have n2_:=Aside0.mk (show Below w6.heap.size w6 (((((((w7.setCell ⟨gq,0,none⟩ (.string el.f0)).setCell ⟨gq,1,none⟩ (.int .u16 el.f1)).setCell ⟨gq,2,none⟩ (.int .u16 el.f2)).setCell ⟨gq,3,none⟩ (.int .u32 el.f3)).setCell ⟨gq,4,none⟩ (.slice A4 el.f4.length c4)).setCell ⟨gq,5,none⟩ (.slice A5 el.f5.length c5)).setCell ⟨gq,6,none⟩ (.slice A6 el.f6.length c6)) from (qqg (qqg (qqg (qqg (qqg (qqg (qqg HL.out GE.out) GE.out) GE.out) GE.out) GE.out) GE.out) GE.out))
     have hj1:=(qqh n1_.out 1).trans (show _ = some (Value.int .u16 el.f1) from rfl)
     have hj3:=(qqh n1_.out 3).trans (show _ = some (Value.int .u32 el.f3) from rfl)
     have hj5:=(qqh n1_.out 5).trans (show _ = some (Value.slice A5 el.f5.length c5) from rfl)
     clear BQ HL hz0 hf0 hz1 hf1 hz2 hf2 hz3 hf3 hz4 hf4 hz5 hf5 hz6 hf6 hx0 hx1 hx2 hx3 hx4 hx5 hx6
     generalize ((((((w7.setCell ⟨gq,0,none⟩ (.string el.f0)).setCell ⟨gq,1,none⟩ (.int .u16 el.f1)).setCell ⟨gq,2,none⟩ (.int .u16 el.f2)).setCell ⟨gq,3,none⟩ (.int .u32 el.f3)).setCell ⟨gq,4,none⟩ (.slice A4 el.f4.length c4)).setCell ⟨gq,5,none⟩ (.slice A5 el.f5.length c5)).setCell ⟨gq,6,none⟩ (.slice A6 el.f6.length c6) = wA at n1_ n2_ hj1 hj3 hj5 ⊢
     have HL:=n2_
     clear n1_ n2_
     go_wp2
     go_roundw
     case rel => exact ⟨j + 1,by omega,by go_num,HK2,HL⟩
     case measure => simp [intOf];omega
   ·
    obtain rfl : j = l0_4.length:=by omega
    have h1:=HC.out
    rw [List.drop_length] at h1
    go_wp2
    go_ret
    exact ⟨by rw [← h1];rfl,below_step HB.out HL.out⟩
 | false =>
  rw [if_neg (by simp)] at H
  obtain ⟨LL,hL,H⟩:=Option.bind_eq_some_iff.mp H
  obtain rfl:=Option.some.inj H
  clear H
  have HG:=Aside0.mk hL
  clear hL
  go_enter Try.func21,Try.ntmps21
  go_wp2_with (first|((with_reducible refine gate_dst (N:=1) rfl ?_);refine box_event ?hg (N:=1) ?hd (cs:=#[.int .u16 a0_0,.int .u16 a0_1,.slice A0_2 l0_2.length c0_2,.slice A0_3 l0_3.length c0_3,.slice A0_4 l0_4.length c0_4,.slice A0_5 l0_5.length c0_5]) (t:=26) ?hr ?_;(case hd => rfl);(case hg => rfl);(case hr => first|(go_simp;done)|(go_simp;rfl));intro gb hg w1 hbox hb;have hx0 : w1.cell? ⟨gb,0,none⟩ = some (.int .u16 a0_0):=(qqh hbox 0).trans rfl;have hx1 : w1.cell? ⟨gb,1,none⟩ = some (.int .u16 a0_1):=(qqh hbox 1).trans rfl;have hx2 : w1.cell? ⟨gb,2,none⟩ = some (.slice A0_2 l0_2.length c0_2):=(qqh hbox 2).trans rfl;have hx3 : w1.cell? ⟨gb,3,none⟩ = some (.slice A0_3 l0_3.length c0_3):=(qqh hbox 3).trans rfl;have hx4 : w1.cell? ⟨gb,4,none⟩ = some (.slice A0_4 l0_4.length c0_4):=(qqh hbox 4).trans rfl;have hx5 : w1.cell? ⟨gb,5,none⟩ = some (.slice A0_5 l0_5.length c0_5):=(qqh hbox 5).trans rfl;have BK:=Aside0.mk hbox;have HB:=Aside0.mk hb;clear hbox hb hg)|(go_at_call 19;(with_reducible refine (nuncioref08_Negative.calls k a0_0 a0_1 A0_2 c0_2 l0_2 A0_3 c0_3 l0_3 A0_4 c0_4 l0_4 A0_5 c0_5 l0_5 false _ (Kd.C_below HR2.out HB.out) HC2.out (Kd.C_below HR3.out HB.out) HC3.out (Kd.C_below HR4.out HB.out) HC4.out (Kd.C_below HR5.out HB.out) HC5.out HN.out).mono ?_);rintro e w3 ⟨rfl,hb⟩;have n1_:=Aside0.mk (below_step HB.out hb);have n2_:=Aside0.mk (blk_below BK.out hb);clear HB BK hb hx0 hx1 hx2 hx3 hx4 hx5;have HB:=n1_;have BK:=n2_;clear n1_ n2_;have hx0 : w3.cell? ⟨gb,0,none⟩ = some (.int .u16 a0_0):=(qqh BK.out 0).trans rfl;have hx1 : w3.cell? ⟨gb,1,none⟩ = some (.int .u16 a0_1):=(qqh BK.out 1).trans rfl;have hx2 : w3.cell? ⟨gb,2,none⟩ = some (.slice A0_2 l0_2.length c0_2):=(qqh BK.out 2).trans rfl;have hx3 : w3.cell? ⟨gb,3,none⟩ = some (.slice A0_3 l0_3.length c0_3):=(qqh BK.out 3).trans rfl;have hx4 : w3.cell? ⟨gb,4,none⟩ = some (.slice A0_4 l0_4.length c0_4):=(qqh BK.out 4).trans rfl;have hx5 : w3.cell? ⟨gb,5,none⟩ = some (.slice A0_5 l0_5.length c0_5):=(qqh BK.out 5).trans rfl)|(go_at_call 27;(with_reducible refine (nuncioref07_Records.calls a0_0 a0_1 _ _ l0_2 (fun k_ => k_ < w.heap.size) _ _ l0_3 (fun k_ => k_ < w.heap.size) _ _ l0_4 (fun k_ => k_ < w.heap.size) _ _ l0_5 LL _ (Kd.C_below HR2.out HB.out) HC2.out (Kd.V_mk HC3.out (Kd.F_below (Kd.C_F k51_heap HR3.out) HB.out)) (Kd.V_mk HC4.out (Kd.F_below (Kd.C_F k51_heap HR4.out) HB.out)) (Kd.V_mk HC5.out (Kd.F_below (Kd.C_F k51_heap HR5.out) HB.out)) HG.out).mono ?_);rintro e w5 ⟨v0,rfl,ho,hb⟩;obtain ⟨A,c,eA⟩:=Kd.N_slice ho;subst eA;have n1_:=Aside0.mk (below_step HB.out hb);have HRL:=Aside0.mk (Kd.N_reads' ho).2.2;clear HB hb ho hx0 hx1 hx2 hx3 hx4 hx5 BK;have HB:=n1_;clear n1_))
  have hll : LL.length ≤ 9223372036854775807:=HRL.out.2.1
  clear HR2 HC2 HR3 HC3 HR4 HC4 HR5 HC5 HN HG
  obtain ⟨w6,ew6⟩ : ∃ x,x = w5:=⟨_,rfl⟩
  rw [← ew6] at HRL HB ⊢
  clear ew6
  go_loopw [8,6,7] (fun v8 v6 v7 wr => ∃ (j : Nat) (t : Int) (s : Bool),j ≤ LL.length∧v8 = .int .i64 j∧v6 = .int .u32 t∧v7 = .bool (!s)∧Aside0 (query_Least.low t s (LL.drop j) = query_Least.low 0 false LL)∧Aside0 (Below w6.heap.size w6 wr)) (fun v8 _ _ _ => LL.length - (intOf v8).toNat)
  case atStart => exact ⟨0,0,false,by omega,rfl,rfl,rfl,⟨by rw [List.drop_zero]⟩,⟨Below.refl _ _⟩⟩
  case round =>
   obtain ⟨j,t,s,hj,rfl,rfl,rfl,HC,HL⟩:=hrel
   by_cases hlt : j < LL.length
   ·
    have hd : LL.drop j = LL[j] :: LL.drop (j + 1):=List.drop_eq_getElem_cons hlt
    have h1:=HC.out
    rw [hd] at h1
    have hrd : rd_T51 LL (j : Int) = LL[j]:=by simp [rd_T51,hlt]
    obtain ⟨ad,A4,c4,A5,c5,A6,c6,e0,hx0,hx1,hx2,hx3,hx4,hx5,hx6,_,_,_,hn5,_⟩:=at_T51 HRL.out (j : Int) (by omega) (by omega)
    subst e0
    rw [hrd,Int.toNat_natCast] at hx0 hx1 hx2 hx3 hx4 hx5 hx6
    rw [hrd] at hn5
    clear hrd hd HC
    generalize LL[j] = el at *
    have HK:=Aside0.mk h1
    have HN5:=Aside0.mk hn5
    clear h1 hn5
    replace hx0:=(HL.out.cell (World.block_lt_of_cell? w6 _ hx0)).trans hx0
    replace hx1:=(HL.out.cell (World.block_lt_of_cell? w6 _ hx1)).trans hx1
    replace hx2:=(HL.out.cell (World.block_lt_of_cell? w6 _ hx2)).trans hx2
    replace hx3:=(HL.out.cell (World.block_lt_of_cell? w6 _ hx3)).trans hx3
    replace hx4:=(HL.out.cell (World.block_lt_of_cell? w6 _ hx4)).trans hx4
    replace hx5:=(HL.out.cell (World.block_lt_of_cell? w6 _ hx5)).trans hx5
    replace hx6:=(HL.out.cell (World.block_lt_of_cell? w6 _ hx6)).trans hx6
    by_cases q41 : el.f1 = 41
    ·
     have q41b : (el.f1 != 41) = false:=bne_eq_false_iff_eq.mpr q41
     have hk:=HK.out
     rw [query_Least.low,if_pos q41] at hk
     have HK2:=Aside0.mk hk
     clear hk HK q41
     go_wp2
     go_roundw
     case rel => exact ⟨j + 1,t,s,by omega,by go_num,rfl,rfl,HK2,HL⟩
     case measure => simp [intOf];omega
    ·
     have q41b : (el.f1 != 41) = true:=bne_iff_ne.mpr q41
     by_cases qs : s = true∧t ≤ el.f3
     ·
      have hk:=HK.out
      rw [query_Least.low,if_neg q41,if_pos qs] at hk
      have HK2:=Aside0.mk hk
      have qlt : decide (el.f3 < t) = false:=decide_eq_false (by omega)
      obtain ⟨rfl,_⟩:=qs
      clear hk HK q41
      go_wp2
      go_roundw
      case rel => exact ⟨j + 1,t,true,by omega,by go_num,rfl,rfl,HK2,HL⟩
      case measure => simp [intOf];omega
     ·
      have hk:=HK.out
      rw [query_Least.low,if_neg q41,if_neg qs] at hk
      have HK2:=Aside0.mk hk
      clear hk HK q41
      cases s with
      | false =>
       clear qs
       go_wp2
       go_roundw
       case rel => exact ⟨j + 1,el.f3,true,by omega,by go_num,rfl,rfl,HK2,HL⟩
       case measure => simp [intOf];omega
      | true =>
       have qlt : decide (el.f3 < t) = true:=decide_eq_true (by simp at qs;omega)
       clear qs
       go_wp2
       go_roundw
       case rel => exact ⟨j + 1,el.f3,true,by omega,by go_num,rfl,rfl,HK2,HL⟩
       case measure => simp [intOf];omega
   ·
    obtain rfl : j = LL.length:=by omega
    have h1:=HC.out
    rw [List.drop_length] at h1
    go_wp2
    go_ret
    exact ⟨by rw [← h1];rfl,below_step HB.out HL.out⟩

end Go.Proofs.Ythkdfnbhlinhiaa.Mine
