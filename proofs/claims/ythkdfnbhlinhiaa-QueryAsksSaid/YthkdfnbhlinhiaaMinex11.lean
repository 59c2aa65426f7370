-- Written by this repo's own printer (wip/print), which builds on the kit's.
import Derived.Test.YthkdfnbhlinhiaaMinex0
import Derived.Test.YthkdfnbhlinhiaaMinex10
namespace Go.Proofs.Ythkdfnbhlinhiaa.Mine
open Go.RowKit Go.Proofs.YthkdfnbhlinhiaaW.PrintWords Go.Proofs.YthkdfnbhlinhiaaW.PrintLast Go.Proofs.YthkdfnbhlinhiaaW.PrintMore
attribute [local go_sem] max2_int min2_int max_two min_two max_three min_three max_four min_four   -- for this text's walks alone
set_option linter.unusedVariables false
set_option linter.unusedSimpArgs false

/-! ### query_Least: function 20 (by hand) -/
section
variable {α:Type}
/-- A row's elements as they were read at world w: nothing of them is owned. -/
def shal (d : Kd α) (w : World) : Kd α where
 sz:=d.sz
 E:=[]
 K:=fun _ x cs=>d.K w x cs
 M:=fun _ _ _ x cs=>d.K w x cs
 K_len:=fun h=>d.K_len h
 K_one:=fun h=>d.K_one h
 K_below:=fun _ h=>h
 K_of_M:=fun h=>h
 M_mono:=fun _ h=>h
 M_bound:=fun h=>h
 M_move:=fun _ h=>h
 M_lower:=fun _ h=>h
theorem shal_C {d : Kd α} {w w' : World} {A : Option Addr} {n : Nat} {xs : List α} (h : (shal d w).C w' A n xs) (hb : Below w.heap.size w w') : d.C w' A n xs := by
 obtain ⟨h1,h2,h3⟩:=h
 refine ⟨h1,h2,fun h0=>?_⟩
 obtain ⟨ad,e,hc⟩:=h3 h0
 refine ⟨ad,e,fun j p hj=>?_⟩
 obtain ⟨c,c1,c2,c3⟩:=hc j p hj
 exact ⟨c,c1,d.K_below hb c2,c3⟩
theorem shal_R {d : Kd α} {e : Nat} {w w' : World} {base : Nat} {ok : Nat → Prop} {v : Value} {xs : List α} (h : (shal d w).R e w' base ok v xs) (hb : Below w.heap.size w w') : ∃ A c, v = .slice A xs.length c ∧ xs.length ≤ c ∧ d.C w' A xs.length xs := by
 obtain ⟨A,c,e1,h1,h2⟩:=h.2.reads
 exact ⟨A,c,e1,h1,shal_C h2 hb⟩
end
set_option maxHeartbeats 2000000 in
set_option maxRecDepth 100000 in
theorem rec_grow (d : Kd S51) (hd : d.sz = 7) (n : Nat) (N : Int) (hN : N = (n : Int)) (w : World) (hbig : n < 1466015503701) :
  Calls Try.prog 61 #[.slice none 0 0,.int .i64 N] w fun e w'=>∃ v,e = .returned v∧d.R 51 w' w.heap.size (fun _=>True) v []∧Below w.heap.size w w':=by
 subst hN
 have i0:=info_parts info51
 obtain ⟨i,hi,hz,hs,hy⟩:=i0
 rcases Nat.eq_zero_or_pos n with rfl | h0
 ·
  go_enter Try.func61,Try.ntmps61
  go_wp2
  go_ret
  exact ⟨_,rfl,Kd.R_nil _ _ _ _ _,Below.refl _ _⟩
 ·
  have hrz:∀ ty,(Builtin.append_ #[24,3] ty #[.slice none 0 0,.int .i64 (n:Int)]).run Try.prog w =
   .ok (.slice (some ⟨w.heap.size,0,none⟩) n (grownCap w n 0 51)) (w.drew.alloc (.cells (#[] ++ Builtin.zeroCells (Value.agg #[.string ⟨#[]⟩,.int .u16 0,.int .u16 0,.int .u32 0,.slice none 0 0,.slice none 0 0,.slice none 0 0]).cells n ++ Builtin.zeroCells (Value.agg #[.string ⟨#[]⟩,.int .u16 0,.int .u16 0,.int .u32 0,.slice none 0 0,.slice none 0 0,.slice none 0 0]).cells (grownCap w n 0 51 - n)) 51)):=fun ty=>by
   have h:=Lib.run_append_grow_zeros (P:=Try.prog) w 24 3 ty 51 i _ .i64 .i64 Try.underlying24 Try.underlying3 hi hz none 0 0 [] (run_firstCells_none w.drew i.size 0 0 0) n h0 (by omega) (by omega) (by omega) (by rw [hy];omega)
    (by rw [hy];exact growslice_fits (by omega) (by omega))
   simpa using h
  have hG:=grownCap_ge w n 0 51
  have hG2:=grownCap_le_maxLen w n 0 51 (by unfold maxLen;omega)
  generalize grownCap w n 0 51 = G at hrz hG hG2
  have h1:((n:Int) > 0) = True:=eq_true (by omega)
  have h2:decide ((n:Int) > 0) = true:=decide_eq_true (by omega)
  have h3:decide (0 < (n:Int)) = true:=decide_eq_true (by omega)
  have h4:decide ((n:Int) < 0) = false:=decide_eq_false (by omega)
  go_enter Try.func61,Try.ntmps61
  go_wp2_with (at_builtin;refine Lib.wpList_append_run _ rfl _ _ _ _ rfl _ _ rfl rfl _ _ (hrz _) ?_)
  go_ret
  have hb:Below w.heap.size w w.drew:=(Below.refl _ _).drew
  refine ⟨_,rfl,⟨fun _ _=>trivial,[],?_,Reps.none _ _⟩,hb.alloc (Nat.le_refl _) _⟩
  exact (World.ownsRow_made w _ G (Nat.le_refl _) hG2 (by rw [hd,Array.size_append,size_zeroCells,size_zeroCells];simp only [List.size_toArray,List.length_cons,List.length_nil];omega)).drew
set_option maxHeartbeats 4000000 in
set_option maxRecDepth 100000 in
theorem rec_concat (A3 : Option Addr) (c3 : Nat) (l3 : List S51) (A4 : Option Addr) (c4 : Nat) (l4 : List S51) (A5 : Option Addr) (c5 : Nat) (l5 : List S51) (gs : Nat) (w : World)
  (hr3:Kd.C k51 w A3 l3.length l3) (hr4:Kd.C k51 w A4 l4.length l4) (hr5:Kd.C k51 w A5 l5.length l5)
  (hs:w.heap[gs]? = some (.cells #[.slice A3 l3.length c3,.slice A4 l4.length c4,.slice A5 l5.length c5] 24 (0,0))) (hbig:l3.length + l4.length + l5.length < 1466015503701) :
  Calls Try.prog 55 #[.slice (some ⟨gs,0,none⟩) 3 3] w fun e w'=>(∃ A c,e = .returned (.slice A (l3.length + l4.length + l5.length) c)∧Kd.C k51 w' A (l3.length + l4.length + l5.length) (l3 ++ l4 ++ l5))∧Below w.heap.size w w':=by
 have HR3:Aside0 (Kd.C (shal k51 w) w A3 l3.length l3):=⟨hr3⟩
 have HR4:Aside0 (Kd.C (shal k51 w) w A4 l4.length l4):=⟨hr4⟩
 have HR5:Aside0 (Kd.C (shal k51 w) w A5 l5.length l5):=⟨hr5⟩
 have HS:=qqm hs
 have HB:=qqm (Below.refl w.heap.size w)
 have hs0:w.cell? ⟨gs,0,none⟩ = some (.slice A3 l3.length c3):=(qqh HS.out 0).trans rfl
 have hs1:w.cell? ⟨gs,1,none⟩ = some (.slice A4 l4.length c4):=(qqh HS.out 1).trans rfl
 have hs2:w.cell? ⟨gs,2,none⟩ = some (.slice A5 l5.length c5):=(qqh HS.out 2).trans rfl
 clear hr3 hr4 hr5 hs
 go_enter Try.func55,Try.ntmps55
 go_wp2_with fail
 refine wp_loop_rounds 4 ?_
 rw [rounds_succ]
 go_wp2_with fail
 rw [rounds_succ]
 go_wp2_with fail
 rw [rounds_succ]
 go_wp2_with fail
 rw [rounds_succ]
 go_wp2_with (first|(go_at_call 61;(with_reducible refine (rec_grow (shal k51 w) rfl (l3.length + l4.length + l5.length) _ (by omega) _ (by omega)).mono ?_);rintro e w1 ⟨v0,rfl,ho,hb⟩;have n1_:=qqm (below_step HB.out hb);clear HB hs0 hs1 hs2;have HB:=n1_;have HO:=qqm ho;clear n1_ ho hb ;have hs0:_ = some (Value.slice A3 l3.length c3):=(qqh (blk_below HS.out HB.out) 0).trans rfl;have hs1:_ = some (Value.slice A4 l4.length c4):=(qqh (blk_below HS.out HB.out) 1).trans rfl;have hs2:_ = some (Value.slice A5 l5.length c5):=(qqh (blk_below HS.out HB.out) 2).trans rfl))
 refine wp_loop_rounds 4 ?_
 rw [rounds_succ]
 go_wp2_with (first|((with_reducible refine gate_builtin (b:=.append) (xs:=#[.tmp 31,.tmp 32]) rfl ?_);at_builtin;refine Kd.R_append_rows (shal k51 w) (w0:=w) w.heap.size rfl (.tmp 31) (.tmp 32) 24 51 (.agg #[.string ⟨#[]⟩,.int .u16 0,.int .u16 0,.int .u32 0,.slice none 0 0,.slice none 0 0,.slice none 0 0]) 96 rfl Try.underlying24 info51 rfl (show 0 < 7 by decide) (by omega) v0 ([]:List S51) l3 A3 _ c3 (fun _=>True) (fun _=>False) rfl rfl HO.out (Kd.C_below HR3.out HB.out) (fun _ _ h=>h) (fun _ h=>h.elim) (fun _ _=>trivial) HB.out (below_size HB.out) (by simp only [List.length_append,List.length_nil];omega) ?_;rotate_right;intro v1 w2 ho hb hg hat;have n0_:=qqm ho;have n1_:=qqm hb;clear HO HB hs0 hs1 hs2 ho hb hg hat;have HO:=n0_;have HB:=n1_;clear n0_ n1_ ;have hs0:_ = some (Value.slice A3 l3.length c3):=(qqh (blk_below HS.out HB.out) 0).trans rfl;have hs1:_ = some (Value.slice A4 l4.length c4):=(qqh (blk_below HS.out HB.out) 1).trans rfl;have hs2:_ = some (Value.slice A5 l5.length c5):=(qqh (blk_below HS.out HB.out) 2).trans rfl))
 rw [rounds_succ]
 go_wp2_with (first|((with_reducible refine gate_builtin (b:=.append) (xs:=#[.tmp 31,.tmp 32]) rfl ?_);at_builtin;refine Kd.R_append_rows (shal k51 w) (w0:=w) w.heap.size rfl (.tmp 31) (.tmp 32) 24 51 (.agg #[.string ⟨#[]⟩,.int .u16 0,.int .u16 0,.int .u32 0,.slice none 0 0,.slice none 0 0,.slice none 0 0]) 96 rfl Try.underlying24 info51 rfl (show 0 < 7 by decide) (by omega) v1 ([] ++ l3) l4 A4 _ c4 (fun _=>True) (fun _=>False) rfl rfl HO.out (Kd.C_below HR4.out HB.out) (fun _ _ h=>h) (fun _ h=>h.elim) (fun _ _=>trivial) HB.out (below_size HB.out) (by simp only [List.length_append,List.length_nil];omega) ?_;rotate_right;intro v2 w3 ho hb hg hat;have n0_:=qqm ho;have n1_:=qqm hb;clear HO HB hs0 hs1 hs2 ho hb hg hat;have HO:=n0_;have HB:=n1_;clear n0_ n1_ ;have hs0:_ = some (Value.slice A3 l3.length c3):=(qqh (blk_below HS.out HB.out) 0).trans rfl;have hs1:_ = some (Value.slice A4 l4.length c4):=(qqh (blk_below HS.out HB.out) 1).trans rfl;have hs2:_ = some (Value.slice A5 l5.length c5):=(qqh (blk_below HS.out HB.out) 2).trans rfl))
 rw [rounds_succ]
 go_wp2_with (first|((with_reducible refine gate_builtin (b:=.append) (xs:=#[.tmp 31,.tmp 32]) rfl ?_);at_builtin;refine Kd.R_append_rows (shal k51 w) (w0:=w) w.heap.size rfl (.tmp 31) (.tmp 32) 24 51 (.agg #[.string ⟨#[]⟩,.int .u16 0,.int .u16 0,.int .u32 0,.slice none 0 0,.slice none 0 0,.slice none 0 0]) 96 rfl Try.underlying24 info51 rfl (show 0 < 7 by decide) (by omega) v2 ([] ++ l3 ++ l4) l5 A5 _ c5 (fun _=>True) (fun _=>False) rfl rfl HO.out (Kd.C_below HR5.out HB.out) (fun _ _ h=>h) (fun _ h=>h.elim) (fun _ _=>trivial) HB.out (below_size HB.out) (by simp only [List.length_append,List.length_nil];omega) ?_;rotate_right;intro v3 w4 ho hb hg hat;have n0_:=qqm ho;have n1_:=qqm hb;clear HO HB hs0 hs1 hs2 ho hb hg hat;have HO:=n0_;have HB:=n1_;clear n0_ n1_ ;have hs0:_ = some (Value.slice A3 l3.length c3):=(qqh (blk_below HS.out HB.out) 0).trans rfl;have hs1:_ = some (Value.slice A4 l4.length c4):=(qqh (blk_below HS.out HB.out) 1).trans rfl;have hs2:_ = some (Value.slice A5 l5.length c5):=(qqh (blk_below HS.out HB.out) 2).trans rfl))
 rw [rounds_succ]
 go_wp2_with fail
 go_ret
 have h3:=HO.out
 rw [List.nil_append] at h3
 obtain ⟨A,c,rfl,_,hc⟩:=shal_R h3 HB.out
 have el:(l3 ++ l4 ++ l5).length = l3.length + l4.length + l5.length:=by rw [List.length_append,List.length_append]
 rw [el] at hc
 exact ⟨⟨A,c,by rw [← el];rfl,hc⟩,HB.out⟩
set_option maxHeartbeats 4000000 in
set_option maxRecDepth 100000 in
theorem rec_each (a0_0 : Int) (a0_1 : Int) (A0_2 : Option Addr) (c0_2 : Nat) (l0_2 : List (S53)) (A0_3 : Option Addr) (c0_3 : Nat) (l0_3 : List (S51)) (A0_4 : Option Addr) (c0_4 : Nat) (l0_4 : List (S51)) (A0_5 : Option Addr) (c0_5 : Nat) (l0_5 : List (S51)) (w : World) (hr0_3 : Kd.C k51 w A0_3 l0_3.length l0_3) (hr0_4 : Kd.C k51 w A0_4 l0_4.length l0_4) (hr0_5 : Kd.C k51 w A0_5 l0_5.length l0_5) (hbig : l0_3.length + l0_4.length + l0_5.length < 1466015503701) :
  Calls Try.prog 43 #[.agg #[.int .u16 a0_0,.int .u16 a0_1,.slice A0_2 l0_2.length c0_2,.slice A0_3 l0_3.length c0_3,.slice A0_4 l0_4.length c0_4,.slice A0_5 l0_5.length c0_5]] w fun e w'=>(∃ A c,e = .returned (.slice A (l0_3.length + l0_4.length + l0_5.length) c)∧Kd.C k51 w' A (l0_3.length + l0_4.length + l0_5.length) (l0_3 ++ l0_4 ++ l0_5))∧Below w.heap.size w w':=by
 have HR3:=qqm hr0_3
 have HR4:=qqm hr0_4
 have HR5:=qqm hr0_5
 have HL:=qqm hbig
 clear hr0_3 hr0_4 hr0_5 hbig
 have hu26:=Try.underlying26
 go_enter Try.func43,Try.ntmps43
 go_wp2_with (first|((with_reducible refine gate_dst (N:=1) rfl ?_);refine box_event ?hg (N:=1) ?hd (cs:=#[.int .u16 a0_0,.int .u16 a0_1,.slice A0_2 l0_2.length c0_2,.slice A0_3 l0_3.length c0_3,.slice A0_4 l0_4.length c0_4,.slice A0_5 l0_5.length c0_5]) (t:=26) ?hr ?_;(case hd=>rfl);(case hg=>rfl);(case hr=>first|(go_simp;done)|(go_simp;rfl));intro gb hg w1 hbox hb;have hx0:w1.cell? ⟨gb,0,none⟩ = some (.int .u16 a0_0):=(qqh hbox 0).trans rfl;have hx1:w1.cell? ⟨gb,1,none⟩ = some (.int .u16 a0_1):=(qqh hbox 1).trans rfl;have hx2:w1.cell? ⟨gb,2,none⟩ = some (.slice A0_2 l0_2.length c0_2):=(qqh hbox 2).trans rfl;have hx3:w1.cell? ⟨gb,3,none⟩ = some (.slice A0_3 l0_3.length c0_3):=(qqh hbox 3).trans rfl;have hx4:w1.cell? ⟨gb,4,none⟩ = some (.slice A0_4 l0_4.length c0_4):=(qqh hbox 4).trans rfl;have hx5:w1.cell? ⟨gb,5,none⟩ = some (.slice A0_5 l0_5.length c0_5):=(qqh hbox 5).trans rfl;have HB:=qqm hb;clear hbox hb hg)|(go_at_call 55;(with_reducible refine (rec_concat A0_3 c0_3 l0_3 A0_4 c0_4 l0_4 A0_5 c0_5 l0_5 _ _ (Kd.C_below HR3.out (qqf HB.out _)) (Kd.C_below HR4.out (qqf HB.out _)) (Kd.C_below HR5.out (qqf HB.out _)) (blk_new _ _) HL.out).mono ?_);rintro e w5 ⟨⟨A,c,rfl,hc⟩,hb⟩;have n3_:=qqm (below_step (qqf HB.out _) hb);have HC:=qqm hc;clear HB hb hc hx0 hx1 hx2 hx3 hx4 hx5;have HB:=n3_;clear n3_))
 go_ret
 exact ⟨⟨_,_,rfl,HC.out⟩,HB.out⟩
def query_Least.soa : List S51 → Int
 | [] => 0
 | x :: r => if x.f1 = 6 then (if x.f5.length = 5 then (if x.f3 < x.f5.getD 4 0 then x.f3 else x.f5.getD 4 0) else 0) else query_Least.soa r
def query_Least.low : Int → Bool → List S51 → Int
 | t, _, [] => t
 | t, s, x :: r => if x.f1 = 41 then query_Least.low t s r else if s = true ∧ t ≤ x.f3 then query_Least.low t s r else query_Least.low x.f3 true r
def query_Least.f (a0_0 : Int) (a0_1 : Int) (l0_2 : List S53) (l0_3 : List S51) (l0_4 : List S51) (l0_5 : List S51) : Option Int :=
 (query_Negative.f a0_0 a0_1 l0_2 l0_3 l0_4 l0_5).bind fun b=>if b = true then some (query_Least.soa l0_4) else if l0_3.length + l0_4.length + l0_5.length < 1466015503701 then some (query_Least.low 0 false (l0_3 ++ l0_4 ++ l0_5)) else none
set_option maxHeartbeats 3000000 in
set_option maxRecDepth 100000 in
theorem query_Least.calls (a0_0 : Int) (a0_1 : Int) (A0_2 : Option Addr) (c0_2 : Nat) (l0_2 : List (S53)) (A0_3 : Option Addr) (c0_3 : Nat) (l0_3 : List (S51)) (A0_4 : Option Addr) (c0_4 : Nat) (l0_4 : List (S51)) (A0_5 : Option Addr) (c0_5 : Nat) (l0_5 : List (S51)) (r : Int) (w : World) (hr0_2 : Kd.C k53 w A0_2 l0_2.length l0_2) (hc0_2 : l0_2.length ≤ c0_2) (hr0_3 : Kd.C k51 w A0_3 l0_3.length l0_3) (hc0_3 : l0_3.length ≤ c0_3) (hr0_4 : Kd.C k51 w A0_4 l0_4.length l0_4) (hc0_4 : l0_4.length ≤ c0_4) (hr0_5 : Kd.C k51 w A0_5 l0_5.length l0_5) (hc0_5 : l0_5.length ≤ c0_5) (h : query_Least.f a0_0 a0_1 l0_2 l0_3 l0_4 l0_5 = some r) :
  Calls Try.prog 20 #[.agg #[.int .u16 a0_0,.int .u16 a0_1,.slice A0_2 l0_2.length c0_2,.slice A0_3 l0_3.length c0_3,.slice A0_4 l0_4.length c0_4,.slice A0_5 l0_5.length c0_5]] w fun e w'=>e = .returned (.int .u32 r)∧Below w.heap.size w w':=by
 obtain ⟨b,hb,H⟩:=Option.bind_eq_some_iff.mp h
 clear h
 have HR2:=qqm hr0_2
 have HC2:=qqm hc0_2
 have HR3:=qqm hr0_3
 have HC3:=qqm hc0_3
 have HR4:=qqm hr0_4
 have HC4:=qqm hc0_4
 have HR5:=qqm hr0_5
 have HC5:=qqm hc0_5
 have HN:=qqm hb
 clear hb hr0_2 hc0_2 hr0_3 hc0_3 hr0_4 hc0_4 hr0_5 hc0_5
 have hu26:=Try.underlying26
 have hu51:=Try.underlying51
 obtain ⟨i0,hi0,hz0,hs0,hy0⟩:=info_parts info51
 cases b with
 | true =>
  rw [if_pos rfl] at H
  obtain rfl:=Option.some.inj H
  clear H
  have hl4:l0_4.length ≤ 9223372036854775807:=HR4.out.2.1
  go_enter Try.func20,Try.ntmps20
  go_wp2_with (first|((with_reducible refine gate_dst (N:=1) rfl ?_);refine box_event ?hg (N:=1) ?hd (cs:=#[.int .u16 a0_0,.int .u16 a0_1,.slice A0_2 l0_2.length c0_2,.slice A0_3 l0_3.length c0_3,.slice A0_4 l0_4.length c0_4,.slice A0_5 l0_5.length c0_5]) (t:=26) ?hr ?_;(case hd=>rfl);(case hg=>rfl);(case hr=>first|(go_simp;done)|(go_simp;rfl));intro gb hg w1 hbox hb;have hx0:w1.cell? ⟨gb,0,none⟩ = some (.int .u16 a0_0):=(qqh hbox 0).trans rfl;have hx1:w1.cell? ⟨gb,1,none⟩ = some (.int .u16 a0_1):=(qqh hbox 1).trans rfl;have hx2:w1.cell? ⟨gb,2,none⟩ = some (.slice A0_2 l0_2.length c0_2):=(qqh hbox 2).trans rfl;have hx3:w1.cell? ⟨gb,3,none⟩ = some (.slice A0_3 l0_3.length c0_3):=(qqh hbox 3).trans rfl;have hx4:w1.cell? ⟨gb,4,none⟩ = some (.slice A0_4 l0_4.length c0_4):=(qqh hbox 4).trans rfl;have hx5:w1.cell? ⟨gb,5,none⟩ = some (.slice A0_5 l0_5.length c0_5):=(qqh hbox 5).trans rfl;have BK:=qqm hbox;have HB:=qqm hb;clear hbox hb hg)|(go_at_call 18;(with_reducible refine (query_Negative.calls a0_0 a0_1 A0_2 c0_2 l0_2 A0_3 c0_3 l0_3 A0_4 c0_4 l0_4 A0_5 c0_5 l0_5 true _ (Kd.C_below HR2.out HB.out) HC2.out (Kd.C_below HR3.out HB.out) HC3.out (Kd.C_below HR4.out HB.out) HC4.out (Kd.C_below HR5.out HB.out) HC5.out HN.out).mono ?_);rintro e w3 ⟨rfl,hb⟩;have n1_:=qqm (below_step HB.out hb);have n2_:=qqm (blk_below BK.out hb);clear HB BK hb hx0 hx1 hx2 hx3 hx4 hx5;have HB:=n1_;have BK:=n2_;clear n1_ n2_;have hx0:w3.cell? ⟨gb,0,none⟩ = some (.int .u16 a0_0):=(qqh BK.out 0).trans rfl;have hx1:w3.cell? ⟨gb,1,none⟩ = some (.int .u16 a0_1):=(qqh BK.out 1).trans rfl;have hx2:w3.cell? ⟨gb,2,none⟩ = some (.slice A0_2 l0_2.length c0_2):=(qqh BK.out 2).trans rfl;have hx3:w3.cell? ⟨gb,3,none⟩ = some (.slice A0_3 l0_3.length c0_3):=(qqh BK.out 3).trans rfl;have hx4:w3.cell? ⟨gb,4,none⟩ = some (.slice A0_4 l0_4.length c0_4):=(qqh BK.out 4).trans rfl;have hx5:w3.cell? ⟨gb,5,none⟩ = some (.slice A0_5 l0_5.length c0_5):=(qqh BK.out 5).trans rfl))
  have HRL:=qqm (Kd.C_below HR4.out HB.out)
  clear HR2 HC2 HR3 HC3 HR4 HC4 HR5 HC5 HN hx0 hx1 hx2 hx3 hx4 hx5 BK
  obtain ⟨w6,ew6⟩:∃ x,x = w3:=⟨_,rfl⟩
  rw [← ew6] at HRL HB ⊢
  clear ew6
  go_loopw [14] (fun v14 wr=>∃ j:Nat,j ≤ l0_4.length∧v14 = .int .i64 j∧Aside0 (query_Least.soa (l0_4.drop j) = query_Least.soa l0_4)∧Aside0 (Below w6.heap.size w6 wr)) (fun v14 _=>l0_4.length - (intOf v14).toNat)
  case atStart=>exact ⟨0,by omega,rfl,⟨by rw [List.drop_zero]⟩,⟨Below.refl _ _⟩⟩
  case round =>
   obtain ⟨j,hj,rfl,HC,HL⟩:=hrel
   by_cases hlt:j < l0_4.length
   ·
    have hd:l0_4.drop j = l0_4[j] :: l0_4.drop (j + 1):=List.drop_eq_getElem_cons hlt
    have h1:=HC.out
    rw [hd] at h1
    have hrd:rd_T51 l0_4 (j:Int) = l0_4[j]:=by simp [rd_T51,hlt]
    obtain ⟨ad,A4,c4,A5,c5,A6,c6,e0,hx0,hx1,hx2,hx3,hx4,hx5,hx6,_,_,_,hn5,_⟩:=at_T51 HRL.out (j:Int) (by omega) (by omega)
    subst e0
    rw [hrd,Int.toNat_natCast] at hx0 hx1 hx2 hx3 hx4 hx5 hx6
    rw [hrd] at hn5
    clear hrd hd HC
    generalize l0_4[j] = el at *
    have HK:=qqm h1
    have HN5:=qqm hn5
    clear h1 hn5
    replace hx0:=(HL.out.cell (World.block_lt_of_cell? w6 _ hx0)).trans hx0
    replace hx1:=(HL.out.cell (World.block_lt_of_cell? w6 _ hx1)).trans hx1
    replace hx2:=(HL.out.cell (World.block_lt_of_cell? w6 _ hx2)).trans hx2
    replace hx3:=(HL.out.cell (World.block_lt_of_cell? w6 _ hx3)).trans hx3
    replace hx4:=(HL.out.cell (World.block_lt_of_cell? w6 _ hx4)).trans hx4
    replace hx5:=(HL.out.cell (World.block_lt_of_cell? w6 _ hx5)).trans hx5
    replace hx6:=(HL.out.cell (World.block_lt_of_cell? w6 _ hx6)).trans hx6
    by_cases q6:el.f1 = 6
    ·
     have q6b:(el.f1 == 6) = true:=beq_iff_eq.mpr q6
     have hk:=HK.out
     rw [query_Least.soa,if_pos q6] at hk
     have HK2:=qqm hk
     clear hk HK q6
     by_cases q5:el.f5.length = 5
     ·
      have q5b:((el.f5.length:Int) != 5) = false:=by rw [q5];rfl
      have hk:=HK2.out
      rw [if_pos q5] at hk
      have HK:=qqm hk
      have Q5:=qqm q5
      clear hk HK2 q5
      go_upto_region 5 with (first|((with_reducible refine gate_dst (N:=4) rfl ?_);refine box_event ?hg (N:=4) ?hd (cs:=#[.string (⟨#[]⟩:ByteArray),.int .u16 0,.int .u16 0,.int .u32 0,.slice none 0 0,.slice none 0 0,.slice none 0 0]) (t:=51) ?hr ?_;(case hd=>rfl);(case hg=>rfl);(case hr=>first|(go_simp;done)|(go_simp;rfl));intro gq hg w7 hbox hb;have hz0:w7.cell? ⟨gq,0,none⟩ = some (.string (⟨#[]⟩:ByteArray)):=(qqh hbox 0).trans rfl;have hf0:=qqi hbox 0;have hz1:w7.cell? ⟨gq,1,none⟩ = some (.int .u16 0):=(qqh hbox 1).trans rfl;have hf1:=qqi hbox 1;have hz2:w7.cell? ⟨gq,2,none⟩ = some (.int .u16 0):=(qqh hbox 2).trans rfl;have hf2:=qqi hbox 2;have hz3:w7.cell? ⟨gq,3,none⟩ = some (.int .u32 0):=(qqh hbox 3).trans rfl;have hf3:=qqi hbox 3;have hz4:w7.cell? ⟨gq,4,none⟩ = some (.slice none 0 0):=(qqh hbox 4).trans rfl;have hf4:=qqi hbox 4;have hz5:w7.cell? ⟨gq,5,none⟩ = some (.slice none 0 0):=(qqh hbox 5).trans rfl;have hf5:=qqi hbox 5;have hz6:w7.cell? ⟨gq,6,none⟩ = some (.slice none 0 0):=(qqh hbox 6).trans rfl;have hf6:=qqi hbox 6;have BQ:=qqm hbox;have GE:=qqm (show w6.heap.size ≤ gq by have:=HL.out.size;omega);have n3_:=qqm (below_step HL.out hb);clear hbox hb hg HL;have HL:=n3_;clear n3_))
      (try simp only [Act.put,qqj,qqk,qql])
      have n1_:=qqm (show (((((((w7.setCell ⟨gq,0,none⟩ (.string el.f0)).setCell ⟨gq,1,none⟩ (.int .u16 el.f1)).setCell ⟨gq,2,none⟩ (.int .u16 el.f2)).setCell ⟨gq,3,none⟩ (.int .u32 el.f3)).setCell ⟨gq,4,none⟩ (.slice A4 el.f4.length c4)).setCell ⟨gq,5,none⟩ (.slice A5 el.f5.length c5)).setCell ⟨gq,6,none⟩ (.slice A6 el.f6.length c6)).heap[gq]? = some (.cells #[.string el.f0,.int .u16 el.f1,.int .u16 el.f2,.int .u32 el.f3,.slice A4 el.f4.length c4,.slice A5 el.f5.length c5,.slice A6 el.f6.length c6] 51 (0,0)) from (blk_put (blk_put (blk_put (blk_put (blk_put (blk_put (blk_put BQ.out 0 _ rfl) 1 _ rfl) 2 _ rfl) 3 _ rfl) 4 _ rfl) 5 _ rfl) 6 _ rfl))
      have n2_:=qqm (show Below w6.heap.size w6 (((((((w7.setCell ⟨gq,0,none⟩ (.string el.f0)).setCell ⟨gq,1,none⟩ (.int .u16 el.f1)).setCell ⟨gq,2,none⟩ (.int .u16 el.f2)).setCell ⟨gq,3,none⟩ (.int .u32 el.f3)).setCell ⟨gq,4,none⟩ (.slice A4 el.f4.length c4)).setCell ⟨gq,5,none⟩ (.slice A5 el.f5.length c5)).setCell ⟨gq,6,none⟩ (.slice A6 el.f6.length c6)) from (qqg (qqg (qqg (qqg (qqg (qqg (qqg HL.out GE.out) GE.out) GE.out) GE.out) GE.out) GE.out) GE.out))
      have hj1:=(qqh n1_.out 1).trans (show _ = some (Value.int .u16 el.f1) from rfl)
      have hj3:=(qqh n1_.out 3).trans (show _ = some (Value.int .u32 el.f3) from rfl)
      have hj5:=(qqh n1_.out 5).trans (show _ = some (Value.slice A5 el.f5.length c5) from rfl)
      clear BQ HL hz0 hf0 hz1 hf1 hz2 hf2 hz3 hf3 hz4 hf4 hz5 hf5 hz6 hf6 hx0 hx1 hx2 hx3 hx4 hx5 hx6
      generalize ((((((w7.setCell ⟨gq,0,none⟩ (.string el.f0)).setCell ⟨gq,1,none⟩ (.int .u16 el.f1)).setCell ⟨gq,2,none⟩ (.int .u16 el.f2)).setCell ⟨gq,3,none⟩ (.int .u32 el.f3)).setCell ⟨gq,4,none⟩ (.slice A4 el.f4.length c4)).setCell ⟨gq,5,none⟩ (.slice A5 el.f5.length c5)).setCell ⟨gq,6,none⟩ (.slice A6 el.f6.length c6) = wA at n1_ n2_ hj1 hj3 hj5 ⊢
      have HL:=n2_
      clear n1_ n2_
      have hr5:=Kd.reads_of_C (enc:=Value.int .u32) (d:=(0:Int)) (h1:=fun _=>rfl) (Kd.C_below HN5.out HL.out)
      obtain ⟨a5,e5,hc5⟩:=hr5.2.2 (by have:=Q5.out;omega)
      subst e5
      have hk4:=hc5 4 (by have:=Q5.out;omega)
      have hk4b:wA.cell? ⟨a5.block,a5.off + 4,none⟩ = some (.int .u32 (el.f5.getD 4 0)):=hk4
      obtain ⟨m4,em4⟩:∃ x,x = el.f5.getD 4 0:=⟨_,rfl⟩
      rw [← em4] at hk4b
      have HKm:=HK.out
      rw [← em4] at HKm
      have HK:=qqm HKm
      clear HKm hk4 em4
      have q5l:(4:Int) < el.f5.length:=by have:=Q5.out;omega
      have q5m:4 < el.f5.length:=by have:=Q5.out;omega
      clear hc5 hr5
      go_wp2
      go_region
      all_goals go_wp2
      all_goals go_ret
      all_goals refine ⟨?_,below_step HB.out (qqe HL.out)⟩
      all_goals (rw [← HK.out];first|rfl|(split <;> first|rfl|(exfalso;omega)|(show Ending.returned (Value.int IntKind.u32 _) = Ending.returned (Value.int IntKind.u32 _);congr 2;omega)))
     ·
      have q5b:((el.f5.length:Int) != 5) = true:=bne_iff_ne.mpr (by omega)
      have hk:=HK2.out
      rw [if_neg q5] at hk
      have HK:=qqm hk
      clear hk HK2 q5
      go_upto_region 5 with (first|((with_reducible refine gate_dst (N:=4) rfl ?_);refine box_event ?hg (N:=4) ?hd (cs:=#[.string (⟨#[]⟩:ByteArray),.int .u16 0,.int .u16 0,.int .u32 0,.slice none 0 0,.slice none 0 0,.slice none 0 0]) (t:=51) ?hr ?_;(case hd=>rfl);(case hg=>rfl);(case hr=>first|(go_simp;done)|(go_simp;rfl));intro gq hg w7 hbox hb;have hz0:w7.cell? ⟨gq,0,none⟩ = some (.string (⟨#[]⟩:ByteArray)):=(qqh hbox 0).trans rfl;have hf0:=qqi hbox 0;have hz1:w7.cell? ⟨gq,1,none⟩ = some (.int .u16 0):=(qqh hbox 1).trans rfl;have hf1:=qqi hbox 1;have hz2:w7.cell? ⟨gq,2,none⟩ = some (.int .u16 0):=(qqh hbox 2).trans rfl;have hf2:=qqi hbox 2;have hz3:w7.cell? ⟨gq,3,none⟩ = some (.int .u32 0):=(qqh hbox 3).trans rfl;have hf3:=qqi hbox 3;have hz4:w7.cell? ⟨gq,4,none⟩ = some (.slice none 0 0):=(qqh hbox 4).trans rfl;have hf4:=qqi hbox 4;have hz5:w7.cell? ⟨gq,5,none⟩ = some (.slice none 0 0):=(qqh hbox 5).trans rfl;have hf5:=qqi hbox 5;have hz6:w7.cell? ⟨gq,6,none⟩ = some (.slice none 0 0):=(qqh hbox 6).trans rfl;have hf6:=qqi hbox 6;have BQ:=qqm hbox;have GE:=qqm (show w6.heap.size ≤ gq by have:=HL.out.size;omega);have n3_:=qqm (below_step HL.out hb);clear hbox hb hg HL;have HL:=n3_;clear n3_))
      (try simp only [Act.put,qqj,qqk,qql])
      have n1_:=qqm (show (((((((w7.setCell ⟨gq,0,none⟩ (.string el.f0)).setCell ⟨gq,1,none⟩ (.int .u16 el.f1)).setCell ⟨gq,2,none⟩ (.int .u16 el.f2)).setCell ⟨gq,3,none⟩ (.int .u32 el.f3)).setCell ⟨gq,4,none⟩ (.slice A4 el.f4.length c4)).setCell ⟨gq,5,none⟩ (.slice A5 el.f5.length c5)).setCell ⟨gq,6,none⟩ (.slice A6 el.f6.length c6)).heap[gq]? = some (.cells #[.string el.f0,.int .u16 el.f1,.int .u16 el.f2,.int .u32 el.f3,.slice A4 el.f4.length c4,.slice A5 el.f5.length c5,.slice A6 el.f6.length c6] 51 (0,0)) from (blk_put (blk_put (blk_put (blk_put (blk_put (blk_put (blk_put BQ.out 0 _ rfl) 1 _ rfl) 2 _ rfl) 3 _ rfl) 4 _ rfl) 5 _ rfl) 6 _ rfl))
      have n2_:=qqm (show Below w6.heap.size w6 (((((((w7.setCell ⟨gq,0,none⟩ (.string el.f0)).setCell ⟨gq,1,none⟩ (.int .u16 el.f1)).setCell ⟨gq,2,none⟩ (.int .u16 el.f2)).setCell ⟨gq,3,none⟩ (.int .u32 el.f3)).setCell ⟨gq,4,none⟩ (.slice A4 el.f4.length c4)).setCell ⟨gq,5,none⟩ (.slice A5 el.f5.length c5)).setCell ⟨gq,6,none⟩ (.slice A6 el.f6.length c6)) from (qqg (qqg (qqg (qqg (qqg (qqg (qqg HL.out GE.out) GE.out) GE.out) GE.out) GE.out) GE.out) GE.out))
      have hj1:=(qqh n1_.out 1).trans (show _ = some (Value.int .u16 el.f1) from rfl)
      have hj3:=(qqh n1_.out 3).trans (show _ = some (Value.int .u32 el.f3) from rfl)
      have hj5:=(qqh n1_.out 5).trans (show _ = some (Value.slice A5 el.f5.length c5) from rfl)
      clear BQ HL hz0 hf0 hz1 hf1 hz2 hf2 hz3 hf3 hz4 hf4 hz5 hf5 hz6 hf6 hx0 hx1 hx2 hx3 hx4 hx5 hx6
      generalize ((((((w7.setCell ⟨gq,0,none⟩ (.string el.f0)).setCell ⟨gq,1,none⟩ (.int .u16 el.f1)).setCell ⟨gq,2,none⟩ (.int .u16 el.f2)).setCell ⟨gq,3,none⟩ (.int .u32 el.f3)).setCell ⟨gq,4,none⟩ (.slice A4 el.f4.length c4)).setCell ⟨gq,5,none⟩ (.slice A5 el.f5.length c5)).setCell ⟨gq,6,none⟩ (.slice A6 el.f6.length c6) = wA at n1_ n2_ hj1 hj3 hj5 ⊢
      have HL:=n2_
      clear n1_ n2_
      go_wp2
      go_ret
      exact ⟨by rw [← HK.out];rfl,below_step HB.out HL.out⟩
    ·
     have q6b:(el.f1 == 6) = false:=beq_eq_false_iff_ne.mpr q6
     have hk:=HK.out
     rw [query_Least.soa,if_neg q6] at hk
     have HK2:=qqm hk
     clear hk HK q6
     go_upto_region 5 with (first|((with_reducible refine gate_dst (N:=4) rfl ?_);refine box_event ?hg (N:=4) ?hd (cs:=#[.string (⟨#[]⟩:ByteArray),.int .u16 0,.int .u16 0,.int .u32 0,.slice none 0 0,.slice none 0 0,.slice none 0 0]) (t:=51) ?hr ?_;(case hd=>rfl);(case hg=>rfl);(case hr=>first|(go_simp;done)|(go_simp;rfl));intro gq hg w7 hbox hb;have hz0:w7.cell? ⟨gq,0,none⟩ = some (.string (⟨#[]⟩:ByteArray)):=(qqh hbox 0).trans rfl;have hf0:=qqi hbox 0;have hz1:w7.cell? ⟨gq,1,none⟩ = some (.int .u16 0):=(qqh hbox 1).trans rfl;have hf1:=qqi hbox 1;have hz2:w7.cell? ⟨gq,2,none⟩ = some (.int .u16 0):=(qqh hbox 2).trans rfl;have hf2:=qqi hbox 2;have hz3:w7.cell? ⟨gq,3,none⟩ = some (.int .u32 0):=(qqh hbox 3).trans rfl;have hf3:=qqi hbox 3;have hz4:w7.cell? ⟨gq,4,none⟩ = some (.slice none 0 0):=(qqh hbox 4).trans rfl;have hf4:=qqi hbox 4;have hz5:w7.cell? ⟨gq,5,none⟩ = some (.slice none 0 0):=(qqh hbox 5).trans rfl;have hf5:=qqi hbox 5;have hz6:w7.cell? ⟨gq,6,none⟩ = some (.slice none 0 0):=(qqh hbox 6).trans rfl;have hf6:=qqi hbox 6;have BQ:=qqm hbox;have GE:=qqm (show w6.heap.size ≤ gq by have:=HL.out.size;omega);have n3_:=qqm (below_step HL.out hb);clear hbox hb hg HL;have HL:=n3_;clear n3_))
     (try simp only [Act.put,qqj,qqk,qql])
     have n1_:=qqm (show (((((((w7.setCell ⟨gq,0,none⟩ (.string el.f0)).setCell ⟨gq,1,none⟩ (.int .u16 el.f1)).setCell ⟨gq,2,none⟩ (.int .u16 el.f2)).setCell ⟨gq,3,none⟩ (.int .u32 el.f3)).setCell ⟨gq,4,none⟩ (.slice A4 el.f4.length c4)).setCell ⟨gq,5,none⟩ (.slice A5 el.f5.length c5)).setCell ⟨gq,6,none⟩ (.slice A6 el.f6.length c6)).heap[gq]? = some (.cells #[.string el.f0,.int .u16 el.f1,.int .u16 el.f2,.int .u32 el.f3,.slice A4 el.f4.length c4,.slice A5 el.f5.length c5,.slice A6 el.f6.length c6] 51 (0,0)) from (blk_put (blk_put (blk_put (blk_put (blk_put (blk_put (blk_put BQ.out 0 _ rfl) 1 _ rfl) 2 _ rfl) 3 _ rfl) 4 _ rfl) 5 _ rfl) 6 _ rfl))
     have n2_:=qqm (show Below w6.heap.size w6 (((((((w7.setCell ⟨gq,0,none⟩ (.string el.f0)).setCell ⟨gq,1,none⟩ (.int .u16 el.f1)).setCell ⟨gq,2,none⟩ (.int .u16 el.f2)).setCell ⟨gq,3,none⟩ (.int .u32 el.f3)).setCell ⟨gq,4,none⟩ (.slice A4 el.f4.length c4)).setCell ⟨gq,5,none⟩ (.slice A5 el.f5.length c5)).setCell ⟨gq,6,none⟩ (.slice A6 el.f6.length c6)) from (qqg (qqg (qqg (qqg (qqg (qqg (qqg HL.out GE.out) GE.out) GE.out) GE.out) GE.out) GE.out) GE.out))
     have hj1:=(qqh n1_.out 1).trans (show _ = some (Value.int .u16 el.f1) from rfl)
     have hj3:=(qqh n1_.out 3).trans (show _ = some (Value.int .u32 el.f3) from rfl)
     have hj5:=(qqh n1_.out 5).trans (show _ = some (Value.slice A5 el.f5.length c5) from rfl)
     clear BQ HL hz0 hf0 hz1 hf1 hz2 hf2 hz3 hf3 hz4 hf4 hz5 hf5 hz6 hf6 hx0 hx1 hx2 hx3 hx4 hx5 hx6
     generalize ((((((w7.setCell ⟨gq,0,none⟩ (.string el.f0)).setCell ⟨gq,1,none⟩ (.int .u16 el.f1)).setCell ⟨gq,2,none⟩ (.int .u16 el.f2)).setCell ⟨gq,3,none⟩ (.int .u32 el.f3)).setCell ⟨gq,4,none⟩ (.slice A4 el.f4.length c4)).setCell ⟨gq,5,none⟩ (.slice A5 el.f5.length c5)).setCell ⟨gq,6,none⟩ (.slice A6 el.f6.length c6) = wA at n1_ n2_ hj1 hj3 hj5 ⊢
     have HL:=n2_
     clear n1_ n2_
     go_wp2
     go_roundw
     case rel=>exact ⟨j + 1,by omega,by go_num,HK2,HL⟩
     case measure=>simp [intOf];omega
   ·
    obtain rfl:j = l0_4.length:=by omega
    have h1:=HC.out
    rw [List.drop_length] at h1
    go_wp2
    go_ret
    exact ⟨by rw [← h1];rfl,below_step HB.out HL.out⟩
 | false =>
  rw [if_neg (by simp)] at H
  by_cases hbig:l0_3.length + l0_4.length + l0_5.length < 1466015503701
  ·
   rw [if_pos hbig] at H
   obtain rfl:=Option.some.inj H
   clear H
   obtain ⟨LL,eL⟩:∃ LL,LL = l0_3 ++ l0_4 ++ l0_5:=⟨_,rfl⟩
   have eN:l0_3.length + l0_4.length + l0_5.length = LL.length:=by rw [eL,List.length_append,List.length_append]
   have hll:LL.length ≤ 9223372036854775807:=by omega
   rw [← eL]
   have EL:=qqm eL
   have EN:=qqm eN
   have HG:=qqm hbig
   clear eL eN hbig
   go_enter Try.func20,Try.ntmps20
   go_wp2_with (first|((with_reducible refine gate_dst (N:=1) rfl ?_);refine box_event ?hg (N:=1) ?hd (cs:=#[.int .u16 a0_0,.int .u16 a0_1,.slice A0_2 l0_2.length c0_2,.slice A0_3 l0_3.length c0_3,.slice A0_4 l0_4.length c0_4,.slice A0_5 l0_5.length c0_5]) (t:=26) ?hr ?_;(case hd=>rfl);(case hg=>rfl);(case hr=>first|(go_simp;done)|(go_simp;rfl));intro gb hg w1 hbox hb;have hx0:w1.cell? ⟨gb,0,none⟩ = some (.int .u16 a0_0):=(qqh hbox 0).trans rfl;have hx1:w1.cell? ⟨gb,1,none⟩ = some (.int .u16 a0_1):=(qqh hbox 1).trans rfl;have hx2:w1.cell? ⟨gb,2,none⟩ = some (.slice A0_2 l0_2.length c0_2):=(qqh hbox 2).trans rfl;have hx3:w1.cell? ⟨gb,3,none⟩ = some (.slice A0_3 l0_3.length c0_3):=(qqh hbox 3).trans rfl;have hx4:w1.cell? ⟨gb,4,none⟩ = some (.slice A0_4 l0_4.length c0_4):=(qqh hbox 4).trans rfl;have hx5:w1.cell? ⟨gb,5,none⟩ = some (.slice A0_5 l0_5.length c0_5):=(qqh hbox 5).trans rfl;have BK:=qqm hbox;have HB:=qqm hb;clear hbox hb hg)|(go_at_call 18;(with_reducible refine (query_Negative.calls a0_0 a0_1 A0_2 c0_2 l0_2 A0_3 c0_3 l0_3 A0_4 c0_4 l0_4 A0_5 c0_5 l0_5 false _ (Kd.C_below HR2.out HB.out) HC2.out (Kd.C_below HR3.out HB.out) HC3.out (Kd.C_below HR4.out HB.out) HC4.out (Kd.C_below HR5.out HB.out) HC5.out HN.out).mono ?_);rintro e w3 ⟨rfl,hb⟩;have n1_:=qqm (below_step HB.out hb);have n2_:=qqm (blk_below BK.out hb);clear HB BK hb hx0 hx1 hx2 hx3 hx4 hx5;have HB:=n1_;have BK:=n2_;clear n1_ n2_;have hx0:w3.cell? ⟨gb,0,none⟩ = some (.int .u16 a0_0):=(qqh BK.out 0).trans rfl;have hx1:w3.cell? ⟨gb,1,none⟩ = some (.int .u16 a0_1):=(qqh BK.out 1).trans rfl;have hx2:w3.cell? ⟨gb,2,none⟩ = some (.slice A0_2 l0_2.length c0_2):=(qqh BK.out 2).trans rfl;have hx3:w3.cell? ⟨gb,3,none⟩ = some (.slice A0_3 l0_3.length c0_3):=(qqh BK.out 3).trans rfl;have hx4:w3.cell? ⟨gb,4,none⟩ = some (.slice A0_4 l0_4.length c0_4):=(qqh BK.out 4).trans rfl;have hx5:w3.cell? ⟨gb,5,none⟩ = some (.slice A0_5 l0_5.length c0_5):=(qqh BK.out 5).trans rfl)|(go_at_call 43;(with_reducible refine (rec_each a0_0 a0_1 A0_2 c0_2 l0_2 A0_3 c0_3 l0_3 A0_4 c0_4 l0_4 A0_5 c0_5 l0_5 _ (Kd.C_below HR3.out HB.out) (Kd.C_below HR4.out HB.out) (Kd.C_below HR5.out HB.out) HG.out).mono ?_);rintro e w5 ⟨⟨A,c,he,hc⟩,hb⟩;rw [EN.out] at he hc;rw [← EL.out] at hc;subst he;have n1_:=qqm (below_step HB.out hb);have HRL:=qqm hc;clear HB hb hc hx0 hx1 hx2 hx3 hx4 hx5 BK;have HB:=n1_;clear n1_))
   clear HR2 HC2 HR3 HC3 HR4 HC4 HR5 HC5 HN EL EN HG
   obtain ⟨w6,ew6⟩:∃ x,x = w5:=⟨_,rfl⟩
   rw [← ew6] at HRL HB ⊢
   clear ew6
   go_loopw [36,5,6] (fun v36 v5 v6 wr=>∃ (j:Nat) (t:Int) (s:Bool),j ≤ LL.length∧v36 = .int .i64 j∧v5 = .int .u32 t∧v6 = .bool s∧Aside0 (query_Least.low t s (LL.drop j) = query_Least.low 0 false LL)∧Aside0 (Below w6.heap.size w6 wr)) (fun v36 _ _ _=>LL.length - (intOf v36).toNat)
   case atStart=>exact ⟨0,0,false,by omega,rfl,rfl,rfl,⟨by rw [List.drop_zero]⟩,⟨Below.refl _ _⟩⟩
   case round =>
    obtain ⟨j,t,s,hj,rfl,rfl,rfl,HC,HL⟩:=hrel
    by_cases hlt:j < LL.length
    ·
     have hd:LL.drop j = LL[j] :: LL.drop (j + 1):=List.drop_eq_getElem_cons hlt
     have h1:=HC.out
     rw [hd] at h1
     have hrd:rd_T51 LL (j:Int) = LL[j]:=by simp [rd_T51,hlt]
     obtain ⟨ad,A4,c4,A5,c5,A6,c6,e0,hx0,hx1,hx2,hx3,hx4,hx5,hx6,_,_,_,hn5,_⟩:=at_T51 HRL.out (j:Int) (by omega) (by omega)
     subst e0
     rw [hrd,Int.toNat_natCast] at hx0 hx1 hx2 hx3 hx4 hx5 hx6
     rw [hrd] at hn5
     clear hrd hd HC
     generalize LL[j] = el at *
     have HK:=qqm h1
     have HN5:=qqm hn5
     clear h1 hn5
     replace hx0:=(HL.out.cell (World.block_lt_of_cell? w6 _ hx0)).trans hx0
     replace hx1:=(HL.out.cell (World.block_lt_of_cell? w6 _ hx1)).trans hx1
     replace hx2:=(HL.out.cell (World.block_lt_of_cell? w6 _ hx2)).trans hx2
     replace hx3:=(HL.out.cell (World.block_lt_of_cell? w6 _ hx3)).trans hx3
     replace hx4:=(HL.out.cell (World.block_lt_of_cell? w6 _ hx4)).trans hx4
     replace hx5:=(HL.out.cell (World.block_lt_of_cell? w6 _ hx5)).trans hx5
     replace hx6:=(HL.out.cell (World.block_lt_of_cell? w6 _ hx6)).trans hx6
     by_cases q41:el.f1 = 41
     ·
      have q41b:(el.f1 != 41) = false:=bne_eq_false_iff_eq.mpr q41
      have hk:=HK.out
      rw [query_Least.low,if_pos q41] at hk
      have HK2:=qqm hk
      clear hk HK q41
      go_upto_region 15 with (first|((with_reducible refine gate_dst (N:=8) rfl ?_);refine box_event ?hg (N:=8) ?hd (cs:=#[.string (⟨#[]⟩:ByteArray),.int .u16 0,.int .u16 0,.int .u32 0,.slice none 0 0,.slice none 0 0,.slice none 0 0]) (t:=51) ?hr ?_;(case hd=>rfl);(case hg=>rfl);(case hr=>first|(go_simp;done)|(go_simp;rfl));intro gq hg w7 hbox hb;have hz0:w7.cell? ⟨gq,0,none⟩ = some (.string (⟨#[]⟩:ByteArray)):=(qqh hbox 0).trans rfl;have hf0:=qqi hbox 0;have hz1:w7.cell? ⟨gq,1,none⟩ = some (.int .u16 0):=(qqh hbox 1).trans rfl;have hf1:=qqi hbox 1;have hz2:w7.cell? ⟨gq,2,none⟩ = some (.int .u16 0):=(qqh hbox 2).trans rfl;have hf2:=qqi hbox 2;have hz3:w7.cell? ⟨gq,3,none⟩ = some (.int .u32 0):=(qqh hbox 3).trans rfl;have hf3:=qqi hbox 3;have hz4:w7.cell? ⟨gq,4,none⟩ = some (.slice none 0 0):=(qqh hbox 4).trans rfl;have hf4:=qqi hbox 4;have hz5:w7.cell? ⟨gq,5,none⟩ = some (.slice none 0 0):=(qqh hbox 5).trans rfl;have hf5:=qqi hbox 5;have hz6:w7.cell? ⟨gq,6,none⟩ = some (.slice none 0 0):=(qqh hbox 6).trans rfl;have hf6:=qqi hbox 6;have BQ:=qqm hbox;have GE:=qqm (show w6.heap.size ≤ gq by have:=HL.out.size;omega);have n3_:=qqm (below_step HL.out hb);clear hbox hb hg HL;have HL:=n3_;clear n3_))
      (try simp only [Act.put,qqj,qqk,qql])
      have n1_:=qqm (show (((((((w7.setCell ⟨gq,0,none⟩ (.string el.f0)).setCell ⟨gq,1,none⟩ (.int .u16 el.f1)).setCell ⟨gq,2,none⟩ (.int .u16 el.f2)).setCell ⟨gq,3,none⟩ (.int .u32 el.f3)).setCell ⟨gq,4,none⟩ (.slice A4 el.f4.length c4)).setCell ⟨gq,5,none⟩ (.slice A5 el.f5.length c5)).setCell ⟨gq,6,none⟩ (.slice A6 el.f6.length c6)).heap[gq]? = some (.cells #[.string el.f0,.int .u16 el.f1,.int .u16 el.f2,.int .u32 el.f3,.slice A4 el.f4.length c4,.slice A5 el.f5.length c5,.slice A6 el.f6.length c6] 51 (0,0)) from (blk_put (blk_put (blk_put (blk_put (blk_put (blk_put (blk_put BQ.out 0 _ rfl) 1 _ rfl) 2 _ rfl) 3 _ rfl) 4 _ rfl) 5 _ rfl) 6 _ rfl))
      have n2_:=qqm (show Below w6.heap.size w6 (((((((w7.setCell ⟨gq,0,none⟩ (.string el.f0)).setCell ⟨gq,1,none⟩ (.int .u16 el.f1)).setCell ⟨gq,2,none⟩ (.int .u16 el.f2)).setCell ⟨gq,3,none⟩ (.int .u32 el.f3)).setCell ⟨gq,4,none⟩ (.slice A4 el.f4.length c4)).setCell ⟨gq,5,none⟩ (.slice A5 el.f5.length c5)).setCell ⟨gq,6,none⟩ (.slice A6 el.f6.length c6)) from (qqg (qqg (qqg (qqg (qqg (qqg (qqg HL.out GE.out) GE.out) GE.out) GE.out) GE.out) GE.out) GE.out))
      have hj1:=(qqh n1_.out 1).trans (show _ = some (Value.int .u16 el.f1) from rfl)
      have hj3:=(qqh n1_.out 3).trans (show _ = some (Value.int .u32 el.f3) from rfl)
      have hj5:=(qqh n1_.out 5).trans (show _ = some (Value.slice A5 el.f5.length c5) from rfl)
      clear BQ HL hz0 hf0 hz1 hf1 hz2 hf2 hz3 hf3 hz4 hf4 hz5 hf5 hz6 hf6 hx0 hx1 hx2 hx3 hx4 hx5 hx6
      generalize ((((((w7.setCell ⟨gq,0,none⟩ (.string el.f0)).setCell ⟨gq,1,none⟩ (.int .u16 el.f1)).setCell ⟨gq,2,none⟩ (.int .u16 el.f2)).setCell ⟨gq,3,none⟩ (.int .u32 el.f3)).setCell ⟨gq,4,none⟩ (.slice A4 el.f4.length c4)).setCell ⟨gq,5,none⟩ (.slice A5 el.f5.length c5)).setCell ⟨gq,6,none⟩ (.slice A6 el.f6.length c6) = wA at n1_ n2_ hj1 hj3 hj5 ⊢
      have HL:=n2_
      clear n1_ n2_
      go_wp2
      go_roundw
      case rel=>exact ⟨j + 1,t,s,by omega,by go_num,rfl,rfl,HK2,HL⟩
      case measure=>simp [intOf];omega
     ·
      have q41b:(el.f1 != 41) = true:=bne_iff_ne.mpr q41
      by_cases qs:s = true∧t ≤ el.f3
      ·
       have hk:=HK.out
       rw [query_Least.low,if_neg q41,if_pos qs] at hk
       have HK2:=qqm hk
       have qlt:decide (el.f3 < t) = false:=decide_eq_false (by omega)
       obtain ⟨rfl,_⟩:=qs
       clear hk HK q41
       go_upto_region 15 with (first|((with_reducible refine gate_dst (N:=8) rfl ?_);refine box_event ?hg (N:=8) ?hd (cs:=#[.string (⟨#[]⟩:ByteArray),.int .u16 0,.int .u16 0,.int .u32 0,.slice none 0 0,.slice none 0 0,.slice none 0 0]) (t:=51) ?hr ?_;(case hd=>rfl);(case hg=>rfl);(case hr=>first|(go_simp;done)|(go_simp;rfl));intro gq hg w7 hbox hb;have hz0:w7.cell? ⟨gq,0,none⟩ = some (.string (⟨#[]⟩:ByteArray)):=(qqh hbox 0).trans rfl;have hf0:=qqi hbox 0;have hz1:w7.cell? ⟨gq,1,none⟩ = some (.int .u16 0):=(qqh hbox 1).trans rfl;have hf1:=qqi hbox 1;have hz2:w7.cell? ⟨gq,2,none⟩ = some (.int .u16 0):=(qqh hbox 2).trans rfl;have hf2:=qqi hbox 2;have hz3:w7.cell? ⟨gq,3,none⟩ = some (.int .u32 0):=(qqh hbox 3).trans rfl;have hf3:=qqi hbox 3;have hz4:w7.cell? ⟨gq,4,none⟩ = some (.slice none 0 0):=(qqh hbox 4).trans rfl;have hf4:=qqi hbox 4;have hz5:w7.cell? ⟨gq,5,none⟩ = some (.slice none 0 0):=(qqh hbox 5).trans rfl;have hf5:=qqi hbox 5;have hz6:w7.cell? ⟨gq,6,none⟩ = some (.slice none 0 0):=(qqh hbox 6).trans rfl;have hf6:=qqi hbox 6;have BQ:=qqm hbox;have GE:=qqm (show w6.heap.size ≤ gq by have:=HL.out.size;omega);have n3_:=qqm (below_step HL.out hb);clear hbox hb hg HL;have HL:=n3_;clear n3_))
       (try simp only [Act.put,qqj,qqk,qql])
       have n1_:=qqm (show (((((((w7.setCell ⟨gq,0,none⟩ (.string el.f0)).setCell ⟨gq,1,none⟩ (.int .u16 el.f1)).setCell ⟨gq,2,none⟩ (.int .u16 el.f2)).setCell ⟨gq,3,none⟩ (.int .u32 el.f3)).setCell ⟨gq,4,none⟩ (.slice A4 el.f4.length c4)).setCell ⟨gq,5,none⟩ (.slice A5 el.f5.length c5)).setCell ⟨gq,6,none⟩ (.slice A6 el.f6.length c6)).heap[gq]? = some (.cells #[.string el.f0,.int .u16 el.f1,.int .u16 el.f2,.int .u32 el.f3,.slice A4 el.f4.length c4,.slice A5 el.f5.length c5,.slice A6 el.f6.length c6] 51 (0,0)) from (blk_put (blk_put (blk_put (blk_put (blk_put (blk_put (blk_put BQ.out 0 _ rfl) 1 _ rfl) 2 _ rfl) 3 _ rfl) 4 _ rfl) 5 _ rfl) 6 _ rfl))
       have n2_:=qqm (show Below w6.heap.size w6 (((((((w7.setCell ⟨gq,0,none⟩ (.string el.f0)).setCell ⟨gq,1,none⟩ (.int .u16 el.f1)).setCell ⟨gq,2,none⟩ (.int .u16 el.f2)).setCell ⟨gq,3,none⟩ (.int .u32 el.f3)).setCell ⟨gq,4,none⟩ (.slice A4 el.f4.length c4)).setCell ⟨gq,5,none⟩ (.slice A5 el.f5.length c5)).setCell ⟨gq,6,none⟩ (.slice A6 el.f6.length c6)) from (qqg (qqg (qqg (qqg (qqg (qqg (qqg HL.out GE.out) GE.out) GE.out) GE.out) GE.out) GE.out) GE.out))
       have hj1:=(qqh n1_.out 1).trans (show _ = some (Value.int .u16 el.f1) from rfl)
       have hj3:=(qqh n1_.out 3).trans (show _ = some (Value.int .u32 el.f3) from rfl)
       have hj5:=(qqh n1_.out 5).trans (show _ = some (Value.slice A5 el.f5.length c5) from rfl)
       clear BQ HL hz0 hf0 hz1 hf1 hz2 hf2 hz3 hf3 hz4 hf4 hz5 hf5 hz6 hf6 hx0 hx1 hx2 hx3 hx4 hx5 hx6
       generalize ((((((w7.setCell ⟨gq,0,none⟩ (.string el.f0)).setCell ⟨gq,1,none⟩ (.int .u16 el.f1)).setCell ⟨gq,2,none⟩ (.int .u16 el.f2)).setCell ⟨gq,3,none⟩ (.int .u32 el.f3)).setCell ⟨gq,4,none⟩ (.slice A4 el.f4.length c4)).setCell ⟨gq,5,none⟩ (.slice A5 el.f5.length c5)).setCell ⟨gq,6,none⟩ (.slice A6 el.f6.length c6) = wA at n1_ n2_ hj1 hj3 hj5 ⊢
       have HL:=n2_
       clear n1_ n2_
       go_wp2
       go_roundw
       case rel=>exact ⟨j + 1,t,true,by omega,by go_num,rfl,rfl,HK2,HL⟩
       case measure=>simp [intOf];omega
      ·
       have hk:=HK.out
       rw [query_Least.low,if_neg q41,if_neg qs] at hk
       have HK2:=qqm hk
       clear hk HK q41
       cases s with
       | false =>
        clear qs
        go_upto_region 15 with (first|((with_reducible refine gate_dst (N:=8) rfl ?_);refine box_event ?hg (N:=8) ?hd (cs:=#[.string (⟨#[]⟩:ByteArray),.int .u16 0,.int .u16 0,.int .u32 0,.slice none 0 0,.slice none 0 0,.slice none 0 0]) (t:=51) ?hr ?_;(case hd=>rfl);(case hg=>rfl);(case hr=>first|(go_simp;done)|(go_simp;rfl));intro gq hg w7 hbox hb;have hz0:w7.cell? ⟨gq,0,none⟩ = some (.string (⟨#[]⟩:ByteArray)):=(qqh hbox 0).trans rfl;have hf0:=qqi hbox 0;have hz1:w7.cell? ⟨gq,1,none⟩ = some (.int .u16 0):=(qqh hbox 1).trans rfl;have hf1:=qqi hbox 1;have hz2:w7.cell? ⟨gq,2,none⟩ = some (.int .u16 0):=(qqh hbox 2).trans rfl;have hf2:=qqi hbox 2;have hz3:w7.cell? ⟨gq,3,none⟩ = some (.int .u32 0):=(qqh hbox 3).trans rfl;have hf3:=qqi hbox 3;have hz4:w7.cell? ⟨gq,4,none⟩ = some (.slice none 0 0):=(qqh hbox 4).trans rfl;have hf4:=qqi hbox 4;have hz5:w7.cell? ⟨gq,5,none⟩ = some (.slice none 0 0):=(qqh hbox 5).trans rfl;have hf5:=qqi hbox 5;have hz6:w7.cell? ⟨gq,6,none⟩ = some (.slice none 0 0):=(qqh hbox 6).trans rfl;have hf6:=qqi hbox 6;have BQ:=qqm hbox;have GE:=qqm (show w6.heap.size ≤ gq by have:=HL.out.size;omega);have n3_:=qqm (below_step HL.out hb);clear hbox hb hg HL;have HL:=n3_;clear n3_))
        (try simp only [Act.put,qqj,qqk,qql])
        have n1_:=qqm (show (((((((w7.setCell ⟨gq,0,none⟩ (.string el.f0)).setCell ⟨gq,1,none⟩ (.int .u16 el.f1)).setCell ⟨gq,2,none⟩ (.int .u16 el.f2)).setCell ⟨gq,3,none⟩ (.int .u32 el.f3)).setCell ⟨gq,4,none⟩ (.slice A4 el.f4.length c4)).setCell ⟨gq,5,none⟩ (.slice A5 el.f5.length c5)).setCell ⟨gq,6,none⟩ (.slice A6 el.f6.length c6)).heap[gq]? = some (.cells #[.string el.f0,.int .u16 el.f1,.int .u16 el.f2,.int .u32 el.f3,.slice A4 el.f4.length c4,.slice A5 el.f5.length c5,.slice A6 el.f6.length c6] 51 (0,0)) from (blk_put (blk_put (blk_put (blk_put (blk_put (blk_put (blk_put BQ.out 0 _ rfl) 1 _ rfl) 2 _ rfl) 3 _ rfl) 4 _ rfl) 5 _ rfl) 6 _ rfl))
        have n2_:=qqm (show Below w6.heap.size w6 (((((((w7.setCell ⟨gq,0,none⟩ (.string el.f0)).setCell ⟨gq,1,none⟩ (.int .u16 el.f1)).setCell ⟨gq,2,none⟩ (.int .u16 el.f2)).setCell ⟨gq,3,none⟩ (.int .u32 el.f3)).setCell ⟨gq,4,none⟩ (.slice A4 el.f4.length c4)).setCell ⟨gq,5,none⟩ (.slice A5 el.f5.length c5)).setCell ⟨gq,6,none⟩ (.slice A6 el.f6.length c6)) from (qqg (qqg (qqg (qqg (qqg (qqg (qqg HL.out GE.out) GE.out) GE.out) GE.out) GE.out) GE.out) GE.out))
        have hj1:=(qqh n1_.out 1).trans (show _ = some (Value.int .u16 el.f1) from rfl)
        have hj3:=(qqh n1_.out 3).trans (show _ = some (Value.int .u32 el.f3) from rfl)
        have hj5:=(qqh n1_.out 5).trans (show _ = some (Value.slice A5 el.f5.length c5) from rfl)
        clear BQ HL hz0 hf0 hz1 hf1 hz2 hf2 hz3 hf3 hz4 hf4 hz5 hf5 hz6 hf6 hx0 hx1 hx2 hx3 hx4 hx5 hx6
        generalize ((((((w7.setCell ⟨gq,0,none⟩ (.string el.f0)).setCell ⟨gq,1,none⟩ (.int .u16 el.f1)).setCell ⟨gq,2,none⟩ (.int .u16 el.f2)).setCell ⟨gq,3,none⟩ (.int .u32 el.f3)).setCell ⟨gq,4,none⟩ (.slice A4 el.f4.length c4)).setCell ⟨gq,5,none⟩ (.slice A5 el.f5.length c5)).setCell ⟨gq,6,none⟩ (.slice A6 el.f6.length c6) = wA at n1_ n2_ hj1 hj3 hj5 ⊢
        have HL:=n2_
        clear n1_ n2_
        go_wp2
        go_roundw
        case rel=>exact ⟨j + 1,el.f3,true,by omega,by go_num,rfl,rfl,HK2,HL⟩
        case measure=>simp [intOf];omega
       | true =>
        have qlt:decide (el.f3 < t) = true:=decide_eq_true (by simp at qs;omega)
        clear qs
        go_upto_region 15 with (first|((with_reducible refine gate_dst (N:=8) rfl ?_);refine box_event ?hg (N:=8) ?hd (cs:=#[.string (⟨#[]⟩:ByteArray),.int .u16 0,.int .u16 0,.int .u32 0,.slice none 0 0,.slice none 0 0,.slice none 0 0]) (t:=51) ?hr ?_;(case hd=>rfl);(case hg=>rfl);(case hr=>first|(go_simp;done)|(go_simp;rfl));intro gq hg w7 hbox hb;have hz0:w7.cell? ⟨gq,0,none⟩ = some (.string (⟨#[]⟩:ByteArray)):=(qqh hbox 0).trans rfl;have hf0:=qqi hbox 0;have hz1:w7.cell? ⟨gq,1,none⟩ = some (.int .u16 0):=(qqh hbox 1).trans rfl;have hf1:=qqi hbox 1;have hz2:w7.cell? ⟨gq,2,none⟩ = some (.int .u16 0):=(qqh hbox 2).trans rfl;have hf2:=qqi hbox 2;have hz3:w7.cell? ⟨gq,3,none⟩ = some (.int .u32 0):=(qqh hbox 3).trans rfl;have hf3:=qqi hbox 3;have hz4:w7.cell? ⟨gq,4,none⟩ = some (.slice none 0 0):=(qqh hbox 4).trans rfl;have hf4:=qqi hbox 4;have hz5:w7.cell? ⟨gq,5,none⟩ = some (.slice none 0 0):=(qqh hbox 5).trans rfl;have hf5:=qqi hbox 5;have hz6:w7.cell? ⟨gq,6,none⟩ = some (.slice none 0 0):=(qqh hbox 6).trans rfl;have hf6:=qqi hbox 6;have BQ:=qqm hbox;have GE:=qqm (show w6.heap.size ≤ gq by have:=HL.out.size;omega);have n3_:=qqm (below_step HL.out hb);clear hbox hb hg HL;have HL:=n3_;clear n3_))
        (try simp only [Act.put,qqj,qqk,qql])
        have n1_:=qqm (show (((((((w7.setCell ⟨gq,0,none⟩ (.string el.f0)).setCell ⟨gq,1,none⟩ (.int .u16 el.f1)).setCell ⟨gq,2,none⟩ (.int .u16 el.f2)).setCell ⟨gq,3,none⟩ (.int .u32 el.f3)).setCell ⟨gq,4,none⟩ (.slice A4 el.f4.length c4)).setCell ⟨gq,5,none⟩ (.slice A5 el.f5.length c5)).setCell ⟨gq,6,none⟩ (.slice A6 el.f6.length c6)).heap[gq]? = some (.cells #[.string el.f0,.int .u16 el.f1,.int .u16 el.f2,.int .u32 el.f3,.slice A4 el.f4.length c4,.slice A5 el.f5.length c5,.slice A6 el.f6.length c6] 51 (0,0)) from (blk_put (blk_put (blk_put (blk_put (blk_put (blk_put (blk_put BQ.out 0 _ rfl) 1 _ rfl) 2 _ rfl) 3 _ rfl) 4 _ rfl) 5 _ rfl) 6 _ rfl))
        have n2_:=qqm (show Below w6.heap.size w6 (((((((w7.setCell ⟨gq,0,none⟩ (.string el.f0)).setCell ⟨gq,1,none⟩ (.int .u16 el.f1)).setCell ⟨gq,2,none⟩ (.int .u16 el.f2)).setCell ⟨gq,3,none⟩ (.int .u32 el.f3)).setCell ⟨gq,4,none⟩ (.slice A4 el.f4.length c4)).setCell ⟨gq,5,none⟩ (.slice A5 el.f5.length c5)).setCell ⟨gq,6,none⟩ (.slice A6 el.f6.length c6)) from (qqg (qqg (qqg (qqg (qqg (qqg (qqg HL.out GE.out) GE.out) GE.out) GE.out) GE.out) GE.out) GE.out))
        have hj1:=(qqh n1_.out 1).trans (show _ = some (Value.int .u16 el.f1) from rfl)
        have hj3:=(qqh n1_.out 3).trans (show _ = some (Value.int .u32 el.f3) from rfl)
        have hj5:=(qqh n1_.out 5).trans (show _ = some (Value.slice A5 el.f5.length c5) from rfl)
        clear BQ HL hz0 hf0 hz1 hf1 hz2 hf2 hz3 hf3 hz4 hf4 hz5 hf5 hz6 hf6 hx0 hx1 hx2 hx3 hx4 hx5 hx6
        generalize ((((((w7.setCell ⟨gq,0,none⟩ (.string el.f0)).setCell ⟨gq,1,none⟩ (.int .u16 el.f1)).setCell ⟨gq,2,none⟩ (.int .u16 el.f2)).setCell ⟨gq,3,none⟩ (.int .u32 el.f3)).setCell ⟨gq,4,none⟩ (.slice A4 el.f4.length c4)).setCell ⟨gq,5,none⟩ (.slice A5 el.f5.length c5)).setCell ⟨gq,6,none⟩ (.slice A6 el.f6.length c6) = wA at n1_ n2_ hj1 hj3 hj5 ⊢
        have HL:=n2_
        clear n1_ n2_
        go_wp2
        go_roundw
        case rel=>exact ⟨j + 1,el.f3,true,by omega,by go_num,rfl,rfl,HK2,HL⟩
        case measure=>simp [intOf];omega
    ·
     obtain rfl:j = LL.length:=by omega
     have h1:=HC.out
     rw [List.drop_length] at h1
     go_wp2
     go_ret
     exact ⟨by rw [← h1];rfl,below_step HB.out HL.out⟩
  ·
   rw [if_neg hbig] at H
   exact absurd H (by simp)

end Go.Proofs.Ythkdfnbhlinhiaa.Mine
