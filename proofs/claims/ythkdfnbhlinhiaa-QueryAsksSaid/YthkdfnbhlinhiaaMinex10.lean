-- Written by this repo's own printer (wip/print), which builds on the kit's.
import Derived.Test.YthkdfnbhlinhiaaMinex0
namespace Go.Proofs.Ythkdfnbhlinhiaa.Mine
open Go.RowKit Go.Proofs.YthkdfnbhlinhiaaW.PrintWords Go.Proofs.YthkdfnbhlinhiaaW.PrintLast Go.Proofs.YthkdfnbhlinhiaaW.PrintMore
attribute [local go_sem] max2_int min2_int max_two min_two max_three min_three max_four min_four   -- for this text's walks alone
set_option linter.unusedVariables false
set_option linter.unusedSimpArgs false

-- NOT PRINTED: function 54 (api_Record_54)

-- NOT PRINTED: function 40 (api_Record_40)

-- NOT PRINTED: function 41 (query_Negative_1)

/-! ### query_Negative: function 18 (by hand) -/
def query_Negative.q (l : List S51) (q : Int) : Bool := l.any fun x => x.f1 == q || x.f1 == 5
def query_Negative.f (a0_0 : Int) (a0_1 : Int) (l0_2 : List S53) (l0_3 : List S51) (l0_4 : List S51) (l0_5 : List S51) : Option Bool :=
 some (if l0_2.length = 0 then false else if Go.bits .and .u16 a0_1 15 = 0 then !(query_Negative.q l0_3 (rd_T53 l0_2 0).f1) else Go.bits .and .u16 a0_1 15 == 3)
set_option maxHeartbeats 1000000 in
set_option maxRecDepth 100000 in
theorem query_Negative.clo (f0 : ByteArray) (f1 f2 f3 : Int) (A4 : Option Addr) (n4 c4 : Nat) (A5 : Option Addr) (n5 c5 : Nat) (A6 : Option Addr) (n6 c6 : Nat) (g : Nat) (A : Option Addr) (c : Nat) (l : List S53) (w : World)
  (h2:w.cell? ⟨g,2,none⟩ = some (.slice A l.length c)) (hn:0 < l.length) (hr:Kd.C k53 w A l.length l) :
  Calls Try.prog 41 #[.agg #[.string f0,.int .u16 f1,.int .u16 f2,.int .u32 f3,.slice A4 n4 c4,.slice A5 n5 c5,.slice A6 n6 c6],.pointer (some ⟨g,0,none⟩)] w fun e w'=>e = .returned (.bool (f1 == (rd_T53 l 0).f1 || f1 == 5))∧Below w.heap.size w w':=by
 obtain ⟨ad,e0,hx0,hx1,hx2⟩:=at_T53 hr 0 (by omega) (by omega)
 subst e0
 have hu26:=Try.underlying26
 have hu51:=Try.underlying51
 have hu53:=Try.underlying53
 generalize (rd_T53 l 0) = el at *
 go_enter Try.func41,Try.ntmps41
 go_wp2_with (first|((with_reducible refine gate_dst (N:=2) rfl ?_);refine box_event ?hg (N:=2) ?hd (cs:=#[.string f0,.int .u16 f1,.int .u16 f2,.int .u32 f3,.slice A4 n4 c4,.slice A5 n5 c5,.slice A6 n6 c6]) (t:=51) ?hr ?_;(case hd=>rfl);(case hg=>rfl);(case hr=>first|(go_simp;done)|(go_simp;rfl));intro gb hg w1 hbox hb;have hc1:w1.cell? ⟨gb,1,none⟩ = some (.int .u16 f1):=(qqh hbox 1).trans rfl;have HB:=qqm hb;clear hbox hb hg))
 replace h2:=qqo HB.out h2
 replace hx1:=qqo HB.out hx1
 rw [Int.toNat_zero,Nat.zero_mul] at hx1
 have e0:ad.add 0 = ad:=by cases ad;simp [Addr.add]
 rw [e0] at hx1
 clear e0 hx0 hx2 hr
 by_cases hq:f1 = el.f1
 ·
  have hq1:(f1 == el.f1) = true:=beq_iff_eq.mpr hq
  go_region
  all_goals go_wp2
  all_goals go_ret
  all_goals exact ⟨by rw [hq1];rfl,qqe HB.out⟩
 have hq1:(f1 == el.f1) = false:=beq_eq_false_iff_ne.mpr hq
 go_region
 all_goals go_wp2
 all_goals go_ret
 all_goals exact ⟨by rw [hq1];rfl,qqe HB.out⟩
set_option maxHeartbeats 2000000 in
set_option maxRecDepth 100000 in
theorem query_Negative.idx (g : Nat) (A : Option Addr) (c : Nat) (l : List S53) (A3 : Option Addr) (c3 : Nat) (l3 : List S51) (w : World)
  (h2:w.cell? ⟨g,2,none⟩ = some (.slice A l.length c)) (hn:0 < l.length) (hr:Kd.C k53 w A l.length l) (hr3:Kd.C k51 w A3 l3.length l3) :
  Calls Try.prog 54 #[.slice A3 l3.length c3,.func (.func 41) #[] #[.pointer (some ⟨g,0,none⟩)]] w fun e w'=>(∃ i:Int,e = .returned (.int .i64 i)∧decide (0 ≤ i) = query_Negative.q l3 (rd_T53 l 0).f1)∧Below w.heap.size w w':=by
 have HR:=qqm hr
 have HR3:=qqm hr3
 have H2:=qqm h2
 have HN:=qqm hn
 have hlen:l3.length ≤ 9223372036854775807:=hr3.2.1
 clear hr hr3 h2 hn
 have hu51:=Try.underlying51
 obtain ⟨q,eq⟩:∃ q,q = (rd_T53 l 0).f1:=⟨_,rfl⟩
 rw [← eq]
 have EQ:=qqm eq
 clear eq
 obtain ⟨i0,hi0,hz0,hs0,hy0⟩:=info_parts info51
 go_enter Try.func54,Try.ntmps54
 go_wp2
 go_loopw [8] (fun v8 wr=>∃ j:Nat,j ≤ l3.length∧v8 = .int .i64 j∧Aside0 (query_Negative.q (l3.drop j) q = query_Negative.q l3 q)∧Aside0 (Below w.heap.size w wr)) (fun v8 _=>l3.length - (intOf v8).toNat)
 case atStart=>exact ⟨0,by omega,rfl,⟨by rw [List.drop_zero]⟩,⟨Below.refl _ _⟩⟩
 case round =>
  obtain ⟨j,hj,rfl,HC,HB⟩:=hrel
  by_cases hlt:j < l3.length
  ·
   have hd:l3.drop j = l3[j] :: l3.drop (j + 1):=List.drop_eq_getElem_cons hlt
   have h1:=HC.out
   rw [hd] at h1
   have hrd:rd_T51 l3 (j:Int) = l3[j]:=by simp [rd_T51,hlt]
   obtain ⟨ad,A4,c4,A5,c5,A6,c6,e0,hx0,hx1,hx2,hx3,hx4,hx5,hx6,_⟩:=at_T51 HR3.out (j:Int) (by omega) (by omega)
   subst e0
   rw [hrd,Int.toNat_natCast] at hx0 hx1 hx2 hx3 hx4 hx5 hx6
   clear hrd hd HC
   generalize l3[j] = el at *
   have HK:=qqm h1
   clear h1
   replace hx0:=qqo HB.out hx0
   replace hx1:=qqo HB.out hx1
   replace hx2:=qqo HB.out hx2
   replace hx3:=qqo HB.out hx3
   replace hx4:=qqo HB.out hx4
   replace hx5:=qqo HB.out hx5
   replace hx6:=qqo HB.out hx6
   have h2w:=(HB.out.cell (World.block_lt_of_cell? w _ H2.out)).trans H2.out
   by_cases hp:(el.f1 == q || el.f1 == 5) = true
   ·
    go_wp2_with (first|(go_at_call 41;(with_reducible refine (query_Negative.clo el.f0 el.f1 el.f2 el.f3 A4 _ c4 A5 _ c5 A6 _ c6 g A c l _ h2w HN.out (Kd.C_below HR.out HB.out)).mono ?_);rintro e w5 ⟨rfl,hb⟩;rw [← EQ.out,hp];have n3_:=qqm (below_step HB.out hb);clear HB hb;have HB:=n3_;clear n3_))
    go_ret
    refine ⟨⟨_,rfl,?_⟩,HB.out⟩
    rw [← HK.out,query_Negative.q,List.any_cons,hp,Bool.true_or]
    exact decide_eq_true (by omega)
   ·
    replace hp:=eq_false_of_ne_true hp
    go_wp2_with (first|(go_at_call 41;(with_reducible refine (query_Negative.clo el.f0 el.f1 el.f2 el.f3 A4 _ c4 A5 _ c5 A6 _ c6 g A c l _ h2w HN.out (Kd.C_below HR.out HB.out)).mono ?_);rintro e w5 ⟨rfl,hb⟩;rw [← EQ.out,hp];have n3_:=qqm (below_step HB.out hb);clear HB hb hx0 hx1 hx2 hx3 hx4 hx5 hx6 h2w;have HB:=n3_;clear n3_))
    go_roundw
    case rel=>exact ⟨j + 1,by omega,by go_num,⟨by rw [← HK.out,query_Negative.q,query_Negative.q,List.any_cons,hp,Bool.false_or]⟩,HB⟩
    case measure=>simp [intOf];omega
  ·
   obtain rfl:j = l3.length:=by omega
   have h1:=HC.out
   rw [List.drop_length] at h1
   go_wp2
   go_ret
   refine ⟨⟨_,rfl,?_⟩,HB.out⟩
   rw [← h1]
   rfl
set_option maxHeartbeats 2000000 in
set_option maxRecDepth 100000 in
theorem query_Negative.has (g : Nat) (A : Option Addr) (c : Nat) (l : List S53) (A3 : Option Addr) (c3 : Nat) (l3 : List S51) (w : World)
  (h2:w.cell? ⟨g,2,none⟩ = some (.slice A l.length c)) (hn:0 < l.length) (hr:Kd.C k53 w A l.length l) (hr3:Kd.C k51 w A3 l3.length l3) :
  Calls Try.prog 40 #[.slice A3 l3.length c3,.func (.func 41) #[] #[.pointer (some ⟨g,0,none⟩)]] w fun e w'=>e = .returned (.bool (query_Negative.q l3 (rd_T53 l 0).f1))∧Below w.heap.size w w':=by
 have HI:=qqm (query_Negative.idx g A c l A3 c3 l3 w h2 hn hr hr3)
 clear h2 hn hr hr3
 go_enter Try.func40,Try.ntmps40
 go_wp2_with (first|(go_at_call 54;(with_reducible refine (HI.out).mono ?_);rintro e w5 ⟨⟨i,rfl,hi⟩,hb⟩))
 go_ret
 exact ⟨rfl,hb⟩
set_option maxHeartbeats 2000000 in
set_option maxRecDepth 100000 in
theorem query_Negative.calls (a0_0 : Int) (a0_1 : Int) (A0_2 : Option Addr) (c0_2 : Nat) (l0_2 : List (S53)) (A0_3 : Option Addr) (c0_3 : Nat) (l0_3 : List (S51)) (A0_4 : Option Addr) (c0_4 : Nat) (l0_4 : List (S51)) (A0_5 : Option Addr) (c0_5 : Nat) (l0_5 : List (S51)) (r : Bool) (w : World) (hr0_2 : Kd.C k53 w A0_2 l0_2.length l0_2) (hc0_2 : l0_2.length ≤ c0_2) (hr0_3 : Kd.C k51 w A0_3 l0_3.length l0_3) (hc0_3 : l0_3.length ≤ c0_3) (hr0_4 : Kd.C k51 w A0_4 l0_4.length l0_4) (hc0_4 : l0_4.length ≤ c0_4) (hr0_5 : Kd.C k51 w A0_5 l0_5.length l0_5) (hc0_5 : l0_5.length ≤ c0_5) (h : query_Negative.f a0_0 a0_1 l0_2 l0_3 l0_4 l0_5 = some r) :
  Calls Try.prog 18 #[.agg #[.int .u16 a0_0,.int .u16 a0_1,.slice A0_2 l0_2.length c0_2,.slice A0_3 l0_3.length c0_3,.slice A0_4 l0_4.length c0_4,.slice A0_5 l0_5.length c0_5]] w fun e w'=>e = .returned (.bool r)∧Below w.heap.size w w':=by
 have e:=Option.some.inj h
 clear h
 have HR2:=qqm hr0_2
 have HR3:=qqm hr0_3
 clear hr0_2 hc0_2 hr0_3 hc0_3 hr0_4 hc0_4 hr0_5 hc0_5
 have hu26:=Try.underlying26
 have hlen:l0_2.length ≤ 9223372036854775807:=HR2.out.2.1
 have hmf:∀ (fn:Fn) (first cap:Array Value) (w:World),(Instr.makeFunc fn first cap).run Try.prog w = .ok (.func fn first cap) w:=fun _ _ _ _=>rfl
 by_cases c0:l0_2.length = 0
 ·
  rw [if_pos c0] at e
  subst e
  have c0b0:((l0_2.length:Int) == 0) = true:=beq_iff_eq.mpr (by omega)
  have c0b1:(l0_2.length == 0) = true:=beq_iff_eq.mpr c0
  clear c0
  go_enter Try.func18,Try.ntmps18
  go_wp2_with (first|((with_reducible refine gate_dst (N:=1) rfl ?_);refine box_event ?hg (N:=1) ?hd (cs:=#[.int .u16 a0_0,.int .u16 a0_1,.slice A0_2 l0_2.length c0_2,.slice A0_3 l0_3.length c0_3,.slice A0_4 l0_4.length c0_4,.slice A0_5 l0_5.length c0_5]) (t:=26) ?hr ?_;(case hd=>rfl);(case hg=>rfl);(case hr=>first|(go_simp;done)|(go_simp;rfl));intro gb hg w1 hbox hb;have hx1:w1.cell? ⟨gb,1,none⟩ = some (.int .u16 a0_1):=(qqh hbox 1).trans rfl;have hx2:w1.cell? ⟨gb,2,none⟩ = some (.slice A0_2 l0_2.length c0_2):=(qqh hbox 2).trans rfl;have hx3:w1.cell? ⟨gb,3,none⟩ = some (.slice A0_3 l0_3.length c0_3):=(qqh hbox 3).trans rfl;have HB:=qqm hb;clear hbox hb hg))
  go_ret
  exact ⟨rfl,HB.out⟩
 rw [if_neg c0] at e
 have c0b0:((l0_2.length:Int) == 0) = false:=beq_eq_false_iff_ne.mpr (by omega)
 have c0b1:(l0_2.length == 0) = false:=beq_eq_false_iff_ne.mpr c0
 by_cases c1:Go.bits .and .u16 a0_1 15 = 0
 rotate_left
 ·
  rw [if_neg c1] at e
  subst e
  have c1b0:(Go.bits .and .u16 a0_1 15 != 0) = true:=bne_iff_ne.mpr c1
  clear c1
  go_enter Try.func18,Try.ntmps18
  go_wp2_with (first|((with_reducible refine gate_dst (N:=1) rfl ?_);refine box_event ?hg (N:=1) ?hd (cs:=#[.int .u16 a0_0,.int .u16 a0_1,.slice A0_2 l0_2.length c0_2,.slice A0_3 l0_3.length c0_3,.slice A0_4 l0_4.length c0_4,.slice A0_5 l0_5.length c0_5]) (t:=26) ?hr ?_;(case hd=>rfl);(case hg=>rfl);(case hr=>first|(go_simp;done)|(go_simp;rfl));intro gb hg w1 hbox hb;have hx1:w1.cell? ⟨gb,1,none⟩ = some (.int .u16 a0_1):=(qqh hbox 1).trans rfl;have hx2:w1.cell? ⟨gb,2,none⟩ = some (.slice A0_2 l0_2.length c0_2):=(qqh hbox 2).trans rfl;have hx3:w1.cell? ⟨gb,3,none⟩ = some (.slice A0_3 l0_3.length c0_3):=(qqh hbox 3).trans rfl;have HB:=qqm hb;clear hbox hb hg))
  go_ret
  exact ⟨rfl,HB.out⟩
 rw [if_pos c1] at e
 subst e
 have c1b0:(Go.bits .and .u16 a0_1 15 != 0) = false:=by rw [c1];rfl
 clear c1
 go_enter Try.func18,Try.ntmps18
 go_wp2_with (first|((with_reducible refine gate_dst (N:=1) rfl ?_);refine box_event ?hg (N:=1) ?hd (cs:=#[.int .u16 a0_0,.int .u16 a0_1,.slice A0_2 l0_2.length c0_2,.slice A0_3 l0_3.length c0_3,.slice A0_4 l0_4.length c0_4,.slice A0_5 l0_5.length c0_5]) (t:=26) ?hr ?_;(case hd=>rfl);(case hg=>rfl);(case hr=>first|(go_simp;done)|(go_simp;rfl));intro gb hg w1 hbox hb;have hx1:w1.cell? ⟨gb,1,none⟩ = some (.int .u16 a0_1):=(qqh hbox 1).trans rfl;have hx2:w1.cell? ⟨gb,2,none⟩ = some (.slice A0_2 l0_2.length c0_2):=(qqh hbox 2).trans rfl;have hx3:w1.cell? ⟨gb,3,none⟩ = some (.slice A0_3 l0_3.length c0_3):=(qqh hbox 3).trans rfl;have HB:=qqm hb;clear hbox hb hg)|(go_at_call 40;(with_reducible refine (query_Negative.has gb A0_2 c0_2 l0_2 A0_3 c0_3 l0_3 _ hx2 (by omega) (Kd.C_below HR2.out HB.out) (Kd.C_below HR3.out HB.out)).mono ?_);rintro e w5 ⟨rfl,hb⟩;have n3_:=qqm (below_step HB.out hb);clear HB hb hx1 hx2 hx3;have HB:=n3_;clear n3_))
 go_ret
 exact ⟨rfl,HB.out⟩

-- NOT PRINTED: function 61 (api_Record_61)

-- NOT PRINTED: function 55 (api_Record_55)

-- NOT PRINTED: function 43 (query_each)

end Go.Proofs.Ythkdfnbhlinhiaa.Mine
