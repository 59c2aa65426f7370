-- Written by this repo's own printer (wip/print), which builds on the kit's.
import Derived.Test.YthkdfnbhlinhiaaMinex0
namespace Go.Proofs.Ythkdfnbhlinhiaa.Mine
open Go.RowKit Go.Proofs.YthkdfnbhlinhiaaW.PrintWords Go.Proofs.YthkdfnbhlinhiaaW.PrintLast Go.Proofs.YthkdfnbhlinhiaaW.PrintMore
attribute [local go_sem] max2_int min2_int max_two min_two max_three min_three max_four min_four   -- for this text's walks alone
set_option linter.unusedVariables false
set_option linter.unusedSimpArgs false

/-! ### api_Question: function 45 (by hand) -/
def api_Question.f (l0 : List S53) : Option (List S53) := if l0.length < 5864062014805 then some l0 else none
set_option maxHeartbeats 4000000 in
set_option maxRecDepth 100000 in
theorem api_Question.calls (A0 : Option Addr) (c0 : Nat) (l0 : List S53) (r : List S53) (w : World) (hr0 : Kd.C k53 w A0 l0.length l0) (hc0 : l0.length ≤ c0) (h : api_Question.f l0 = some r) :
  Calls Try.prog 45 #[.slice A0 l0.length c0] w fun e w'=>∃ v0_:Value,e = .returned (v0_)∧Kd.R k53 53 w' w.heap.size (fun _=>True) v0_ r∧Below w.heap.size w w':=by
 unfold api_Question.f at h
 by_cases hlim:l0.length < 5864062014805
 rotate_left
 ·
  rw [if_neg hlim] at h
  exact absurd h (by simp)
 rw [if_pos hlim] at h
 obtain rfl:=Option.some.inj h
 clear h
 have LMc:=qqm hlim
 clear hlim
 have HR0:=qqm hr0
 clear hr0
 cases A0 with
 | none =>
  have hz:l0 = []:=by
   cases l0 with
   | nil => rfl
   | cons x l =>
    obtain ⟨_,e,_⟩:=HR0.out.2.2 (by simp)
    cases e
  subst hz
  have hnil:=Lib.run_eql_slice_nil (P:=Try.prog) w 23 53 none 0 c0 0 0 Try.underlying23
  change Calls Try.prog 45 #[.slice none 0 c0] w _
  go_enter Try.func45,Try.ntmps45
  go_wp2
  go_ret
  exact ⟨_,rfl,Kd.R_nil _ _ _ _ _,Below.refl _ _⟩
 | some ad =>
  have hnil:=Lib.run_eql_slice_nil (P:=Try.prog) w 23 53 (some ad) l0.length c0 0 0 Try.underlying23
  have HB:Aside0 (Below w.heap.size w w):=⟨Below.refl _ _⟩
  go_enter Try.func45,Try.ntmps45
  go_wp2_with (first|((with_reducible refine gate_dst (N:=5) rfl ?_);refine Kd.R_lit k53 _ 53 ?hg (N:=5) ?hd (xs:=([]:List S53)) (inner:=[]) (ok:=fun _=>True) (okp:=fun _=>True) ?hr ?hp (fun _ hk=>hk) trivial (Below.refl _ _) (Nat.le_refl _) (by simp) ?_;(case hd=>rfl);(case hg=>rfl);(case hr=>first|(go_simp;done)|(go_simp;rfl));(case hp=>exact (Reps.none _ _));intro v1 w1 ho hb hg_ hnew_;clear hg_ hnew_;have n0_:=qqm ho;have n1_:=qqm (below_step HB.out hb);clear HB;have HO1:=n0_;have HB:=n1_;clear n0_ n1_ hb ho)|((with_reducible refine gate_builtin (b:=.append) (xs:=#[.tmp 5,.tmp 6]) rfl ?_);at_builtin;refine Kd.R_append_rows k53 (w0:=w) w.heap.size rfl (.tmp 5) (.tmp 6) 23 53 (.agg #[.string ⟨#[]⟩,.int .u16 0,.int .u16 0]) 24 rfl Try.underlying23 info53 rfl (by decide) (by omega) v1 ([]:List S53) l0 _ _ _ (fun _=>True) (fun _=>False) rfl rfl ?aO ?aR (fun x cs (h:k53.K w1 x cs)=>by rw [k53_open h];exact k53_mkM _ _ _ x) (fun _ h=>h.elim) ?aF ?aB ?aS ?aL ?_;(case aR=>exact (Kd.C_below HR0.out HB.out));(case aB=>exact HB.out);(case aF=>exact (fun _ _=>trivial));(case aO=>exact HO1.out);(case aS=>exact (below_size HB.out));(case aL=>have:=LMc.out;simp only [List.length_nil];omega);intro v2 w2 ho hb hg hat;have n0_:=qqm ho;have n1_:=qqm hb;clear HB HO1;have HO2:=n0_;have HB:=n1_;clear n0_ n1_ ho hb hg hat))
  go_ret
  exact ⟨_,rfl,HO2.out,HB.out⟩

/-! ### slices_Clone_string_string: function 62 (by hand) -/
def slices_Clone_string_string.f (l0 : List ByteArray) : Option (List ByteArray) := if l0.length < 8796093022208 then some l0 else none
set_option maxHeartbeats 4000000 in
set_option maxRecDepth 100000 in
theorem slices_Clone_string_string.calls (A0 : Option Addr) (c0 : Nat) (l0 : List ByteArray) (r : List ByteArray) (w : World) (hr0 : Kd.C Kd.string w A0 l0.length l0) (hc0 : l0.length ≤ c0) (h : slices_Clone_string_string.f l0 = some r) :
  Calls Try.prog 62 #[.slice A0 l0.length c0] w fun e w'=>∃ v0_:Value,e = .returned (v0_)∧Kd.R Kd.string 9 w' w.heap.size (fun _=>True) v0_ r∧Below w.heap.size w w':=by
 unfold slices_Clone_string_string.f at h
 by_cases hlim:l0.length < 8796093022208
 rotate_left
 ·
  rw [if_neg hlim] at h
  exact absurd h (by simp)
 rw [if_pos hlim] at h
 obtain rfl:=Option.some.inj h
 clear h
 have LMc:=qqm hlim
 clear hlim
 have HR0:=qqm hr0
 clear hr0
 cases A0 with
 | none =>
  have hz:l0 = []:=by
   cases l0 with
   | nil => rfl
   | cons x l =>
    obtain ⟨_,e,_⟩:=HR0.out.2.2 (by simp)
    cases e
  subst hz
  have hnil:=Lib.run_eql_slice_nil (P:=Try.prog) w 48 9 none 0 c0 0 0 Try.underlying48
  change Calls Try.prog 62 #[.slice none 0 c0] w _
  go_enter Try.func62,Try.ntmps62
  go_wp2
  go_ret
  exact ⟨_,rfl,Kd.R_nil _ _ _ _ _,Below.refl _ _⟩
 | some ad =>
  have hnil:=Lib.run_eql_slice_nil (P:=Try.prog) w 48 9 (some ad) l0.length c0 0 0 Try.underlying48
  have HB:Aside0 (Below w.heap.size w w):=⟨Below.refl _ _⟩
  go_enter Try.func62,Try.ntmps62
  go_wp2_with (first|((with_reducible refine gate_dst (N:=5) rfl ?_);refine Kd.R_lit Kd.string _ 9 ?hg (N:=5) ?hd (xs:=([]:List ByteArray)) (inner:=[]) (ok:=fun _=>True) (okp:=fun _=>True) ?hr ?hp (fun _ hk=>hk) trivial (Below.refl _ _) (Nat.le_refl _) (by simp) ?_;(case hd=>rfl);(case hg=>rfl);(case hr=>first|(go_simp;done)|(go_simp;rfl));(case hp=>exact (Reps.none _ _));intro v1 w1 ho hb hg_ hnew_;clear hg_ hnew_;have n0_:=qqm ho;have n1_:=qqm (below_step HB.out hb);clear HB;have HO1:=n0_;have HB:=n1_;clear n0_ n1_ hb ho)|((with_reducible refine gate_builtin (b:=.append) (xs:=#[.tmp 5,.tmp 6]) rfl ?_);at_builtin;refine Kd.R_append_rows Kd.string (w0:=w) w.heap.size rfl (.tmp 5) (.tmp 6) 48 9 (.string ⟨#[]⟩) 16 rfl Try.underlying48 info9 rfl (by decide) (by omega) v1 ([]:List ByteArray) l0 _ _ _ (fun _=>True) (fun _=>False) rfl rfl ?aO ?aR (fun _ _ h=>h) (fun _ h=>h.elim) ?aF ?aB ?aS ?aL ?_;(case aR=>exact (Kd.C_below HR0.out HB.out));(case aB=>exact HB.out);(case aF=>exact (fun _ _=>trivial));(case aO=>exact HO1.out);(case aS=>exact (below_size HB.out));(case aL=>have:=LMc.out;simp only [List.length_nil];omega);intro v2 w2 ho hb hg hat;have n0_:=qqm ho;have n1_:=qqm hb;clear HB HO1;have HO2:=n0_;have HB:=n1_;clear n0_ n1_ ho hb hg hat))
  go_ret
  exact ⟨_,rfl,HO2.out,HB.out⟩

/-! ### slices_Clone_uint32_uint32: function 63 (by hand) -/
def slices_Clone_uint32_uint32.f (l0 : List Int) : Option (List Int) := if l0.length < 35184372088832 then some l0 else none
set_option maxHeartbeats 4000000 in
set_option maxRecDepth 100000 in
theorem slices_Clone_uint32_uint32.calls (A0 : Option Addr) (c0 : Nat) (l0 : List Int) (r : List Int) (w : World) (hr0 : Kd.C (Kd.int .u32) w A0 l0.length l0) (hc0 : l0.length ≤ c0) (h : slices_Clone_uint32_uint32.f l0 = some r) :
  Calls Try.prog 63 #[.slice A0 l0.length c0] w fun e w'=>∃ v0_:Value,e = .returned (v0_)∧Kd.R (Kd.int .u32) 40 w' w.heap.size (fun _=>True) v0_ r∧Below w.heap.size w w':=by
 unfold slices_Clone_uint32_uint32.f at h
 by_cases hlim:l0.length < 35184372088832
 rotate_left
 ·
  rw [if_neg hlim] at h
  exact absurd h (by simp)
 rw [if_pos hlim] at h
 obtain rfl:=Option.some.inj h
 clear h
 have LMc:=qqm hlim
 clear hlim
 have HR0:=qqm hr0
 clear hr0
 cases A0 with
 | none =>
  have hz:l0 = []:=by
   cases l0 with
   | nil => rfl
   | cons x l =>
    obtain ⟨_,e,_⟩:=HR0.out.2.2 (by simp)
    cases e
  subst hz
  have hnil:=Lib.run_eql_slice_nil (P:=Try.prog) w 49 40 none 0 c0 0 0 Try.underlying49
  change Calls Try.prog 63 #[.slice none 0 c0] w _
  go_enter Try.func63,Try.ntmps63
  go_wp2
  go_ret
  exact ⟨_,rfl,Kd.R_nil _ _ _ _ _,Below.refl _ _⟩
 | some ad =>
  have hnil:=Lib.run_eql_slice_nil (P:=Try.prog) w 49 40 (some ad) l0.length c0 0 0 Try.underlying49
  have HB:Aside0 (Below w.heap.size w w):=⟨Below.refl _ _⟩
  go_enter Try.func63,Try.ntmps63
  go_wp2_with (first|((with_reducible refine gate_dst (N:=5) rfl ?_);refine Kd.R_lit (Kd.int .u32) _ 40 ?hg (N:=5) ?hd (xs:=([]:List Int)) (inner:=[]) (ok:=fun _=>True) (okp:=fun _=>True) ?hr ?hp (fun _ hk=>hk) trivial (Below.refl _ _) (Nat.le_refl _) (by simp) ?_;(case hd=>rfl);(case hg=>rfl);(case hr=>first|(go_simp;done)|(go_simp;rfl));(case hp=>exact (Reps.none _ _));intro v1 w1 ho hb hg_ hnew_;clear hg_ hnew_;have n0_:=qqm ho;have n1_:=qqm (below_step HB.out hb);clear HB;have HO1:=n0_;have HB:=n1_;clear n0_ n1_ hb ho)|((with_reducible refine gate_builtin (b:=.append) (xs:=#[.tmp 5,.tmp 6]) rfl ?_);at_builtin;refine Kd.R_append_rows (Kd.int .u32) (w0:=w) w.heap.size rfl (.tmp 5) (.tmp 6) 49 40 (.int .u32 0) 4 rfl Try.underlying49 info40 rfl (by decide) (by omega) v1 ([]:List Int) l0 _ _ _ (fun _=>True) (fun _=>False) rfl rfl ?aO ?aR (fun _ _ h=>h) (fun _ h=>h.elim) ?aF ?aB ?aS ?aL ?_;(case aR=>exact (Kd.C_below HR0.out HB.out));(case aB=>exact HB.out);(case aF=>exact (fun _ _=>trivial));(case aO=>exact HO1.out);(case aS=>exact (below_size HB.out));(case aL=>have:=LMc.out;simp only [List.length_nil];omega);intro v2 w2 ho hb hg hat;have n0_:=qqm ho;have n1_:=qqm hb;clear HB HO1;have HO2:=n0_;have HB:=n1_;clear n0_ n1_ ho hb hg hat))
  go_ret
  exact ⟨_,rfl,HO2.out,HB.out⟩

end Go.Proofs.Ythkdfnbhlinhiaa.Mine
