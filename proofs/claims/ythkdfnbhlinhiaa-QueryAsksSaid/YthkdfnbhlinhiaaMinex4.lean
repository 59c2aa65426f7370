-- Written by this repo's own printer (wip/print), which builds on the kit's.
import Derived.Test.YthkdfnbhlinhiaaMinex0
import Derived.Test.YthkdfnbhlinhiaaMinex3
namespace Go.Proofs.Ythkdfnbhlinhiaa.Mine
open Go.RowKit Go.Proofs.YthkdfnbhlinhiaaW.PrintWords Go.Proofs.YthkdfnbhlinhiaaW.PrintLast Go.Proofs.YthkdfnbhlinhiaaW.PrintMore
attribute [local go_sem] max2_int min2_int max_two min_two max_three min_three max_four min_four   -- for this text's walks alone
set_option linter.unusedVariables false
set_option linter.unusedSimpArgs false

/-! ### text_Fold: function 59 (by hand) -/
/-- A byte in small letters. -/
def foldB (n : Int) : Int := if 65 ≤ n ∧ n ≤ 90 then n + 32 else n
/-- A block that reads as bytes, each of which may be stored into. -/
def BRow (B : Nat) (w : World) (l : List Int) : Prop := ∀ j : Nat, j < l.length → w.cell? ⟨B, j, none⟩ = some (.int .u8 (l.getD j 0)) ∧ w.frozen? ⟨B, j, none⟩ = false
theorem BRow.set {B : Nat} {w : World} {l : List Int} (h : BRow B w l) (k : Nat) (hk : k < l.length) (x : Int) : BRow B (w.setCell ⟨B, k, none⟩ (.int .u8 x)) (l.set k x) := by
 intro j hj
 rw [List.length_set] at hj
 obtain ⟨h1,h2⟩:=h j hj
 obtain ⟨h3,_⟩:=h k hk
 refine ⟨?_,by simpa using h2⟩
 by_cases e:j = k
 ·
  subst e
  rw [World.cell?_setCell_same _ _ _ h3]
  simp [List.getD_eq_getElem?_getD,hk]
 rw [World.cell?_setCell_other _ _ _ _ (by intro h_;injection h_ with _ h_;omega),h1]
 simp [List.getD_eq_getElem?_getD,List.getElem?_set,Ne.symm e]
theorem BRow.conv (w : World) (e : TypeId) (s : ByteArray) : BRow w.heap.size (Lib.bytesWorld w e s) (bytesOf s) := by
 intro j hj
 rw [bytesOf_length] at hj
 refine ⟨?_,?_⟩
 ·
  rw [Lib.bytesWorld_cell w e s j hj]
  simp [bytesOf,List.getD_eq_getElem?_getD,List.getElem?_eq_getElem (show j < s.data.toList.length by simpa using hj)]
 ·
  have hn:=Lib.bytesWorld_at_new w e s
  have hs:s.size ≤ (Lib.bytesCells w e s).size:=by simp [Lib.bytesCells]
  simp [World.frozen?,hn]
  omega
theorem BRow.str {P : Program} {w : World} {src dst e : TypeId} (hs : P.underlying src = some (.slice e)) (he : P.underlying e = some (.int .u8)) (hd : P.underlying dst = some .string) {B : Nat} {l : List Int} (h : BRow B w l) (hl : l.length ≤ 9223372036854775807) (c : Nat) :
  (convert src dst (.slice (some ⟨B,0,none⟩) l.length c)).run P w = .ok (.string (strOfNums l)) w:=by
 refine Kd.C_string (A:=some ⟨B,0,none⟩) (c:=c) hs he hd (Kd.C_of_reads (enc:=Value.int .u8) (d:=(0:Int)) (h1:=fun _=>rfl) ⟨rfl,hl,fun hn=>⟨_,rfl,fun j hj=>?_⟩⟩)
 have e_:(⟨B,0,none⟩:Addr).add j = ⟨B,j,none⟩:=add_plain B j
 rw [e_]
 exact (h j hj).1
theorem below_bytes {B : Nat} {w0 w : World} (h : Below B w0 w) (hB : B ≤ w.heap.size) (e : TypeId) (s : ByteArray) : Below B w0 (Lib.bytesWorld w e s) :=
 h.trans ⟨rfl,rfl,rfl,by rw [Lib.bytesWorld_size];omega,fun i hi=>Lib.bytesWorld_at_old w e s i (by omega)⟩
/-- So far folded. -/
def foldTo (l : List Int) (k : Nat) : List Int := (l.take k).map foldB ++ l.drop k
theorem foldTo_length (l : List Int) (k : Nat) : (foldTo l k).length = l.length := by unfold foldTo; simp; omega
theorem foldTo_at (l : List Int) (k : Nat) (h : k < l.length) : (foldTo l k).getD k 0 = l.getD k 0 := by
 unfold foldTo
 have e:(List.map foldB (l.take k)).length = k:=by simp;omega
 rw [List.getD_eq_getElem?_getD,List.getElem?_append_right (by omega),e,Nat.sub_self,List.getElem?_drop,Nat.add_zero,← List.getD_eq_getElem?_getD]
theorem foldTo_zero (l : List Int) : foldTo l 0 = l := by simp [foldTo]
theorem foldTo_all (l : List Int) : foldTo l l.length = l.map foldB := by simp [foldTo]
theorem foldTo_same (l : List Int) (k : Nat) (h : k < l.length) (hf : foldB (l.getD k 0) = l.getD k 0) : foldTo l (k + 1) = foldTo l k := by
 have e:l.getD k 0 = l[k]:=by simp [List.getD_eq_getElem?_getD,h]
 rw [e] at hf
 unfold foldTo
 rw [List.take_succ_eq_append_getElem h,List.map_append,List.append_assoc,List.map_singleton,hf]
 conv=>rhs;rw [List.drop_eq_getElem_cons h]
 rfl
theorem foldTo_set (l : List Int) (k : Nat) (h : k < l.length) : foldTo l (k + 1) = (foldTo l k).set k (foldB (l.getD k 0)) := by
 have e:l.getD k 0 = l[k]:=by simp [List.getD_eq_getElem?_getD,h]
 have e2:(List.map foldB (l.take k)).length = k:=by simp;omega
 rw [e]
 unfold foldTo
 rw [List.set_append_right _ _ (by omega),e2,Nat.sub_self,List.take_succ_eq_append_getElem h,List.map_append,List.append_assoc,List.map_singleton]
 conv=>rhs;rw [List.drop_eq_getElem_cons h]
 rfl
theorem foldB_yes {n : Int} (h0 : 0 ≤ n) (h1 : n < 256) (h : (n - 65) % 256 < 26) : ((n + 97) % 256 - 65) % 256 = foldB n := by
 unfold foldB
 rw [if_pos (by omega)]
 omega
theorem foldB_no {n : Int} (h0 : 0 ≤ n) (h1 : n < 256) (h : ¬ (n - 65) % 256 < 26) : foldB n = n := by
 unfold foldB
 rw [if_neg (by omega)]
theorem bytes_at (s : ByteArray) (k : Nat) : 0 ≤ (bytesOf s).getD k 0 ∧ (bytesOf s).getD k 0 < 256 := by
 by_cases h:k < (bytesOf s).length
 rotate_left
 ·
  rw [List.getD_eq_getElem?_getD,List.getElem?_eq_none (by omega)];decide
 have e:(bytesOf s).getD k 0 = (bytesOf s)[k]:=by simp [List.getD_eq_getElem?_getD,h]
 rw [e]
 simp only [bytesOf,List.getElem_map]
 have:=(s.data.toList[k]'(by simpa [bytesOf] using h)).toNat_lt
 omega
def text_Fold.f (a0 : ByteArray) : Option ByteArray := if a0.size ≤ 9223372036854775807 then some (strOfNums ((bytesOf a0).map foldB)) else none
theorem text_Fold.conv {ops : Array Oper} {rest : List Oper} {o : Oper} {a : Act} {Q : Exit → Act → World → Prop} {W w0 : World} {B0 : Nat} (hgd : o.guard = none) (x : Operand) (ho : o.op = .convert 9 82 x) (s : ByteArray) (hx : a.eval x = .string s)
  (HB:Below B0 w0 W) (hb:B0 ≤ W.heap.size) (h:∀ B c w1,B0 ≤ B → BRow B w1 (bytesOf s) → Below B0 w0 w1 → wpList Try.prog ops Q rest (a.put o.dst (.slice (some ⟨B,0,none⟩) s.size c)) w1):wpList Try.prog ops Q (o :: rest) a W:=by
 have hrun:=Lib.run_convert_string_bytes (P:=Try.prog) W 9 82 5 s Try.underlying9 Try.underlying82 Try.underlying5
 refine Kd.event_run hgd (v:=.slice (some ⟨W.heap.size,0,none⟩) s.size (grownCap W s.size 0 5)) (w1:=Lib.bytesWorld W 5 s) ?_ (h _ _ _ hb (BRow.conv W _ s) (below_bytes HB hb _ s))
 simp [execOp,ho,hx,hrun]
set_option maxHeartbeats 4000000 in
set_option maxRecDepth 100000 in
theorem text_Fold.calls (a0 : ByteArray) (r : ByteArray) (w : World) (h : text_Fold.f a0 = some r) :
  Calls Try.prog 59 #[.string a0] w fun e w'=>e = .returned (.string r)∧Below w.heap.size w w':=by
 unfold text_Fold.f at h
 by_cases hs:a0.size ≤ 9223372036854775807
 rotate_left
 ·
  rw [if_neg hs] at h
  exact absurd h (by simp)
 rw [if_pos hs] at h
 obtain rfl:=Option.some.inj h
 clear h
 have hlen:(bytesOf a0).length = a0.size:=bytesOf_length a0
 go_enter Try.func59,Try.ntmps59
 go_wp2_with (first|((with_reducible refine gate_dst (N:=7) rfl ?_);refine text_Fold.conv (w0:=w) (B0:=w.heap.size) rfl _ rfl a0 rfl (Below.refl _ _) (Nat.le_refl _) ?_;intro B c w1 hBB HR HB;have HRh:=qqm HR;have HBh:=qqm HB;clear HR HB))
 have hlh:=qqm hlen
 clear hlen
 go_loopw [10] (fun v wr=>∃ k:Nat,k ≤ a0.size∧v = .int .i64 k∧Aside0 (BRow B wr (foldTo (bytesOf a0) k))∧Aside0 (Below w.heap.size w wr)) (fun v _=>a0.size - (intOf v).toNat)
 case atStart=>exact ⟨0,Nat.zero_le _,rfl,⟨by rw [foldTo_zero];exact HRh.out⟩,HBh⟩
 case round =>
  clear HRh HBh
  obtain ⟨k,hk,rfl,HRh,HBh⟩:=hrel
  by_cases hlt:k < a0.size
  ·
   have hk2:k < (bytesOf a0).length:=by rw [hlh.out];exact hlt
   obtain ⟨hcell,hfree⟩:=HRh.out k (by rw [foldTo_length];exact hk2)
   rw [foldTo_at _ _ hk2] at hcell
   obtain ⟨hb0,hb1⟩:=bytes_at a0 k
   obtain ⟨b,hb⟩:∃ b:Int,(bytesOf a0).getD k 0 = b:=⟨_,rfl⟩
   rw [hb] at hcell hb0 hb1
   have hbh:=qqm hb
   clear hb
   have hk2h:=qqm hk2
   clear hk2
   by_cases hc:(b - 65) % 256 < 26
   ·
    go_wp2
    go_roundw
    case rel =>
     refine ⟨k + 1,by omega,by go_num,⟨?_⟩,⟨qqg HBh.out hBB⟩⟩
     have e1:b + 97 - 65 = foldB b:=by unfold foldB;rw [if_pos (by omega)];omega
     rw [foldTo_set _ _ hk2h.out,hbh.out,e1]
     exact HRh.out.set k (by rw [foldTo_length];exact hk2h.out) _
    case measure=>simp [intOf];omega
   ·
    go_wp2
    go_roundw
    case rel =>
     refine ⟨k + 1,by omega,by go_num,⟨?_⟩,HBh⟩
     rw [foldTo_same _ _ hk2h.out (by rw [hbh.out];exact foldB_no hb0 (by omega) hc)]
     exact HRh.out
    case measure=>simp [intOf];omega
  ·
   obtain rfl:k = a0.size:=by omega
   have hcv:=fun (c:Nat)=>BRow.str (P:=Try.prog) Try.underlying82 Try.underlying5 Try.underlying9 HRh.out (by rw [foldTo_length,hlh.out];exact hs) c
   rw [foldTo_length,hlh.out] at hcv
   go_wp2
   go_ret
   refine ⟨?_,HBh.out⟩
   have e2:=foldTo_all (bytesOf a0)
   rw [hlh.out] at e2
   rw [e2]
   rfl

/-! ### name_Fold: function 52 -/
def name_Fold.f (k : Nat) (a0 : ByteArray) : Option (ByteArray) := (name_Is.f k a0).bind fun t109 => (if t109 = true then ((text_Fold.f a0).bind fun t110 => (some t110)) else (some (⟨#[]⟩ : ByteArray)))
theorem name_Fold.mono : ∀ a0 k, LeO (name_Fold.f k a0) (name_Fold.f (k + 1) a0) := by
 intro a0 k
 unfold name_Fold.f
 repeat' first
   | (with_reducible exact name_Is.mono _ _)
   | (with_reducible exact LeO.refl _)
   | (with_reducible exact LeO.none _)
   | (with_reducible refine LeO.ite ?_ ?_)
   | (with_reducible refine LeO.bind ?_ (fun _ => ?_))
   | exact name_Is.mono _ _
   | exact LeO.none _
   | refine LeO.ite ?_ ?_
   | refine LeO.bind ?_ (fun _ => ?_)
set_option maxHeartbeats 8000000 in
set_option maxRecDepth 100000 in
theorem name_Fold.calls (k : Nat) (a0 : ByteArray) (r : ByteArray) (w : World) (h : name_Fold.f k a0 = some r) :
  Calls Try.prog 52 #[.string a0] w fun e w'=>e = .returned (.string r)∧Below w.heap.size w w':=by
 have HB:=qqm (Below.refl w.heap.size w)
 have H:((name_Is.f k a0).bind fun t109=>(if t109 = true then ((text_Fold.f a0).bind fun t110=>(some t110)) else (some (⟨#[]⟩:ByteArray)))) = some r:=h
 clear h
 replace H:=Option.bind_eq_some_iff.mp H
 obtain ⟨t109,A20,H⟩:=H
 replace H:(if t109 = true then ((text_Fold.f a0).bind fun t110=>(some t110)) else (some (⟨#[]⟩:ByteArray))) = some r:=H
 have A2:=qqm A20
 clear A20
 by_cases c3:t109 = true
 rotate_left
 ·
  replace c3:=Bool.eq_false_iff.mpr c3
  subst c3
  have H1:(some (⟨#[]⟩:ByteArray)) = some r:=by rw [if_neg (show ¬ (false = true) by decide)] at H;exact H
  clear H
  have H:=H1
  clear H1
  obtain rfl:=Option.some.inj H
  go_enter Try.func52,Try.ntmps52
  go_wp2_with (first|((with_reducible refine gate_callee (f:=58) rfl ?_);refine goesL_ (some 4) rfl rfl Try.func58 (by kernel_rfl) rfl #[.string a0] rfl (by (try simp only [List.map_toArray,List.map_cons,List.map_nil]);first|done|rfl|(simp only [List.length_drop,List.length_take];rfl)) ?_;(with_reducible refine (name_Is.calls k a0 false _ A2.out).mono ?_);rintro e w7 ⟨rfl,hb⟩;refine ⟨_,rfl,?_⟩;have n0_:=qqm (below_step (by with_reducible repeat first|exact HB.out|apply qqf|apply qqd|apply qqe) hb);clear HB;have HB:=n0_;clear n0_;(try clear hb);(try clear hb2);(try clear hk);(try clear hi)))
  go_ret
  exact ⟨by first|rfl|(simp [errW_none,errW_some] <;> rfl)|(simp [*,errW_none,errW_some] <;> rfl),by with_reducible repeat first|exact HB.out|apply qqf|apply qqd|apply qqe⟩
 subst c3
 have H1:((text_Fold.f a0).bind fun t110=>(some t110)) = some r:=by rw [if_pos rfl] at H;exact H
 clear H
 have H:=H1
 clear H1
 replace H:=Option.bind_eq_some_iff.mp H
 obtain ⟨t110,A40,H⟩:=H
 replace H:(some t110) = some r:=H
 have A4:=qqm A40
 clear A40
 obtain rfl:=Option.some.inj H
 go_enter Try.func52,Try.ntmps52
 go_wp2_with (first|((with_reducible refine gate_callee (f:=58) rfl ?_);refine goesL_ (some 4) rfl rfl Try.func58 (by kernel_rfl) rfl #[.string a0] rfl (by (try simp only [List.map_toArray,List.map_cons,List.map_nil]);first|done|rfl|(simp only [List.length_drop,List.length_take];rfl)) ?_;(with_reducible refine (name_Is.calls k a0 true _ A2.out).mono ?_);rintro e w5 ⟨rfl,hb⟩;refine ⟨_,rfl,?_⟩;have n0_:=qqm (below_step (by with_reducible repeat first|exact HB.out|apply qqf|apply qqd|apply qqe) hb);clear HB;have HB:=n0_;clear n0_;(try clear hb);(try clear hb2);(try clear hk);(try clear hi))|((with_reducible refine gate_callee (f:=59) rfl ?_);refine goesL_ (some 7) rfl rfl Try.func59 (by kernel_rfl) rfl #[.string a0] rfl (by (try simp only [List.map_toArray,List.map_cons,List.map_nil]);first|done|rfl|(simp only [List.length_drop,List.length_take];rfl)) ?_;(with_reducible refine (text_Fold.calls a0 t110 _ A4.out).mono ?_);rintro e w6 ⟨rfl,hb⟩;refine ⟨_,rfl,?_⟩;have n0_:=qqm (below_step (by with_reducible repeat first|exact HB.out|apply qqf|apply qqd|apply qqe) hb);clear HB;have HB:=n0_;clear n0_;(try clear hb);(try clear hb2);(try clear hk);(try clear hi)))
 go_ret
 exact ⟨by first|rfl|(simp [errW_none,errW_some] <;> rfl)|(simp [*,errW_none,errW_some] <;> rfl),by with_reducible repeat first|exact HB.out|apply qqf|apply qqd|apply qqe⟩

end Go.Proofs.Ythkdfnbhlinhiaa.Mine
