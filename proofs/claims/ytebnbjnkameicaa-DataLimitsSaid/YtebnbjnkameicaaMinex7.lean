-- Written by this repo's own printer (wip/print), which builds on the kit's.
import Derived.Test.YtebnbjnkameicaaMinex0
import Derived.Test.YtebnbjnkameicaaMinex6
namespace Go.Proofs.Ytebnbjnkameicaa.Mine
open Go.RowKit Go.Proofs.YtebnbjnkameicaaW.PrintWords Go.Proofs.YtebnbjnkameicaaW.PrintLast Go.Proofs.YtebnbjnkameicaaW.PrintMore
attribute [local go_sem] max2_int min2_int max_two min_two max_three min_three max_four min_four   -- for this text's walks alone
set_option linter.unusedVariables false
set_option linter.unusedSimpArgs false

/-! ### rdata_plain: function 26 -/
mutual
def rdata_plain.j1 : Nat → List Int → ByteArray → Int → Int → Int → List ByteArray → List Int → List ByteArray → Option (List Int)
 | 0, _, _, _, _, _, _, _, _ => none
 | k + 1, x3, x132000, x132001, x132002, x132003, x132004, x132005, x132006 => rdata_plain.l1 k x3 x132004 (x132004.length : Int) 0 x132000 x132001 x132002 x132003 x132004 x132005 x132006
def rdata_plain.l1 : Nat → List Int → List ByteArray → Int → Int → ByteArray → Int → Int → Int → List ByteArray → List Int → List ByteArray → Option (List Int)
 | 0, _, _, _, _, _, _, _, _, _, _, _ => none
 | k + 1, x3, x28, x29, x30, x132000, x132001, x132002, x132003, x132004, x132005, x132006 => if x30 < x29 then (if 0 ≤ x30 then (if x30 < (x28.length : Int) then (if x3.length + (rdOf ByteArray.empty x28 x30).size < 140737488355328 then (rdata_plain.l1 k (x3 ++ bytesOf (rdOf ByteArray.empty x28 x30)) x28 x29 (wrap64 (x30 + 1)) x132000 x132001 x132002 x132003 x132004 x132005 x132006) else (none)) else (none)) else (none)) else (if x132001 = 6 then (rdata_plain.l2 k x3 x132005 (x132005.length : Int) 0 x132000 x132001 x132002 x132003 x132004 x132005 x132006) else (rdata_plain.j4 k x3 x132000 x132001 x132002 x132003 x132004 x132005 x132006))
def rdata_plain.j4 : Nat → List Int → ByteArray → Int → Int → Int → List ByteArray → List Int → List ByteArray → Option (List Int)
 | 0, _, _, _, _, _, _, _, _ => none
 | k + 1, x3, x132000, x132001, x132002, x132003, x132004, x132005, x132006 => rdata_plain.l3 k x3 x132006 (x132006.length : Int) 0 x132000 x132001 x132002 x132003 x132004 x132005 x132006
def rdata_plain.l3 : Nat → List Int → List ByteArray → Int → Int → ByteArray → Int → Int → Int → List ByteArray → List Int → List ByteArray → Option (List Int)
 | 0, _, _, _, _, _, _, _, _, _, _, _ => none
 | k + 1, x3, x54, x55, x56, x132000, x132001, x132002, x132003, x132004, x132005, x132006 => if x56 < x55 then (if 0 ≤ x56 then (if x56 < (x54.length : Int) then (if x132001 = 16 then (if x3.length < 140737488355328 then ((some (x3 ++ [(((rdOf ByteArray.empty x54 x56).size : Int)) % 256] : List Int)).bind fun y145 => (if y145.length + (rdOf ByteArray.empty x54 x56).size < 140737488355328 then (rdata_plain.l3 k (y145 ++ bytesOf (rdOf ByteArray.empty x54 x56)) x54 x55 (wrap64 (x56 + 1)) x132000 x132001 x132002 x132003 x132004 x132005 x132006) else (none))) else (none)) else (if x3.length + (rdOf ByteArray.empty x54 x56).size < 140737488355328 then (rdata_plain.l3 k (x3 ++ bytesOf (rdOf ByteArray.empty x54 x56)) x54 x55 (wrap64 (x56 + 1)) x132000 x132001 x132002 x132003 x132004 x132005 x132006) else (none))) else (none)) else (none)) else (some x3)
def rdata_plain.l2 : Nat → List Int → List Int → Int → Int → ByteArray → Int → Int → Int → List ByteArray → List Int → List ByteArray → Option (List Int)
 | 0, _, _, _, _, _, _, _, _, _, _, _ => none
 | k + 1, x3, x42, x43, x44, x132000, x132001, x132002, x132003, x132004, x132005, x132006 => if x44 < x43 then (if 0 ≤ x44 then (if x44 < (x42.length : Int) then ((num_Put.f k x3 (IntKind.u64.wrap (rd x42 x44)) 4).bind fun t141 => (rdata_plain.l2 k t141 x42 x43 (wrap64 (x44 + 1)) x132000 x132001 x132002 x132003 x132004 x132005 x132006)) else (none)) else (none)) else (rdata_plain.j4 k x3 x132000 x132001 x132002 x132003 x132004 x132005 x132006)
def rdata_plain.l0 : Nat → List Int → List Int → Int → Int → ByteArray → Int → Int → Int → List ByteArray → List Int → List ByteArray → Option (List Int)
 | 0, _, _, _, _, _, _, _, _, _, _, _ => none
 | k + 1, x3, x16, x17, x18, x132000, x132001, x132002, x132003, x132004, x132005, x132006 => if x18 < x17 then (if 0 ≤ x18 then (if x18 < (x16.length : Int) then ((num_Put.f k x3 (IntKind.u64.wrap (rd x16 x18)) 2).bind fun t133 => (rdata_plain.l0 k t133 x16 x17 (wrap64 (x18 + 1)) x132000 x132001 x132002 x132003 x132004 x132005 x132006)) else (none)) else (none)) else (rdata_plain.j1 k x3 x132000 x132001 x132002 x132003 x132004 x132005 x132006)
end
def rdata_plain.f (k : Nat) (a0_0 : ByteArray) (a0_1 : Int) (a0_2 : Int) (a0_3 : Int) (l0_4 : List ByteArray) (l0_5 : List Int) (l0_6 : List ByteArray) : Option (List Int) := if a0_1 = 6 then (rdata_plain.j1 k ([] : List Int) a0_0 a0_1 a0_2 a0_3 l0_4 l0_5 l0_6) else (rdata_plain.l0 k ([] : List Int) l0_5 (l0_5.length : Int) 0 a0_0 a0_1 a0_2 a0_3 l0_4 l0_5 l0_6)
theorem rdata_plain.mono_l : ∀ k, (∀ y0 y1 y2 y3 y4 y5 y6 y7, LeO (rdata_plain.j1 k y0 y1 y2 y3 y4 y5 y6 y7) (rdata_plain.j1 (k + 1) y0 y1 y2 y3 y4 y5 y6 y7)) ∧ (∀ y0 y1 y2 y3 y4 y5 y6 y7 y8 y9 y10, LeO (rdata_plain.l1 k y0 y1 y2 y3 y4 y5 y6 y7 y8 y9 y10) (rdata_plain.l1 (k + 1) y0 y1 y2 y3 y4 y5 y6 y7 y8 y9 y10)) ∧ (∀ y0 y1 y2 y3 y4 y5 y6 y7, LeO (rdata_plain.j4 k y0 y1 y2 y3 y4 y5 y6 y7) (rdata_plain.j4 (k + 1) y0 y1 y2 y3 y4 y5 y6 y7)) ∧ (∀ y0 y1 y2 y3 y4 y5 y6 y7 y8 y9 y10, LeO (rdata_plain.l3 k y0 y1 y2 y3 y4 y5 y6 y7 y8 y9 y10) (rdata_plain.l3 (k + 1) y0 y1 y2 y3 y4 y5 y6 y7 y8 y9 y10)) ∧ (∀ y0 y1 y2 y3 y4 y5 y6 y7 y8 y9 y10, LeO (rdata_plain.l2 k y0 y1 y2 y3 y4 y5 y6 y7 y8 y9 y10) (rdata_plain.l2 (k + 1) y0 y1 y2 y3 y4 y5 y6 y7 y8 y9 y10)) ∧ (∀ y0 y1 y2 y3 y4 y5 y6 y7 y8 y9 y10, LeO (rdata_plain.l0 k y0 y1 y2 y3 y4 y5 y6 y7 y8 y9 y10) (rdata_plain.l0 (k + 1) y0 y1 y2 y3 y4 y5 y6 y7 y8 y9 y10))
 | 0 => ⟨fun _ _ _ _ _ _ _ _ r h => by simp [rdata_plain.j1] at h, fun _ _ _ _ _ _ _ _ _ _ _ r h => by simp [rdata_plain.l1] at h, fun _ _ _ _ _ _ _ _ r h => by simp [rdata_plain.j4] at h, fun _ _ _ _ _ _ _ _ _ _ _ r h => by simp [rdata_plain.l3] at h, fun _ _ _ _ _ _ _ _ _ _ _ r h => by simp [rdata_plain.l2] at h, fun _ _ _ _ _ _ _ _ _ _ _ r h => by simp [rdata_plain.l0] at h⟩
 | k + 1 => by
  obtain ⟨ih0, ih1, ih2, ih3, ih4, ih5⟩ := rdata_plain.mono_l k
  refine ⟨?_, ?_, ?_, ?_, ?_, ?_⟩
  ·
   intro y0 y1 y2 y3 y4 y5 y6 y7
   unfold rdata_plain.j1
   repeat' first
   | (with_reducible exact ih0 _ _ _ _ _ _ _ _)
   | (with_reducible exact ih1 _ _ _ _ _ _ _ _ _ _ _)
   | (with_reducible exact ih2 _ _ _ _ _ _ _ _)
   | (with_reducible exact ih3 _ _ _ _ _ _ _ _ _ _ _)
   | (with_reducible exact ih4 _ _ _ _ _ _ _ _ _ _ _)
   | (with_reducible exact ih5 _ _ _ _ _ _ _ _ _ _ _)
   | (with_reducible exact num_Put.mono _ _ _ _)
   | (with_reducible exact LeO.refl _)
   | (with_reducible exact LeO.none _)
   | (with_reducible refine LeO.ite ?_ ?_)
   | (with_reducible refine LeO.bind ?_ (fun _ => ?_))
   | exact ih0 _ _ _ _ _ _ _ _
   | exact ih1 _ _ _ _ _ _ _ _ _ _ _
   | exact ih2 _ _ _ _ _ _ _ _
   | exact ih3 _ _ _ _ _ _ _ _ _ _ _
   | exact ih4 _ _ _ _ _ _ _ _ _ _ _
   | exact ih5 _ _ _ _ _ _ _ _ _ _ _
   | exact num_Put.mono _ _ _ _
   | exact LeO.none _
   | refine LeO.ite ?_ ?_
   | refine LeO.bind ?_ (fun _ => ?_)
  ·
   intro y0 y1 y2 y3 y4 y5 y6 y7 y8 y9 y10
   unfold rdata_plain.l1
   repeat' first
   | (with_reducible exact ih0 _ _ _ _ _ _ _ _)
   | (with_reducible exact ih1 _ _ _ _ _ _ _ _ _ _ _)
   | (with_reducible exact ih2 _ _ _ _ _ _ _ _)
   | (with_reducible exact ih3 _ _ _ _ _ _ _ _ _ _ _)
   | (with_reducible exact ih4 _ _ _ _ _ _ _ _ _ _ _)
   | (with_reducible exact ih5 _ _ _ _ _ _ _ _ _ _ _)
   | (with_reducible exact num_Put.mono _ _ _ _)
   | (with_reducible exact LeO.refl _)
   | (with_reducible exact LeO.none _)
   | (with_reducible refine LeO.ite ?_ ?_)
   | (with_reducible refine LeO.bind ?_ (fun _ => ?_))
   | exact ih0 _ _ _ _ _ _ _ _
   | exact ih1 _ _ _ _ _ _ _ _ _ _ _
   | exact ih2 _ _ _ _ _ _ _ _
   | exact ih3 _ _ _ _ _ _ _ _ _ _ _
   | exact ih4 _ _ _ _ _ _ _ _ _ _ _
   | exact ih5 _ _ _ _ _ _ _ _ _ _ _
   | exact num_Put.mono _ _ _ _
   | exact LeO.none _
   | refine LeO.ite ?_ ?_
   | refine LeO.bind ?_ (fun _ => ?_)
  ·
   intro y0 y1 y2 y3 y4 y5 y6 y7
   unfold rdata_plain.j4
   repeat' first
   | (with_reducible exact ih0 _ _ _ _ _ _ _ _)
   | (with_reducible exact ih1 _ _ _ _ _ _ _ _ _ _ _)
   | (with_reducible exact ih2 _ _ _ _ _ _ _ _)
   | (with_reducible exact ih3 _ _ _ _ _ _ _ _ _ _ _)
   | (with_reducible exact ih4 _ _ _ _ _ _ _ _ _ _ _)
   | (with_reducible exact ih5 _ _ _ _ _ _ _ _ _ _ _)
   | (with_reducible exact num_Put.mono _ _ _ _)
   | (with_reducible exact LeO.refl _)
   | (with_reducible exact LeO.none _)
   | (with_reducible refine LeO.ite ?_ ?_)
   | (with_reducible refine LeO.bind ?_ (fun _ => ?_))
   | exact ih0 _ _ _ _ _ _ _ _
   | exact ih1 _ _ _ _ _ _ _ _ _ _ _
   | exact ih2 _ _ _ _ _ _ _ _
   | exact ih3 _ _ _ _ _ _ _ _ _ _ _
   | exact ih4 _ _ _ _ _ _ _ _ _ _ _
   | exact ih5 _ _ _ _ _ _ _ _ _ _ _
   | exact num_Put.mono _ _ _ _
   | exact LeO.none _
   | refine LeO.ite ?_ ?_
   | refine LeO.bind ?_ (fun _ => ?_)
  ·
   intro y0 y1 y2 y3 y4 y5 y6 y7 y8 y9 y10
   unfold rdata_plain.l3
   repeat' first
   | (with_reducible exact ih0 _ _ _ _ _ _ _ _)
   | (with_reducible exact ih1 _ _ _ _ _ _ _ _ _ _ _)
   | (with_reducible exact ih2 _ _ _ _ _ _ _ _)
   | (with_reducible exact ih3 _ _ _ _ _ _ _ _ _ _ _)
   | (with_reducible exact ih4 _ _ _ _ _ _ _ _ _ _ _)
   | (with_reducible exact ih5 _ _ _ _ _ _ _ _ _ _ _)
   | (with_reducible exact num_Put.mono _ _ _ _)
   | (with_reducible exact LeO.refl _)
   | (with_reducible exact LeO.none _)
   | (with_reducible refine LeO.ite ?_ ?_)
   | (with_reducible refine LeO.bind ?_ (fun _ => ?_))
   | exact ih0 _ _ _ _ _ _ _ _
   | exact ih1 _ _ _ _ _ _ _ _ _ _ _
   | exact ih2 _ _ _ _ _ _ _ _
   | exact ih3 _ _ _ _ _ _ _ _ _ _ _
   | exact ih4 _ _ _ _ _ _ _ _ _ _ _
   | exact ih5 _ _ _ _ _ _ _ _ _ _ _
   | exact num_Put.mono _ _ _ _
   | exact LeO.none _
   | refine LeO.ite ?_ ?_
   | refine LeO.bind ?_ (fun _ => ?_)
  ·
   intro y0 y1 y2 y3 y4 y5 y6 y7 y8 y9 y10
   unfold rdata_plain.l2
   repeat' first
   | (with_reducible exact ih0 _ _ _ _ _ _ _ _)
   | (with_reducible exact ih1 _ _ _ _ _ _ _ _ _ _ _)
   | (with_reducible exact ih2 _ _ _ _ _ _ _ _)
   | (with_reducible exact ih3 _ _ _ _ _ _ _ _ _ _ _)
   | (with_reducible exact ih4 _ _ _ _ _ _ _ _ _ _ _)
   | (with_reducible exact ih5 _ _ _ _ _ _ _ _ _ _ _)
   | (with_reducible exact num_Put.mono _ _ _ _)
   | (with_reducible exact LeO.refl _)
   | (with_reducible exact LeO.none _)
   | (with_reducible refine LeO.ite ?_ ?_)
   | (with_reducible refine LeO.bind ?_ (fun _ => ?_))
   | exact ih0 _ _ _ _ _ _ _ _
   | exact ih1 _ _ _ _ _ _ _ _ _ _ _
   | exact ih2 _ _ _ _ _ _ _ _
   | exact ih3 _ _ _ _ _ _ _ _ _ _ _
   | exact ih4 _ _ _ _ _ _ _ _ _ _ _
   | exact ih5 _ _ _ _ _ _ _ _ _ _ _
   | exact num_Put.mono _ _ _ _
   | exact LeO.none _
   | refine LeO.ite ?_ ?_
   | refine LeO.bind ?_ (fun _ => ?_)
  ·
   intro y0 y1 y2 y3 y4 y5 y6 y7 y8 y9 y10
   unfold rdata_plain.l0
   repeat' first
   | (with_reducible exact ih0 _ _ _ _ _ _ _ _)
   | (with_reducible exact ih1 _ _ _ _ _ _ _ _ _ _ _)
   | (with_reducible exact ih2 _ _ _ _ _ _ _ _)
   | (with_reducible exact ih3 _ _ _ _ _ _ _ _ _ _ _)
   | (with_reducible exact ih4 _ _ _ _ _ _ _ _ _ _ _)
   | (with_reducible exact ih5 _ _ _ _ _ _ _ _ _ _ _)
   | (with_reducible exact num_Put.mono _ _ _ _)
   | (with_reducible exact LeO.refl _)
   | (with_reducible exact LeO.none _)
   | (with_reducible refine LeO.ite ?_ ?_)
   | (with_reducible refine LeO.bind ?_ (fun _ => ?_))
   | exact ih0 _ _ _ _ _ _ _ _
   | exact ih1 _ _ _ _ _ _ _ _ _ _ _
   | exact ih2 _ _ _ _ _ _ _ _
   | exact ih3 _ _ _ _ _ _ _ _ _ _ _
   | exact ih4 _ _ _ _ _ _ _ _ _ _ _
   | exact ih5 _ _ _ _ _ _ _ _ _ _ _
   | exact num_Put.mono _ _ _ _
   | exact LeO.none _
   | refine LeO.ite ?_ ?_
   | refine LeO.bind ?_ (fun _ => ?_)
theorem rdata_plain.mono : ∀ a0 a1 a2 a3 a4 a5 a6 k, LeO (rdata_plain.f k a0 a1 a2 a3 a4 a5 a6) (rdata_plain.f (k + 1) a0 a1 a2 a3 a4 a5 a6) := by
 intro a0 a1 a2 a3 a4 a5 a6 k
 obtain ⟨ih0, ih1, ih2, ih3, ih4, ih5⟩ := rdata_plain.mono_l k
 unfold rdata_plain.f
 repeat' first
   | (with_reducible exact ih0 _ _ _ _ _ _ _ _)
   | (with_reducible exact ih1 _ _ _ _ _ _ _ _ _ _ _)
   | (with_reducible exact ih2 _ _ _ _ _ _ _ _)
   | (with_reducible exact ih3 _ _ _ _ _ _ _ _ _ _ _)
   | (with_reducible exact ih4 _ _ _ _ _ _ _ _ _ _ _)
   | (with_reducible exact ih5 _ _ _ _ _ _ _ _ _ _ _)
   | (with_reducible exact num_Put.mono _ _ _ _)
   | (with_reducible exact LeO.refl _)
   | (with_reducible exact LeO.none _)
   | (with_reducible refine LeO.ite ?_ ?_)
   | (with_reducible refine LeO.bind ?_ (fun _ => ?_))
   | exact ih0 _ _ _ _ _ _ _ _
   | exact ih1 _ _ _ _ _ _ _ _ _ _ _
   | exact ih2 _ _ _ _ _ _ _ _
   | exact ih3 _ _ _ _ _ _ _ _ _ _ _
   | exact ih4 _ _ _ _ _ _ _ _ _ _ _
   | exact ih5 _ _ _ _ _ _ _ _ _ _ _
   | exact num_Put.mono _ _ _ _
   | exact LeO.none _
   | refine LeO.ite ?_ ?_
   | refine LeO.bind ?_ (fun _ => ?_)
set_option maxHeartbeats 8000000 in
set_option maxRecDepth 100000 in
theorem rdata_plain.calls (k : Nat) (a0_0 : ByteArray) (a0_1 : Int) (a0_2 : Int) (a0_3 : Int) (A0_4 : Option Addr) (c0_4 : Nat) (l0_4 : List ByteArray) (A0_5 : Option Addr) (c0_5 : Nat) (l0_5 : List Int) (A0_6 : Option Addr) (c0_6 : Nat) (l0_6 : List ByteArray) (r : List Int) (w : World) (hr0_4 : Kd.C Kd.string w A0_4 l0_4.length l0_4) (hc0_4 : l0_4.length ≤ c0_4) (hr0_5 : Kd.C (Kd.int .u32) w A0_5 l0_5.length l0_5) (hc0_5 : l0_5.length ≤ c0_5) (hr0_6 : Kd.C Kd.string w A0_6 l0_6.length l0_6) (hc0_6 : l0_6.length ≤ c0_6) (h : rdata_plain.f k a0_0 a0_1 a0_2 a0_3 l0_4 l0_5 l0_6 = some r) :
  Calls Try.prog 26 #[.agg #[.string a0_0, .int .u16 a0_1, .int .u16 a0_2, .int .u32 a0_3, .slice A0_4 l0_4.length c0_4, .slice A0_5 l0_5.length c0_5, .slice A0_6 l0_6.length c0_6]] w fun e w' => ∃ v0_ : Value, e = .returned (v0_) ∧ Kd.R (Kd.int .u8) 5 w' w.heap.size (fun _ => True) v0_ r ∧ Below w.heap.size w w' := by
 have hu27 := Try.underlying27
 have HR0_4 := Aside0.mk hr0_4
 have HC0_4 := Aside0.mk hc0_4
 clear hr0_4 hc0_4
 have HR0_5 := Aside0.mk hr0_5
 have HC0_5 := Aside0.mk hc0_5
 clear hr0_5 hc0_5
 have HR0_6 := Aside0.mk hr0_6
 have HC0_6 := Aside0.mk hc0_6
 clear hr0_6 hc0_6
 have HB := Aside0.mk (Below.refl w.heap.size w)
 have H : (if a0_1 = 6 then (rdata_plain.j1 k ([] : List Int) a0_0 a0_1 a0_2 a0_3 l0_4 l0_5 l0_6) else (rdata_plain.l0 k ([] : List Int) l0_5 (l0_5.length : Int) 0 a0_0 a0_1 a0_2 a0_3 l0_4 l0_5 l0_6)) = some r := h
 clear h
 have HC2 := Aside0.mk H
 clear H
 go_enter Try.func26, Try.ntmps26
 go_upto_if 14 with (first | ((with_reducible refine gate_dst (N := 1) rfl ?_); refine box_event ?hg (N := 1) ?hd (cs := #[.string a0_0, .int .u16 a0_1, .int .u16 a0_2, .int .u32 a0_3, .slice A0_4 l0_4.length c0_4, .slice A0_5 l0_5.length c0_5, .slice A0_6 l0_6.length c0_6]) (t := 27) ?hr ?_; (case hd => rfl); (case hg => rfl); (case hr => first | (go_simp; done) | (go_simp; rfl)); intro gb131 hg w3 hbox hb; have n0_ := Aside0.mk (below_step (by repeat (first | (with_reducible first | exact HB.out | apply below_alloc | apply pw_below_drewN | apply below_drew1) | exact HB.out)) hb); have n1_ := Aside0.mk (hbox); have n2_ := Aside0.mk ((by rw [hg]; exact (below_size (by repeat (first | (with_reducible first | exact HB.out | apply below_alloc | apply pw_below_drewN | apply below_drew1) | exact HB.out))) : w.heap.size ≤ gb131)); have n3_ := Aside0.mk ((by rw [hg]; exact (below_size (by repeat (first | (with_reducible first | exact HB.out | apply below_alloc | apply pw_below_drewN | apply below_drew1) | exact HB.out))) : w.heap.size ≤ gb131)); clear HB; have HB := n0_; have BK131 := n1_; have GW131 := n2_; have GE131 := n3_; clear n0_ n1_ n2_ n3_; clear hb hbox hg; have hcz4_0 : w3.cell? ⟨gb131, 0, none⟩ = some (.string a0_0) := (blk_cell BK131.out 0).trans rfl; have hcz4_1 : w3.cell? ⟨gb131, 1, none⟩ = some (.int .u16 a0_1) := (blk_cell BK131.out 1).trans rfl; have hcz4_2 : w3.cell? ⟨gb131, 2, none⟩ = some (.int .u16 a0_2) := (blk_cell BK131.out 2).trans rfl; have hcz4_3 : w3.cell? ⟨gb131, 3, none⟩ = some (.int .u32 a0_3) := (blk_cell BK131.out 3).trans rfl; have hcz4_4 : w3.cell? ⟨gb131, 4, none⟩ = some (.slice A0_4 l0_4.length c0_4) := (blk_cell BK131.out 4).trans rfl; have hcz4_5 : w3.cell? ⟨gb131, 5, none⟩ = some (.slice A0_5 l0_5.length c0_5) := (blk_cell BK131.out 5).trans rfl; have hcz4_6 : w3.cell? ⟨gb131, 6, none⟩ = some (.slice A0_6 l0_6.length c0_6) := (blk_cell BK131.out 6).trans rfl; have hfz4_0 := blk_frozen BK131.out 0; have hfz4_1 := blk_frozen BK131.out 1; have hfz4_2 := blk_frozen BK131.out 2; have hfz4_3 := blk_frozen BK131.out 3; have hfz4_4 := blk_frozen BK131.out 4; have hfz4_5 := blk_frozen BK131.out 5; have hfz4_6 := blk_frozen BK131.out 6))
 (try simp only [Act.put, List.setIfInBounds_toArray, List.set_cons_zero, List.set_cons_succ])
 go_cut [3] (fun v3 wc => ∃ (kq : Nat) (x3_1 : List Int), Aside0 (rdata_plain.j1 kq x3_1 a0_0 a0_1 a0_2 a0_3 l0_4 l0_5 l0_6 = some r) ∧ Aside0 (kq ≤ k) ∧ Aside0 (Kd.R (Kd.int .u8) 5 wc w.heap.size (fun _ => True) v3 x3_1) ∧ Aside0 (wc.heap[gb131]? = some (.cells #[.string a0_0, .int .u16 a0_1, .int .u16 a0_2, .int .u32 a0_3, (.slice A0_4 l0_4.length c0_4), (.slice A0_5 l0_5.length c0_5), (.slice A0_6 l0_6.length c0_6)] 27 (0, 0))) ∧ Aside0 (Below w.heap.size w wc))
 case first =>
  have H := HC2.out
  clear HC2
  by_cases c5 : a0_1 = 6
  ·
   rw [if_pos c5] at H
   have c5b0 : (a0_1 == 6) = true := beq_iff_eq.mpr c5
   have c5b1 : (a0_1 != 6) = false := bne_eq_false_iff_eq.mpr c5
   clear c5
   (first | rw [c5b0] | rw [c5b1] | (simp only [i64_w, i32_w]; rw [c5b0]) | skip)
   have H' := Aside0.mk H
   clear H
   go_wp2
   go_meet
   case rel => exact ⟨_, (([] : List Int)), H', ⟨by first | omega | exact Nat.le_refl _⟩, ⟨by first | exact Kd.R_nil _ _ _ _ _ | exact Kd.N_nil _ _ _ _ _ | exact Kd.V_nil _ _ _ _ _ | exact Kd.Q_nil _ _ _ _ _ | exact Kd.S_nil _ _ _ _ _⟩, ⟨by (with_reducible repeat (first | refine blk_drewN ?_ _ | refine blk_drew ?_ | refine blk_alloc ?_ _)); exact BK131.out⟩, ⟨by repeat (first | (with_reducible first | exact HB.out | apply below_alloc | apply pw_below_drewN | apply below_drew1 | refine below_set ?_ GE131.out) | exact HB.out)⟩⟩
  ·
   rw [if_neg c5] at H
   have c5b0 : (a0_1 == 6) = false := beq_eq_false_iff_ne.mpr c5
   have c5b1 : (a0_1 != 6) = true := bne_iff_ne.mpr c5
   (first | rw [c5b0] | rw [c5b1] | (simp only [i64_w, i32_w]; rw [c5b0]) | skip)
   have H' := Aside0.mk H
   clear H
   have hcz6_0 : w3.cell? ⟨gb131, 0, none⟩ = some (.string a0_0) := (blk_cell BK131.out 0).trans rfl
   have hcz6_1 : w3.cell? ⟨gb131, 1, none⟩ = some (.int .u16 a0_1) := (blk_cell BK131.out 1).trans rfl
   have hcz6_2 : w3.cell? ⟨gb131, 2, none⟩ = some (.int .u16 a0_2) := (blk_cell BK131.out 2).trans rfl
   have hcz6_3 : w3.cell? ⟨gb131, 3, none⟩ = some (.int .u32 a0_3) := (blk_cell BK131.out 3).trans rfl
   have hcz6_4 : w3.cell? ⟨gb131, 4, none⟩ = some (.slice A0_4 l0_4.length c0_4) := (blk_cell BK131.out 4).trans rfl
   have hcz6_5 : w3.cell? ⟨gb131, 5, none⟩ = some (.slice A0_5 l0_5.length c0_5) := (blk_cell BK131.out 5).trans rfl
   have hcz6_6 : w3.cell? ⟨gb131, 6, none⟩ = some (.slice A0_6 l0_6.length c0_6) := (blk_cell BK131.out 6).trans rfl
   have hfz6_0 := blk_frozen BK131.out 0
   have hfz6_1 := blk_frozen BK131.out 1
   have hfz6_2 := blk_frozen BK131.out 2
   have hfz6_3 := blk_frozen BK131.out 3
   have hfz6_4 := blk_frozen BK131.out 4
   have hfz6_5 := blk_frozen BK131.out 5
   have hfz6_6 := blk_frozen BK131.out 6
   go_wp2
   go_loopg [3, 18] k (fun kq v3 v18 w' => ∃ (x3_1 : List Int) (x18_1 : Int), v18 = .int .i64 x18_1 ∧ Aside0 (rdata_plain.l0 kq x3_1 l0_5 (l0_5.length : Int) x18_1 a0_0 a0_1 a0_2 a0_3 l0_4 l0_5 l0_6 = some r) ∧ Aside0 (kq ≤ k) ∧ Aside0 (Kd.R (Kd.int .u8) 5 w' w.heap.size (fun _ => True) v3 x3_1) ∧ Aside0 (w'.heap[gb131]? = some (.cells #[.string a0_0, .int .u16 a0_1, .int .u16 a0_2, .int .u32 a0_3, (.slice A0_4 l0_4.length c0_4), (.slice A0_5 l0_5.length c0_5), (.slice A0_6 l0_6.length c0_6)] 27 (0, 0))) ∧ Aside0 (Below w.heap.size w w'))
   case atStart => exact ⟨(([] : List Int)), (0), (by first | rfl | (simp; done) | (simp [*]; done)), H', ⟨Nat.le_refl _⟩, ⟨by first | exact Kd.R_nil _ _ _ _ _ | exact Kd.N_nil _ _ _ _ _ | exact Kd.V_nil _ _ _ _ _ | exact Kd.Q_nil _ _ _ _ _ | exact Kd.S_nil _ _ _ _ _⟩, ⟨by (with_reducible repeat (first | refine blk_drewN ?_ _ | refine blk_drew ?_ | refine blk_alloc ?_ _)); exact BK131.out⟩, ⟨by repeat (first | (with_reducible first | exact HB.out | apply below_alloc | apply pw_below_drewN | apply below_drew1 | refine below_set ?_ GE131.out) | exact HB.out)⟩⟩
   case round =>
    clear H'
    try clear c2
    try clear p2
    try clear c5
    try clear c5b0
    try clear c5b1
    try clear hcz4_0
    try clear hcz4_1
    try clear hcz4_2
    try clear hcz4_3
    try clear hcz4_4
    try clear hcz4_5
    try clear hcz4_6
    try clear hcz6_0
    try clear hcz6_1
    try clear hcz6_2
    try clear hcz6_3
    try clear hcz6_4
    try clear hcz6_5
    try clear hcz6_6
    try clear hfz4_0
    try clear hfz4_1
    try clear hfz4_2
    try clear hfz4_3
    try clear hfz4_4
    try clear hfz4_5
    try clear hfz4_6
    try clear hfz6_0
    try clear hfz6_1
    try clear hfz6_2
    try clear hfz6_3
    try clear hfz6_4
    try clear hfz6_5
    try clear hfz6_6
    obtain ⟨x3_1, x18_1, rfl, HA, HK1, HO_3, BK131, HB⟩ := hrel
    cases gk with
    | zero => exact absurd HA.out (by simp [rdata_plain.l0])
    | succ k1 =>
     have H := HA.out
     clear HA
     simp only [rdata_plain.l0] at H
     by_cases c7 : x18_1 < (l0_5.length : Int)
     ·
      rw [if_pos c7] at H
      have c7b0 : decide (x18_1 < (l0_5.length : Int)) = true := decide_eq_true c7
      clear c7
      by_cases c8 : 0 ≤ x18_1
      ·
       rw [if_pos c8] at H
       have c8b0 : decide (0 ≤ x18_1) = true := decide_eq_true c8
       clear c8
       by_cases c9 : x18_1 < (l0_5.length : Int)
       ·
        rw [if_pos c9] at H
        have c9b0 : decide (x18_1 < (l0_5.length : Int)) = true := decide_eq_true c9
        clear c9
        replace H := Option.bind_eq_some_iff.mp H
        obtain ⟨t133, A100, H⟩ := H
        replace H : (rdata_plain.l0 k1 t133 l0_5 (l0_5.length : Int) (wrap64 (x18_1 + 1)) a0_0 a0_1 a0_2 a0_3 l0_4 l0_5 l0_6) = some r := H
        have A10 := Aside0.mk A100
        clear A100
        have H' := Aside0.mk H
        clear H
        have p132 : 0 ≤ (x18_1 : Int) := of_decide_eq_true (by first | (with_reducible assumption) | assumption)
        have q132 : x18_1 < (l0_5.length : Int) := of_decide_eq_true (by first | (with_reducible assumption) | assumption)
        obtain ⟨ad132, e132, hx132_0⟩ := Kd.at_int HR0_5.out x18_1 p132 q132
        cases e132
        replace hx132_0 := (HB.out.cell (World.block_lt_of_cell? w _ hx132_0)).trans hx132_0
        replace p132 := eq_true p132
        replace q132 := eq_true q132
        obtain ⟨Ao11, co11, eo11⟩ := Kd.R_slice HO_3.out
        subst eo11
        go_wp2_with (first | ((with_reducible refine gate_callee (f := 38) rfl ?_); refine goesL_ (some 25) rfl rfl Try.func38 (by kernel_rfl) rfl #[.slice Ao11 x3_1.length co11, .int .u64 (IntKind.u64.wrap (rd l0_5 x18_1)), .int .i64 2] rfl (by (try simp only [List.map_toArray, List.map_cons, List.map_nil]); first | done | rfl | (simp only [List.length_drop, List.length_take]; rfl)) ?_; (with_reducible refine (num_Put.calls k1 _ _ x3_1 (IntKind.u64.wrap (rd l0_5 x18_1)) 2 t133 _ ?side1 ?side2 A10.out).mono ?_); (case side1 => repeat (first | exact (Kd.R_reads' HO_3.out).2.2 | (with_reducible refine Kd.C_alloc ?_ _) | (with_reducible refine Kd.C_drewN ?_ _) | (with_reducible refine Kd.C_drew ?_))); (case side2 => exact (Kd.R_reads' HO_3.out).2.1); rintro e w12 ⟨v134, rfl, ho0, hb⟩; refine ⟨_, rfl, ?_⟩; have n0_ := Aside0.mk (Kd.R_elder' (by (with_reducible repeat (first | apply Kd.R_alloc | apply Kd.R_drewN | apply Kd.R_drew)); exact HO_3.out) (Kd.R_base ho0) hb); have n1_ := Aside0.mk (Kd.R_lower (Kd.R_new' ho0 (Kd.R_lt (by (with_reducible repeat (first | apply Kd.R_alloc | apply Kd.R_drewN | apply Kd.R_drew)); exact HO_3.out))) (below_size (by repeat (first | (with_reducible first | exact HB.out | apply below_alloc | apply pw_below_drewN | apply below_drew1 | refine below_set ?_ GE131.out) | exact HB.out)))); have n2_ := Aside0.mk (blk_below (g := gb131) (o := .cells #[.string a0_0, .int .u16 a0_1, .int .u16 a0_2, .int .u32 a0_3, .slice A0_4 l0_4.length c0_4, .slice (some ad132) l0_5.length c0_5, .slice A0_6 l0_6.length c0_6] 27 (0, 0)) (by (with_reducible repeat (first | refine blk_drewN ?_ _ | refine blk_drew ?_ | refine blk_alloc ?_ _)); exact BK131.out) hb); have n3_ := Aside0.mk (below_step (by repeat (first | (with_reducible first | exact HB.out | apply below_alloc | apply pw_below_drewN | apply below_drew1 | refine below_set ?_ GE131.out) | exact HB.out)) hb); clear HO_3; clear BK131; clear HB; have HO_3 := n0_; have HO135 := n1_; have BK131 := n2_; have HB := n3_; clear n0_ n1_ n2_ n3_; (try clear hb); (try clear hb2); (try clear hk); (try clear hi); (try clear ho0)))
        go_roundg k1
        case measure => have := HK1.out; omega
        case rel => exact ⟨(t133), (wrap64 (x18_1 + 1)), (by first | rfl | (simp; done) | (simp [*]; done)), H', ⟨by have := HK1.out; omega⟩, ⟨by (with_reducible repeat (first | apply Kd.R_alloc | apply Kd.R_drewN | apply Kd.R_drew)); exact Kd.R_mono HO135.out (fun _ hk => trivial)⟩, ⟨by (with_reducible repeat (first | refine blk_drewN ?_ _ | refine blk_drew ?_ | refine blk_alloc ?_ _)); exact BK131.out⟩, ⟨by repeat (first | (with_reducible first | exact HB.out | apply below_alloc | apply pw_below_drewN | apply below_drew1 | refine below_set ?_ GE131.out) | exact HB.out)⟩⟩
       ·
        rw [if_neg c9] at H
        exact absurd H (by simp)
      ·
       rw [if_neg c8] at H
       exact absurd H (by simp)
     ·
      rw [if_neg c7] at H
      have c7b0 : decide (x18_1 < (l0_5.length : Int)) = false := decide_eq_false c7
      clear c7
      have H' := Aside0.mk H
      clear H
      go_wp2
      go_meet
      case rel => exact ⟨_, (x3_1), H', ⟨by have := HK1.out; first | omega | exact Nat.le_refl _⟩, ⟨by (with_reducible repeat (first | apply Kd.R_alloc | apply Kd.R_drewN | apply Kd.R_drew)); exact HO_3.out⟩, ⟨by (with_reducible repeat (first | refine blk_drewN ?_ _ | refine blk_drew ?_ | refine blk_alloc ?_ _)); exact BK131.out⟩, ⟨by repeat (first | (with_reducible first | exact HB.out | apply below_alloc | apply pw_below_drewN | apply below_drew1 | refine below_set ?_ GE131.out) | exact HB.out)⟩⟩
 case rest =>
  clear HC2
  try clear p1
  try clear q1
  try clear hx1
  try clear c2
  try clear p2
  try clear c3
  try clear c5
  try clear c5b0
  try clear c5b1
  try clear p6
  try clear c7
  try clear c7b0
  try clear c8
  try clear c8b0
  try clear c9
  try clear c9b0
  try clear hcz4_0
  try clear hcz4_1
  try clear hcz4_2
  try clear hcz4_3
  try clear hcz4_4
  try clear hcz4_5
  try clear hcz4_6
  try clear hcz6_0
  try clear hcz6_1
  try clear hcz6_2
  try clear hcz6_3
  try clear hcz6_4
  try clear hcz6_5
  try clear hcz6_6
  try clear hfz4_0
  try clear hfz4_1
  try clear hfz4_2
  try clear hfz4_3
  try clear hfz4_4
  try clear hfz4_5
  try clear hfz4_6
  try clear hfz6_0
  try clear hfz6_1
  try clear hfz6_2
  try clear hfz6_3
  try clear hfz6_4
  try clear hfz6_5
  try clear hfz6_6
  try clear hx132_0
  try clear p132
  try clear p2
  try clear q132
  obtain ⟨kq, x3_1, HA, HJ1, HO_3, BK131, HB⟩ := hcut
  cases kq with
  | zero => exact absurd HA.out (by simp [rdata_plain.j1])
  | succ kj1 =>
   have H := HA.out
   clear HA
   simp only [rdata_plain.j1] at H
   have H' := Aside0.mk H
   clear H
   have hcz13_0 : wc.cell? ⟨gb131, 0, none⟩ = some (.string a0_0) := (blk_cell BK131.out 0).trans rfl
   have hcz13_1 : wc.cell? ⟨gb131, 1, none⟩ = some (.int .u16 a0_1) := (blk_cell BK131.out 1).trans rfl
   have hcz13_2 : wc.cell? ⟨gb131, 2, none⟩ = some (.int .u16 a0_2) := (blk_cell BK131.out 2).trans rfl
   have hcz13_3 : wc.cell? ⟨gb131, 3, none⟩ = some (.int .u32 a0_3) := (blk_cell BK131.out 3).trans rfl
   have hcz13_4 : wc.cell? ⟨gb131, 4, none⟩ = some (.slice A0_4 l0_4.length c0_4) := (blk_cell BK131.out 4).trans rfl
   have hcz13_5 : wc.cell? ⟨gb131, 5, none⟩ = some (.slice A0_5 l0_5.length c0_5) := (blk_cell BK131.out 5).trans rfl
   have hcz13_6 : wc.cell? ⟨gb131, 6, none⟩ = some (.slice A0_6 l0_6.length c0_6) := (blk_cell BK131.out 6).trans rfl
   have hfz13_0 := blk_frozen BK131.out 0
   have hfz13_1 := blk_frozen BK131.out 1
   have hfz13_2 := blk_frozen BK131.out 2
   have hfz13_3 := blk_frozen BK131.out 3
   have hfz13_4 := blk_frozen BK131.out 4
   have hfz13_5 := blk_frozen BK131.out 5
   have hfz13_6 := blk_frozen BK131.out 6
   go_wp2
   go_loopg [3, 30] kj1 (fun kq v3 v30 w' => ∃ (x3_2 : List Int) (x30_2 : Int), v30 = .int .i64 x30_2 ∧ Aside0 (rdata_plain.l1 kq x3_2 l0_4 (l0_4.length : Int) x30_2 a0_0 a0_1 a0_2 a0_3 l0_4 l0_5 l0_6 = some r) ∧ Aside0 (kq ≤ kj1) ∧ Aside0 (Kd.R (Kd.int .u8) 5 w' w.heap.size (fun _ => True) v3 x3_2) ∧ Aside0 (w'.heap[gb131]? = some (.cells #[.string a0_0, .int .u16 a0_1, .int .u16 a0_2, .int .u32 a0_3, (.slice A0_4 l0_4.length c0_4), (.slice A0_5 l0_5.length c0_5), (.slice A0_6 l0_6.length c0_6)] 27 (0, 0))) ∧ Aside0 (Below w.heap.size w w'))
   case atStart => exact ⟨(x3_1), (0), (by first | rfl | (simp; done) | (simp [*]; done)), H', ⟨Nat.le_refl _⟩, ⟨by (with_reducible repeat (first | apply Kd.R_alloc | apply Kd.R_drewN | apply Kd.R_drew)); exact HO_3.out⟩, ⟨by (with_reducible repeat (first | refine blk_drewN ?_ _ | refine blk_drew ?_ | refine blk_alloc ?_ _)); exact BK131.out⟩, ⟨by repeat (first | (with_reducible first | exact HB.out | apply below_alloc | apply pw_below_drewN | apply below_drew1 | refine below_set ?_ GE131.out) | exact HB.out)⟩⟩
   case round =>
    clear H'
    try clear p1
    try clear q1
    try clear hx1
    try clear c2
    try clear p2
    try clear c3
    try clear c5
    try clear c5b0
    try clear c5b1
    try clear p6
    try clear c7
    try clear c7b0
    try clear c8
    try clear c8b0
    try clear c9
    try clear c9b0
    try clear p13
    try clear q13
    try clear hx13
    try clear hcz13_0
    try clear hcz13_1
    try clear hcz13_2
    try clear hcz13_3
    try clear hcz13_4
    try clear hcz13_5
    try clear hcz13_6
    try clear hcz4_0
    try clear hcz4_1
    try clear hcz4_2
    try clear hcz4_3
    try clear hcz4_4
    try clear hcz4_5
    try clear hcz4_6
    try clear hcz6_0
    try clear hcz6_1
    try clear hcz6_2
    try clear hcz6_3
    try clear hcz6_4
    try clear hcz6_5
    try clear hcz6_6
    try clear hfz13_0
    try clear hfz13_1
    try clear hfz13_2
    try clear hfz13_3
    try clear hfz13_4
    try clear hfz13_5
    try clear hfz13_6
    try clear hfz4_0
    try clear hfz4_1
    try clear hfz4_2
    try clear hfz4_3
    try clear hfz4_4
    try clear hfz4_5
    try clear hfz4_6
    try clear hfz6_0
    try clear hfz6_1
    try clear hfz6_2
    try clear hfz6_3
    try clear hfz6_4
    try clear hfz6_5
    try clear hfz6_6
    try clear hx132_0
    try clear p1
    try clear p132
    try clear p2
    try clear p6
    try clear q1
    try clear q132
    obtain ⟨x3_2, x30_2, rfl, HA, HK2, HO_3, BK131, HB⟩ := hrel
    cases gk with
    | zero => exact absurd HA.out (by simp [rdata_plain.l1])
    | succ k2 =>
     have H := HA.out
     clear HA
     simp only [rdata_plain.l1] at H
     by_cases c14 : x30_2 < (l0_4.length : Int)
     ·
      rw [if_pos c14] at H
      have c14b0 : decide (x30_2 < (l0_4.length : Int)) = true := decide_eq_true c14
      clear c14
      by_cases c15 : 0 ≤ x30_2
      ·
       rw [if_pos c15] at H
       have c15b0 : decide (0 ≤ x30_2) = true := decide_eq_true c15
       clear c15
       by_cases c16 : x30_2 < (l0_4.length : Int)
       ·
        rw [if_pos c16] at H
        have c16b0 : decide (x30_2 < (l0_4.length : Int)) = true := decide_eq_true c16
        clear c16
        by_cases c17 : x3_2.length + (rdOf ByteArray.empty l0_4 x30_2).size < 140737488355328
        ·
         rw [if_pos c17] at H
         have LMc17 := Aside0.mk c17
         clear c17
         obtain ⟨y137, hy137⟩ : ∃ y_ : List Int, y_ = (x3_2 ++ bytesOf (rdOf ByteArray.empty l0_4 x30_2)) := ⟨_, rfl⟩
         replace H : (rdata_plain.l1 k2 y137 l0_4 (l0_4.length : Int) (wrap64 (x30_2 + 1)) a0_0 a0_1 a0_2 a0_3 l0_4 l0_5 l0_6) = some r := by first | (rw [hy137]; with_reducible exact H) | (have H2_ := (Option.bind_some _ _).symm.trans H; rw [hy137]; with_reducible exact H2_) | (have H2_ := (Option.bind_some _ _).symm.trans H; with_reducible exact H2_) | with_reducible exact H | (rw [hy137]; exact H) | exact H
         have Ny137 := Aside0.mk hy137
         clear hy137
         have H' := Aside0.mk H
         clear H
         have p136 : 0 ≤ (x30_2 : Int) := of_decide_eq_true (by first | (with_reducible assumption) | assumption)
         have q136 : x30_2 < (l0_4.length : Int) := of_decide_eq_true (by first | (with_reducible assumption) | assumption)
         obtain ⟨ad136, e136, hx136_0⟩ := Kd.at_string HR0_4.out x30_2 p136 q136
         cases e136
         replace hx136_0 := (HB.out.cell (World.block_lt_of_cell? w _ hx136_0)).trans hx136_0
         replace p136 := eq_true p136
         replace q136 := eq_true q136
         go_wp2_with (first | (at_builtin; refine Kd.R_append_str (w0 := w) w.heap.size rfl (.tmp 34) _ 44 9 5 rfl Try.underlying44 Try.underlying9 info5 u3 x3_2 (rdOf ByteArray.empty l0_4 x30_2) (fun _ => True) rfl rfl ?aO ?aF ?aB ?aS ?aL ?_; (case aB => exact (by repeat (first | (with_reducible first | exact HB.out | apply below_alloc | apply pw_below_drewN | apply below_drew1 | refine below_set ?_ GE131.out) | exact HB.out))); (case aF => exact (fun _ _ => trivial)); (case aO => exact (by (with_reducible repeat (first | apply Kd.R_alloc | apply Kd.R_drewN | apply Kd.R_drew)); exact HO_3.out)); (case aS => exact (below_size (by repeat (first | (with_reducible first | exact HB.out | apply below_alloc | apply pw_below_drewN | apply below_drew1 | refine below_set ?_ GE131.out) | exact HB.out)))); (case aL => have := LMc17.out; omega); intro v138 w18 ho hb hg hat; rw [← Ny137.out] at ho; have n0_ := Aside0.mk (blk_grown (g := gb131) (o := .cells #[.string a0_0, .int .u16 a0_1, .int .u16 a0_2, .int .u32 a0_3, .slice (some ad136) l0_4.length c0_4, .slice A0_5 l0_5.length c0_5, .slice A0_6 l0_6.length c0_6] 27 (0, 0)) (by (with_reducible repeat (first | refine blk_drewN ?_ _ | refine blk_drew ?_ | refine blk_alloc ?_ _)); exact BK131.out) hg (Kd.R_ne HO_3.out BK131.out (by decide))); have n1_ := Aside0.mk (hb); have n2_ := Aside0.mk (ho); clear BK131; clear HB; clear HO_3; have BK131 := n0_; have HB := n1_; have HO139 := n2_; clear n0_ n1_ n2_; clear ho hb hg hat))
         go_roundg k2
         case measure => have := HJ1.out; have := HK2.out; omega
         case rel => exact ⟨(y137), (wrap64 (x30_2 + 1)), (by first | rfl | (simp; done) | (simp [*]; done)), H', ⟨by have := HJ1.out; have := HK2.out; omega⟩, ⟨by (with_reducible repeat (first | apply Kd.R_alloc | apply Kd.R_drewN | apply Kd.R_drew)); exact HO139.out⟩, ⟨by (with_reducible repeat (first | refine blk_drewN ?_ _ | refine blk_drew ?_ | refine blk_alloc ?_ _)); exact BK131.out⟩, ⟨by repeat (first | (with_reducible first | exact HB.out | apply below_alloc | apply pw_below_drewN | apply below_drew1 | refine below_set ?_ GE131.out) | exact HB.out)⟩⟩
        ·
         rw [if_neg c17] at H
         exact absurd H (by simp)
       ·
        rw [if_neg c16] at H
        exact absurd H (by simp)
      ·
       rw [if_neg c15] at H
       exact absurd H (by simp)
     ·
      rw [if_neg c14] at H
      have c14b0 : decide (x30_2 < (l0_4.length : Int)) = false := decide_eq_false c14
      clear c14
      have HC19 := Aside0.mk H
      clear H
      have hcz20_0 : wr.cell? ⟨gb131, 0, none⟩ = some (.string a0_0) := (blk_cell BK131.out 0).trans rfl
      have hcz20_1 : wr.cell? ⟨gb131, 1, none⟩ = some (.int .u16 a0_1) := (blk_cell BK131.out 1).trans rfl
      have hcz20_2 : wr.cell? ⟨gb131, 2, none⟩ = some (.int .u16 a0_2) := (blk_cell BK131.out 2).trans rfl
      have hcz20_3 : wr.cell? ⟨gb131, 3, none⟩ = some (.int .u32 a0_3) := (blk_cell BK131.out 3).trans rfl
      have hcz20_4 : wr.cell? ⟨gb131, 4, none⟩ = some (.slice A0_4 l0_4.length c0_4) := (blk_cell BK131.out 4).trans rfl
      have hcz20_5 : wr.cell? ⟨gb131, 5, none⟩ = some (.slice A0_5 l0_5.length c0_5) := (blk_cell BK131.out 5).trans rfl
      have hcz20_6 : wr.cell? ⟨gb131, 6, none⟩ = some (.slice A0_6 l0_6.length c0_6) := (blk_cell BK131.out 6).trans rfl
      have hfz20_0 := blk_frozen BK131.out 0
      have hfz20_1 := blk_frozen BK131.out 1
      have hfz20_2 := blk_frozen BK131.out 2
      have hfz20_3 := blk_frozen BK131.out 3
      have hfz20_4 := blk_frozen BK131.out 4
      have hfz20_5 := blk_frozen BK131.out 5
      have hfz20_6 := blk_frozen BK131.out 6
      go_upto_if 40 with (fail)
      go_cut [3] (fun v3 wc => ∃ (kq : Nat) (x3_18 : List Int), Aside0 (rdata_plain.j4 kq x3_18 a0_0 a0_1 a0_2 a0_3 l0_4 l0_5 l0_6 = some r) ∧ Aside0 (kq ≤ k2) ∧ Aside0 (Kd.R (Kd.int .u8) 5 wc w.heap.size (fun _ => True) v3 x3_18) ∧ Aside0 (wc.heap[gb131]? = some (.cells #[.string a0_0, .int .u16 a0_1, .int .u16 a0_2, .int .u32 a0_3, (.slice A0_4 l0_4.length c0_4), (.slice A0_5 l0_5.length c0_5), (.slice A0_6 l0_6.length c0_6)] 27 (0, 0))) ∧ Aside0 (Below w.heap.size w wc))
      case first =>
       have H := HC19.out
       clear HC19
       by_cases c21 : a0_1 = 6
       ·
        rw [if_pos c21] at H
        have c21b0 : (a0_1 == 6) = true := beq_iff_eq.mpr c21
        have c21b1 : (a0_1 != 6) = false := bne_eq_false_iff_eq.mpr c21
        clear c21
        (first | rw [c21b0] | rw [c21b1] | (simp only [i64_w, i32_w]; rw [c21b0]) | skip)
        have H' := Aside0.mk H
        clear H
        have hcz22_0 : wr.cell? ⟨gb131, 0, none⟩ = some (.string a0_0) := (blk_cell BK131.out 0).trans rfl
        have hcz22_1 : wr.cell? ⟨gb131, 1, none⟩ = some (.int .u16 a0_1) := (blk_cell BK131.out 1).trans rfl
        have hcz22_2 : wr.cell? ⟨gb131, 2, none⟩ = some (.int .u16 a0_2) := (blk_cell BK131.out 2).trans rfl
        have hcz22_3 : wr.cell? ⟨gb131, 3, none⟩ = some (.int .u32 a0_3) := (blk_cell BK131.out 3).trans rfl
        have hcz22_4 : wr.cell? ⟨gb131, 4, none⟩ = some (.slice A0_4 l0_4.length c0_4) := (blk_cell BK131.out 4).trans rfl
        have hcz22_5 : wr.cell? ⟨gb131, 5, none⟩ = some (.slice A0_5 l0_5.length c0_5) := (blk_cell BK131.out 5).trans rfl
        have hcz22_6 : wr.cell? ⟨gb131, 6, none⟩ = some (.slice A0_6 l0_6.length c0_6) := (blk_cell BK131.out 6).trans rfl
        have hfz22_0 := blk_frozen BK131.out 0
        have hfz22_1 := blk_frozen BK131.out 1
        have hfz22_2 := blk_frozen BK131.out 2
        have hfz22_3 := blk_frozen BK131.out 3
        have hfz22_4 := blk_frozen BK131.out 4
        have hfz22_5 := blk_frozen BK131.out 5
        have hfz22_6 := blk_frozen BK131.out 6
        go_wp2
        go_loopg [3, 44] k2 (fun kq v3 v44 w' => ∃ (x3_3 : List Int) (x44_3 : Int), v44 = .int .i64 x44_3 ∧ Aside0 (rdata_plain.l2 kq x3_3 l0_5 (l0_5.length : Int) x44_3 a0_0 a0_1 a0_2 a0_3 l0_4 l0_5 l0_6 = some r) ∧ Aside0 (kq ≤ k2) ∧ Aside0 (Kd.R (Kd.int .u8) 5 w' w.heap.size (fun _ => True) v3 x3_3) ∧ Aside0 (w'.heap[gb131]? = some (.cells #[.string a0_0, .int .u16 a0_1, .int .u16 a0_2, .int .u32 a0_3, (.slice A0_4 l0_4.length c0_4), (.slice A0_5 l0_5.length c0_5), (.slice A0_6 l0_6.length c0_6)] 27 (0, 0))) ∧ Aside0 (Below w.heap.size w w'))
        case atStart => exact ⟨(x3_2), (0), (by first | rfl | (simp; done) | (simp [*]; done)), H', ⟨Nat.le_refl _⟩, ⟨by (with_reducible repeat (first | apply Kd.R_alloc | apply Kd.R_drewN | apply Kd.R_drew)); exact HO_3.out⟩, ⟨by (with_reducible repeat (first | refine blk_drewN ?_ _ | refine blk_drew ?_ | refine blk_alloc ?_ _)); exact BK131.out⟩, ⟨by repeat (first | (with_reducible first | exact HB.out | apply below_alloc | apply pw_below_drewN | apply below_drew1 | refine below_set ?_ GE131.out) | exact HB.out)⟩⟩
        case round =>
         clear H'
         try clear c1
         try clear p1
         try clear q1
         try clear hx1
         try clear c2
         try clear p2
         try clear c3
         try clear c5
         try clear c5b0
         try clear c5b1
         try clear p6
         try clear c7
         try clear c7b0
         try clear c8
         try clear c8b0
         try clear c9
         try clear c9b0
         try clear p13
         try clear q13
         try clear hx13
         try clear c14
         try clear c14b0
         try clear c15
         try clear c15b0
         try clear c16
         try clear c16b0
         try clear c17
         try clear c21
         try clear c21b0
         try clear c21b1
         try clear hcz13_0
         try clear hcz13_1
         try clear hcz13_2
         try clear hcz13_3
         try clear hcz13_4
         try clear hcz13_5
         try clear hcz13_6
         try clear hcz20_0
         try clear hcz20_1
         try clear hcz20_2
         try clear hcz20_3
         try clear hcz20_4
         try clear hcz20_5
         try clear hcz20_6
         try clear hcz22_0
         try clear hcz22_1
         try clear hcz22_2
         try clear hcz22_3
         try clear hcz22_4
         try clear hcz22_5
         try clear hcz22_6
         try clear hcz4_0
         try clear hcz4_1
         try clear hcz4_2
         try clear hcz4_3
         try clear hcz4_4
         try clear hcz4_5
         try clear hcz4_6
         try clear hcz6_0
         try clear hcz6_1
         try clear hcz6_2
         try clear hcz6_3
         try clear hcz6_4
         try clear hcz6_5
         try clear hcz6_6
         try clear hfz13_0
         try clear hfz13_1
         try clear hfz13_2
         try clear hfz13_3
         try clear hfz13_4
         try clear hfz13_5
         try clear hfz13_6
         try clear hfz20_0
         try clear hfz20_1
         try clear hfz20_2
         try clear hfz20_3
         try clear hfz20_4
         try clear hfz20_5
         try clear hfz20_6
         try clear hfz22_0
         try clear hfz22_1
         try clear hfz22_2
         try clear hfz22_3
         try clear hfz22_4
         try clear hfz22_5
         try clear hfz22_6
         try clear hfz4_0
         try clear hfz4_1
         try clear hfz4_2
         try clear hfz4_3
         try clear hfz4_4
         try clear hfz4_5
         try clear hfz4_6
         try clear hfz6_0
         try clear hfz6_1
         try clear hfz6_2
         try clear hfz6_3
         try clear hfz6_4
         try clear hfz6_5
         try clear hfz6_6
         try clear hx132_0
         try clear hx136_0
         try clear p1
         try clear p13
         try clear p132
         try clear p136
         try clear p2
         try clear p6
         try clear q1
         try clear q13
         try clear q132
         try clear q136
         obtain ⟨x3_3, x44_3, rfl, HA, HK3, HO_3, BK131, HB⟩ := hrel
         cases gk with
         | zero => exact absurd HA.out (by simp [rdata_plain.l2])
         | succ k3 =>
          have H := HA.out
          clear HA
          simp only [rdata_plain.l2] at H
          by_cases c23 : x44_3 < (l0_5.length : Int)
          ·
           rw [if_pos c23] at H
           have c23b0 : decide (x44_3 < (l0_5.length : Int)) = true := decide_eq_true c23
           clear c23
           by_cases c24 : 0 ≤ x44_3
           ·
            rw [if_pos c24] at H
            have c24b0 : decide (0 ≤ x44_3) = true := decide_eq_true c24
            clear c24
            by_cases c25 : x44_3 < (l0_5.length : Int)
            ·
             rw [if_pos c25] at H
             have c25b0 : decide (x44_3 < (l0_5.length : Int)) = true := decide_eq_true c25
             clear c25
             replace H := Option.bind_eq_some_iff.mp H
             obtain ⟨t141, A260, H⟩ := H
             replace H : (rdata_plain.l2 k3 t141 l0_5 (l0_5.length : Int) (wrap64 (x44_3 + 1)) a0_0 a0_1 a0_2 a0_3 l0_4 l0_5 l0_6) = some r := H
             have A26 := Aside0.mk A260
             clear A260
             have H' := Aside0.mk H
             clear H
             have p140 : 0 ≤ (x44_3 : Int) := of_decide_eq_true (by first | (with_reducible assumption) | assumption)
             have q140 : x44_3 < (l0_5.length : Int) := of_decide_eq_true (by first | (with_reducible assumption) | assumption)
             obtain ⟨ad140, e140, hx140_0⟩ := Kd.at_int HR0_5.out x44_3 p140 q140
             cases e140
             replace hx140_0 := (HB.out.cell (World.block_lt_of_cell? w _ hx140_0)).trans hx140_0
             replace p140 := eq_true p140
             replace q140 := eq_true q140
             obtain ⟨Ao27, co27, eo27⟩ := Kd.R_slice HO_3.out
             subst eo27
             go_wp2_with (first | ((with_reducible refine gate_callee (f := 38) rfl ?_); refine goesL_ (some 51) rfl rfl Try.func38 (by kernel_rfl) rfl #[.slice Ao27 x3_3.length co27, .int .u64 (IntKind.u64.wrap (rd l0_5 x44_3)), .int .i64 4] rfl (by (try simp only [List.map_toArray, List.map_cons, List.map_nil]); first | done | rfl | (simp only [List.length_drop, List.length_take]; rfl)) ?_; (with_reducible refine (num_Put.calls k3 _ _ x3_3 (IntKind.u64.wrap (rd l0_5 x44_3)) 4 t141 _ ?side1 ?side2 A26.out).mono ?_); (case side1 => repeat (first | exact (Kd.R_reads' HO_3.out).2.2 | (with_reducible refine Kd.C_alloc ?_ _) | (with_reducible refine Kd.C_drewN ?_ _) | (with_reducible refine Kd.C_drew ?_))); (case side2 => exact (Kd.R_reads' HO_3.out).2.1); rintro e w28 ⟨v142, rfl, ho0, hb⟩; refine ⟨_, rfl, ?_⟩; have n0_ := Aside0.mk (Kd.R_elder' (by (with_reducible repeat (first | apply Kd.R_alloc | apply Kd.R_drewN | apply Kd.R_drew)); exact HO_3.out) (Kd.R_base ho0) hb); have n1_ := Aside0.mk (Kd.R_lower (Kd.R_new' ho0 (Kd.R_lt (by (with_reducible repeat (first | apply Kd.R_alloc | apply Kd.R_drewN | apply Kd.R_drew)); exact HO_3.out))) (below_size (by repeat (first | (with_reducible first | exact HB.out | apply below_alloc | apply pw_below_drewN | apply below_drew1 | refine below_set ?_ GE131.out) | exact HB.out)))); have n2_ := Aside0.mk (blk_below (g := gb131) (o := .cells #[.string a0_0, .int .u16 a0_1, .int .u16 a0_2, .int .u32 a0_3, .slice A0_4 l0_4.length c0_4, .slice (some ad140) l0_5.length c0_5, .slice A0_6 l0_6.length c0_6] 27 (0, 0)) (by (with_reducible repeat (first | refine blk_drewN ?_ _ | refine blk_drew ?_ | refine blk_alloc ?_ _)); exact BK131.out) hb); have n3_ := Aside0.mk (below_step (by repeat (first | (with_reducible first | exact HB.out | apply below_alloc | apply pw_below_drewN | apply below_drew1 | refine below_set ?_ GE131.out) | exact HB.out)) hb); clear HO_3; clear BK131; clear HB; have HO_3 := n0_; have HO143 := n1_; have BK131 := n2_; have HB := n3_; clear n0_ n1_ n2_ n3_; (try clear hb); (try clear hb2); (try clear hk); (try clear hi); (try clear ho0)))
             go_roundg k3
             case measure => have := HJ1.out; have := HK2.out; have := HK3.out; omega
             case rel => exact ⟨(t141), (wrap64 (x44_3 + 1)), (by first | rfl | (simp; done) | (simp [*]; done)), H', ⟨by have := HJ1.out; have := HK2.out; have := HK3.out; omega⟩, ⟨by (with_reducible repeat (first | apply Kd.R_alloc | apply Kd.R_drewN | apply Kd.R_drew)); exact Kd.R_mono HO143.out (fun _ hk => trivial)⟩, ⟨by (with_reducible repeat (first | refine blk_drewN ?_ _ | refine blk_drew ?_ | refine blk_alloc ?_ _)); exact BK131.out⟩, ⟨by repeat (first | (with_reducible first | exact HB.out | apply below_alloc | apply pw_below_drewN | apply below_drew1 | refine below_set ?_ GE131.out) | exact HB.out)⟩⟩
            ·
             rw [if_neg c25] at H
             exact absurd H (by simp)
           ·
            rw [if_neg c24] at H
            exact absurd H (by simp)
          ·
           rw [if_neg c23] at H
           have c23b0 : decide (x44_3 < (l0_5.length : Int)) = false := decide_eq_false c23
           clear c23
           have H' := Aside0.mk H
           clear H
           go_wp2
           go_meet
           case rel => exact ⟨_, (x3_3), H', ⟨by have := HJ1.out; have := HK2.out; have := HK3.out; first | omega | exact Nat.le_refl _⟩, ⟨by (with_reducible repeat (first | apply Kd.R_alloc | apply Kd.R_drewN | apply Kd.R_drew)); exact HO_3.out⟩, ⟨by (with_reducible repeat (first | refine blk_drewN ?_ _ | refine blk_drew ?_ | refine blk_alloc ?_ _)); exact BK131.out⟩, ⟨by repeat (first | (with_reducible first | exact HB.out | apply below_alloc | apply pw_below_drewN | apply below_drew1 | refine below_set ?_ GE131.out) | exact HB.out)⟩⟩
       ·
        rw [if_neg c21] at H
        have c21b0 : (a0_1 == 6) = false := beq_eq_false_iff_ne.mpr c21
        have c21b1 : (a0_1 != 6) = true := bne_iff_ne.mpr c21
        (first | rw [c21b0] | rw [c21b1] | (simp only [i64_w, i32_w]; rw [c21b0]) | skip)
        have H' := Aside0.mk H
        clear H
        go_wp2
        go_meet
        case rel => exact ⟨_, (x3_2), H', ⟨by have := HJ1.out; have := HK2.out; first | omega | exact Nat.le_refl _⟩, ⟨by (with_reducible repeat (first | apply Kd.R_alloc | apply Kd.R_drewN | apply Kd.R_drew)); exact HO_3.out⟩, ⟨by (with_reducible repeat (first | refine blk_drewN ?_ _ | refine blk_drew ?_ | refine blk_alloc ?_ _)); exact BK131.out⟩, ⟨by repeat (first | (with_reducible first | exact HB.out | apply below_alloc | apply pw_below_drewN | apply below_drew1 | refine below_set ?_ GE131.out) | exact HB.out)⟩⟩
      case rest =>
       clear HC19
       try clear c1
       try clear p1
       try clear q1
       try clear hx1
       try clear c2
       try clear p2
       try clear c3
       try clear c5
       try clear c5b0
       try clear c5b1
       try clear p6
       try clear c7
       try clear c7b0
       try clear c8
       try clear c8b0
       try clear c9
       try clear c9b0
       try clear p13
       try clear q13
       try clear hx13
       try clear c14
       try clear c14b0
       try clear p14
       try clear q14
       try clear hx14
       try clear c15
       try clear c15b0
       try clear c16
       try clear c16b0
       try clear c17
       try clear c21
       try clear c21b0
       try clear c21b1
       try clear c23
       try clear c23b0
       try clear c24
       try clear c24b0
       try clear c25
       try clear c25b0
       try clear c26
       try clear hcz13_0
       try clear hcz13_1
       try clear hcz13_2
       try clear hcz13_3
       try clear hcz13_4
       try clear hcz13_5
       try clear hcz13_6
       try clear hcz20_0
       try clear hcz20_1
       try clear hcz20_2
       try clear hcz20_3
       try clear hcz20_4
       try clear hcz20_5
       try clear hcz20_6
       try clear hcz22_0
       try clear hcz22_1
       try clear hcz22_2
       try clear hcz22_3
       try clear hcz22_4
       try clear hcz22_5
       try clear hcz22_6
       try clear hcz4_0
       try clear hcz4_1
       try clear hcz4_2
       try clear hcz4_3
       try clear hcz4_4
       try clear hcz4_5
       try clear hcz4_6
       try clear hcz6_0
       try clear hcz6_1
       try clear hcz6_2
       try clear hcz6_3
       try clear hcz6_4
       try clear hcz6_5
       try clear hcz6_6
       try clear hfz13_0
       try clear hfz13_1
       try clear hfz13_2
       try clear hfz13_3
       try clear hfz13_4
       try clear hfz13_5
       try clear hfz13_6
       try clear hfz20_0
       try clear hfz20_1
       try clear hfz20_2
       try clear hfz20_3
       try clear hfz20_4
       try clear hfz20_5
       try clear hfz20_6
       try clear hfz22_0
       try clear hfz22_1
       try clear hfz22_2
       try clear hfz22_3
       try clear hfz22_4
       try clear hfz22_5
       try clear hfz22_6
       try clear hfz4_0
       try clear hfz4_1
       try clear hfz4_2
       try clear hfz4_3
       try clear hfz4_4
       try clear hfz4_5
       try clear hfz4_6
       try clear hfz6_0
       try clear hfz6_1
       try clear hfz6_2
       try clear hfz6_3
       try clear hfz6_4
       try clear hfz6_5
       try clear hfz6_6
       try clear hx132_0
       try clear hx136_0
       try clear hx140_0
       try clear p1
       try clear p13
       try clear p132
       try clear p136
       try clear p140
       try clear p2
       try clear p6
       try clear q1
       try clear q13
       try clear q132
       try clear q136
       try clear q140
       obtain ⟨kq, x3_18, HA, HJ18, HO_3, BK131, HB⟩ := hcut
       cases kq with
       | zero => exact absurd HA.out (by simp [rdata_plain.j4])
       | succ kj18 =>
        have H := HA.out
        clear HA
        simp only [rdata_plain.j4] at H
        have H' := Aside0.mk H
        clear H
        have hcz29_0 : wc.cell? ⟨gb131, 0, none⟩ = some (.string a0_0) := (blk_cell BK131.out 0).trans rfl
        have hcz29_1 : wc.cell? ⟨gb131, 1, none⟩ = some (.int .u16 a0_1) := (blk_cell BK131.out 1).trans rfl
        have hcz29_2 : wc.cell? ⟨gb131, 2, none⟩ = some (.int .u16 a0_2) := (blk_cell BK131.out 2).trans rfl
        have hcz29_3 : wc.cell? ⟨gb131, 3, none⟩ = some (.int .u32 a0_3) := (blk_cell BK131.out 3).trans rfl
        have hcz29_4 : wc.cell? ⟨gb131, 4, none⟩ = some (.slice A0_4 l0_4.length c0_4) := (blk_cell BK131.out 4).trans rfl
        have hcz29_5 : wc.cell? ⟨gb131, 5, none⟩ = some (.slice A0_5 l0_5.length c0_5) := (blk_cell BK131.out 5).trans rfl
        have hcz29_6 : wc.cell? ⟨gb131, 6, none⟩ = some (.slice A0_6 l0_6.length c0_6) := (blk_cell BK131.out 6).trans rfl
        have hfz29_0 := blk_frozen BK131.out 0
        have hfz29_1 := blk_frozen BK131.out 1
        have hfz29_2 := blk_frozen BK131.out 2
        have hfz29_3 := blk_frozen BK131.out 3
        have hfz29_4 := blk_frozen BK131.out 4
        have hfz29_5 := blk_frozen BK131.out 5
        have hfz29_6 := blk_frozen BK131.out 6
        go_wp2
        go_loopg [3, 56] kj18 (fun kq v3 v56 w' => ∃ (x3_4 : List Int) (x56_4 : Int), v56 = .int .i64 x56_4 ∧ Aside0 (rdata_plain.l3 kq x3_4 l0_6 (l0_6.length : Int) x56_4 a0_0 a0_1 a0_2 a0_3 l0_4 l0_5 l0_6 = some r) ∧ Aside0 (kq ≤ kj18) ∧ Aside0 (Kd.R (Kd.int .u8) 5 w' w.heap.size (fun _ => True) v3 x3_4) ∧ Aside0 (w'.heap[gb131]? = some (.cells #[.string a0_0, .int .u16 a0_1, .int .u16 a0_2, .int .u32 a0_3, (.slice A0_4 l0_4.length c0_4), (.slice A0_5 l0_5.length c0_5), (.slice A0_6 l0_6.length c0_6)] 27 (0, 0))) ∧ Aside0 (Below w.heap.size w w'))
        case atStart => exact ⟨(x3_18), (0), (by first | rfl | (simp; done) | (simp [*]; done)), H', ⟨Nat.le_refl _⟩, ⟨by (with_reducible repeat (first | apply Kd.R_alloc | apply Kd.R_drewN | apply Kd.R_drew)); exact HO_3.out⟩, ⟨by (with_reducible repeat (first | refine blk_drewN ?_ _ | refine blk_drew ?_ | refine blk_alloc ?_ _)); exact BK131.out⟩, ⟨by repeat (first | (with_reducible first | exact HB.out | apply below_alloc | apply pw_below_drewN | apply below_drew1 | refine below_set ?_ GE131.out) | exact HB.out)⟩⟩
        case round =>
         clear H'
         try clear c1
         try clear p1
         try clear q1
         try clear hx1
         try clear c2
         try clear p2
         try clear c3
         try clear c5
         try clear c5b0
         try clear c5b1
         try clear p6
         try clear c7
         try clear c7b0
         try clear c8
         try clear c8b0
         try clear c9
         try clear c9b0
         try clear p13
         try clear q13
         try clear hx13
         try clear c14
         try clear c14b0
         try clear p14
         try clear q14
         try clear hx14
         try clear c15
         try clear c15b0
         try clear c16
         try clear c16b0
         try clear c17
         try clear c21
         try clear c21b0
         try clear c21b1
         try clear c23
         try clear c23b0
         try clear c24
         try clear c24b0
         try clear c25
         try clear c25b0
         try clear c26
         try clear hcz13_0
         try clear hcz13_1
         try clear hcz13_2
         try clear hcz13_3
         try clear hcz13_4
         try clear hcz13_5
         try clear hcz13_6
         try clear hcz20_0
         try clear hcz20_1
         try clear hcz20_2
         try clear hcz20_3
         try clear hcz20_4
         try clear hcz20_5
         try clear hcz20_6
         try clear hcz22_0
         try clear hcz22_1
         try clear hcz22_2
         try clear hcz22_3
         try clear hcz22_4
         try clear hcz22_5
         try clear hcz22_6
         try clear hcz29_0
         try clear hcz29_1
         try clear hcz29_2
         try clear hcz29_3
         try clear hcz29_4
         try clear hcz29_5
         try clear hcz29_6
         try clear hcz4_0
         try clear hcz4_1
         try clear hcz4_2
         try clear hcz4_3
         try clear hcz4_4
         try clear hcz4_5
         try clear hcz4_6
         try clear hcz6_0
         try clear hcz6_1
         try clear hcz6_2
         try clear hcz6_3
         try clear hcz6_4
         try clear hcz6_5
         try clear hcz6_6
         try clear hfz13_0
         try clear hfz13_1
         try clear hfz13_2
         try clear hfz13_3
         try clear hfz13_4
         try clear hfz13_5
         try clear hfz13_6
         try clear hfz20_0
         try clear hfz20_1
         try clear hfz20_2
         try clear hfz20_3
         try clear hfz20_4
         try clear hfz20_5
         try clear hfz20_6
         try clear hfz22_0
         try clear hfz22_1
         try clear hfz22_2
         try clear hfz22_3
         try clear hfz22_4
         try clear hfz22_5
         try clear hfz22_6
         try clear hfz29_0
         try clear hfz29_1
         try clear hfz29_2
         try clear hfz29_3
         try clear hfz29_4
         try clear hfz29_5
         try clear hfz29_6
         try clear hfz4_0
         try clear hfz4_1
         try clear hfz4_2
         try clear hfz4_3
         try clear hfz4_4
         try clear hfz4_5
         try clear hfz4_6
         try clear hfz6_0
         try clear hfz6_1
         try clear hfz6_2
         try clear hfz6_3
         try clear hfz6_4
         try clear hfz6_5
         try clear hfz6_6
         try clear hx132_0
         try clear hx136_0
         try clear hx140_0
         try clear p1
         try clear p13
         try clear p132
         try clear p136
         try clear p14
         try clear p140
         try clear p2
         try clear p6
         try clear q1
         try clear q13
         try clear q132
         try clear q136
         try clear q14
         try clear q140
         obtain ⟨x3_4, x56_4, rfl, HA, HK4, HO_3, BK131, HB⟩ := hrel
         cases gk with
         | zero => exact absurd HA.out (by simp [rdata_plain.l3])
         | succ k4 =>
          have H := HA.out
          clear HA
          simp only [rdata_plain.l3] at H
          by_cases c30 : x56_4 < (l0_6.length : Int)
          ·
           rw [if_pos c30] at H
           have c30b0 : decide (x56_4 < (l0_6.length : Int)) = true := decide_eq_true c30
           clear c30
           by_cases c31 : 0 ≤ x56_4
           ·
            rw [if_pos c31] at H
            have c31b0 : decide (0 ≤ x56_4) = true := decide_eq_true c31
            clear c31
            by_cases c32 : x56_4 < (l0_6.length : Int)
            ·
             rw [if_pos c32] at H
             have c32b0 : decide (x56_4 < (l0_6.length : Int)) = true := decide_eq_true c32
             clear c32
             by_cases c33 : a0_1 = 16
             ·
              rw [if_pos c33] at H
              have c33b0 : (a0_1 == 16) = true := beq_iff_eq.mpr c33
              have c33b1 : (a0_1 != 16) = false := bne_eq_false_iff_eq.mpr c33
              clear c33
              by_cases c34 : x3_4.length < 140737488355328
              ·
               rw [if_pos c34] at H
               have LMc34 := Aside0.mk c34
               clear c34
               obtain ⟨y145, hy145⟩ : ∃ y_ : List Int, y_ = (x3_4 ++ [(((rdOf ByteArray.empty l0_6 x56_4).size : Int)) % 256]) := ⟨_, rfl⟩
               replace H : (if y145.length + (rdOf ByteArray.empty l0_6 x56_4).size < 140737488355328 then (rdata_plain.l3 k4 (y145 ++ bytesOf (rdOf ByteArray.empty l0_6 x56_4)) l0_6 (l0_6.length : Int) (wrap64 (x56_4 + 1)) a0_0 a0_1 a0_2 a0_3 l0_4 l0_5 l0_6) else (none)) = some r := by first | (rw [hy145]; with_reducible exact H) | (have H2_ := (Option.bind_some _ _).symm.trans H; rw [hy145]; with_reducible exact H2_) | (have H2_ := (Option.bind_some _ _).symm.trans H; with_reducible exact H2_) | with_reducible exact H | (rw [hy145]; exact H) | exact H
               have Ny145 := Aside0.mk hy145
               clear hy145
               by_cases c35 : y145.length + (rdOf ByteArray.empty l0_6 x56_4).size < 140737488355328
               ·
                rw [if_pos c35] at H
                have LMc35 := Aside0.mk c35
                clear c35
                obtain ⟨y148, hy148⟩ : ∃ y_ : List Int, y_ = (y145 ++ bytesOf (rdOf ByteArray.empty l0_6 x56_4)) := ⟨_, rfl⟩
                replace H : (rdata_plain.l3 k4 y148 l0_6 (l0_6.length : Int) (wrap64 (x56_4 + 1)) a0_0 a0_1 a0_2 a0_3 l0_4 l0_5 l0_6) = some r := by first | (rw [hy148]; with_reducible exact H) | (have H2_ := (Option.bind_some _ _).symm.trans H; rw [hy148]; with_reducible exact H2_) | (have H2_ := (Option.bind_some _ _).symm.trans H; with_reducible exact H2_) | with_reducible exact H | (rw [hy148]; exact H) | exact H
                have Ny148 := Aside0.mk hy148
                clear hy148
                have H' := Aside0.mk H
                clear H
                have p144 : 0 ≤ (x56_4 : Int) := of_decide_eq_true (by first | (with_reducible assumption) | assumption)
                have q144 : x56_4 < (l0_6.length : Int) := of_decide_eq_true (by first | (with_reducible assumption) | assumption)
                obtain ⟨ad144, e144, hx144_0⟩ := Kd.at_string HR0_6.out x56_4 p144 q144
                cases e144
                replace hx144_0 := (HB.out.cell (World.block_lt_of_cell? w _ hx144_0)).trans hx144_0
                replace p144 := eq_true p144
                replace q144 := eq_true q144
                have hcz36_0 : wr.cell? ⟨gb131, 0, none⟩ = some (.string a0_0) := (blk_cell BK131.out 0).trans rfl
                have hcz36_1 : wr.cell? ⟨gb131, 1, none⟩ = some (.int .u16 a0_1) := (blk_cell BK131.out 1).trans rfl
                have hcz36_2 : wr.cell? ⟨gb131, 2, none⟩ = some (.int .u16 a0_2) := (blk_cell BK131.out 2).trans rfl
                have hcz36_3 : wr.cell? ⟨gb131, 3, none⟩ = some (.int .u32 a0_3) := (blk_cell BK131.out 3).trans rfl
                have hcz36_4 : wr.cell? ⟨gb131, 4, none⟩ = some (.slice A0_4 l0_4.length c0_4) := (blk_cell BK131.out 4).trans rfl
                have hcz36_5 : wr.cell? ⟨gb131, 5, none⟩ = some (.slice A0_5 l0_5.length c0_5) := (blk_cell BK131.out 5).trans rfl
                have hcz36_6 : wr.cell? ⟨gb131, 6, none⟩ = some (.slice (some ad144) l0_6.length c0_6) := (blk_cell BK131.out 6).trans rfl
                have hfz36_0 := blk_frozen BK131.out 0
                have hfz36_1 := blk_frozen BK131.out 1
                have hfz36_2 := blk_frozen BK131.out 2
                have hfz36_3 := blk_frozen BK131.out 3
                have hfz36_4 := blk_frozen BK131.out 4
                have hfz36_5 := blk_frozen BK131.out 5
                have hfz36_6 := blk_frozen BK131.out 6
                go_wp2_with (first | ((with_reducible refine gate_builtin (b := .append) (xs := #[.tmp 63, .tmp 67]) rfl ?_); at_builtin; refine Kd.R_append (Kd.int .u8) (w0 := w) w.heap.size rfl (.tmp 63) (.tmp 67) 44 5 (.int .u8 0) 1 rfl Try.underlying44 info5 rfl (by decide) (by omega) u3 x3_4 ((((rdOf ByteArray.empty l0_6 x56_4).size : Int)) % 256) [.int .u8 ((((rdOf ByteArray.empty l0_6 x56_4).size : Int)) % 256)] (fun _ => True) (fun _ => False) rfl rfl ?aP (fun _ hk => hk.elim) ?aF ?aO ?aB ?aS ?aL ?_; (case aP => exact rfl); (case aB => exact (by repeat (first | (with_reducible first | exact HB.out | apply below_alloc | apply pw_below_drewN | apply below_drew1 | refine below_set ?_ GE131.out) | exact HB.out))); (case aF => exact (fun _ _ => trivial)); (case aO => exact (by (with_reducible repeat (first | apply Kd.R_alloc | apply Kd.R_drewN | apply Kd.R_drew)); exact HO_3.out)); (case aS => exact (below_size (by repeat (first | (with_reducible first | exact HB.out | apply below_alloc | apply pw_below_drewN | apply below_drew1 | refine below_set ?_ GE131.out) | exact HB.out)))); (case aL => have := LMc34.out; omega); intro v146 w37 ho hb hg hat; rw [← Ny145.out] at ho; have n0_ := Aside0.mk (blk_grown (g := gb131) (o := .cells #[.string a0_0, .int .u16 a0_1, .int .u16 a0_2, .int .u32 a0_3, .slice A0_4 l0_4.length c0_4, .slice A0_5 l0_5.length c0_5, .slice (some ad144) l0_6.length c0_6] 27 (0, 0)) (by (with_reducible repeat (first | refine blk_drewN ?_ _ | refine blk_drew ?_ | refine blk_alloc ?_ _)); exact BK131.out) hg (Kd.R_ne HO_3.out BK131.out (by decide))); have n1_ := Aside0.mk (hb); have n2_ := Aside0.mk (ho); clear BK131; clear HB; clear HO_3; have BK131 := n0_; have HB := n1_; have HO147 := n2_; clear n0_ n1_ n2_; clear ho hb hg hat) | (at_builtin; refine Kd.R_append_str (w0 := w) w.heap.size rfl (.tmp 69) _ 44 9 5 rfl Try.underlying44 Try.underlying9 info5 v146 y145 (rdOf ByteArray.empty l0_6 x56_4) (fun _ => True) rfl rfl ?aO ?aF ?aB ?aS ?aL ?_; (case aB => exact (by repeat (first | (with_reducible first | exact HB.out | apply below_alloc | apply pw_below_drewN | apply below_drew1 | refine below_set ?_ GE131.out) | exact HB.out))); (case aF => exact (fun _ _ => trivial)); (case aO => exact (by (with_reducible repeat (first | apply Kd.R_alloc | apply Kd.R_drewN | apply Kd.R_drew)); exact HO147.out)); (case aS => exact (below_size (by repeat (first | (with_reducible first | exact HB.out | apply below_alloc | apply pw_below_drewN | apply below_drew1 | refine below_set ?_ GE131.out) | exact HB.out)))); (case aL => have := LMc35.out; omega); intro v149 w38 ho hb hg hat; rw [← Ny148.out] at ho; have n0_ := Aside0.mk (blk_grown (g := gb131) (o := .cells #[.string a0_0, .int .u16 a0_1, .int .u16 a0_2, .int .u32 a0_3, .slice A0_4 l0_4.length c0_4, .slice A0_5 l0_5.length c0_5, .slice (some ad144) l0_6.length c0_6] 27 (0, 0)) (by (with_reducible repeat (first | refine blk_drewN ?_ _ | refine blk_drew ?_ | refine blk_alloc ?_ _)); exact BK131.out) hg (Kd.R_ne HO147.out BK131.out (by decide))); have n1_ := Aside0.mk (hb); have n2_ := Aside0.mk (ho); clear BK131; clear HB; clear HO147; have BK131 := n0_; have HB := n1_; have HO150 := n2_; clear n0_ n1_ n2_; clear ho hb hg hat))
                go_roundg k4
                case measure => have := HJ1.out; have := HK2.out; have := HJ18.out; have := HK4.out; omega
                case rel => exact ⟨(y148), (wrap64 (x56_4 + 1)), (by first | rfl | (simp; done) | (simp [*]; done)), H', ⟨by have := HJ1.out; have := HK2.out; have := HJ18.out; have := HK4.out; omega⟩, ⟨by (with_reducible repeat (first | apply Kd.R_alloc | apply Kd.R_drewN | apply Kd.R_drew)); exact HO150.out⟩, ⟨by (with_reducible repeat (first | refine blk_drewN ?_ _ | refine blk_drew ?_ | refine blk_alloc ?_ _)); exact BK131.out⟩, ⟨by repeat (first | (with_reducible first | exact HB.out | apply below_alloc | apply pw_below_drewN | apply below_drew1 | refine below_set ?_ GE131.out) | exact HB.out)⟩⟩
               ·
                rw [if_neg c35] at H
                exact absurd H (by simp)
              ·
               rw [if_neg c34] at H
               exact absurd H (by simp)
             ·
              rw [if_neg c33] at H
              have c33b0 : (a0_1 == 16) = false := beq_eq_false_iff_ne.mpr c33
              have c33b1 : (a0_1 != 16) = true := bne_iff_ne.mpr c33
              by_cases c39 : x3_4.length + (rdOf ByteArray.empty l0_6 x56_4).size < 140737488355328
              ·
               rw [if_pos c39] at H
               have LMc39 := Aside0.mk c39
               clear c39
               obtain ⟨y151, hy151⟩ : ∃ y_ : List Int, y_ = (x3_4 ++ bytesOf (rdOf ByteArray.empty l0_6 x56_4)) := ⟨_, rfl⟩
               replace H : (rdata_plain.l3 k4 y151 l0_6 (l0_6.length : Int) (wrap64 (x56_4 + 1)) a0_0 a0_1 a0_2 a0_3 l0_4 l0_5 l0_6) = some r := by first | (rw [hy151]; with_reducible exact H) | (have H2_ := (Option.bind_some _ _).symm.trans H; rw [hy151]; with_reducible exact H2_) | (have H2_ := (Option.bind_some _ _).symm.trans H; with_reducible exact H2_) | with_reducible exact H | (rw [hy151]; exact H) | exact H
               have Ny151 := Aside0.mk hy151
               clear hy151
               have H' := Aside0.mk H
               clear H
               have p144 : 0 ≤ (x56_4 : Int) := of_decide_eq_true (by first | (with_reducible assumption) | assumption)
               have q144 : x56_4 < (l0_6.length : Int) := of_decide_eq_true (by first | (with_reducible assumption) | assumption)
               obtain ⟨ad144, e144, hx144_0⟩ := Kd.at_string HR0_6.out x56_4 p144 q144
               cases e144
               replace hx144_0 := (HB.out.cell (World.block_lt_of_cell? w _ hx144_0)).trans hx144_0
               replace p144 := eq_true p144
               replace q144 := eq_true q144
               have hcz40_0 : wr.cell? ⟨gb131, 0, none⟩ = some (.string a0_0) := (blk_cell BK131.out 0).trans rfl
               have hcz40_1 : wr.cell? ⟨gb131, 1, none⟩ = some (.int .u16 a0_1) := (blk_cell BK131.out 1).trans rfl
               have hcz40_2 : wr.cell? ⟨gb131, 2, none⟩ = some (.int .u16 a0_2) := (blk_cell BK131.out 2).trans rfl
               have hcz40_3 : wr.cell? ⟨gb131, 3, none⟩ = some (.int .u32 a0_3) := (blk_cell BK131.out 3).trans rfl
               have hcz40_4 : wr.cell? ⟨gb131, 4, none⟩ = some (.slice A0_4 l0_4.length c0_4) := (blk_cell BK131.out 4).trans rfl
               have hcz40_5 : wr.cell? ⟨gb131, 5, none⟩ = some (.slice A0_5 l0_5.length c0_5) := (blk_cell BK131.out 5).trans rfl
               have hcz40_6 : wr.cell? ⟨gb131, 6, none⟩ = some (.slice (some ad144) l0_6.length c0_6) := (blk_cell BK131.out 6).trans rfl
               have hfz40_0 := blk_frozen BK131.out 0
               have hfz40_1 := blk_frozen BK131.out 1
               have hfz40_2 := blk_frozen BK131.out 2
               have hfz40_3 := blk_frozen BK131.out 3
               have hfz40_4 := blk_frozen BK131.out 4
               have hfz40_5 := blk_frozen BK131.out 5
               have hfz40_6 := blk_frozen BK131.out 6
               go_wp2_with (first | (at_builtin; refine Kd.R_append_str (w0 := w) w.heap.size rfl (.tmp 69) _ 44 9 5 rfl Try.underlying44 Try.underlying9 info5 u3 x3_4 (rdOf ByteArray.empty l0_6 x56_4) (fun _ => True) rfl rfl ?aO ?aF ?aB ?aS ?aL ?_; (case aB => exact (by repeat (first | (with_reducible first | exact HB.out | apply below_alloc | apply pw_below_drewN | apply below_drew1 | refine below_set ?_ GE131.out) | exact HB.out))); (case aF => exact (fun _ _ => trivial)); (case aO => exact (by (with_reducible repeat (first | apply Kd.R_alloc | apply Kd.R_drewN | apply Kd.R_drew)); exact HO_3.out)); (case aS => exact (below_size (by repeat (first | (with_reducible first | exact HB.out | apply below_alloc | apply pw_below_drewN | apply below_drew1 | refine below_set ?_ GE131.out) | exact HB.out)))); (case aL => have := LMc39.out; omega); intro v152 w41 ho hb hg hat; rw [← Ny151.out] at ho; have n0_ := Aside0.mk (blk_grown (g := gb131) (o := .cells #[.string a0_0, .int .u16 a0_1, .int .u16 a0_2, .int .u32 a0_3, .slice A0_4 l0_4.length c0_4, .slice A0_5 l0_5.length c0_5, .slice (some ad144) l0_6.length c0_6] 27 (0, 0)) (by (with_reducible repeat (first | refine blk_drewN ?_ _ | refine blk_drew ?_ | refine blk_alloc ?_ _)); exact BK131.out) hg (Kd.R_ne HO_3.out BK131.out (by decide))); have n1_ := Aside0.mk (hb); have n2_ := Aside0.mk (ho); clear BK131; clear HB; clear HO_3; have BK131 := n0_; have HB := n1_; have HO153 := n2_; clear n0_ n1_ n2_; clear ho hb hg hat))
               go_roundg k4
               case measure => have := HJ1.out; have := HK2.out; have := HJ18.out; have := HK4.out; omega
               case rel => exact ⟨(y151), (wrap64 (x56_4 + 1)), (by first | rfl | (simp; done) | (simp [*]; done)), H', ⟨by have := HJ1.out; have := HK2.out; have := HJ18.out; have := HK4.out; omega⟩, ⟨by (with_reducible repeat (first | apply Kd.R_alloc | apply Kd.R_drewN | apply Kd.R_drew)); exact HO153.out⟩, ⟨by (with_reducible repeat (first | refine blk_drewN ?_ _ | refine blk_drew ?_ | refine blk_alloc ?_ _)); exact BK131.out⟩, ⟨by repeat (first | (with_reducible first | exact HB.out | apply below_alloc | apply pw_below_drewN | apply below_drew1 | refine below_set ?_ GE131.out) | exact HB.out)⟩⟩
              ·
               rw [if_neg c39] at H
               exact absurd H (by simp)
            ·
             rw [if_neg c32] at H
             exact absurd H (by simp)
           ·
            rw [if_neg c31] at H
            exact absurd H (by simp)
          ·
           rw [if_neg c30] at H
           have c30b0 : decide (x56_4 < (l0_6.length : Int)) = false := decide_eq_false c30
           clear c30
           obtain rfl := Option.some.inj H
           go_wp2
           go_ret
           exact ⟨_, by first | rfl | (simp [errW_none, errW_some] <;> rfl) | (simp [*, errW_none, errW_some] <;> rfl), by (with_reducible repeat (first | apply Kd.R_alloc | apply Kd.R_drewN | apply Kd.R_drew)); exact HO_3.out, by repeat (first | (with_reducible first | exact HB.out | apply below_alloc | apply pw_below_drewN | apply below_drew1 | refine below_set ?_ GE131.out) | exact HB.out)⟩

end Go.Proofs.Ytebnbjnkameicaa.Mine
