-- Written by this repo's own printer (wip/print), which builds on the kit's.
import Derived.Test.YtebnbjnkameicaaMinex0
import Derived.Test.YtebnbjnkameicaaMinex1
import Derived.Test.YtebnbjnkameicaaMinex9
import Derived.Test.YtebnbjnkameicaaMinex10
import Derived.Test.YtebnbjnkameicaaMinex13
import Derived.Test.YtebnbjnkameicaaMinex14
import Derived.Test.YtebnbjnkameicaaMinex15
import Derived.Test.YtebnbjnkameicaaMinex20
import Derived.Test.YtebnbjnkameicaaMinex21
namespace Go.Proofs.Ytebnbjnkameicaa.Mine
open Go.RowKit Go.Proofs.YtebnbjnkameicaaW.PrintWords Go.Proofs.YtebnbjnkameicaaW.PrintLast Go.Proofs.YtebnbjnkameicaaW.PrintMore
attribute [local go_sem] max2_int min2_int max_two min_two max_three min_three max_four min_four   -- for this text's walks alone
set_option linter.unusedVariables false
set_option linter.unusedSimpArgs false

/-! ### nunciolaw05_DataChecks: function 3 -/
def nunciolaw05_DataChecks.f (k : Nat) (a0_0 : ByteArray) (a0_1 : Int) (a0_2 : Int) (a0_3 : Int) (l0_4 : List ByteArray) (l0_5 : List Int) (l0_6 : List ByteArray) (a1 : Int) : Option (Bool) := (nunciolaw05_awake.f k).bind fun t269 => (if t269 = true then ((nunciolaw05_Few.f k a0_0 a0_1 a0_2 a0_3 l0_4 l0_5 l0_6).bind fun t270 => (if t270 = true then ((rdata_Shape.f k a1).bind fun bt271 => ((nuncioref05_Shape.f k a1).bind fun bt274 => (if bt271.1 = bt274.1 then (if bt271.2.1 = bt274.2.1 then (if bt271.2.2 = bt274.2.2 then ((rdata_Check.f k a0_0 a0_1 a0_2 a0_3 l0_4 l0_5 l0_6).bind fun t277 => ((nuncioref05_Check.f k a0_0 a0_1 a0_2 a0_3 l0_4 l0_5 l0_6).bind fun t278 => (if t277 = t278 then ((rdata_Plain.f k a0_0 a0_1 a0_2 a0_3 l0_4 l0_5 l0_6).bind fun t279 => ((nuncioref05_Plain.f k a0_0 a0_1 a0_2 a0_3 l0_4 l0_5 l0_6).bind fun t280 => (some (t279.toList == t280.toList)))) else (some false)))) else (some false)) else (some false)) else (some false)))) else (some true))) else (some false))
theorem nunciolaw05_DataChecks.mono : ∀ a0 a1 a2 a3 a4 a5 a6 a7 k, LeO (nunciolaw05_DataChecks.f k a0 a1 a2 a3 a4 a5 a6 a7) (nunciolaw05_DataChecks.f (k + 1) a0 a1 a2 a3 a4 a5 a6 a7) := by
 intro a0 a1 a2 a3 a4 a5 a6 a7 k
 unfold nunciolaw05_DataChecks.f
 repeat' first
   | (with_reducible exact nunciolaw05_Few.mono _ _ _ _ _ _ _ _)
   | (with_reducible exact nunciolaw05_awake.mono _)
   | (with_reducible exact nuncioref05_Check.mono _ _ _ _ _ _ _ _)
   | (with_reducible exact nuncioref05_Plain.mono _ _ _ _ _ _ _ _)
   | (with_reducible exact nuncioref05_Shape.mono _ _)
   | (with_reducible exact rdata_Check.mono _ _ _ _ _ _ _ _)
   | (with_reducible exact rdata_Plain.mono _ _ _ _ _ _ _ _)
   | (with_reducible exact rdata_Shape.mono _ _)
   | (with_reducible exact LeO.refl _)
   | (with_reducible exact LeO.none _)
   | (with_reducible refine LeO.ite ?_ ?_)
   | (with_reducible refine LeO.bind ?_ (fun _ => ?_))
   | exact nunciolaw05_Few.mono _ _ _ _ _ _ _ _
   | exact nunciolaw05_awake.mono _
   | exact nuncioref05_Check.mono _ _ _ _ _ _ _ _
   | exact nuncioref05_Plain.mono _ _ _ _ _ _ _ _
   | exact nuncioref05_Shape.mono _ _
   | exact rdata_Check.mono _ _ _ _ _ _ _ _
   | exact rdata_Plain.mono _ _ _ _ _ _ _ _
   | exact rdata_Shape.mono _ _
   | exact LeO.none _
   | refine LeO.ite ?_ ?_
   | refine LeO.bind ?_ (fun _ => ?_)
def nunciolaw05_DataChecks.T7 : Bool × List (List Nat × List Nat) := (true, [([], []), ([], []), ([0, 1], [0, 1]), ([2], [2]), ([3], [3]), ([3], [3]), ([4, 5, 3], [3, 4, 5]), ([3, 6], [3, 6]), ([7, 3], [7]), ([8], [8]), ([8], [8]), ([9, 10, 8], [8, 9, 10]), ([8, 11], [8, 11]), ([12, 8], [12]), ([13], [13]), ([14, 13, 13], [13, 14]), ([13], [13]), ([16, 15, 13], [13, 16]), ([15, 17, 13], [13, 15, 17]), ([13, 18], [13, 18]), ([19, 17], [19]), ([20], [20]), ([21, 20, 20], [20, 21]), ([20], [20]), ([23, 22, 20], [20, 23]), ([22, 24, 20], [20, 22, 24]), ([20, 25], [20, 25]), ([26, 24, 0, 1, 2, 3, 4, 5, 6, 7, 8, 9, 10, 11, 12, 13, 14, 15, 16, 17, 18, 19, 20, 21, 22, 23, 24, 25, 26], [26])])
def nunciolaw05_DataChecks.B7 : List Nat := [0, 0, 3, 7, 15, 15, 63, 127, 255, 511, 511, 2047, 4095, 8191, 16383, 32767, 16383, 131071, 262143, 524287, 1048575, 2097151, 4194303, 2097151, 16777215, 33554431, 67108863, 134217727]
theorem nunciolaw05_DataChecks.tab7 : rtab .any (opsOf Try.f3 7) = nunciolaw05_DataChecks.T7 := by kernel_rfl
theorem nunciolaw05_DataChecks.bits7 : waitsOk nunciolaw05_DataChecks.T7.2 nunciolaw05_DataChecks.B7 = true := by kernel_rfl
set_option maxHeartbeats 8000000 in
set_option maxRecDepth 100000 in
theorem nunciolaw05_DataChecks.calls (k : Nat) (a0_0 : ByteArray) (a0_1 : Int) (a0_2 : Int) (a0_3 : Int) (A0_4 : Option Addr) (c0_4 : Nat) (l0_4 : List ByteArray) (A0_5 : Option Addr) (c0_5 : Nat) (l0_5 : List Int) (A0_6 : Option Addr) (c0_6 : Nat) (l0_6 : List ByteArray) (a1 : Int) (r : Bool) (w : World) (hr0_4 : Kd.C Kd.string w A0_4 l0_4.length l0_4) (hc0_4 : l0_4.length ≤ c0_4) (hr0_5 : Kd.C (Kd.int .u32) w A0_5 l0_5.length l0_5) (hc0_5 : l0_5.length ≤ c0_5) (hr0_6 : Kd.C Kd.string w A0_6 l0_6.length l0_6) (hc0_6 : l0_6.length ≤ c0_6) (h : nunciolaw05_DataChecks.f k a0_0 a0_1 a0_2 a0_3 l0_4 l0_5 l0_6 a1 = some r) (hT : r = true) :
  Calls Try.prog 3 #[.agg #[.string a0_0, .int .u16 a0_1, .int .u16 a0_2, .int .u32 a0_3, .slice A0_4 l0_4.length c0_4, .slice A0_5 l0_5.length c0_5, .slice A0_6 l0_6.length c0_6], .int .u16 a1] w fun e w' => e = .returned (.bool r) ∧ Below w.heap.size w w' := by
 have hu27 := Try.underlying27
 have HR0_4 := Aside0.mk hr0_4
 have HC0_4 := Aside0.mk hc0_4
 clear hr0_4 hc0_4
 have HR0_5 := Aside0.mk hr0_5
 have HC0_5 := Aside0.mk hc0_5
 clear hr0_5 hc0_5
 have HR0_6 := Aside0.mk hr0_6
 have HC0_6 := Aside0.mk hc0_6
 clear hr0_6 hc0_6
 have HB := Aside0.mk (Below.refl w.heap.size w)
 have HT := Aside0.mk hT
 clear hT
 have H : ((nunciolaw05_awake.f k).bind fun t269 => (if t269 = true then ((nunciolaw05_Few.f k a0_0 a0_1 a0_2 a0_3 l0_4 l0_5 l0_6).bind fun t270 => (if t270 = true then ((rdata_Shape.f k a1).bind fun bt271 => ((nuncioref05_Shape.f k a1).bind fun bt274 => (if bt271.1 = bt274.1 then (if bt271.2.1 = bt274.2.1 then (if bt271.2.2 = bt274.2.2 then ((rdata_Check.f k a0_0 a0_1 a0_2 a0_3 l0_4 l0_5 l0_6).bind fun t277 => ((nuncioref05_Check.f k a0_0 a0_1 a0_2 a0_3 l0_4 l0_5 l0_6).bind fun t278 => (if t277 = t278 then ((rdata_Plain.f k a0_0 a0_1 a0_2 a0_3 l0_4 l0_5 l0_6).bind fun t279 => ((nuncioref05_Plain.f k a0_0 a0_1 a0_2 a0_3 l0_4 l0_5 l0_6).bind fun t280 => (some (t279.toList == t280.toList)))) else (some false)))) else (some false)) else (some false)) else (some false)))) else (some true))) else (some false))) = some r := h
 clear h
 replace H := Option.bind_eq_some_iff.mp H
 obtain ⟨t269, A30, H⟩ := H
 replace H : (if t269 = true then ((nunciolaw05_Few.f k a0_0 a0_1 a0_2 a0_3 l0_4 l0_5 l0_6).bind fun t270 => (if t270 = true then ((rdata_Shape.f k a1).bind fun bt271 => ((nuncioref05_Shape.f k a1).bind fun bt274 => (if bt271.1 = bt274.1 then (if bt271.2.1 = bt274.2.1 then (if bt271.2.2 = bt274.2.2 then ((rdata_Check.f k a0_0 a0_1 a0_2 a0_3 l0_4 l0_5 l0_6).bind fun t277 => ((nuncioref05_Check.f k a0_0 a0_1 a0_2 a0_3 l0_4 l0_5 l0_6).bind fun t278 => (if t277 = t278 then ((rdata_Plain.f k a0_0 a0_1 a0_2 a0_3 l0_4 l0_5 l0_6).bind fun t279 => ((nuncioref05_Plain.f k a0_0 a0_1 a0_2 a0_3 l0_4 l0_5 l0_6).bind fun t280 => (some (t279.toList == t280.toList)))) else (some false)))) else (some false)) else (some false)) else (some false)))) else (some true))) else (some false)) = some r := H
 have A3 := Aside0.mk A30
 clear A30
 by_cases c4 : t269 = true
 ·
  subst c4
  have H1 : ((nunciolaw05_Few.f k a0_0 a0_1 a0_2 a0_3 l0_4 l0_5 l0_6).bind fun t270 => (if t270 = true then ((rdata_Shape.f k a1).bind fun bt271 => ((nuncioref05_Shape.f k a1).bind fun bt274 => (if bt271.1 = bt274.1 then (if bt271.2.1 = bt274.2.1 then (if bt271.2.2 = bt274.2.2 then ((rdata_Check.f k a0_0 a0_1 a0_2 a0_3 l0_4 l0_5 l0_6).bind fun t277 => ((nuncioref05_Check.f k a0_0 a0_1 a0_2 a0_3 l0_4 l0_5 l0_6).bind fun t278 => (if t277 = t278 then ((rdata_Plain.f k a0_0 a0_1 a0_2 a0_3 l0_4 l0_5 l0_6).bind fun t279 => ((nuncioref05_Plain.f k a0_0 a0_1 a0_2 a0_3 l0_4 l0_5 l0_6).bind fun t280 => (some (t279.toList == t280.toList)))) else (some false)))) else (some false)) else (some false)) else (some false)))) else (some true))) = some r := by rw [if_pos rfl] at H; exact H
  clear H
  have H := H1
  clear H1
  replace H := Option.bind_eq_some_iff.mp H
  obtain ⟨t270, A50, H⟩ := H
  replace H : (if t270 = true then ((rdata_Shape.f k a1).bind fun bt271 => ((nuncioref05_Shape.f k a1).bind fun bt274 => (if bt271.1 = bt274.1 then (if bt271.2.1 = bt274.2.1 then (if bt271.2.2 = bt274.2.2 then ((rdata_Check.f k a0_0 a0_1 a0_2 a0_3 l0_4 l0_5 l0_6).bind fun t277 => ((nuncioref05_Check.f k a0_0 a0_1 a0_2 a0_3 l0_4 l0_5 l0_6).bind fun t278 => (if t277 = t278 then ((rdata_Plain.f k a0_0 a0_1 a0_2 a0_3 l0_4 l0_5 l0_6).bind fun t279 => ((nuncioref05_Plain.f k a0_0 a0_1 a0_2 a0_3 l0_4 l0_5 l0_6).bind fun t280 => (some (t279.toList == t280.toList)))) else (some false)))) else (some false)) else (some false)) else (some false)))) else (some true)) = some r := H
  have A5 := Aside0.mk A50
  clear A50
  by_cases c6 : t270 = true
  ·
   subst c6
   have H1 : ((rdata_Shape.f k a1).bind fun bt271 => ((nuncioref05_Shape.f k a1).bind fun bt274 => (if bt271.1 = bt274.1 then (if bt271.2.1 = bt274.2.1 then (if bt271.2.2 = bt274.2.2 then ((rdata_Check.f k a0_0 a0_1 a0_2 a0_3 l0_4 l0_5 l0_6).bind fun t277 => ((nuncioref05_Check.f k a0_0 a0_1 a0_2 a0_3 l0_4 l0_5 l0_6).bind fun t278 => (if t277 = t278 then ((rdata_Plain.f k a0_0 a0_1 a0_2 a0_3 l0_4 l0_5 l0_6).bind fun t279 => ((nuncioref05_Plain.f k a0_0 a0_1 a0_2 a0_3 l0_4 l0_5 l0_6).bind fun t280 => (some (t279.toList == t280.toList)))) else (some false)))) else (some false)) else (some false)) else (some false)))) = some r := by rw [if_pos rfl] at H; exact H
   clear H
   have H := H1
   clear H1
   replace H := Option.bind_eq_some_iff.mp H
   obtain ⟨⟨t271, t272, t273⟩, A70, H⟩ := H
   replace H : ((nuncioref05_Shape.f k a1).bind fun bt274 => (if t271 = bt274.1 then (if t272 = bt274.2.1 then (if t273 = bt274.2.2 then ((rdata_Check.f k a0_0 a0_1 a0_2 a0_3 l0_4 l0_5 l0_6).bind fun t277 => ((nuncioref05_Check.f k a0_0 a0_1 a0_2 a0_3 l0_4 l0_5 l0_6).bind fun t278 => (if t277 = t278 then ((rdata_Plain.f k a0_0 a0_1 a0_2 a0_3 l0_4 l0_5 l0_6).bind fun t279 => ((nuncioref05_Plain.f k a0_0 a0_1 a0_2 a0_3 l0_4 l0_5 l0_6).bind fun t280 => (some (t279.toList == t280.toList)))) else (some false)))) else (some false)) else (some false)) else (some false))) = some r := H
   have A7 := Aside0.mk A70
   clear A70
   replace H := Option.bind_eq_some_iff.mp H
   obtain ⟨⟨t274, t275, t276⟩, A80, H⟩ := H
   replace H : (if t271 = t274 then (if t272 = t275 then (if t273 = t276 then ((rdata_Check.f k a0_0 a0_1 a0_2 a0_3 l0_4 l0_5 l0_6).bind fun t277 => ((nuncioref05_Check.f k a0_0 a0_1 a0_2 a0_3 l0_4 l0_5 l0_6).bind fun t278 => (if t277 = t278 then ((rdata_Plain.f k a0_0 a0_1 a0_2 a0_3 l0_4 l0_5 l0_6).bind fun t279 => ((nuncioref05_Plain.f k a0_0 a0_1 a0_2 a0_3 l0_4 l0_5 l0_6).bind fun t280 => (some (t279.toList == t280.toList)))) else (some false)))) else (some false)) else (some false)) else (some false)) = some r := H
   have A8 := Aside0.mk A80
   clear A80
   by_cases c9 : t271 = t274
   ·
    rw [if_pos c9] at H
    have c9b0 : (t271 == t274) = true := beq_iff_eq.mpr c9
    have c9b1 : (t271 != t274) = false := bne_eq_false_iff_eq.mpr c9
    clear c9
    by_cases c10 : t272 = t275
    ·
     rw [if_pos c10] at H
     have c10b0 : (t272 == t275) = true := beq_iff_eq.mpr c10
     have c10b1 : (t272 != t275) = false := bne_eq_false_iff_eq.mpr c10
     clear c10
     by_cases c11 : t273 = t276
     ·
      rw [if_pos c11] at H
      have c11b0 : (t273 == t276) = true := beq_iff_eq.mpr c11
      have c11b1 : (t273 != t276) = false := bne_eq_false_iff_eq.mpr c11
      clear c11
      replace H := Option.bind_eq_some_iff.mp H
      obtain ⟨t277, A120, H⟩ := H
      replace H : ((nuncioref05_Check.f k a0_0 a0_1 a0_2 a0_3 l0_4 l0_5 l0_6).bind fun t278 => (if t277 = t278 then ((rdata_Plain.f k a0_0 a0_1 a0_2 a0_3 l0_4 l0_5 l0_6).bind fun t279 => ((nuncioref05_Plain.f k a0_0 a0_1 a0_2 a0_3 l0_4 l0_5 l0_6).bind fun t280 => (some (t279.toList == t280.toList)))) else (some false))) = some r := H
      have A12 := Aside0.mk A120
      clear A120
      replace H := Option.bind_eq_some_iff.mp H
      obtain ⟨t278, A130, H⟩ := H
      replace H : (if t277 = t278 then ((rdata_Plain.f k a0_0 a0_1 a0_2 a0_3 l0_4 l0_5 l0_6).bind fun t279 => ((nuncioref05_Plain.f k a0_0 a0_1 a0_2 a0_3 l0_4 l0_5 l0_6).bind fun t280 => (some (t279.toList == t280.toList)))) else (some false)) = some r := H
      have A13 := Aside0.mk A130
      clear A130
      by_cases c14 : t277 = t278
      ·
       rw [if_pos c14] at H
       have c14b0 : (t277 == t278) = true := beq_iff_eq.mpr c14
       have c14b1 : (t277 != t278) = false := bne_eq_false_iff_eq.mpr c14
       clear c14
       replace H := Option.bind_eq_some_iff.mp H
       obtain ⟨t279, A150, H⟩ := H
       replace H : ((nuncioref05_Plain.f k a0_0 a0_1 a0_2 a0_3 l0_4 l0_5 l0_6).bind fun t280 => (some (t279.toList == t280.toList))) = some r := H
       have A15 := Aside0.mk A150
       clear A150
       replace H := Option.bind_eq_some_iff.mp H
       obtain ⟨t280, A160, H⟩ := H
       replace H : (some (t279.toList == t280.toList)) = some r := H
       have A16 := Aside0.mk A160
       clear A160
       obtain rfl := Option.some.inj H
       go_enter Try.func3, Try.ntmps3
       try go_wp2_with (first | ((with_reducible refine gate_dst (N := 2) rfl ?_); refine box_event ?hg (N := 2) ?hd (cs := #[.string a0_0, .int .u16 a0_1, .int .u16 a0_2, .int .u32 a0_3, .slice A0_4 l0_4.length c0_4, .slice A0_5 l0_5.length c0_5, .slice A0_6 l0_6.length c0_6]) (t := 27) ?hr ?_; (case hd => rfl); (case hg => rfl); (case hr => first | (go_simp; done) | (go_simp; rfl)); intro gb268 hg w17 hbox hb; have n0_ := Aside0.mk (below_step (by repeat (first | (with_reducible first | exact HB.out | apply below_alloc | apply pw_below_drewN | apply below_drew1) | exact HB.out)) hb); have n1_ := Aside0.mk (hbox); have n2_ := Aside0.mk ((by rw [hg]; exact (below_size (by repeat (first | (with_reducible first | exact HB.out | apply below_alloc | apply pw_below_drewN | apply below_drew1) | exact HB.out))) : w.heap.size ≤ gb268)); have n3_ := Aside0.mk ((by rw [hg]; exact (below_size (by repeat (first | (with_reducible first | exact HB.out | apply below_alloc | apply pw_below_drewN | apply below_drew1) | exact HB.out))) : w.heap.size ≤ gb268)); clear HB; have HB := n0_; have BK268 := n1_; have GW268 := n2_; have GE268 := n3_; clear n0_ n1_ n2_ n3_; clear hb hbox hg) | ((with_reducible refine gate_callee (f := 7) rfl ?_); refine goesL_ (some 11) rfl rfl Try.func7 (by kernel_rfl) rfl #[] rfl (by (try simp only [List.map_toArray, List.map_cons, List.map_nil]); first | done | rfl | (simp only [List.length_drop, List.length_take]; rfl)) ?_; (with_reducible refine (nunciolaw05_awake.calls k  true _ A3.out).mono ?_); rintro e w18 ⟨rfl, hb⟩; refine ⟨_, rfl, ?_⟩; have n0_ := Aside0.mk (blk_below (g := gb268) (o := .cells #[.string a0_0, .int .u16 a0_1, .int .u16 a0_2, .int .u32 a0_3, .slice A0_4 l0_4.length c0_4, .slice A0_5 l0_5.length c0_5, .slice A0_6 l0_6.length c0_6] 27 (0, 0)) (by (with_reducible repeat (first | refine blk_drewN ?_ _ | refine blk_drew ?_ | refine blk_alloc ?_ _)); exact BK268.out) hb); have n1_ := Aside0.mk (below_step (by repeat (first | (with_reducible first | exact HB.out | apply below_alloc | apply pw_below_drewN | apply below_drew1 | refine below_set ?_ GE268.out) | exact HB.out)) hb); clear BK268; clear HB; have BK268 := n0_; have HB := n1_; clear n0_ n1_; (try clear hb); (try clear hb2); (try clear hk); (try clear hi); have hcz19_0 : w18.cell? ⟨gb268, 0, none⟩ = some (.string a0_0) := (blk_cell BK268.out 0).trans rfl; have hcz19_1 : w18.cell? ⟨gb268, 1, none⟩ = some (.int .u16 a0_1) := (blk_cell BK268.out 1).trans rfl; have hcz19_2 : w18.cell? ⟨gb268, 2, none⟩ = some (.int .u16 a0_2) := (blk_cell BK268.out 2).trans rfl; have hcz19_3 : w18.cell? ⟨gb268, 3, none⟩ = some (.int .u32 a0_3) := (blk_cell BK268.out 3).trans rfl; have hcz19_4 : w18.cell? ⟨gb268, 4, none⟩ = some (.slice A0_4 l0_4.length c0_4) := (blk_cell BK268.out 4).trans rfl; have hcz19_5 : w18.cell? ⟨gb268, 5, none⟩ = some (.slice A0_5 l0_5.length c0_5) := (blk_cell BK268.out 5).trans rfl; have hcz19_6 : w18.cell? ⟨gb268, 6, none⟩ = some (.slice A0_6 l0_6.length c0_6) := (blk_cell BK268.out 6).trans rfl; have hfz19_0 := blk_frozen BK268.out 0; have hfz19_1 := blk_frozen BK268.out 1; have hfz19_2 := blk_frozen BK268.out 2; have hfz19_3 := blk_frozen BK268.out 3; have hfz19_4 := blk_frozen BK268.out 4; have hfz19_5 := blk_frozen BK268.out 5; have hfz19_6 := blk_frozen BK268.out 6) | ((with_reducible refine gate_callee (f := 8) rfl ?_); refine goesL_ (some 14) rfl rfl Try.func8 (by kernel_rfl) rfl #[.agg #[.string a0_0, .int .u16 a0_1, .int .u16 a0_2, .int .u32 a0_3, .slice A0_4 l0_4.length c0_4, .slice A0_5 l0_5.length c0_5, .slice A0_6 l0_6.length c0_6]] rfl (by (try simp only [List.map_toArray, List.map_cons, List.map_nil]); first | done | rfl | (simp only [List.length_drop, List.length_take]; rfl)) ?_; (with_reducible refine (nunciolaw05_Few.calls k a0_0 a0_1 a0_2 a0_3 _ _ l0_4 _ _ l0_5 _ _ l0_6 true _ ?side1 ?side2 ?side3 ?side4 ?side5 ?side6 A5.out).mono ?_); (case side1 => repeat (first | exact (Kd.C_below HR0_4.out HB.out) | (with_reducible refine Kd.C_alloc ?_ _) | (with_reducible refine Kd.C_drewN ?_ _) | (with_reducible refine Kd.C_drew ?_))); (case side2 => exact HC0_4.out); (case side3 => repeat (first | exact (Kd.C_below HR0_5.out HB.out) | (with_reducible refine Kd.C_alloc ?_ _) | (with_reducible refine Kd.C_drewN ?_ _) | (with_reducible refine Kd.C_drew ?_))); (case side4 => exact HC0_5.out); (case side5 => repeat (first | exact (Kd.C_below HR0_6.out HB.out) | (with_reducible refine Kd.C_alloc ?_ _) | (with_reducible refine Kd.C_drewN ?_ _) | (with_reducible refine Kd.C_drew ?_))); (case side6 => exact HC0_6.out); rintro e w20 ⟨rfl, hb⟩; refine ⟨_, rfl, ?_⟩; have n0_ := Aside0.mk (blk_below (g := gb268) (o := .cells #[.string a0_0, .int .u16 a0_1, .int .u16 a0_2, .int .u32 a0_3, .slice A0_4 l0_4.length c0_4, .slice A0_5 l0_5.length c0_5, .slice A0_6 l0_6.length c0_6] 27 (0, 0)) (by (with_reducible repeat (first | refine blk_drewN ?_ _ | refine blk_drew ?_ | refine blk_alloc ?_ _)); exact BK268.out) hb); have n1_ := Aside0.mk (below_step (by repeat (first | (with_reducible first | exact HB.out | apply below_alloc | apply pw_below_drewN | apply below_drew1 | refine below_set ?_ GE268.out) | exact HB.out)) hb); clear BK268; clear HB; have BK268 := n0_; have HB := n1_; clear n0_ n1_; (try clear hb); (try clear hb2); (try clear hk); (try clear hi)) | ((with_reducible refine gate_callee (f := 9) rfl ?_); refine goesL_ (some 18) rfl rfl Try.func9 (by kernel_rfl) rfl #[.int .u16 a1] rfl (by (try simp only [List.map_toArray, List.map_cons, List.map_nil]); first | done | rfl | (simp only [List.length_drop, List.length_take]; rfl)) ?_; (with_reducible refine (rdata_Shape.calls k a1 t271 t272 t273 _ A7.out).mono ?_); rintro e w' ⟨rfl, ⟨nd, rfl⟩⟩; refine ⟨_, rfl, ?_⟩) | ((with_reducible refine gate_callee (f := 10) rfl ?_); refine goesL_ (some 24) rfl rfl Try.func10 (by kernel_rfl) rfl #[.int .u16 a1] rfl (by (try simp only [List.map_toArray, List.map_cons, List.map_nil]); first | done | rfl | (simp only [List.length_drop, List.length_take]; rfl)) ?_; (with_reducible refine (nuncioref05_Shape.calls k a1 t274 t275 t276 _ A8.out).mono ?_); rintro e w' ⟨rfl, ⟨nd, rfl⟩⟩; refine ⟨_, rfl, ?_⟩))
       (try (rw [drewN_self w20]; generalize hq_ : World.drewN w20 _ = w20; have n0_ : Aside0 (w20.heap[gb268]? = some (.cells #[.string a0_0, .int .u16 a0_1, .int .u16 a0_2, .int .u32 a0_3, .slice A0_4 l0_4.length c0_4, .slice A0_5 l0_5.length c0_5, .slice A0_6 l0_6.length c0_6] 27 (0, 0))) := ⟨by rw [← hq_]; exact (by (with_reducible repeat (first | refine blk_drewN ?_ _ | refine blk_drew ?_ | refine blk_alloc ?_ _)); exact BK268.out)⟩; have n1_ : Aside0 (Below w.heap.size w w20) := ⟨by rw [← hq_]; exact (by repeat (first | (with_reducible first | exact HB.out | apply below_alloc | apply pw_below_drewN | apply below_drew1 | refine below_set ?_ GE268.out) | exact HB.out))⟩; clear BK268 HB hq_; have BK268 := n0_; have HB := n1_; clear n0_ n1_))
       have n0_ := Aside0.mk (blk_drew BK268.out)
       have n1_ := Aside0.mk (below_drew1 HB.out)
       clear BK268
       clear HB
       have BK268 := n0_
       have HB := n1_
       clear n0_ n1_
       refine start_ (n := 28) (S := fun w' => w'.cell? ⟨gb268, 0, none⟩ = some (.string a0_0) ∧ w'.cell? ⟨gb268, 1, none⟩ = some (.int .u16 a0_1) ∧ w'.cell? ⟨gb268, 2, none⟩ = some (.int .u16 a0_2) ∧ w'.cell? ⟨gb268, 3, none⟩ = some (.int .u32 a0_3) ∧ w'.cell? ⟨gb268, 4, none⟩ = some (.slice A0_4 l0_4.length c0_4) ∧ w'.cell? ⟨gb268, 5, none⟩ = some (.slice A0_5 l0_5.length c0_5) ∧ w'.cell? ⟨gb268, 6, none⟩ = some (.slice A0_6 l0_6.length c0_6)) (ds := []) #[false, false, false, false, false, false, false, false, false, false, false, false, false, false, false, false, false, false, false, false, false, false, false, false, false, false, false, false] (by kernel_rfl) rfl rfl ⟨(blk_cell BK268.out 0).trans rfl, (blk_cell BK268.out 1).trans rfl, (blk_cell BK268.out 2).trans rfl, (blk_cell BK268.out 3).trans rfl, (blk_cell BK268.out 4).trans rfl, (blk_cell BK268.out 5).trans rfl, (blk_cell BK268.out 6).trans rfl⟩ (fun hHeld => ?_); refine with_tabW nunciolaw05_DataChecks.tab7 nunciolaw05_DataChecks.bits7 (fun HT_ HW_ => ?_)
       generalize w20.drew = w21 at BK268 HB hHeld ⊢
       refine pure_ (i := 0) (N := some 28) (v := ?_) (a' := ?_) #[true, false, false, false, false, false, false, false, false, false, false, false, false, false, false, false, false, false, false, false, false, false, false, false, false, false, false, false] rfl rfl (any_of HT_.out (by kernel_rfl)) (fun _ _ _ h => h) (Or.inl ⟨by rfl, ?_⟩) ?_ ?_
       rotate_left
       ·
        intro w'
        go_simp
        with_reducible rfl
       rotate_left
       ·
        simp only [Act.put, List.setIfInBounds_toArray, List.set_cons_zero, List.set_cons_succ, i64_w, i32_w]
        rfl
       refine pure_ (i := 1) (N := some 29) (v := ?_) (a' := ?_) #[true, true, false, false, false, false, false, false, false, false, false, false, false, false, false, false, false, false, false, false, false, false, false, false, false, false, false, false] rfl rfl (any_of HT_.out (by kernel_rfl)) (fun _ _ _ h => h) (Or.inl ⟨by rfl, ?_⟩) ?_ ?_
       rotate_left
       ·
        intro w'
        go_simp
        with_reducible rfl
       rotate_left
       ·
        simp only [Act.put, List.setIfInBounds_toArray, List.set_cons_zero, List.set_cons_succ, i64_w, i32_w]
        rfl
       refine pure_ (i := 2) (N := some 30) (v := ?_) (a' := ?_) #[true, true, true, false, false, false, false, false, false, false, false, false, false, false, false, false, false, false, false, false, false, false, false, false, false, false, false, false] rfl rfl (any_of HT_.out (by kernel_rfl)) (fun _ _ _ h => h) (Or.inl ⟨by rfl, ?_⟩) ?_ ?_
       rotate_left
       ·
        intro w'
        go_simp
        with_reducible rfl
       rotate_left
       ·
        simp only [Act.put, List.setIfInBounds_toArray, List.set_cons_zero, List.set_cons_succ, i64_w, i32_w]
        rfl
       refine pure_ (i := 3) (N := some 31) (v := ?_) (a' := ?_) #[true, true, true, true, false, false, false, false, false, false, false, false, false, false, false, false, false, false, false, false, false, false, false, false, false, false, false, false] rfl rfl (any_of HT_.out (by kernel_rfl)) (fun _ _ _ h => h) (Or.inl ⟨by rfl, ?_⟩) ?_ ?_
       rotate_left
       ·
        intro w'
        go_simp
        with_reducible rfl
       rotate_left
       ·
        simp only [Act.put, List.setIfInBounds_toArray, List.set_cons_zero, List.set_cons_succ, i64_w, i32_w]
        rfl
       refine pure_ (i := 4) (N := some 32) (v := ?_) (a' := ?_) #[true, true, true, true, true, false, false, false, false, false, false, false, false, false, false, false, false, false, false, false, false, false, false, false, false, false, false, false] rfl rfl (any_of HT_.out (by kernel_rfl)) (fun _ _ _ h => h) (Or.inl ⟨by rfl, ?_⟩) ?_ ?_
       rotate_left
       ·
        intro w'
        go_simp
        with_reducible rfl
       rotate_left
       ·
        simp only [Act.put, List.setIfInBounds_toArray, List.set_cons_zero, List.set_cons_succ, i64_w, i32_w]
        rfl
       refine pure_ (i := 5) (N := some 33) (v := ?_) (a' := ?_) #[true, true, true, true, true, true, false, false, false, false, false, false, false, false, false, false, false, false, false, false, false, false, false, false, false, false, false, false] rfl rfl (any_of HT_.out (by kernel_rfl)) (fun _ _ _ h => h) (Or.inl ⟨by rfl, ?_⟩) ?_ ?_
       rotate_left
       ·
        intro w'
        go_simp
        with_reducible rfl
       rotate_left
       ·
        simp only [Act.put, List.setIfInBounds_toArray, List.set_cons_zero, List.set_cons_succ, i64_w, i32_w]
        rfl
       refine pure_ (i := 6) (N := some 34) (v := ?_) (a' := ?_) #[true, true, true, true, true, true, true, false, false, false, false, false, false, false, false, false, false, false, false, false, false, false, false, false, false, false, false, false] rfl rfl (any_of HT_.out (by kernel_rfl)) (fun _ _ _ h => h) (Or.inl ⟨by rfl, ?_⟩) ?_ ?_
       rotate_left
       ·
        intro w'
        go_simp
        with_reducible rfl
       rotate_left
       ·
        simp only [Act.put, List.setIfInBounds_toArray, List.set_cons_zero, List.set_cons_succ, i64_w, i32_w]
        rfl
       refine pure_ (i := 7) (N := some 35) (v := ?_) (a' := ?_) #[true, true, true, true, true, true, true, true, false, false, false, false, false, false, false, false, false, false, false, false, false, false, false, false, false, false, false, false] rfl rfl (any_of HT_.out (by kernel_rfl)) (fun _ _ _ h => h) (Or.inl ⟨by rfl, ?_⟩) ?_ ?_
       rotate_left
       ·
        intro w'
        go_simp
        with_reducible rfl
       rotate_left
       ·
        simp only [Act.put, List.setIfInBounds_toArray, List.set_cons_zero, List.set_cons_succ, i64_w, i32_w]
        rfl
       refine pure_ (i := 8) (N := some 36) (v := ?_) (a' := ?_) #[true, true, true, true, true, true, true, true, true, false, false, false, false, false, false, false, false, false, false, false, false, false, false, false, false, false, false, false] rfl rfl (any_of HT_.out (by kernel_rfl)) (fun _ _ _ h => h) (Or.inl ⟨by rfl, ?_⟩) ?_ ?_
       rotate_left
       ·
        intro w'
        go_simp
        with_reducible rfl
       rotate_left
       ·
        simp only [Act.put, List.setIfInBounds_toArray, List.set_cons_zero, List.set_cons_succ, i64_w, i32_w]
        rfl
       refine pure_ (i := 9) (N := some 37) (v := ?_) (a' := ?_) #[true, true, true, true, true, true, true, true, true, true, false, false, false, false, false, false, false, false, false, false, false, false, false, false, false, false, false, false] rfl rfl (any_of HT_.out (by kernel_rfl)) (fun _ _ _ h => h) (Or.inl ⟨by rfl, ?_⟩) ?_ ?_
       rotate_left
       ·
        intro w'
        go_simp
        with_reducible rfl
       rotate_left
       ·
        simp only [Act.put, List.setIfInBounds_toArray, List.set_cons_zero, List.set_cons_succ, i64_w, i32_w]
        rfl
       refine pure_ (i := 10) (N := some 38) (v := ?_) (a' := ?_) #[true, true, true, true, true, true, true, true, true, true, true, false, false, false, false, false, false, false, false, false, false, false, false, false, false, false, false, false] rfl rfl (any_of HT_.out (by kernel_rfl)) (fun _ _ _ h => h) (Or.inl ⟨by rfl, ?_⟩) ?_ ?_
       rotate_left
       ·
        intro w'
        go_simp
        with_reducible rfl
       rotate_left
       ·
        simp only [Act.put, List.setIfInBounds_toArray, List.set_cons_zero, List.set_cons_succ, i64_w, i32_w]
        rfl
       refine pure_ (i := 11) (N := some 39) (v := ?_) (a' := ?_) #[true, true, true, true, true, true, true, true, true, true, true, true, false, false, false, false, false, false, false, false, false, false, false, false, false, false, false, false] rfl rfl (any_of HT_.out (by kernel_rfl)) (fun _ _ _ h => h) (Or.inl ⟨by rfl, ?_⟩) ?_ ?_
       rotate_left
       ·
        intro w'
        go_simp
        with_reducible rfl
       rotate_left
       ·
        simp only [Act.put, List.setIfInBounds_toArray, List.set_cons_zero, List.set_cons_succ, i64_w, i32_w]
        rfl
       refine pure_ (i := 12) (N := some 40) (v := ?_) (a' := ?_) #[true, true, true, true, true, true, true, true, true, true, true, true, true, false, false, false, false, false, false, false, false, false, false, false, false, false, false, false] rfl rfl (any_of HT_.out (by kernel_rfl)) (fun _ _ _ h => h) (Or.inl ⟨by rfl, ?_⟩) ?_ ?_
       rotate_left
       ·
        intro w'
        go_simp
        with_reducible rfl
       rotate_left
       ·
        simp only [Act.put, List.setIfInBounds_toArray, List.set_cons_zero, List.set_cons_succ, i64_w, i32_w]
        rfl
       refine pure_ (i := 13) (N := some 41) (v := ?_) (a' := ?_) #[true, true, true, true, true, true, true, true, true, true, true, true, true, true, false, false, false, false, false, false, false, false, false, false, false, false, false, false] rfl rfl (any_of HT_.out (by kernel_rfl)) (fun _ _ _ h => h) (Or.inl ⟨by rfl, ?_⟩) ?_ ?_
       rotate_left
       ·
        intro w'
        go_simp
        with_reducible rfl
       rotate_left
       ·
        simp only [Act.put, List.setIfInBounds_toArray, List.set_cons_zero, List.set_cons_succ, i64_w, i32_w]
        rfl
       refine take_ (i := 14) (N := some 42) (v := ?_) (a' := ?_) #[true, true, true, true, true, true, true, true, true, true, true, true, true, true, true, false, false, false, false, false, false, false, false, false, false, false, false, false] rfl rfl (take_ofW HT_.out HW_.out (by kernel_rfl)) (fun _ _ _ h => h) (Or.inl ⟨by rfl, ?_⟩) hHeld ?_ ?_
       rotate_left
       ·
        rintro w' ⟨s0, s1, s2, s3, s4, s5, s6⟩
        go_simp
        with_reducible rfl
       rotate_left
       ·
        simp only [Act.put, List.setIfInBounds_toArray, List.set_cons_zero, List.set_cons_succ, i64_w, i32_w]
        rfl
       refine take_ (i := 16) (N := some 44) (v := ?_) (a' := ?_) #[true, true, true, true, true, true, true, true, true, true, true, true, true, true, true, false, true, false, false, false, false, false, false, false, false, false, false, false] rfl rfl (take_ofW HT_.out HW_.out (by kernel_rfl)) (fun _ _ _ h => h) (Or.inl ⟨by rfl, ?_⟩) hHeld ?_ ?_
       rotate_left
       ·
        rintro w' ⟨s0, s1, s2, s3, s4, s5, s6⟩
        go_simp
        with_reducible rfl
       rotate_left
       ·
        simp only [Act.put, List.setIfInBounds_toArray, List.set_cons_zero, List.set_cons_succ, i64_w, i32_w]
        rfl
       refine one_ (i := 15) (N := some 43) #[true, true, true, true, true, true, true, true, true, true, true, true, true, true, true, true, true, false, false, false, false, false, false, false, false, false, false, false] rfl rfl (one_of HT_.out (by kernel_rfl)) (by decide) (fun K hK => ?_)
       refine goes_ Try.func11 (by kernel_rfl) rfl #[.agg #[.string a0_0, .int .u16 a0_1, .int .u16 a0_2, .int .u32 a0_3, .slice A0_4 l0_4.length c0_4, .slice A0_5 l0_5.length c0_5, .slice A0_6 l0_6.length c0_6]] (by rfl) rfl rfl (by (try simp only [List.map_toArray, List.map_cons, List.map_nil]); first | done | rfl | (simp only [List.length_drop, List.length_take]; rfl)) ?_
       with_reducible refine (rdata_Check.calls k a0_0 a0_1 a0_2 a0_3 _ _ l0_4 _ _ l0_5 _ _ l0_6 t277 _ ?side1 ?side2 ?side3 ?side4 ?side5 ?side6 A12.out).mono ?_
       (case side1 => repeat (first | exact (Kd.C_below HR0_4.out HB.out) | (with_reducible refine Kd.C_alloc ?_ _) | (with_reducible refine Kd.C_drewN ?_ _) | (with_reducible refine Kd.C_drew ?_)))
       (case side2 => exact HC0_4.out)
       (case side3 => repeat (first | exact (Kd.C_below HR0_5.out HB.out) | (with_reducible refine Kd.C_alloc ?_ _) | (with_reducible refine Kd.C_drewN ?_ _) | (with_reducible refine Kd.C_drew ?_)))
       (case side4 => exact HC0_5.out)
       (case side5 => repeat (first | exact (Kd.C_below HR0_6.out HB.out) | (with_reducible refine Kd.C_alloc ?_ _) | (with_reducible refine Kd.C_drewN ?_ _) | (with_reducible refine Kd.C_drew ?_)))
       (case side6 => exact HC0_6.out)
       rintro e w22 ⟨rfl, hb⟩
       refine ⟨_, rfl, ?_⟩
       have n0_ := Aside0.mk (blk_below (g := gb268) (o := .cells #[.string a0_0, .int .u16 a0_1, .int .u16 a0_2, .int .u32 a0_3, .slice A0_4 l0_4.length c0_4, .slice A0_5 l0_5.length c0_5, .slice A0_6 l0_6.length c0_6] 27 (0, 0)) (by (with_reducible repeat (first | refine blk_drewN ?_ _ | refine blk_drew ?_ | refine blk_alloc ?_ _)); exact BK268.out) hb)
       have n1_ := Aside0.mk (below_step (by repeat (first | (with_reducible first | exact HB.out | apply below_alloc | apply pw_below_drewN | apply below_drew1 | refine below_set ?_ GE268.out) | exact HB.out)) hb)
       clear BK268
       clear HB
       have BK268 := n0_
       have HB := n1_
       clear n0_ n1_
       (try clear hb)
       (try clear hb2)
       (try clear hk)
       (try clear hi)
       refine hK.out _ _ ⟨(blk_cell BK268.out 0).trans rfl, (blk_cell BK268.out 1).trans rfl, (blk_cell BK268.out 2).trans rfl, (blk_cell BK268.out 3).trans rfl, (blk_cell BK268.out 4).trans rfl, (blk_cell BK268.out 5).trans rfl, (blk_cell BK268.out 6).trans rfl⟩ (fun hHeld => ?_)
       clear hK K
       refine norm_ (a' := ?_) ?_ ?_
       rotate_left
       ·
        show Act.put _ (some 43) _ = _
        simp only [Act.put, List.setIfInBounds_toArray, List.set_cons_zero, List.set_cons_succ, i64_w, i32_w]
        rfl
       refine one_ (i := 17) (N := some 45) #[true, true, true, true, true, true, true, true, true, true, true, true, true, true, true, true, true, true, false, false, false, false, false, false, false, false, false, false] rfl rfl (one_of HT_.out (by kernel_rfl)) (by decide) (fun K hK => ?_)
       refine goes_ Try.func12 (by kernel_rfl) rfl #[.agg #[.string a0_0, .int .u16 a0_1, .int .u16 a0_2, .int .u32 a0_3, .slice A0_4 l0_4.length c0_4, .slice A0_5 l0_5.length c0_5, .slice A0_6 l0_6.length c0_6]] (by rfl) rfl rfl (by (try simp only [List.map_toArray, List.map_cons, List.map_nil]); first | done | rfl | (simp only [List.length_drop, List.length_take]; rfl)) ?_
       with_reducible refine (nuncioref05_Check.calls k a0_0 a0_1 a0_2 a0_3 _ _ l0_4 _ _ l0_5 _ _ l0_6 t278 _ ?side1 ?side2 ?side3 ?side4 ?side5 ?side6 A13.out).mono ?_
       (case side1 => repeat (first | exact (Kd.C_below HR0_4.out HB.out) | (with_reducible refine Kd.C_alloc ?_ _) | (with_reducible refine Kd.C_drewN ?_ _) | (with_reducible refine Kd.C_drew ?_)))
       (case side2 => exact HC0_4.out)
       (case side3 => repeat (first | exact (Kd.C_below HR0_5.out HB.out) | (with_reducible refine Kd.C_alloc ?_ _) | (with_reducible refine Kd.C_drewN ?_ _) | (with_reducible refine Kd.C_drew ?_)))
       (case side4 => exact HC0_5.out)
       (case side5 => repeat (first | exact (Kd.C_below HR0_6.out HB.out) | (with_reducible refine Kd.C_alloc ?_ _) | (with_reducible refine Kd.C_drewN ?_ _) | (with_reducible refine Kd.C_drew ?_)))
       (case side6 => exact HC0_6.out)
       rintro e w23 ⟨rfl, hb⟩
       refine ⟨_, rfl, ?_⟩
       have n0_ := Aside0.mk (blk_below (g := gb268) (o := .cells #[.string a0_0, .int .u16 a0_1, .int .u16 a0_2, .int .u32 a0_3, .slice A0_4 l0_4.length c0_4, .slice A0_5 l0_5.length c0_5, .slice A0_6 l0_6.length c0_6] 27 (0, 0)) (by (with_reducible repeat (first | refine blk_drewN ?_ _ | refine blk_drew ?_ | refine blk_alloc ?_ _)); exact BK268.out) hb)
       have n1_ := Aside0.mk (below_step (by repeat (first | (with_reducible first | exact HB.out | apply below_alloc | apply pw_below_drewN | apply below_drew1 | refine below_set ?_ GE268.out) | exact HB.out)) hb)
       clear BK268
       clear HB
       have BK268 := n0_
       have HB := n1_
       clear n0_ n1_
       (try clear hb)
       (try clear hb2)
       (try clear hk)
       (try clear hi)
       refine hK.out _ _ ⟨(blk_cell BK268.out 0).trans rfl, (blk_cell BK268.out 1).trans rfl, (blk_cell BK268.out 2).trans rfl, (blk_cell BK268.out 3).trans rfl, (blk_cell BK268.out 4).trans rfl, (blk_cell BK268.out 5).trans rfl, (blk_cell BK268.out 6).trans rfl⟩ (fun hHeld => ?_)
       clear hK K
       refine norm_ (a' := ?_) ?_ ?_
       rotate_left
       ·
        show Act.put _ (some 45) _ = _
        simp only [Act.put, List.setIfInBounds_toArray, List.set_cons_zero, List.set_cons_succ, i64_w, i32_w]
        rfl
       refine pure_ (i := 18) (N := some 46) (v := ?_) (a' := ?_) #[true, true, true, true, true, true, true, true, true, true, true, true, true, true, true, true, true, true, true, false, false, false, false, false, false, false, false, false] rfl rfl (any_of HT_.out (by kernel_rfl)) (fun _ _ _ h => h) (Or.inl ⟨by rfl, ?_⟩) ?_ ?_
       rotate_left
       ·
        intro w'
        go_simp
        with_reducible rfl
       rotate_left
       ·
        simp only [Act.put, List.setIfInBounds_toArray, List.set_cons_zero, List.set_cons_succ, i64_w, i32_w]
        rfl
       refine pure_ (i := 19) (N := some 47) (v := ?_) (a' := ?_) #[true, true, true, true, true, true, true, true, true, true, true, true, true, true, true, true, true, true, true, true, false, false, false, false, false, false, false, false] rfl rfl (any_of HT_.out (by kernel_rfl)) (fun _ _ _ h => h) (Or.inl ⟨by rfl, ?_⟩) ?_ ?_
       rotate_left
       ·
        intro w'
        go_simp
        with_reducible rfl
       rotate_left
       ·
        simp only [Act.put, List.setIfInBounds_toArray, List.set_cons_zero, List.set_cons_succ, i64_w, i32_w]
        rfl
       refine pure_ (i := 20) (N := some 48) (v := ?_) (a' := ?_) #[true, true, true, true, true, true, true, true, true, true, true, true, true, true, true, true, true, true, true, true, true, false, false, false, false, false, false, false] rfl rfl (any_of HT_.out (by kernel_rfl)) (fun _ _ _ h => h) (Or.inl ⟨by rfl, ?_⟩) ?_ ?_
       rotate_left
       ·
        intro w'
        go_simp
        with_reducible rfl
       rotate_left
       ·
        simp only [Act.put, List.setIfInBounds_toArray, List.set_cons_zero, List.set_cons_succ, i64_w, i32_w]
        rfl
       refine take_ (i := 21) (N := some 49) (v := ?_) (a' := ?_) #[true, true, true, true, true, true, true, true, true, true, true, true, true, true, true, true, true, true, true, true, true, true, false, false, false, false, false, false] rfl rfl (take_ofW HT_.out HW_.out (by kernel_rfl)) (fun _ _ _ h => h) (Or.inl ⟨by rfl, ?_⟩) hHeld ?_ ?_
       rotate_left
       ·
        rintro w' ⟨s0, s1, s2, s3, s4, s5, s6⟩
        go_simp
        with_reducible rfl
       rotate_left
       ·
        simp only [Act.put, List.setIfInBounds_toArray, List.set_cons_zero, List.set_cons_succ, i64_w, i32_w]
        rfl
       refine take_ (i := 23) (N := some 51) (v := ?_) (a' := ?_) #[true, true, true, true, true, true, true, true, true, true, true, true, true, true, true, true, true, true, true, true, true, true, false, true, false, false, false, false] rfl rfl (take_ofW HT_.out HW_.out (by kernel_rfl)) (fun _ _ _ h => h) (Or.inl ⟨by rfl, ?_⟩) hHeld ?_ ?_
       rotate_left
       ·
        rintro w' ⟨s0, s1, s2, s3, s4, s5, s6⟩
        go_simp
        with_reducible rfl
       rotate_left
       ·
        simp only [Act.put, List.setIfInBounds_toArray, List.set_cons_zero, List.set_cons_succ, i64_w, i32_w]
        rfl
       refine one_ (i := 22) (N := some 50) #[true, true, true, true, true, true, true, true, true, true, true, true, true, true, true, true, true, true, true, true, true, true, true, true, false, false, false, false] rfl rfl (one_of HT_.out (by kernel_rfl)) (by decide) (fun K hK => ?_)
       refine goes_ Try.func13 (by kernel_rfl) rfl #[.agg #[.string a0_0, .int .u16 a0_1, .int .u16 a0_2, .int .u32 a0_3, .slice A0_4 l0_4.length c0_4, .slice A0_5 l0_5.length c0_5, .slice A0_6 l0_6.length c0_6]] (by rfl) rfl rfl (by (try simp only [List.map_toArray, List.map_cons, List.map_nil]); first | done | rfl | (simp only [List.length_drop, List.length_take]; rfl)) ?_
       with_reducible refine (rdata_Plain.calls k a0_0 a0_1 a0_2 a0_3 _ _ l0_4 _ _ l0_5 _ _ l0_6 t279 _ ?side1 ?side2 ?side3 ?side4 ?side5 ?side6 A15.out).mono ?_
       (case side1 => repeat (first | exact (Kd.C_below HR0_4.out HB.out) | (with_reducible refine Kd.C_alloc ?_ _) | (with_reducible refine Kd.C_drewN ?_ _) | (with_reducible refine Kd.C_drew ?_)))
       (case side2 => exact HC0_4.out)
       (case side3 => repeat (first | exact (Kd.C_below HR0_5.out HB.out) | (with_reducible refine Kd.C_alloc ?_ _) | (with_reducible refine Kd.C_drewN ?_ _) | (with_reducible refine Kd.C_drew ?_)))
       (case side4 => exact HC0_5.out)
       (case side5 => repeat (first | exact (Kd.C_below HR0_6.out HB.out) | (with_reducible refine Kd.C_alloc ?_ _) | (with_reducible refine Kd.C_drewN ?_ _) | (with_reducible refine Kd.C_drew ?_)))
       (case side6 => exact HC0_6.out)
       rintro e w24 ⟨rfl, hb⟩
       refine ⟨_, rfl, ?_⟩
       have n0_ := Aside0.mk (blk_below (g := gb268) (o := .cells #[.string a0_0, .int .u16 a0_1, .int .u16 a0_2, .int .u32 a0_3, .slice A0_4 l0_4.length c0_4, .slice A0_5 l0_5.length c0_5, .slice A0_6 l0_6.length c0_6] 27 (0, 0)) (by (with_reducible repeat (first | refine blk_drewN ?_ _ | refine blk_drew ?_ | refine blk_alloc ?_ _)); exact BK268.out) hb)
       have n1_ := Aside0.mk (below_step (by repeat (first | (with_reducible first | exact HB.out | apply below_alloc | apply pw_below_drewN | apply below_drew1 | refine below_set ?_ GE268.out) | exact HB.out)) hb)
       clear BK268
       clear HB
       have BK268 := n0_
       have HB := n1_
       clear n0_ n1_
       (try clear hb)
       (try clear hb2)
       (try clear hk)
       (try clear hi)
       refine hK.out _ _ ⟨(blk_cell BK268.out 0).trans rfl, (blk_cell BK268.out 1).trans rfl, (blk_cell BK268.out 2).trans rfl, (blk_cell BK268.out 3).trans rfl, (blk_cell BK268.out 4).trans rfl, (blk_cell BK268.out 5).trans rfl, (blk_cell BK268.out 6).trans rfl⟩ (fun hHeld => ?_)
       clear hK K
       refine norm_ (a' := ?_) ?_ ?_
       rotate_left
       ·
        show Act.put _ (some 50) _ = _
        simp only [Act.put, List.setIfInBounds_toArray, List.set_cons_zero, List.set_cons_succ, i64_w, i32_w]
        rfl
       refine one_ (i := 24) (N := some 52) #[true, true, true, true, true, true, true, true, true, true, true, true, true, true, true, true, true, true, true, true, true, true, true, true, true, false, false, false] rfl rfl (one_of HT_.out (by kernel_rfl)) (by decide) (fun K hK => ?_)
       refine goes_ Try.func14 (by kernel_rfl) rfl #[.agg #[.string a0_0, .int .u16 a0_1, .int .u16 a0_2, .int .u32 a0_3, .slice A0_4 l0_4.length c0_4, .slice A0_5 l0_5.length c0_5, .slice A0_6 l0_6.length c0_6]] (by rfl) rfl rfl (by (try simp only [List.map_toArray, List.map_cons, List.map_nil]); first | done | rfl | (simp only [List.length_drop, List.length_take]; rfl)) ?_
       with_reducible refine (nuncioref05_Plain.calls k a0_0 a0_1 a0_2 a0_3 _ _ l0_4 _ _ l0_5 _ _ l0_6 t280 _ ?side1 ?side2 ?side3 ?side4 ?side5 ?side6 A16.out).mono ?_
       (case side1 => repeat (first | exact (Kd.C_below HR0_4.out HB.out) | (with_reducible refine Kd.C_alloc ?_ _) | (with_reducible refine Kd.C_drewN ?_ _) | (with_reducible refine Kd.C_drew ?_)))
       (case side2 => exact HC0_4.out)
       (case side3 => repeat (first | exact (Kd.C_below HR0_5.out HB.out) | (with_reducible refine Kd.C_alloc ?_ _) | (with_reducible refine Kd.C_drewN ?_ _) | (with_reducible refine Kd.C_drew ?_)))
       (case side4 => exact HC0_5.out)
       (case side5 => repeat (first | exact (Kd.C_below HR0_6.out HB.out) | (with_reducible refine Kd.C_alloc ?_ _) | (with_reducible refine Kd.C_drewN ?_ _) | (with_reducible refine Kd.C_drew ?_)))
       (case side6 => exact HC0_6.out)
       rintro e w25 ⟨rfl, hb⟩
       refine ⟨_, rfl, ?_⟩
       have n0_ := Aside0.mk (blk_below (g := gb268) (o := .cells #[.string a0_0, .int .u16 a0_1, .int .u16 a0_2, .int .u32 a0_3, .slice A0_4 l0_4.length c0_4, .slice A0_5 l0_5.length c0_5, .slice A0_6 l0_6.length c0_6] 27 (0, 0)) (by (with_reducible repeat (first | refine blk_drewN ?_ _ | refine blk_drew ?_ | refine blk_alloc ?_ _)); exact BK268.out) hb)
       have n1_ := Aside0.mk (below_step (by repeat (first | (with_reducible first | exact HB.out | apply below_alloc | apply pw_below_drewN | apply below_drew1 | refine below_set ?_ GE268.out) | exact HB.out)) hb)
       clear BK268
       clear HB
       have BK268 := n0_
       have HB := n1_
       clear n0_ n1_
       (try clear hb)
       (try clear hb2)
       (try clear hk)
       (try clear hi)
       refine hK.out _ _ ⟨(blk_cell BK268.out 0).trans rfl, (blk_cell BK268.out 1).trans rfl, (blk_cell BK268.out 2).trans rfl, (blk_cell BK268.out 3).trans rfl, (blk_cell BK268.out 4).trans rfl, (blk_cell BK268.out 5).trans rfl, (blk_cell BK268.out 6).trans rfl⟩ (fun hHeld => ?_)
       clear hK K
       refine norm_ (a' := ?_) ?_ ?_
       rotate_left
       ·
        show Act.put _ (some 52) _ = _
        simp only [Act.put, List.setIfInBounds_toArray, List.set_cons_zero, List.set_cons_succ, i64_w, i32_w]
        rfl
       refine pure_ (i := 25) (N := some 53) (v := ?_) (a' := ?_) #[true, true, true, true, true, true, true, true, true, true, true, true, true, true, true, true, true, true, true, true, true, true, true, true, true, true, false, false] rfl rfl (any_of HT_.out (by kernel_rfl)) (fun _ _ _ h => h) (Or.inl ⟨by rfl, ?_⟩) ?_ ?_
       rotate_left
       ·
        intro w'
        go_simp
        with_reducible rfl
       rotate_left
       ·
        simp only [Act.put, List.setIfInBounds_toArray, List.set_cons_zero, List.set_cons_succ, i64_w, i32_w]
        rfl
       refine pure_ (i := 26) (N := some 54) (v := ?_) (a' := ?_) #[true, true, true, true, true, true, true, true, true, true, true, true, true, true, true, true, true, true, true, true, true, true, true, true, true, true, true, false] rfl rfl (any_of HT_.out (by kernel_rfl)) (fun _ _ _ h => h) (Or.inl ⟨by rfl, ?_⟩) ?_ ?_
       rotate_left
       ·
        intro w'
        go_simp
        with_reducible rfl
       rotate_left
       ·
        simp only [Act.put, List.setIfInBounds_toArray, List.set_cons_zero, List.set_cons_succ, i64_w, i32_w]
        rfl
       refine pure_ (i := 27) (N := some 4) (v := ?_) (a' := ?_) #[true, true, true, true, true, true, true, true, true, true, true, true, true, true, true, true, true, true, true, true, true, true, true, true, true, true, true, true] rfl rfl (any_of HT_.out (by kernel_rfl)) (fun _ _ _ h => h) (Or.inl ⟨by rfl, ?_⟩) ?_ ?_
       rotate_left
       ·
        intro w'
        go_simp
        with_reducible rfl
       rotate_left
       ·
        simp only [Act.put, List.setIfInBounds_toArray, List.set_cons_zero, List.set_cons_succ, i64_w, i32_w]
        rfl
       refine done_ (done_of HT_.out (by kernel_rfl)) ?_
       try go_wp2
       go_ret
       exact ⟨by first | rfl | (simp [errW_none, errW_some] <;> rfl) | (simp [*, errW_none, errW_some] <;> rfl), by repeat (first | (with_reducible first | exact HB.out | apply below_alloc | apply pw_below_drewN | apply below_drew1 | refine below_set ?_ GE268.out) | exact HB.out)⟩
      ·
       rw [if_neg c14] at H
       have c14b0 : (t277 == t278) = false := beq_eq_false_iff_ne.mpr c14
       have c14b1 : (t277 != t278) = true := bne_iff_ne.mpr c14
       exact absurd ((Option.some.inj H).trans HT.out) (by decide)
     ·
      rw [if_neg c11] at H
      have c11b0 : (t273 == t276) = false := beq_eq_false_iff_ne.mpr c11
      have c11b1 : (t273 != t276) = true := bne_iff_ne.mpr c11
      exact absurd ((Option.some.inj H).trans HT.out) (by decide)
    ·
     rw [if_neg c10] at H
     have c10b0 : (t272 == t275) = false := beq_eq_false_iff_ne.mpr c10
     have c10b1 : (t272 != t275) = true := bne_iff_ne.mpr c10
     exact absurd ((Option.some.inj H).trans HT.out) (by decide)
   ·
    rw [if_neg c9] at H
    have c9b0 : (t271 == t274) = false := beq_eq_false_iff_ne.mpr c9
    have c9b1 : (t271 != t274) = true := bne_iff_ne.mpr c9
    exact absurd ((Option.some.inj H).trans HT.out) (by decide)
  ·
   replace c6 := Bool.eq_false_iff.mpr c6
   subst c6
   have H1 : (some true) = some r := by rw [if_neg (show ¬ (false = true) by decide)] at H; exact H
   clear H
   have H := H1
   clear H1
   obtain rfl := Option.some.inj H
   go_enter Try.func3, Try.ntmps3
   go_wp2_with (first | ((with_reducible refine gate_dst (N := 2) rfl ?_); refine box_event ?hg (N := 2) ?hd (cs := #[.string a0_0, .int .u16 a0_1, .int .u16 a0_2, .int .u32 a0_3, .slice A0_4 l0_4.length c0_4, .slice A0_5 l0_5.length c0_5, .slice A0_6 l0_6.length c0_6]) (t := 27) ?hr ?_; (case hd => rfl); (case hg => rfl); (case hr => first | (go_simp; done) | (go_simp; rfl)); intro gb268 hg w26 hbox hb; have n0_ := Aside0.mk (below_step (by repeat (first | (with_reducible first | exact HB.out | apply below_alloc | apply pw_below_drewN | apply below_drew1) | exact HB.out)) hb); have n1_ := Aside0.mk (hbox); have n2_ := Aside0.mk ((by rw [hg]; exact (below_size (by repeat (first | (with_reducible first | exact HB.out | apply below_alloc | apply pw_below_drewN | apply below_drew1) | exact HB.out))) : w.heap.size ≤ gb268)); have n3_ := Aside0.mk ((by rw [hg]; exact (below_size (by repeat (first | (with_reducible first | exact HB.out | apply below_alloc | apply pw_below_drewN | apply below_drew1) | exact HB.out))) : w.heap.size ≤ gb268)); clear HB; have HB := n0_; have BK268 := n1_; have GW268 := n2_; have GE268 := n3_; clear n0_ n1_ n2_ n3_; clear hb hbox hg) | ((with_reducible refine gate_callee (f := 7) rfl ?_); refine goesL_ (some 11) rfl rfl Try.func7 (by kernel_rfl) rfl #[] rfl (by (try simp only [List.map_toArray, List.map_cons, List.map_nil]); first | done | rfl | (simp only [List.length_drop, List.length_take]; rfl)) ?_; (with_reducible refine (nunciolaw05_awake.calls k  true _ A3.out).mono ?_); rintro e w27 ⟨rfl, hb⟩; refine ⟨_, rfl, ?_⟩; have n0_ := Aside0.mk (blk_below (g := gb268) (o := .cells #[.string a0_0, .int .u16 a0_1, .int .u16 a0_2, .int .u32 a0_3, .slice A0_4 l0_4.length c0_4, .slice A0_5 l0_5.length c0_5, .slice A0_6 l0_6.length c0_6] 27 (0, 0)) (by (with_reducible repeat (first | refine blk_drewN ?_ _ | refine blk_drew ?_ | refine blk_alloc ?_ _)); exact BK268.out) hb); have n1_ := Aside0.mk (below_step (by repeat (first | (with_reducible first | exact HB.out | apply below_alloc | apply pw_below_drewN | apply below_drew1 | refine below_set ?_ GE268.out) | exact HB.out)) hb); clear BK268; clear HB; have BK268 := n0_; have HB := n1_; clear n0_ n1_; (try clear hb); (try clear hb2); (try clear hk); (try clear hi); have hcz28_0 : w27.cell? ⟨gb268, 0, none⟩ = some (.string a0_0) := (blk_cell BK268.out 0).trans rfl; have hcz28_1 : w27.cell? ⟨gb268, 1, none⟩ = some (.int .u16 a0_1) := (blk_cell BK268.out 1).trans rfl; have hcz28_2 : w27.cell? ⟨gb268, 2, none⟩ = some (.int .u16 a0_2) := (blk_cell BK268.out 2).trans rfl; have hcz28_3 : w27.cell? ⟨gb268, 3, none⟩ = some (.int .u32 a0_3) := (blk_cell BK268.out 3).trans rfl; have hcz28_4 : w27.cell? ⟨gb268, 4, none⟩ = some (.slice A0_4 l0_4.length c0_4) := (blk_cell BK268.out 4).trans rfl; have hcz28_5 : w27.cell? ⟨gb268, 5, none⟩ = some (.slice A0_5 l0_5.length c0_5) := (blk_cell BK268.out 5).trans rfl; have hcz28_6 : w27.cell? ⟨gb268, 6, none⟩ = some (.slice A0_6 l0_6.length c0_6) := (blk_cell BK268.out 6).trans rfl; have hfz28_0 := blk_frozen BK268.out 0; have hfz28_1 := blk_frozen BK268.out 1; have hfz28_2 := blk_frozen BK268.out 2; have hfz28_3 := blk_frozen BK268.out 3; have hfz28_4 := blk_frozen BK268.out 4; have hfz28_5 := blk_frozen BK268.out 5; have hfz28_6 := blk_frozen BK268.out 6) | ((with_reducible refine gate_callee (f := 8) rfl ?_); refine goesL_ (some 14) rfl rfl Try.func8 (by kernel_rfl) rfl #[.agg #[.string a0_0, .int .u16 a0_1, .int .u16 a0_2, .int .u32 a0_3, .slice A0_4 l0_4.length c0_4, .slice A0_5 l0_5.length c0_5, .slice A0_6 l0_6.length c0_6]] rfl (by (try simp only [List.map_toArray, List.map_cons, List.map_nil]); first | done | rfl | (simp only [List.length_drop, List.length_take]; rfl)) ?_; (with_reducible refine (nunciolaw05_Few.calls k a0_0 a0_1 a0_2 a0_3 _ _ l0_4 _ _ l0_5 _ _ l0_6 false _ ?side1 ?side2 ?side3 ?side4 ?side5 ?side6 A5.out).mono ?_); (case side1 => repeat (first | exact (Kd.C_below HR0_4.out HB.out) | (with_reducible refine Kd.C_alloc ?_ _) | (with_reducible refine Kd.C_drewN ?_ _) | (with_reducible refine Kd.C_drew ?_))); (case side2 => exact HC0_4.out); (case side3 => repeat (first | exact (Kd.C_below HR0_5.out HB.out) | (with_reducible refine Kd.C_alloc ?_ _) | (with_reducible refine Kd.C_drewN ?_ _) | (with_reducible refine Kd.C_drew ?_))); (case side4 => exact HC0_5.out); (case side5 => repeat (first | exact (Kd.C_below HR0_6.out HB.out) | (with_reducible refine Kd.C_alloc ?_ _) | (with_reducible refine Kd.C_drewN ?_ _) | (with_reducible refine Kd.C_drew ?_))); (case side6 => exact HC0_6.out); rintro e w29 ⟨rfl, hb⟩; refine ⟨_, rfl, ?_⟩; have n0_ := Aside0.mk (blk_below (g := gb268) (o := .cells #[.string a0_0, .int .u16 a0_1, .int .u16 a0_2, .int .u32 a0_3, .slice A0_4 l0_4.length c0_4, .slice A0_5 l0_5.length c0_5, .slice A0_6 l0_6.length c0_6] 27 (0, 0)) (by (with_reducible repeat (first | refine blk_drewN ?_ _ | refine blk_drew ?_ | refine blk_alloc ?_ _)); exact BK268.out) hb); have n1_ := Aside0.mk (below_step (by repeat (first | (with_reducible first | exact HB.out | apply below_alloc | apply pw_below_drewN | apply below_drew1 | refine below_set ?_ GE268.out) | exact HB.out)) hb); clear BK268; clear HB; have BK268 := n0_; have HB := n1_; clear n0_ n1_; (try clear hb); (try clear hb2); (try clear hk); (try clear hi)))
   go_ret
   exact ⟨by first | rfl | (simp [errW_none, errW_some] <;> rfl) | (simp [*, errW_none, errW_some] <;> rfl), by repeat (first | (with_reducible first | exact HB.out | apply below_alloc | apply pw_below_drewN | apply below_drew1 | refine below_set ?_ GE268.out) | exact HB.out)⟩
 ·
  replace c4 := Bool.eq_false_iff.mpr c4
  subst c4
  have H1 : (some false) = some r := by rw [if_neg (show ¬ (false = true) by decide)] at H; exact H
  clear H
  have H := H1
  clear H1
  exact absurd ((Option.some.inj H).trans HT.out) (by decide)

def k27_wf (x : S27) : Prop := (x.f0.size ≤ 140737488351232) ∧ ((Lit.int .u16 x.f1).wf = true) ∧ ((Lit.int .u16 x.f2).wf = true) ∧ ((Lit.int .u32 x.f3).wf = true) ∧ (x.f4.length ≤ 9223372036854775807 ∧ x.f4.length * 16 ≤ 140737488351232 ∧ ∀ x_ ∈ x.f4, x_.size ≤ 140737488351232) ∧ (x.f5.length ≤ 9223372036854775807 ∧ x.f5.length * 4 ≤ 140737488351232 ∧ ∀ x_ ∈ x.f5, (Lit.int .u32 x_).wf = true) ∧ (x.f6.length ≤ 9223372036854775807 ∧ x.f6.length * 16 ≤ 140737488351232 ∧ ∀ x_ ∈ x.f6, x_.size ≤ 140737488351232)
theorem k27_opens : Opens Try.prog 27 k27 k27_wf := by
 refine Opens.struct (P := Try.prog) (d := (Kd.pair Kd.string (Kd.pair (Kd.int .u16) (Kd.pair (Kd.int .u16) (Kd.pair (Kd.int .u32) (Kd.pair (Kd.slice 9 Kd.string) (Kd.pair (Kd.slice 23 (Kd.int .u32)) (Kd.slice 9 Kd.string)))))))) (wf := (fun x => (x.1.size ≤ 140737488351232) ∧ (fun x => ((Lit.int .u16 x.1).wf = true) ∧ (fun x => ((Lit.int .u16 x.1).wf = true) ∧ (fun x => ((Lit.int .u32 x.1).wf = true) ∧ (fun x => (x.1.length ≤ 9223372036854775807 ∧ x.1.length * 16 ≤ 140737488351232 ∧ ∀ x_ ∈ x.1, x_.size ≤ 140737488351232) ∧ (fun x => (x.1.length ≤ 9223372036854775807 ∧ x.1.length * 4 ≤ 140737488351232 ∧ ∀ x_ ∈ x.1, (Lit.int .u32 x_).wf = true) ∧ (fun x => x.length ≤ 9223372036854775807 ∧ x.length * 16 ≤ 140737488351232 ∧ ∀ x_ ∈ x, x_.size ≤ 140737488351232) x.2) x.2) x.2) x.2) x.2) x.2)) (f := fun x : S27 => (x.f0, x.f1, x.f2, x.f3, x.f4, x.f5, x.f6)) (g := fun y => (⟨y.1, y.2.1, y.2.2.1, y.2.2.2.1, y.2.2.2.2.1, y.2.2.2.2.2.1, y.2.2.2.2.2.2⟩ : S27)) ?_ Try.underlying27 (by kernel_rfl) (fun _ => rfl)
 exact (OpensCells.cons (Opens.string Try.underlying9) (by kernel_rfl) (OpensCells.cons (Opens.int Try.underlying22) (by kernel_rfl) (OpensCells.cons (Opens.int Try.underlying22) (by kernel_rfl) (OpensCells.cons (Opens.int Try.underlying23) (by kernel_rfl) (OpensCells.cons (Opens.slice (d := Kd.string) (Opens.string Try.underlying9) Try.underlying24 (by kernel_rfl) (B := 16) (by kernel_rfl)) (by kernel_rfl) (OpensCells.cons (Opens.slice (d := (Kd.int .u32)) (Opens.int Try.underlying23) Try.underlying25 (by kernel_rfl) (B := 4) (by kernel_rfl)) (by kernel_rfl) (OpensCells.one (Opens.slice (d := Kd.string) (Opens.string Try.underlying9) Try.underlying24 (by kernel_rfl) (B := 16) (by kernel_rfl)) (by kernel_rfl)) rfl) rfl) rfl) rfl) rfl) rfl)
/-- THE ONE PURE STATEMENT of nunciolaw05_DataChecks: yours. -/
def nunciolaw05_DataChecks.Pure : Prop := ∀ (a0_0 : ByteArray) (a0_1 : Int) (a0_2 : Int) (a0_3 : Int) (l0_4 : List ByteArray) (l0_5 : List Int) (l0_6 : List ByteArray) (a1 : Int), (a0_0.size ≤ 140737488351232) → ((Lit.int .u16 a0_1).wf = true) → ((Lit.int .u16 a0_2).wf = true) → ((Lit.int .u32 a0_3).wf = true) → (l0_4.length ≤ 9223372036854775807 ∧ l0_4.length * 16 ≤ 140737488351232 ∧ ∀ x_ ∈ l0_4, x_.size ≤ 140737488351232) → (l0_5.length ≤ 9223372036854775807 ∧ l0_5.length * 4 ≤ 140737488351232 ∧ ∀ x_ ∈ l0_5, (Lit.int .u32 x_).wf = true) → (l0_6.length ≤ 9223372036854775807 ∧ l0_6.length * 16 ≤ 140737488351232 ∧ ∀ x_ ∈ l0_6, x_.size ≤ 140737488351232) → ((Lit.int .u16 a1).wf = true) → ∃ k, nunciolaw05_DataChecks.f k a0_0 a0_1 a0_2 a0_3 l0_4 l0_5 l0_6 a1 = some true
theorem nunciolaw05_DataChecks.walk (P : nunciolaw05_DataChecks.Pure) (a0_0 : ByteArray) (a0_1 : Int) (a0_2 : Int) (a0_3 : Int) (A0_4 : Option Addr) (c0_4 : Nat) (l0_4 : List ByteArray) (A0_5 : Option Addr) (c0_5 : Nat) (l0_5 : List Int) (A0_6 : Option Addr) (c0_6 : Nat) (l0_6 : List ByteArray) (a1 : Int) (w : World) (hr0_4 : Kd.C Kd.string w A0_4 l0_4.length l0_4) (hc0_4 : l0_4.length ≤ c0_4) (hr0_5 : Kd.C (Kd.int .u32) w A0_5 l0_5.length l0_5) (hc0_5 : l0_5.length ≤ c0_5) (hr0_6 : Kd.C Kd.string w A0_6 l0_6.length l0_6) (hc0_6 : l0_6.length ≤ c0_6) (w0_0 : a0_0.size ≤ 140737488351232) (w0_1 : (Lit.int .u16 a0_1).wf = true) (w0_2 : (Lit.int .u16 a0_2).wf = true) (w0_3 : (Lit.int .u32 a0_3).wf = true) (w0_4 : l0_4.length ≤ 9223372036854775807 ∧ l0_4.length * 16 ≤ 140737488351232 ∧ ∀ x_ ∈ l0_4, x_.size ≤ 140737488351232) (w0_5 : l0_5.length ≤ 9223372036854775807 ∧ l0_5.length * 4 ≤ 140737488351232 ∧ ∀ x_ ∈ l0_5, (Lit.int .u32 x_).wf = true) (w0_6 : l0_6.length ≤ 9223372036854775807 ∧ l0_6.length * 16 ≤ 140737488351232 ∧ ∀ x_ ∈ l0_6, x_.size ≤ 140737488351232) (w1 : (Lit.int .u16 a1).wf = true) :
  Calls Try.prog 3 #[.agg #[.string a0_0, .int .u16 a0_1, .int .u16 a0_2, .int .u32 a0_3, .slice A0_4 l0_4.length c0_4, .slice A0_5 l0_5.length c0_5, .slice A0_6 l0_6.length c0_6], .int .u16 a1] w fun e w' => e = .returned (.bool true) ∧ Below w.heap.size w w' := by
 obtain ⟨k, h⟩ := P a0_0 a0_1 a0_2 a0_3 l0_4 l0_5 l0_6 a1 w0_0 w0_1 w0_2 w0_3 w0_4 w0_5 w0_6 w1
 refine (nunciolaw05_DataChecks.calls k a0_0 a0_1 a0_2 a0_3 _ _ l0_4 _ _ l0_5 _ _ l0_6 a1 true w hr0_4 hc0_4 hr0_5 hc0_5 hr0_6 hc0_6 h rfl).mono ?_
 rintro e w' ⟨rfl, hd⟩
 exact ⟨rfl, hd⟩

end Go.Proofs.Ytebnbjnkameicaa.Mine
