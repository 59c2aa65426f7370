-- Written by this repo's own printer (wip/print), which builds on the kit's.
import Derived.Test.YtihjecnkecgckaaWf
import Derived.Test.YtihjecnkecgckaaMinex0
import Derived.Test.YtihjecnkecgckaaMinex1
import Derived.Test.YtihjecnkecgckaaMinex2
import Derived.Test.YtihjecnkecgckaaMinex3
import Derived.Test.YtihjecnkecgckaaMinex7
import Derived.Test.YtihjecnkecgckaaMinex9
namespace Go.Proofs.Ytihjecnkecgckaa.Mine
open Go.RowKit Go.Proofs.YtihjecnkecgckaaW.PrintWords Go.Proofs.YtihjecnkecgckaaW.PrintLast Go.Proofs.YtihjecnkecgckaaW.PrintMore
attribute [local go_sem] max2_int min2_int max_two min_two max_three min_three max_four min_four   -- for this text's walks alone
set_option linter.unusedVariables false
set_option linter.unusedSimpArgs false

/-! ### nunciolaw01_NumReads: function 7 (by hand) -/
set_option maxHeartbeats 4000000 in
set_option maxRecDepth 100000 in
theorem nr_catch (g : Nat) (x : Bool) (older : List PanicEntry) (w : World) (hc : w.heap[g]? = some (.cells #[.bool x] 4 (0, 0))) :
  CallsD Try.prog 25 #[.pointer (some ⟨g, 0, none⟩)] (.panicking ({ v := .iface 51 (.int .i64 2), recovered := false } :: older)) w fun e u' w' =>
   e = .returned (.tuple #[]) ∧ u' = .panicking ({ v := .iface 51 (.int .i64 2), recovered := true } :: older) ∧ w' = w.setCell ⟨g, 0, none⟩ (.bool true) := by
 have hc0 : w.cell? ⟨g, 0, none⟩ = some (.bool x) := (blk_cell hc 0).trans rfl
 have hf0 := blk_frozen hc 0
 refine callsD_of_wpS Try.func25 rfl fun c₀ cs hu => ?_
 apply wpS_seq
 apply wpS_region
 simp [wpOpsS, go_sem, recoverD, hu, Try.ntmps25, Exit.thenS]
 apply wpS_region
 simp [wpOpsS, go_sem, hc0, hf0, bodyPostS, results, Try.results25]
set_option maxHeartbeats 4000000 in
set_option maxRecDepth 100000 in
theorem nr_idle (g : Nat) (x : Bool) (w : World) (hc : w.heap[g]? = some (.cells #[.bool x] 4 (0, 0))) :
  CallsD Try.prog 25 #[.pointer (some ⟨g, 0, none⟩)] .returning w fun e u' w' => e = .returned (.tuple #[]) ∧ u' = .returning ∧ w' = w.setCell ⟨g, 0, none⟩ (.bool false) := by
 have hc0 : w.cell? ⟨g, 0, none⟩ = some (.bool x) := (blk_cell hc 0).trans rfl
 have hf0 := blk_frozen hc 0
 refine callsD_of_wpS Try.func25 rfl fun c₀ cs hu => ?_
 apply wpS_seq
 apply wpS_region
 simp [wpOpsS, go_sem, recoverD, hu, Try.ntmps25, Exit.thenS]
 apply wpS_region
 simp [wpOpsS, go_sem, hc0, hf0, bodyPostS, results, Try.results25]
 cases c₀
 simp_all
theorem nr_text_no (g : Nat) (s : ByteArray) (at_ n : Int) (w0 w : World) (hI : IsS50 w0 w g s at_) (hB : Below w0.heap.size w0 w) (t : ByteArray) (h : num_Part.f s at_ n = some (t, false)) :
  Calls Try.prog 21 #[.pointer (some ⟨g, 0, none⟩), .int .i64 n] w fun e w' => e = .panicked [{ v := .iface 51 (.int .i64 2), recovered := false }] ∧ IsS50 w0 w' g s at_ ∧ Below w0.heap.size w0 w' ∧ KeepBut w w' g none := by
 have A3 := Aside0.mk h
 have HI := Aside0.mk hI
 have HB := Aside0.mk hB
 clear h
 obtain ⟨HGz5, hgz5⟩ := HI.out
 have hcz5_0 := cellS50_0 HGz5
 have hcz5_1 := cellS50_1 HGz5
 clear HGz5 hgz5 hI hB
 go_enter Try.func21, Try.ntmps21
 go_wp2
 go_quiet (first | (go_at_call 19; (with_reducible refine (num_Part.calls s at_ n t false _ A3.out).mono ?_); rintro e w' ⟨rfl, ⟨nd, rfl⟩⟩; (try first | exact ⟨rfl, _, World.drewN_drewN _ _ _⟩ | exact ⟨rfl, _, Eq.trans (World.drewN_drewN _ _ _) (congrArg (World.drewN _) (Nat.add_assoc _ _ _))⟩)))
 go_wp2
 exact ⟨rfl, rfl, by repeat (first | (with_reducible first | exact HI.out | apply IsS50.alloc | apply IsS50.drewN | apply IsS50.drew)), by repeat (first | (with_reducible first | exact HB.out | apply below_alloc | apply pw_below_drewN | apply below_drew1)), keep_drewN (KeepBut.refl w g none) _⟩
theorem nr_keep {w W w1 : World} {g : Nat} (h : KeepBut w W g none) (hb : Below W.heap.size W w1) : KeepBut w w1 g none := ⟨Nat.le_trans h.1 hb.size, fun i hi hg hr => (hb.block i (Nat.lt_of_lt_of_le hi h.1)).trans (h.2 i hi hg hr)⟩
theorem nr_keep2 {w W w1 : World} {g : Nat} (h : KeepBut w W g none) (h2 : KeepBut W w1 g none) : KeepBut w w1 g none := ⟨Nat.le_trans h.1 h2.1, fun i hi hg hr => (h2.2 i (Nat.lt_of_lt_of_le hi h.1) hg hr).trans (h.2 i hi hg hr)⟩
theorem nr_keeps {w W : World} {g j : Nat} {v : Value} (h : KeepBut w W g none) : KeepBut w (W.setCell ⟨g, j, none⟩ v) g none := ⟨by simpa [World.setCell] using h.1, fun i hi hg hr => (Below.heap_setCell W ⟨g, j, none⟩ v i hg).trans (h.2 i hi hg hr)⟩
theorem nr_is {w0 w W : World} {g : Nat} {s : ByteArray} {a : Int} (h : IsS50 w0 w g s a) (hb : Below w.heap.size w W) : IsS50 w0 W g s a := ⟨blk_below h.1 hb, h.2⟩
set_option maxHeartbeats 4000000 in
set_option maxRecDepth 100000 in
theorem nr_num_no (k g : Nat) (s : ByteArray) (at_ n : Int) (w0 w : World) (hI : IsS50 w0 w g s at_) (hB : Below w0.heap.size w0 w) (t : Int) (h : num_Get.f k s at_ n = some (t, false)) :
  Calls Try.prog 26 #[.pointer (some ⟨g, 0, none⟩), .int .i64 n] w fun e w' => e = .panicked [{ v := .iface 51 (.int .i64 2), recovered := false }] ∧ IsS50 w0 w' g s at_ ∧ Below w0.heap.size w0 w' ∧ KeepBut w w' g none := by
 have A3 := Aside0.mk h
 have HI := Aside0.mk hI
 have HB := Aside0.mk hB
 clear h
 obtain ⟨HGz5, hgz5⟩ := HI.out
 have hcz5_0 := cellS50_0 HGz5
 have hcz5_1 := cellS50_1 HGz5
 clear HGz5 hgz5 hI hB
 go_enter Try.func26, Try.ntmps26
 go_upto_region 1 with fail
 go_region_with (first | (go_at_call 10; (with_reducible refine (num_Get.calls k s at_ n t false _ A3.out).mono ?_); rintro e w' ⟨rfl, hb⟩; have HD := Aside0.mk (below_step (below_drew1 (Below.refl w.heap.size w)) hb); have HJ := Aside0.mk (nr_is HI.out HD.out); clear hb; have hz0 : w'.cell? ⟨g, 0, none⟩ = some (.string s) := (blk_cell HJ.out.1 0).trans rfl; have hz1 : w'.cell? ⟨g, 1, none⟩ = some (.int .i64 at_) := (blk_cell HJ.out.1 1).trans rfl; have hf1 := blk_frozen HJ.out.1 1))
 all_goals go_wp2
 all_goals exact ⟨rfl, rfl, HJ.out, below_step HB.out HD.out, nr_keep (KeepBut.refl w g none) HD.out⟩
set_option maxHeartbeats 4000000 in
set_option maxRecDepth 100000 in
theorem nr_num_ok (k g : Nat) (s : ByteArray) (at_ n : Int) (w0 w : World) (hI : IsS50 w0 w g s at_) (hB : Below w0.heap.size w0 w) (t : Int) (h : num_Get.f k s at_ n = some (t, true)) :
  Calls Try.prog 26 #[.pointer (some ⟨g, 0, none⟩), .int .i64 n] w fun e w' => e = .returned (.int .u64 t) ∧ IsS50 w0 w' g s (wrap64 (at_ + n)) ∧ Below w0.heap.size w0 w' ∧ KeepBut w w' g none := by
 have A3 := Aside0.mk h
 have HI := Aside0.mk hI
 have HB := Aside0.mk hB
 clear h
 obtain ⟨HGz5, hgz5⟩ := HI.out
 have hcz5_0 := cellS50_0 HGz5
 have hcz5_1 := cellS50_1 HGz5
 clear HGz5 hgz5 hI hB
 go_enter Try.func26, Try.ntmps26
 go_upto_region 1 with fail
 go_region_with (first | (go_at_call 10; (with_reducible refine (num_Get.calls k s at_ n t true _ A3.out).mono ?_); rintro e w' ⟨rfl, hb⟩; have HD := Aside0.mk (below_step (below_drew1 (Below.refl w.heap.size w)) hb); have HJ := Aside0.mk (nr_is HI.out HD.out); clear hb; have hz0 : w'.cell? ⟨g, 0, none⟩ = some (.string s) := (blk_cell HJ.out.1 0).trans rfl; have hz1 : w'.cell? ⟨g, 1, none⟩ = some (.int .i64 at_) := (blk_cell HJ.out.1 1).trans rfl; have hf1 := blk_frozen HJ.out.1 1))
 all_goals go_wp2
 all_goals go_ret
 all_goals exact ⟨rfl, ⟨blk_put HJ.out.1 1 _ rfl, HJ.out.2⟩, below_set (below_step HB.out HD.out) HJ.out.2, nr_keeps (nr_keep (KeepBut.refl w g none) HD.out)⟩
theorem nr_text_ok (g : Nat) (s : ByteArray) (at_ n : Int) (w0 w : World) (hI : IsS50 w0 w g s at_) (hB : Below w0.heap.size w0 w) (t : ByteArray) (h : num_Part.f s at_ n = some (t, true)) :
  Calls Try.prog 21 #[.pointer (some ⟨g, 0, none⟩), .int .i64 n] w fun e w' => e = .returned (.string t) ∧ IsS50 w0 w' g s (wrap64 (at_ + n)) ∧ Below w0.heap.size w0 w' ∧ KeepBut w w' g none := by
 refine num_Reader_Text.calls g s at_ n t s (wrap64 (at_ + n)) w0 w hI hB ?_
 unfold num_Reader_Text.f
 rw [h]
 rfl
set_option maxHeartbeats 4000000 in
set_option maxRecDepth 100000 in
theorem nr_call_num_ok (k g : Nat) (s : ByteArray) (at_ n : Int) (w0 w : World) (hI : IsS50 w0 w g s at_) (hB : Below w0.heap.size w0 w) (t : Int) (h : num_Get.f k s at_ n = some (t, true)) :
  Calls Try.prog 22 #[.pointer (some ⟨g, 0, none⟩), .agg #[.bool true, .int .i64 n]] w fun e w' => e = .returned (.tuple #[.int .u64 t, .string (⟨#[]⟩ : ByteArray), .bool false]) ∧ IsS50 w0 w' g s (wrap64 (at_ + n)) ∧ Below w0.heap.size w0 w' ∧ KeepBut w w' g none := by
 have hmf : ∀ (fn : Fn) (first cap : Array Value) (w : World), (Instr.makeFunc fn first cap).run Try.prog w = .ok (.func fn first cap) w := fun _ _ _ _ => rfl
 have A3 := Aside0.mk h
 have HI := Aside0.mk hI
 have HB := Aside0.mk hB
 have HK := Aside0.mk (KeepBut.refl w g none)
 clear h hI hB
 go_enter_defers Try.func22, Try.ntmps22
 go_wp2_with (first | ((with_reducible refine gate_dst (N := 3) rfl ?_); refine box_event ?hg (N := 3) ?hd (cs := #[.bool true, .int .i64 n]) (t := 44) ?hr ?_; (case hd => rfl); (case hg => rfl); (case hr => first | (go_simp; done) | (go_simp; rfl)); intro g3 hg w1 hbox hb; have n1_ := Aside0.mk (nr_is HI.out hb); have n2_ := Aside0.mk (below_step HB.out hb); have n3_ := Aside0.mk (nr_keep HK.out hb); clear HI HB HK hb hg; have HI := n1_; have HB := n2_; have HK := n3_; have B3 := Aside0.mk hbox; clear n1_ n2_ n3_ hbox) | ((with_reducible refine gate_dst (N := 6) rfl ?_); refine box_event ?hg (N := 6) ?hd (cs := #[.bool false]) (t := 4) ?hr ?_; (case hd => rfl); (case hg => rfl); (case hr => first | (go_simp; done) | (go_simp; rfl)); intro g6 hg w2 hbox hb; have n1_ := Aside0.mk (nr_is HI.out hb); have n2_ := Aside0.mk (below_step HB.out hb); have n3_ := Aside0.mk (nr_keep HK.out hb); have n4_ := Aside0.mk (blk_below B3.out hb); have NE := Aside0.mk (show g6 ≠ g by rw [hg]; exact Nat.ne_of_gt (blk_lt HI.out.1)); have GW := Aside0.mk (show w.heap.size ≤ g6 by rw [hg]; exact HK.out.1); have G0 := Aside0.mk (show w0.heap.size ≤ g6 by rw [hg]; exact HB.out.size); clear HI HB HK B3 hb hg; have HI := n1_; have HB := n2_; have HK := n3_; have B3 := n4_; have B6 := Aside0.mk hbox; clear n1_ n2_ n3_ n4_ hbox; have z0 : w2.cell? ⟨g3, 0, none⟩ = some (.bool true) := (blk_cell B3.out 0).trans rfl; have z1 : w2.cell? ⟨g3, 1, none⟩ = some (.int .i64 n) := (blk_cell B3.out 1).trans rfl) | (go_at_call 26; (with_reducible refine (nr_num_ok k g s at_ n w0 _ HI.out HB.out t A3.out).mono ?_); rintro e w3 ⟨rfl, hi, hb, hk⟩; have n1_ := Aside0.mk (show w3.heap[g6]? = some (.cells #[.bool false] 4 (0, 0)) from (hk.2 g6 (blk_lt B6.out) NE.out (by simp)).trans B6.out); have n2_ := Aside0.mk (nr_keep2 HK.out hk); have HI2 := Aside0.mk hi; have HB2 := Aside0.mk hb; clear B6 HK B3 z0 z1 hi hb hk; have B6 := n1_; have HK := n2_; clear n1_ n2_; have y6 : w3.cell? ⟨g6, 0, none⟩ = some (.bool false) := (blk_cell B6.out 0).trans rfl; have f6 := blk_frozen B6.out 0))
 refine leaves_cons (f := 25) (args := #[.pointer (some ⟨g6, 0, none⟩)]) (by simp) (by simp [go_sem]) ?_
 refine (nr_idle g6 false _ (blk_put B6.out 0 _ rfl)).mono ?_
 rintro e u' w'' ⟨rfl, rfl, rfl⟩
 have hc : ((w3.setCell ⟨g6, 0, none⟩ (.bool false)).setCell ⟨g6, 0, none⟩ (.bool false)).cell? ⟨g6, 0, none⟩ = some (.bool false) := (blk_cell (blk_put (blk_put B6.out 0 (.bool false) rfl) 0 (.bool false) rfl) 0).trans rfl
 have P1 : IsS50 w0 ((w3.setCell ⟨g6, 0, none⟩ (.bool false)).setCell ⟨g6, 0, none⟩ (.bool false)) g s (wrap64 (at_ + n)) := ⟨blk_far (blk_far HI2.out.1 (p := ⟨g6, 0, none⟩) (Ne.symm NE.out) _) (p := ⟨g6, 0, none⟩) (Ne.symm NE.out) _, HI2.out.2⟩
 have P2 : Below w0.heap.size w0 ((w3.setCell ⟨g6, 0, none⟩ (.bool false)).setCell ⟨g6, 0, none⟩ (.bool false)) := below_set (below_set HB2.out G0.out) G0.out
 have P3 : KeepBut w ((w3.setCell ⟨g6, 0, none⟩ (.bool false)).setCell ⟨g6, 0, none⟩ (.bool false)) g none := keep_far (keep_far HK.out (p := ⟨g6, 0, none⟩) GW.out _) (p := ⟨g6, 0, none⟩) GW.out _
 simp [Leaves, settle, results, Try.results22, go_sem, hc]
 exact ⟨P1, P2, P3⟩
set_option maxHeartbeats 4000000 in
set_option maxRecDepth 100000 in
theorem nr_call_num_no (k g : Nat) (s : ByteArray) (at_ n : Int) (w0 w : World) (hI : IsS50 w0 w g s at_) (hB : Below w0.heap.size w0 w) (t : Int) (h : num_Get.f k s at_ n = some (t, false)) :
  Calls Try.prog 22 #[.pointer (some ⟨g, 0, none⟩), .agg #[.bool true, .int .i64 n]] w fun e w' => e = .returned (.tuple #[.int .u64 0, .string (⟨#[]⟩ : ByteArray), .bool true]) ∧ IsS50 w0 w' g s at_ ∧ Below w0.heap.size w0 w' ∧ KeepBut w w' g none := by
 have hmf : ∀ (fn : Fn) (first cap : Array Value) (w : World), (Instr.makeFunc fn first cap).run Try.prog w = .ok (.func fn first cap) w := fun _ _ _ _ => rfl
 have A3 := Aside0.mk h
 have HI := Aside0.mk hI
 have HB := Aside0.mk hB
 have HK := Aside0.mk (KeepBut.refl w g none)
 clear h hI hB
 go_enter_defers Try.func22, Try.ntmps22
 go_wp2_with (first | ((with_reducible refine gate_dst (N := 3) rfl ?_); refine box_event ?hg (N := 3) ?hd (cs := #[.bool true, .int .i64 n]) (t := 44) ?hr ?_; (case hd => rfl); (case hg => rfl); (case hr => first | (go_simp; done) | (go_simp; rfl)); intro g3 hg w1 hbox hb; have n1_ := Aside0.mk (nr_is HI.out hb); have n2_ := Aside0.mk (below_step HB.out hb); have n3_ := Aside0.mk (nr_keep HK.out hb); clear HI HB HK hb hg; have HI := n1_; have HB := n2_; have HK := n3_; have B3 := Aside0.mk hbox; clear n1_ n2_ n3_ hbox) | ((with_reducible refine gate_dst (N := 6) rfl ?_); refine box_event ?hg (N := 6) ?hd (cs := #[.bool false]) (t := 4) ?hr ?_; (case hd => rfl); (case hg => rfl); (case hr => first | (go_simp; done) | (go_simp; rfl)); intro g6 hg w2 hbox hb; have n1_ := Aside0.mk (nr_is HI.out hb); have n2_ := Aside0.mk (below_step HB.out hb); have n3_ := Aside0.mk (nr_keep HK.out hb); have n4_ := Aside0.mk (blk_below B3.out hb); have NE := Aside0.mk (show g6 ≠ g by rw [hg]; exact Nat.ne_of_gt (blk_lt HI.out.1)); have GW := Aside0.mk (show w.heap.size ≤ g6 by rw [hg]; exact HK.out.1); have G0 := Aside0.mk (show w0.heap.size ≤ g6 by rw [hg]; exact HB.out.size); clear HI HB HK B3 hb hg; have HI := n1_; have HB := n2_; have HK := n3_; have B3 := n4_; have B6 := Aside0.mk hbox; clear n1_ n2_ n3_ n4_ hbox; have z0 : w2.cell? ⟨g3, 0, none⟩ = some (.bool true) := (blk_cell B3.out 0).trans rfl; have z1 : w2.cell? ⟨g3, 1, none⟩ = some (.int .i64 n) := (blk_cell B3.out 1).trans rfl) | (go_at_call 26; (with_reducible refine (nr_num_no k g s at_ n w0 _ HI.out HB.out t A3.out).mono ?_); rintro e w3 ⟨rfl, hi, hb, hk⟩; have n1_ := Aside0.mk (show w3.heap[g6]? = some (.cells #[.bool false] 4 (0, 0)) from (hk.2 g6 (blk_lt B6.out) NE.out (by simp)).trans B6.out); have n2_ := Aside0.mk (nr_keep2 HK.out hk); have HI2 := Aside0.mk hi; have HB2 := Aside0.mk hb; clear B6 HK B3 z0 z1 hi hb hk; have B6 := n1_; have HK := n2_; clear n1_ n2_; have y6 : w3.cell? ⟨g6, 0, none⟩ = some (.bool false) := (blk_cell B6.out 0).trans rfl; have f6 := blk_frozen B6.out 0))
 refine leaves_cons (f := 25) (args := #[.pointer (some ⟨g6, 0, none⟩)]) (by simp) (by simp [go_sem]) ?_
 refine (nr_catch g6 false _ _ B6.out).mono ?_
 rintro e u' w'' ⟨rfl, rfl, rfl⟩
 have hc : (w3.setCell ⟨g6, 0, none⟩ (.bool true)).cell? ⟨g6, 0, none⟩ = some (.bool true) := (blk_cell (blk_put B6.out 0 (.bool true) rfl) 0).trans rfl
 have P1 : IsS50 w0 (w3.setCell ⟨g6, 0, none⟩ (.bool true)) g s at_ := ⟨blk_far HI2.out.1 (p := ⟨g6, 0, none⟩) (Ne.symm NE.out) _, HI2.out.2⟩
 have P2 : Below w0.heap.size w0 (w3.setCell ⟨g6, 0, none⟩ (.bool true)) := below_set HB2.out G0.out
 have P3 : KeepBut w (w3.setCell ⟨g6, 0, none⟩ (.bool true)) g none := keep_far HK.out (p := ⟨g6, 0, none⟩) GW.out _
 simp [Leaves, settle, results, Try.results22, go_sem, hc]
 exact ⟨P1, P2, P3⟩
set_option maxHeartbeats 4000000 in
set_option maxRecDepth 100000 in
theorem nr_call_text_ok (k g : Nat) (s : ByteArray) (at_ n : Int) (w0 w : World) (hI : IsS50 w0 w g s at_) (hB : Below w0.heap.size w0 w) (t : ByteArray) (h : num_Part.f s at_ n = some (t, true)) :
  Calls Try.prog 22 #[.pointer (some ⟨g, 0, none⟩), .agg #[.bool false, .int .i64 n]] w fun e w' => e = .returned (.tuple #[.int .u64 0, .string t, .bool false]) ∧ IsS50 w0 w' g s (wrap64 (at_ + n)) ∧ Below w0.heap.size w0 w' ∧ KeepBut w w' g none := by
 have hmf : ∀ (fn : Fn) (first cap : Array Value) (w : World), (Instr.makeFunc fn first cap).run Try.prog w = .ok (.func fn first cap) w := fun _ _ _ _ => rfl
 have A3 := Aside0.mk h
 have HI := Aside0.mk hI
 have HB := Aside0.mk hB
 have HK := Aside0.mk (KeepBut.refl w g none)
 clear h hI hB
 go_enter_defers Try.func22, Try.ntmps22
 go_wp2_with (first | ((with_reducible refine gate_dst (N := 3) rfl ?_); refine box_event ?hg (N := 3) ?hd (cs := #[.bool false, .int .i64 n]) (t := 44) ?hr ?_; (case hd => rfl); (case hg => rfl); (case hr => first | (go_simp; done) | (go_simp; rfl)); intro g3 hg w1 hbox hb; have n1_ := Aside0.mk (nr_is HI.out hb); have n2_ := Aside0.mk (below_step HB.out hb); have n3_ := Aside0.mk (nr_keep HK.out hb); clear HI HB HK hb hg; have HI := n1_; have HB := n2_; have HK := n3_; have B3 := Aside0.mk hbox; clear n1_ n2_ n3_ hbox) | ((with_reducible refine gate_dst (N := 6) rfl ?_); refine box_event ?hg (N := 6) ?hd (cs := #[.bool false]) (t := 4) ?hr ?_; (case hd => rfl); (case hg => rfl); (case hr => first | (go_simp; done) | (go_simp; rfl)); intro g6 hg w2 hbox hb; have n1_ := Aside0.mk (nr_is HI.out hb); have n2_ := Aside0.mk (below_step HB.out hb); have n3_ := Aside0.mk (nr_keep HK.out hb); have n4_ := Aside0.mk (blk_below B3.out hb); have NE := Aside0.mk (show g6 ≠ g by rw [hg]; exact Nat.ne_of_gt (blk_lt HI.out.1)); have GW := Aside0.mk (show w.heap.size ≤ g6 by rw [hg]; exact HK.out.1); have G0 := Aside0.mk (show w0.heap.size ≤ g6 by rw [hg]; exact HB.out.size); clear HI HB HK B3 hb hg; have HI := n1_; have HB := n2_; have HK := n3_; have B3 := n4_; have B6 := Aside0.mk hbox; clear n1_ n2_ n3_ n4_ hbox; have z0 : w2.cell? ⟨g3, 0, none⟩ = some (.bool false) := (blk_cell B3.out 0).trans rfl; have z1 : w2.cell? ⟨g3, 1, none⟩ = some (.int .i64 n) := (blk_cell B3.out 1).trans rfl) | (go_at_call 21; (with_reducible refine (nr_text_ok g s at_ n w0 _ HI.out HB.out t A3.out).mono ?_); rintro e w3 ⟨rfl, hi, hb, hk⟩; have n1_ := Aside0.mk (show w3.heap[g6]? = some (.cells #[.bool false] 4 (0, 0)) from (hk.2 g6 (blk_lt B6.out) NE.out (by simp)).trans B6.out); have n2_ := Aside0.mk (nr_keep2 HK.out hk); have HI2 := Aside0.mk hi; have HB2 := Aside0.mk hb; clear B6 HK B3 z0 z1 hi hb hk; have B6 := n1_; have HK := n2_; clear n1_ n2_; have y6 : w3.cell? ⟨g6, 0, none⟩ = some (.bool false) := (blk_cell B6.out 0).trans rfl; have f6 := blk_frozen B6.out 0))
 refine leaves_cons (f := 25) (args := #[.pointer (some ⟨g6, 0, none⟩)]) (by simp) (by simp [go_sem]) ?_
 refine (nr_idle g6 false _ (blk_put B6.out 0 _ rfl)).mono ?_
 rintro e u' w'' ⟨rfl, rfl, rfl⟩
 have hc : ((w3.setCell ⟨g6, 0, none⟩ (.bool false)).setCell ⟨g6, 0, none⟩ (.bool false)).cell? ⟨g6, 0, none⟩ = some (.bool false) := (blk_cell (blk_put (blk_put B6.out 0 (.bool false) rfl) 0 (.bool false) rfl) 0).trans rfl
 have P1 : IsS50 w0 ((w3.setCell ⟨g6, 0, none⟩ (.bool false)).setCell ⟨g6, 0, none⟩ (.bool false)) g s (wrap64 (at_ + n)) := ⟨blk_far (blk_far HI2.out.1 (p := ⟨g6, 0, none⟩) (Ne.symm NE.out) _) (p := ⟨g6, 0, none⟩) (Ne.symm NE.out) _, HI2.out.2⟩
 have P2 : Below w0.heap.size w0 ((w3.setCell ⟨g6, 0, none⟩ (.bool false)).setCell ⟨g6, 0, none⟩ (.bool false)) := below_set (below_set HB2.out G0.out) G0.out
 have P3 : KeepBut w ((w3.setCell ⟨g6, 0, none⟩ (.bool false)).setCell ⟨g6, 0, none⟩ (.bool false)) g none := keep_far (keep_far HK.out (p := ⟨g6, 0, none⟩) GW.out _) (p := ⟨g6, 0, none⟩) GW.out _
 simp [Leaves, settle, results, Try.results22, go_sem, hc]
 exact ⟨P1, P2, P3⟩
set_option maxHeartbeats 4000000 in
set_option maxRecDepth 100000 in
theorem nr_call_text_no (k g : Nat) (s : ByteArray) (at_ n : Int) (w0 w : World) (hI : IsS50 w0 w g s at_) (hB : Below w0.heap.size w0 w) (t : ByteArray) (h : num_Part.f s at_ n = some (t, false)) :
  Calls Try.prog 22 #[.pointer (some ⟨g, 0, none⟩), .agg #[.bool false, .int .i64 n]] w fun e w' => e = .returned (.tuple #[.int .u64 0, .string (⟨#[]⟩ : ByteArray), .bool true]) ∧ IsS50 w0 w' g s at_ ∧ Below w0.heap.size w0 w' ∧ KeepBut w w' g none := by
 have hmf : ∀ (fn : Fn) (first cap : Array Value) (w : World), (Instr.makeFunc fn first cap).run Try.prog w = .ok (.func fn first cap) w := fun _ _ _ _ => rfl
 have A3 := Aside0.mk h
 have HI := Aside0.mk hI
 have HB := Aside0.mk hB
 have HK := Aside0.mk (KeepBut.refl w g none)
 clear h hI hB
 go_enter_defers Try.func22, Try.ntmps22
 go_wp2_with (first | ((with_reducible refine gate_dst (N := 3) rfl ?_); refine box_event ?hg (N := 3) ?hd (cs := #[.bool false, .int .i64 n]) (t := 44) ?hr ?_; (case hd => rfl); (case hg => rfl); (case hr => first | (go_simp; done) | (go_simp; rfl)); intro g3 hg w1 hbox hb; have n1_ := Aside0.mk (nr_is HI.out hb); have n2_ := Aside0.mk (below_step HB.out hb); have n3_ := Aside0.mk (nr_keep HK.out hb); clear HI HB HK hb hg; have HI := n1_; have HB := n2_; have HK := n3_; have B3 := Aside0.mk hbox; clear n1_ n2_ n3_ hbox) | ((with_reducible refine gate_dst (N := 6) rfl ?_); refine box_event ?hg (N := 6) ?hd (cs := #[.bool false]) (t := 4) ?hr ?_; (case hd => rfl); (case hg => rfl); (case hr => first | (go_simp; done) | (go_simp; rfl)); intro g6 hg w2 hbox hb; have n1_ := Aside0.mk (nr_is HI.out hb); have n2_ := Aside0.mk (below_step HB.out hb); have n3_ := Aside0.mk (nr_keep HK.out hb); have n4_ := Aside0.mk (blk_below B3.out hb); have NE := Aside0.mk (show g6 ≠ g by rw [hg]; exact Nat.ne_of_gt (blk_lt HI.out.1)); have GW := Aside0.mk (show w.heap.size ≤ g6 by rw [hg]; exact HK.out.1); have G0 := Aside0.mk (show w0.heap.size ≤ g6 by rw [hg]; exact HB.out.size); clear HI HB HK B3 hb hg; have HI := n1_; have HB := n2_; have HK := n3_; have B3 := n4_; have B6 := Aside0.mk hbox; clear n1_ n2_ n3_ n4_ hbox; have z0 : w2.cell? ⟨g3, 0, none⟩ = some (.bool false) := (blk_cell B3.out 0).trans rfl; have z1 : w2.cell? ⟨g3, 1, none⟩ = some (.int .i64 n) := (blk_cell B3.out 1).trans rfl) | (go_at_call 21; (with_reducible refine (nr_text_no g s at_ n w0 _ HI.out HB.out t A3.out).mono ?_); rintro e w3 ⟨rfl, hi, hb, hk⟩; have n1_ := Aside0.mk (show w3.heap[g6]? = some (.cells #[.bool false] 4 (0, 0)) from (hk.2 g6 (blk_lt B6.out) NE.out (by simp)).trans B6.out); have n2_ := Aside0.mk (nr_keep2 HK.out hk); have HI2 := Aside0.mk hi; have HB2 := Aside0.mk hb; clear B6 HK B3 z0 z1 hi hb hk; have B6 := n1_; have HK := n2_; clear n1_ n2_; have y6 : w3.cell? ⟨g6, 0, none⟩ = some (.bool false) := (blk_cell B6.out 0).trans rfl; have f6 := blk_frozen B6.out 0))
 refine leaves_cons (f := 25) (args := #[.pointer (some ⟨g6, 0, none⟩)]) (by simp) (by simp [go_sem]) ?_
 refine (nr_catch g6 false _ _ B6.out).mono ?_
 rintro e u' w'' ⟨rfl, rfl, rfl⟩
 have hc : (w3.setCell ⟨g6, 0, none⟩ (.bool true)).cell? ⟨g6, 0, none⟩ = some (.bool true) := (blk_cell (blk_put B6.out 0 (.bool true) rfl) 0).trans rfl
 have P1 : IsS50 w0 (w3.setCell ⟨g6, 0, none⟩ (.bool true)) g s at_ := ⟨blk_far HI2.out.1 (p := ⟨g6, 0, none⟩) (Ne.symm NE.out) _, HI2.out.2⟩
 have P2 : Below w0.heap.size w0 (w3.setCell ⟨g6, 0, none⟩ (.bool true)) := below_set HB2.out G0.out
 have P3 : KeepBut w (w3.setCell ⟨g6, 0, none⟩ (.bool true)) g none := keep_far HK.out (p := ⟨g6, 0, none⟩) GW.out _
 simp [Leaves, settle, results, Try.results22, go_sem, hc]
 exact ⟨P1, P2, P3⟩
theorem nr_dr {w w' : World} {g : Nat} {o : Obj} (h : Drawn0 w w') (hb : w.heap[g]? = some o) : w'.heap[g]? = some o := by
 obtain ⟨n, rfl⟩ := h
 exact blk_drewN hb n
theorem nr_dri {w0 w w' : World} {g : Nat} {s : ByteArray} {a : Int} (h : Drawn0 w w') (hb : IsS50 w0 w g s a) : IsS50 w0 w' g s a := ⟨nr_dr h hb.1, hb.2⟩
theorem nr_drb {b : Nat} {w0 w w' : World} (h : Drawn0 w w') (hb : Below b w0 w) : Below b w0 w' := by
 obtain ⟨n, rfl⟩ := h
 exact pw_below_drewN hb n
def nr_step (k : Nat) (s : ByteArray) (at_ : Int) (a : S44) : Option Int :=
 if a.f0 = true then (num_Get.f k s at_ a.f1).bind fun g => (nuncioref01_Get.f k s at_ a.f1).bind fun x => (nuncioref01_Part.f s at_ a.f1).bind fun _ => if g.2 = x.2 ∧ (if g.2 = true then g.1 else 0) = x.1 then some (if g.2 = true then wrap64 (at_ + a.f1) else at_) else none
 else (num_Part.f s at_ a.f1).bind fun g => (nuncioref01_Part.f s at_ a.f1).bind fun x => if g.2 = x.2 ∧ (if g.2 = true then g.1 else (⟨#[]⟩ : ByteArray)) = x.1 then some (if g.2 = true then wrap64 (at_ + a.f1) else at_) else none
def nr_run (k : Nat) (s : ByteArray) : List S44 → Int → Option Bool
 | [], _ => some true
 | a :: r, at_ => (nr_step k s at_ a).bind fun b => nr_run k s r b
def nunciolaw01_NumReads.f (k : Nat) (a0 : ByteArray) (l1 : List S44) : Option Bool :=
 (nunciolaw01_awake.f k).bind fun t => if t = true then (if (a0.size : Int) > 20000 then some true else if (l1.length : Int) > 200 then some true else nr_run k a0 l1 0) else none
theorem nr_cases {k : Nat} {s : ByteArray} {b b2 : Int} {a : S44} (h : nr_step k s b a = some b2) :
  (a.f0 = true ∧ b2 = wrap64 (b + a.f1) ∧ ∃ t p, num_Get.f k s b a.f1 = some (t, true) ∧ nuncioref01_Get.f k s b a.f1 = some (t, true) ∧ nuncioref01_Part.f s b a.f1 = some p) ∨
  (a.f0 = true ∧ b2 = b ∧ ∃ t p, num_Get.f k s b a.f1 = some (t, false) ∧ nuncioref01_Get.f k s b a.f1 = some (0, false) ∧ nuncioref01_Part.f s b a.f1 = some p) ∨
  (a.f0 = false ∧ b2 = wrap64 (b + a.f1) ∧ ∃ t, num_Part.f s b a.f1 = some (t, true) ∧ nuncioref01_Part.f s b a.f1 = some (t, true)) ∨
  (a.f0 = false ∧ b2 = b ∧ ∃ t, num_Part.f s b a.f1 = some (t, false) ∧ nuncioref01_Part.f s b a.f1 = some ((⟨#[]⟩ : ByteArray), false)) := by
 unfold nr_step at h
 by_cases c : a.f0 = true
 ·
  rw [if_pos c] at h
  obtain ⟨⟨g1, g2⟩, hg, h⟩ := Option.bind_eq_some_iff.mp h
  obtain ⟨⟨x1, x2⟩, hx, h⟩ := Option.bind_eq_some_iff.mp h
  obtain ⟨p, hp, h⟩ := Option.bind_eq_some_iff.mp h
  simp only at h
  by_cases hc : g2 = x2 ∧ (if g2 = true then g1 else 0) = x1
  ·
   rw [if_pos hc] at h
   have h9 := Option.some.inj h
   obtain ⟨e1, e2⟩ := hc
   subst e1
   cases g2 with
   | true => simp only [if_true] at e2 h9; subst e2; exact Or.inl ⟨c, h9.symm, _, _, hg, hx, hp⟩
   | false => simp at e2 h9; subst e2; exact Or.inr (Or.inl ⟨c, h9.symm, _, _, hg, hx, hp⟩)
  ·
   rw [if_neg hc] at h
   exact absurd h (by simp)
 ·
  rw [if_neg c] at h
  have c := Bool.eq_false_iff.mpr c
  obtain ⟨⟨g1, g2⟩, hg, h⟩ := Option.bind_eq_some_iff.mp h
  obtain ⟨⟨x1, x2⟩, hx, h⟩ := Option.bind_eq_some_iff.mp h
  simp only at h
  by_cases hc : g2 = x2 ∧ (if g2 = true then g1 else (⟨#[]⟩ : ByteArray)) = x1
  ·
   rw [if_pos hc] at h
   have h9 := Option.some.inj h
   obtain ⟨e1, e2⟩ := hc
   subst e1
   cases g2 with
   | true => simp only [if_true] at e2 h9; subst e2; exact Or.inr (Or.inr (Or.inl ⟨c, h9.symm, _, hg, hx⟩))
   | false => simp at e2 h9; subst e2; exact Or.inr (Or.inr (Or.inr ⟨c, h9.symm, _, hg, hx⟩))
  ·
   rw [if_neg hc] at h
   exact absurd h (by simp)
set_option maxHeartbeats 4000000 in
set_option maxRecDepth 100000 in
theorem nunciolaw01_NumReads.calls (k : Nat) (a0 : ByteArray) (A1 : Option Addr) (c1 : Nat) (l1 : List S44) (r : Bool) (w : World) (hr1 : Kd.C k44 w A1 l1.length l1) (hc1 : l1.length ≤ c1) (h : nunciolaw01_NumReads.f k a0 l1 = some r) (hT : r = true) :
  Calls Try.prog 7 #[.string a0, .slice A1 l1.length c1] w fun e w' => e = .returned (.bool r) ∧ Below w.heap.size w w' := by
 subst hT
 obtain ⟨t, ha, H⟩ := Option.bind_eq_some_iff.mp h
 clear h
 have hu44 := Try.underlying44
 have HB := Aside0.mk (Below.refl w.heap.size w)
 have HR := Aside0.mk hr1
 have HC := Aside0.mk hc1
 have hl1 : l1.length ≤ 9223372036854775807 := HR.out.2.1
 clear hr1 hc1
 cases t with
 | false => exact absurd H (by simp)
 | true =>
  rw [if_pos rfl] at H
  have HA := Aside0.mk ha
  clear ha
  by_cases q1 : (a0.size : Int) > 20000
  ·
   rw [if_pos q1] at H
   have p1 : decide (20000 < (a0.size : Int)) = true := decide_eq_true q1
   have p2 : decide (20000 < a0.size) = true := decide_eq_true (by omega)
   clear q1 H
   go_enter Try.func7, Try.ntmps7
   go_wp2_with (first | ((with_reducible refine gate_callee (f := 8) rfl ?_); refine goesL_ (some 16) rfl rfl Try.func8 (by kernel_rfl) rfl #[] rfl (by (try simp only [List.map_toArray, List.map_cons, List.map_nil]); first | done | rfl) ?_; (with_reducible refine (nunciolaw01_awake.calls k true _ HA.out).mono ?_); rintro e w2 ⟨rfl, hb⟩; refine ⟨_, rfl, ?_⟩; have n1_ := Aside0.mk (below_step HB.out hb); clear HB hb; have HB := n1_; clear n1_))
   go_ret
   exact ⟨rfl, HB.out⟩
  ·
   rw [if_neg q1] at H
   have p1 : decide (20000 < (a0.size : Int)) = false := decide_eq_false q1
   have p2 : decide (20000 < a0.size) = false := decide_eq_false (by omega)
   have HQ := Aside0.mk q1
   clear q1
   by_cases q2 : (l1.length : Int) > 200
   ·
    rw [if_pos q2] at H
    have p3 : decide (200 < (l1.length : Int)) = true := decide_eq_true q2
    have p4 : decide (200 < l1.length) = true := decide_eq_true (by omega)
    clear q2 H
    go_enter Try.func7, Try.ntmps7
    go_wp2_with (first | ((with_reducible refine gate_callee (f := 8) rfl ?_); refine goesL_ (some 16) rfl rfl Try.func8 (by kernel_rfl) rfl #[] rfl (by (try simp only [List.map_toArray, List.map_cons, List.map_nil]); first | done | rfl) ?_; (with_reducible refine (nunciolaw01_awake.calls k true _ HA.out).mono ?_); rintro e w2 ⟨rfl, hb⟩; refine ⟨_, rfl, ?_⟩; have n1_ := Aside0.mk (below_step HB.out hb); clear HB hb; have HB := n1_; clear n1_))
    go_ret
    exact ⟨rfl, HB.out⟩
   ·
    rw [if_neg q2] at H
    have p3 : decide (200 < (l1.length : Int)) = false := decide_eq_false q2
    have p4 : decide (200 < l1.length) = false := decide_eq_false (by omega)
    have HQ2 := Aside0.mk q2
    clear q2
    have HN := Aside0.mk H
    clear H
    go_enter Try.func7, Try.ntmps7
    go_wp2_with (first | ((with_reducible refine gate_callee (f := 8) rfl ?_); refine goesL_ (some 16) rfl rfl Try.func8 (by kernel_rfl) rfl #[] rfl (by (try simp only [List.map_toArray, List.map_cons, List.map_nil]); first | done | rfl) ?_; (with_reducible refine (nunciolaw01_awake.calls k true _ HA.out).mono ?_); rintro e w2 ⟨rfl, hb⟩; refine ⟨_, rfl, ?_⟩; have n1_ := Aside0.mk (below_step HB.out hb); clear HB hb; have HB := n1_; clear n1_) | ((with_reducible refine gate_callee (f := 17) rfl ?_); refine goesL_ (some 27) rfl rfl Try.func17 (by kernel_rfl) rfl #[.string a0] rfl (by (try simp only [List.map_toArray, List.map_cons, List.map_nil]); first | done | rfl) ?_; (with_reducible refine (num_New.calls a0 a0 0 w _ HB.out rfl).mono ?_); rintro e w3 ⟨g5, rfl, hi, hb, _⟩; refine ⟨_, rfl, ?_⟩; have HI := Aside0.mk hi; clear HB hi; have HB := Aside0.mk hb; clear hb))
    go_loopw [6, 7] (fun v6 v7 wr => ∃ (j : Nat) (q : Int), j ≤ l1.length ∧ v6 = .int .i64 q ∧ v7 = .int .i64 j ∧ Aside0 (nr_run k a0 (l1.drop j) q = some true) ∧ Aside0 (IsS50 w wr g5 a0 q) ∧ Aside0 (Below w.heap.size w wr)) (fun _ v7 _ => l1.length - (intOf v7).toNat)
    case atStart => exact ⟨0, 0, by omega, rfl, rfl, ⟨by rw [List.drop_zero]; exact HN.out⟩, HI, HB⟩
    case round =>
     clear HI HB HN
     obtain ⟨j, q, hj, rfl, rfl, HN, HI, HB⟩ := hrel
     by_cases hlt : j < l1.length
     ·
      have hd : l1.drop j = l1[j] :: l1.drop (j + 1) := List.drop_eq_getElem_cons hlt
      have h1 := HN.out
      rw [hd, nr_run] at h1
      obtain ⟨q2, hs, h1⟩ := Option.bind_eq_some_iff.mp h1
      have HN2 := Aside0.mk h1
      clear h1 HN hd
      have hrd : rd_T44 l1 (j : Int) = l1[j] := by simp [rd_T44, hlt]
      obtain ⟨ad, e0, hx0, hx1⟩ := at_T44 HR.out (j : Int) (by omega) (by omega)
      subst e0
      rw [hrd, Int.toNat_natCast] at hx0 hx1
      clear hrd
      generalize l1[j] = el at *
      replace hx0 := (HB.out.cell (World.block_lt_of_cell? w _ hx0)).trans hx0
      replace hx1 := (HB.out.cell (World.block_lt_of_cell? w _ hx1)).trans hx1
      rcases nr_cases hs with ⟨hf, hq, t, p, hg, hx, hp⟩ | ⟨hf, hq, t, p, hg, hx, hp⟩ | ⟨hf, hq, t, hg, hx⟩ | ⟨hf, hq, t, hg, hx⟩
      ·
       clear hs
       subst q2
       rw [hf] at hx0
       have HG := Aside0.mk hg; have HX := Aside0.mk hx; clear hf hg hx
       obtain ⟨p1_, p2_⟩ := p; have HP := Aside0.mk hp; clear hp
       go_upto_region 11 with (first | ((with_reducible refine gate_dst (N := 8) rfl ?_); refine box_event ?hg (N := 8) ?hd (cs := #[.bool false, .int .i64 0]) (t := 44) ?hr ?_; (case hd => rfl); (case hg => rfl); (case hr => first | (go_simp; done) | (go_simp; rfl)); intro g8 hg w4 hbox hb; have y0 : w4.cell? ⟨g8, 0, none⟩ = some (.bool false) := (blk_cell hbox 0).trans rfl; have y1 : w4.cell? ⟨g8, 1, none⟩ = some (.int .i64 0) := (blk_cell hbox 1).trans rfl; have f0 := blk_frozen hbox 0; have f1 := blk_frozen hbox 1; have BQ := Aside0.mk hbox; have NE := Aside0.mk (show g8 ≠ g5 by rw [hg]; exact Nat.ne_of_gt (blk_lt HI.out.1)); have GE := Aside0.mk (show w.heap.size ≤ g8 by rw [hg]; exact HB.out.size); have n1_ := Aside0.mk (nr_is HI.out hb); have n2_ := Aside0.mk (below_step HB.out hb); clear HI HB hbox hb hg; have HI := n1_; have HB := n2_; clear n1_ n2_))
       (try simp only [Act.put, List.setIfInBounds_toArray, List.set_cons_zero, List.set_cons_succ])
       have n1_ := Aside0.mk (show ((w4.setCell ⟨g8, 0, none⟩ (.bool true)).setCell ⟨g8, 1, none⟩ (.int .i64 el.f1)).heap[g8]? = some (.cells #[.bool true, .int .i64 el.f1] 44 (0, 0)) from blk_put (blk_put BQ.out 0 _ rfl) 1 _ rfl)
       have n2_ := Aside0.mk (show Below w.heap.size w ((w4.setCell ⟨g8, 0, none⟩ (.bool true)).setCell ⟨g8, 1, none⟩ (.int .i64 el.f1)) from below_set (below_set HB.out GE.out) GE.out)
       have n3_ := Aside0.mk (show IsS50 w ((w4.setCell ⟨g8, 0, none⟩ (.bool true)).setCell ⟨g8, 1, none⟩ (.int .i64 el.f1)) g5 a0 q from ⟨blk_far (blk_far HI.out.1 (p := ⟨g8, 0, none⟩) (Ne.symm NE.out) _) (p := ⟨g8, 1, none⟩) (Ne.symm NE.out) _, HI.out.2⟩)
       clear BQ HB HI y0 y1 f0 f1 hx0 hx1
       generalize ((w4.setCell ⟨g8, 0, none⟩ (.bool true)).setCell ⟨g8, 1, none⟩ (.int .i64 el.f1)) = W4 at n1_ n2_ n3_ ⊢
       have B8 := n1_; have HB := n2_; have HI := n3_; clear n1_ n2_ n3_
       have z0 : W4.cell? ⟨g8, 0, none⟩ = some (.bool true) := (blk_cell B8.out 0).trans rfl; have z1 : W4.cell? ⟨g8, 1, none⟩ = some (.int .i64 el.f1) := (blk_cell B8.out 1).trans rfl
       go_wp2_with (first | ((with_reducible refine gate_callee (f := 22) rfl ?_); refine goesL_ (some 41) rfl rfl Try.func22 (by kernel_rfl) rfl #[.pointer (some ⟨g5, 0, none⟩), .agg #[.bool true, .int .i64 el.f1]] rfl (by (try simp only [List.map_toArray, List.map_cons, List.map_nil]); first | done | rfl) ?_; (with_reducible refine (nr_call_num_ok k g5 a0 q el.f1 w _ HI.out HB.out t HG.out).mono ?_); rintro e w5 ⟨rfl, hi, hb, hk⟩; refine ⟨_, rfl, ?_⟩; have n1_ := Aside0.mk (show w5.heap[g8]? = some (.cells #[.bool true, .int .i64 el.f1] 44 (0, 0)) from (hk.2 g8 (blk_lt B8.out) NE.out (by simp)).trans B8.out); clear B8 HI HB z0 z1 hk; have B8 := n1_; have HI := Aside0.mk hi; have HB := Aside0.mk hb; clear n1_ hi hb; have z0 : w5.cell? ⟨g8, 0, none⟩ = some (.bool true) := (blk_cell B8.out 0).trans rfl; have z1 : w5.cell? ⟨g8, 1, none⟩ = some (.int .i64 el.f1) := (blk_cell B8.out 1).trans rfl) | ((with_reducible refine gate_callee (f := 23) rfl ?_); refine goesL_ (some 50) rfl rfl Try.func23 (by kernel_rfl) rfl #[.string a0, .int .i64 q, .int .i64 el.f1] rfl (by (try simp only [List.map_toArray, List.map_cons, List.map_nil]); first | done | rfl) ?_; (with_reducible refine (nuncioref01_Part.calls a0 q el.f1 p1_ p2_ _ HP.out).mono ?_); rintro e w6 ⟨rfl, hdr⟩; refine ⟨_, rfl, ?_⟩; have n1_ := Aside0.mk (show w6.heap[g8]? = some (.cells #[.bool true, .int .i64 el.f1] 44 (0, 0)) from nr_dr hdr B8.out); have n2_ := Aside0.mk (nr_dri hdr HI.out); have n3_ := Aside0.mk (nr_drb hdr HB.out); clear B8 HI HB z0 z1 hdr; have B8 := n1_; have HI := n2_; have HB := n3_; clear n1_ n2_ n3_; have z0 : w6.cell? ⟨g8, 0, none⟩ = some (.bool true) := (blk_cell B8.out 0).trans rfl; have z1 : w6.cell? ⟨g8, 1, none⟩ = some (.int .i64 el.f1) := (blk_cell B8.out 1).trans rfl) | ((with_reducible refine gate_callee (f := 24) rfl ?_); refine goesL_ (some 60) rfl rfl Try.func24 (by kernel_rfl) rfl #[.string a0, .int .i64 q, .int .i64 el.f1] rfl (by (try simp only [List.map_toArray, List.map_cons, List.map_nil]); first | done | rfl) ?_; (with_reducible refine (nuncioref01_Get.calls k a0 q el.f1 t true _ HX.out).mono ?_); rintro e w7 ⟨rfl, hdr⟩; refine ⟨_, rfl, ?_⟩; have n1_ := Aside0.mk (show w7.heap[g8]? = some (.cells #[.bool true, .int .i64 el.f1] 44 (0, 0)) from nr_dr hdr B8.out); have n2_ := Aside0.mk (nr_dri hdr HI.out); have n3_ := Aside0.mk (nr_drb hdr HB.out); clear B8 HI HB z0 z1 hdr; have B8 := n1_; have HI := n2_; have HB := n3_; clear n1_ n2_ n3_; have z0 : w7.cell? ⟨g8, 0, none⟩ = some (.bool true) := (blk_cell B8.out 0).trans rfl; have z1 : w7.cell? ⟨g8, 1, none⟩ = some (.int .i64 el.f1) := (blk_cell B8.out 1).trans rfl) | ((with_reducible refine gate_callee (f := 20) rfl ?_); refine goesL_ (some 81) rfl rfl Try.func20 (by kernel_rfl) rfl #[.pointer (some ⟨g5, 0, none⟩)] rfl (by (try simp only [List.map_toArray, List.map_cons, List.map_nil]); first | done | rfl) ?_; (with_reducible refine (num_Reader_At.calls g5 a0 (wrap64 (q + el.f1)) (wrap64 (q + el.f1)) a0 (wrap64 (q + el.f1)) w _ HI.out HB.out rfl).mono ?_); rintro e w8 ⟨rfl, hi, hb, hk⟩; refine ⟨_, rfl, ?_⟩; clear HI HB hk B8 z0 z1; have HI := Aside0.mk hi; have HB := Aside0.mk hb; clear hi hb) | (go_at_call 18; (with_reducible refine (num_Reader_Left.calls g5 a0 (wrap64 (q + el.f1)) (wrap64 ((a0.size : Int) - (wrap64 (q + el.f1)))) a0 (wrap64 (q + el.f1)) w _ HI.out HB.out rfl).mono ?_); rintro e w9 ⟨rfl, hi, hb, hk⟩; clear HI HB hk; have HI := Aside0.mk hi; have HB := Aside0.mk hb; clear hi hb))
       go_roundw
       case rel => exact ⟨j + 1, (wrap64 (q + el.f1)), by omega, rfl, by go_num, HN2, HI, HB⟩
       case measure => simp [intOf]; omega
      ·
       clear hs
       subst q2
       rw [hf] at hx0
       have HG := Aside0.mk hg; have HX := Aside0.mk hx; clear hf hg hx
       obtain ⟨p1_, p2_⟩ := p; have HP := Aside0.mk hp; clear hp
       go_upto_region 11 with (first | ((with_reducible refine gate_dst (N := 8) rfl ?_); refine box_event ?hg (N := 8) ?hd (cs := #[.bool false, .int .i64 0]) (t := 44) ?hr ?_; (case hd => rfl); (case hg => rfl); (case hr => first | (go_simp; done) | (go_simp; rfl)); intro g8 hg w4 hbox hb; have y0 : w4.cell? ⟨g8, 0, none⟩ = some (.bool false) := (blk_cell hbox 0).trans rfl; have y1 : w4.cell? ⟨g8, 1, none⟩ = some (.int .i64 0) := (blk_cell hbox 1).trans rfl; have f0 := blk_frozen hbox 0; have f1 := blk_frozen hbox 1; have BQ := Aside0.mk hbox; have NE := Aside0.mk (show g8 ≠ g5 by rw [hg]; exact Nat.ne_of_gt (blk_lt HI.out.1)); have GE := Aside0.mk (show w.heap.size ≤ g8 by rw [hg]; exact HB.out.size); have n1_ := Aside0.mk (nr_is HI.out hb); have n2_ := Aside0.mk (below_step HB.out hb); clear HI HB hbox hb hg; have HI := n1_; have HB := n2_; clear n1_ n2_))
       (try simp only [Act.put, List.setIfInBounds_toArray, List.set_cons_zero, List.set_cons_succ])
       have n1_ := Aside0.mk (show ((w4.setCell ⟨g8, 0, none⟩ (.bool true)).setCell ⟨g8, 1, none⟩ (.int .i64 el.f1)).heap[g8]? = some (.cells #[.bool true, .int .i64 el.f1] 44 (0, 0)) from blk_put (blk_put BQ.out 0 _ rfl) 1 _ rfl)
       have n2_ := Aside0.mk (show Below w.heap.size w ((w4.setCell ⟨g8, 0, none⟩ (.bool true)).setCell ⟨g8, 1, none⟩ (.int .i64 el.f1)) from below_set (below_set HB.out GE.out) GE.out)
       have n3_ := Aside0.mk (show IsS50 w ((w4.setCell ⟨g8, 0, none⟩ (.bool true)).setCell ⟨g8, 1, none⟩ (.int .i64 el.f1)) g5 a0 q from ⟨blk_far (blk_far HI.out.1 (p := ⟨g8, 0, none⟩) (Ne.symm NE.out) _) (p := ⟨g8, 1, none⟩) (Ne.symm NE.out) _, HI.out.2⟩)
       clear BQ HB HI y0 y1 f0 f1 hx0 hx1
       generalize ((w4.setCell ⟨g8, 0, none⟩ (.bool true)).setCell ⟨g8, 1, none⟩ (.int .i64 el.f1)) = W4 at n1_ n2_ n3_ ⊢
       have B8 := n1_; have HB := n2_; have HI := n3_; clear n1_ n2_ n3_
       have z0 : W4.cell? ⟨g8, 0, none⟩ = some (.bool true) := (blk_cell B8.out 0).trans rfl; have z1 : W4.cell? ⟨g8, 1, none⟩ = some (.int .i64 el.f1) := (blk_cell B8.out 1).trans rfl
       go_wp2_with (first | ((with_reducible refine gate_callee (f := 22) rfl ?_); refine goesL_ (some 41) rfl rfl Try.func22 (by kernel_rfl) rfl #[.pointer (some ⟨g5, 0, none⟩), .agg #[.bool true, .int .i64 el.f1]] rfl (by (try simp only [List.map_toArray, List.map_cons, List.map_nil]); first | done | rfl) ?_; (with_reducible refine (nr_call_num_no k g5 a0 q el.f1 w _ HI.out HB.out t HG.out).mono ?_); rintro e w5 ⟨rfl, hi, hb, hk⟩; refine ⟨_, rfl, ?_⟩; have n1_ := Aside0.mk (show w5.heap[g8]? = some (.cells #[.bool true, .int .i64 el.f1] 44 (0, 0)) from (hk.2 g8 (blk_lt B8.out) NE.out (by simp)).trans B8.out); clear B8 HI HB z0 z1 hk; have B8 := n1_; have HI := Aside0.mk hi; have HB := Aside0.mk hb; clear n1_ hi hb; have z0 : w5.cell? ⟨g8, 0, none⟩ = some (.bool true) := (blk_cell B8.out 0).trans rfl; have z1 : w5.cell? ⟨g8, 1, none⟩ = some (.int .i64 el.f1) := (blk_cell B8.out 1).trans rfl) | ((with_reducible refine gate_callee (f := 23) rfl ?_); refine goesL_ (some 50) rfl rfl Try.func23 (by kernel_rfl) rfl #[.string a0, .int .i64 q, .int .i64 el.f1] rfl (by (try simp only [List.map_toArray, List.map_cons, List.map_nil]); first | done | rfl) ?_; (with_reducible refine (nuncioref01_Part.calls a0 q el.f1 p1_ p2_ _ HP.out).mono ?_); rintro e w6 ⟨rfl, hdr⟩; refine ⟨_, rfl, ?_⟩; have n1_ := Aside0.mk (show w6.heap[g8]? = some (.cells #[.bool true, .int .i64 el.f1] 44 (0, 0)) from nr_dr hdr B8.out); have n2_ := Aside0.mk (nr_dri hdr HI.out); have n3_ := Aside0.mk (nr_drb hdr HB.out); clear B8 HI HB z0 z1 hdr; have B8 := n1_; have HI := n2_; have HB := n3_; clear n1_ n2_ n3_; have z0 : w6.cell? ⟨g8, 0, none⟩ = some (.bool true) := (blk_cell B8.out 0).trans rfl; have z1 : w6.cell? ⟨g8, 1, none⟩ = some (.int .i64 el.f1) := (blk_cell B8.out 1).trans rfl) | ((with_reducible refine gate_callee (f := 24) rfl ?_); refine goesL_ (some 60) rfl rfl Try.func24 (by kernel_rfl) rfl #[.string a0, .int .i64 q, .int .i64 el.f1] rfl (by (try simp only [List.map_toArray, List.map_cons, List.map_nil]); first | done | rfl) ?_; (with_reducible refine (nuncioref01_Get.calls k a0 q el.f1 0 false _ HX.out).mono ?_); rintro e w7 ⟨rfl, hdr⟩; refine ⟨_, rfl, ?_⟩; have n1_ := Aside0.mk (show w7.heap[g8]? = some (.cells #[.bool true, .int .i64 el.f1] 44 (0, 0)) from nr_dr hdr B8.out); have n2_ := Aside0.mk (nr_dri hdr HI.out); have n3_ := Aside0.mk (nr_drb hdr HB.out); clear B8 HI HB z0 z1 hdr; have B8 := n1_; have HI := n2_; have HB := n3_; clear n1_ n2_ n3_; have z0 : w7.cell? ⟨g8, 0, none⟩ = some (.bool true) := (blk_cell B8.out 0).trans rfl; have z1 : w7.cell? ⟨g8, 1, none⟩ = some (.int .i64 el.f1) := (blk_cell B8.out 1).trans rfl) | ((with_reducible refine gate_callee (f := 20) rfl ?_); refine goesL_ (some 81) rfl rfl Try.func20 (by kernel_rfl) rfl #[.pointer (some ⟨g5, 0, none⟩)] rfl (by (try simp only [List.map_toArray, List.map_cons, List.map_nil]); first | done | rfl) ?_; (with_reducible refine (num_Reader_At.calls g5 a0 q q a0 q w _ HI.out HB.out rfl).mono ?_); rintro e w8 ⟨rfl, hi, hb, hk⟩; refine ⟨_, rfl, ?_⟩; clear HI HB hk B8 z0 z1; have HI := Aside0.mk hi; have HB := Aside0.mk hb; clear hi hb) | (go_at_call 18; (with_reducible refine (num_Reader_Left.calls g5 a0 q (wrap64 ((a0.size : Int) - q)) a0 q w _ HI.out HB.out rfl).mono ?_); rintro e w9 ⟨rfl, hi, hb, hk⟩; clear HI HB hk; have HI := Aside0.mk hi; have HB := Aside0.mk hb; clear hi hb))
       go_roundw
       case rel => exact ⟨j + 1, q, by omega, rfl, by go_num, HN2, HI, HB⟩
       case measure => simp [intOf]; omega
      ·
       clear hs
       subst q2
       rw [hf] at hx0
       have HG := Aside0.mk hg; have HX := Aside0.mk hx; clear hf hg hx
       go_upto_region 11 with (first | ((with_reducible refine gate_dst (N := 8) rfl ?_); refine box_event ?hg (N := 8) ?hd (cs := #[.bool false, .int .i64 0]) (t := 44) ?hr ?_; (case hd => rfl); (case hg => rfl); (case hr => first | (go_simp; done) | (go_simp; rfl)); intro g8 hg w4 hbox hb; have y0 : w4.cell? ⟨g8, 0, none⟩ = some (.bool false) := (blk_cell hbox 0).trans rfl; have y1 : w4.cell? ⟨g8, 1, none⟩ = some (.int .i64 0) := (blk_cell hbox 1).trans rfl; have f0 := blk_frozen hbox 0; have f1 := blk_frozen hbox 1; have BQ := Aside0.mk hbox; have NE := Aside0.mk (show g8 ≠ g5 by rw [hg]; exact Nat.ne_of_gt (blk_lt HI.out.1)); have GE := Aside0.mk (show w.heap.size ≤ g8 by rw [hg]; exact HB.out.size); have n1_ := Aside0.mk (nr_is HI.out hb); have n2_ := Aside0.mk (below_step HB.out hb); clear HI HB hbox hb hg; have HI := n1_; have HB := n2_; clear n1_ n2_))
       (try simp only [Act.put, List.setIfInBounds_toArray, List.set_cons_zero, List.set_cons_succ])
       have n1_ := Aside0.mk (show ((w4.setCell ⟨g8, 0, none⟩ (.bool false)).setCell ⟨g8, 1, none⟩ (.int .i64 el.f1)).heap[g8]? = some (.cells #[.bool false, .int .i64 el.f1] 44 (0, 0)) from blk_put (blk_put BQ.out 0 _ rfl) 1 _ rfl)
       have n2_ := Aside0.mk (show Below w.heap.size w ((w4.setCell ⟨g8, 0, none⟩ (.bool false)).setCell ⟨g8, 1, none⟩ (.int .i64 el.f1)) from below_set (below_set HB.out GE.out) GE.out)
       have n3_ := Aside0.mk (show IsS50 w ((w4.setCell ⟨g8, 0, none⟩ (.bool false)).setCell ⟨g8, 1, none⟩ (.int .i64 el.f1)) g5 a0 q from ⟨blk_far (blk_far HI.out.1 (p := ⟨g8, 0, none⟩) (Ne.symm NE.out) _) (p := ⟨g8, 1, none⟩) (Ne.symm NE.out) _, HI.out.2⟩)
       clear BQ HB HI y0 y1 f0 f1 hx0 hx1
       generalize ((w4.setCell ⟨g8, 0, none⟩ (.bool false)).setCell ⟨g8, 1, none⟩ (.int .i64 el.f1)) = W4 at n1_ n2_ n3_ ⊢
       have B8 := n1_; have HB := n2_; have HI := n3_; clear n1_ n2_ n3_
       have z0 : W4.cell? ⟨g8, 0, none⟩ = some (.bool false) := (blk_cell B8.out 0).trans rfl; have z1 : W4.cell? ⟨g8, 1, none⟩ = some (.int .i64 el.f1) := (blk_cell B8.out 1).trans rfl
       go_wp2_with (first | ((with_reducible refine gate_callee (f := 22) rfl ?_); refine goesL_ (some 41) rfl rfl Try.func22 (by kernel_rfl) rfl #[.pointer (some ⟨g5, 0, none⟩), .agg #[.bool false, .int .i64 el.f1]] rfl (by (try simp only [List.map_toArray, List.map_cons, List.map_nil]); first | done | rfl) ?_; (with_reducible refine (nr_call_text_ok k g5 a0 q el.f1 w _ HI.out HB.out t HG.out).mono ?_); rintro e w5 ⟨rfl, hi, hb, hk⟩; refine ⟨_, rfl, ?_⟩; have n1_ := Aside0.mk (show w5.heap[g8]? = some (.cells #[.bool false, .int .i64 el.f1] 44 (0, 0)) from (hk.2 g8 (blk_lt B8.out) NE.out (by simp)).trans B8.out); clear B8 HI HB z0 z1 hk; have B8 := n1_; have HI := Aside0.mk hi; have HB := Aside0.mk hb; clear n1_ hi hb; have z0 : w5.cell? ⟨g8, 0, none⟩ = some (.bool false) := (blk_cell B8.out 0).trans rfl; have z1 : w5.cell? ⟨g8, 1, none⟩ = some (.int .i64 el.f1) := (blk_cell B8.out 1).trans rfl) | ((with_reducible refine gate_callee (f := 23) rfl ?_); refine goesL_ (some 50) rfl rfl Try.func23 (by kernel_rfl) rfl #[.string a0, .int .i64 q, .int .i64 el.f1] rfl (by (try simp only [List.map_toArray, List.map_cons, List.map_nil]); first | done | rfl) ?_; (with_reducible refine (nuncioref01_Part.calls a0 q el.f1 t true _ HX.out).mono ?_); rintro e w6 ⟨rfl, hdr⟩; refine ⟨_, rfl, ?_⟩; have n1_ := Aside0.mk (show w6.heap[g8]? = some (.cells #[.bool false, .int .i64 el.f1] 44 (0, 0)) from nr_dr hdr B8.out); have n2_ := Aside0.mk (nr_dri hdr HI.out); have n3_ := Aside0.mk (nr_drb hdr HB.out); clear B8 HI HB z0 z1 hdr; have B8 := n1_; have HI := n2_; have HB := n3_; clear n1_ n2_ n3_; have z0 : w6.cell? ⟨g8, 0, none⟩ = some (.bool false) := (blk_cell B8.out 0).trans rfl; have z1 : w6.cell? ⟨g8, 1, none⟩ = some (.int .i64 el.f1) := (blk_cell B8.out 1).trans rfl) | ((with_reducible refine gate_callee (f := 20) rfl ?_); refine goesL_ (some 81) rfl rfl Try.func20 (by kernel_rfl) rfl #[.pointer (some ⟨g5, 0, none⟩)] rfl (by (try simp only [List.map_toArray, List.map_cons, List.map_nil]); first | done | rfl) ?_; (with_reducible refine (num_Reader_At.calls g5 a0 (wrap64 (q + el.f1)) (wrap64 (q + el.f1)) a0 (wrap64 (q + el.f1)) w _ HI.out HB.out rfl).mono ?_); rintro e w8 ⟨rfl, hi, hb, hk⟩; refine ⟨_, rfl, ?_⟩; clear HI HB hk B8 z0 z1; have HI := Aside0.mk hi; have HB := Aside0.mk hb; clear hi hb) | (go_at_call 18; (with_reducible refine (num_Reader_Left.calls g5 a0 (wrap64 (q + el.f1)) (wrap64 ((a0.size : Int) - (wrap64 (q + el.f1)))) a0 (wrap64 (q + el.f1)) w _ HI.out HB.out rfl).mono ?_); rintro e w9 ⟨rfl, hi, hb, hk⟩; clear HI HB hk; have HI := Aside0.mk hi; have HB := Aside0.mk hb; clear hi hb))
       go_roundw
       case rel => exact ⟨j + 1, (wrap64 (q + el.f1)), by omega, rfl, by go_num, HN2, HI, HB⟩
       case measure => simp [intOf]; omega
      ·
       clear hs
       subst q2
       rw [hf] at hx0
       have HG := Aside0.mk hg; have HX := Aside0.mk hx; clear hf hg hx
       go_upto_region 11 with (first | ((with_reducible refine gate_dst (N := 8) rfl ?_); refine box_event ?hg (N := 8) ?hd (cs := #[.bool false, .int .i64 0]) (t := 44) ?hr ?_; (case hd => rfl); (case hg => rfl); (case hr => first | (go_simp; done) | (go_simp; rfl)); intro g8 hg w4 hbox hb; have y0 : w4.cell? ⟨g8, 0, none⟩ = some (.bool false) := (blk_cell hbox 0).trans rfl; have y1 : w4.cell? ⟨g8, 1, none⟩ = some (.int .i64 0) := (blk_cell hbox 1).trans rfl; have f0 := blk_frozen hbox 0; have f1 := blk_frozen hbox 1; have BQ := Aside0.mk hbox; have NE := Aside0.mk (show g8 ≠ g5 by rw [hg]; exact Nat.ne_of_gt (blk_lt HI.out.1)); have GE := Aside0.mk (show w.heap.size ≤ g8 by rw [hg]; exact HB.out.size); have n1_ := Aside0.mk (nr_is HI.out hb); have n2_ := Aside0.mk (below_step HB.out hb); clear HI HB hbox hb hg; have HI := n1_; have HB := n2_; clear n1_ n2_))
       (try simp only [Act.put, List.setIfInBounds_toArray, List.set_cons_zero, List.set_cons_succ])
       have n1_ := Aside0.mk (show ((w4.setCell ⟨g8, 0, none⟩ (.bool false)).setCell ⟨g8, 1, none⟩ (.int .i64 el.f1)).heap[g8]? = some (.cells #[.bool false, .int .i64 el.f1] 44 (0, 0)) from blk_put (blk_put BQ.out 0 _ rfl) 1 _ rfl)
       have n2_ := Aside0.mk (show Below w.heap.size w ((w4.setCell ⟨g8, 0, none⟩ (.bool false)).setCell ⟨g8, 1, none⟩ (.int .i64 el.f1)) from below_set (below_set HB.out GE.out) GE.out)
       have n3_ := Aside0.mk (show IsS50 w ((w4.setCell ⟨g8, 0, none⟩ (.bool false)).setCell ⟨g8, 1, none⟩ (.int .i64 el.f1)) g5 a0 q from ⟨blk_far (blk_far HI.out.1 (p := ⟨g8, 0, none⟩) (Ne.symm NE.out) _) (p := ⟨g8, 1, none⟩) (Ne.symm NE.out) _, HI.out.2⟩)
       clear BQ HB HI y0 y1 f0 f1 hx0 hx1
       generalize ((w4.setCell ⟨g8, 0, none⟩ (.bool false)).setCell ⟨g8, 1, none⟩ (.int .i64 el.f1)) = W4 at n1_ n2_ n3_ ⊢
       have B8 := n1_; have HB := n2_; have HI := n3_; clear n1_ n2_ n3_
       have z0 : W4.cell? ⟨g8, 0, none⟩ = some (.bool false) := (blk_cell B8.out 0).trans rfl; have z1 : W4.cell? ⟨g8, 1, none⟩ = some (.int .i64 el.f1) := (blk_cell B8.out 1).trans rfl
       go_wp2_with (first | ((with_reducible refine gate_callee (f := 22) rfl ?_); refine goesL_ (some 41) rfl rfl Try.func22 (by kernel_rfl) rfl #[.pointer (some ⟨g5, 0, none⟩), .agg #[.bool false, .int .i64 el.f1]] rfl (by (try simp only [List.map_toArray, List.map_cons, List.map_nil]); first | done | rfl) ?_; (with_reducible refine (nr_call_text_no k g5 a0 q el.f1 w _ HI.out HB.out t HG.out).mono ?_); rintro e w5 ⟨rfl, hi, hb, hk⟩; refine ⟨_, rfl, ?_⟩; have n1_ := Aside0.mk (show w5.heap[g8]? = some (.cells #[.bool false, .int .i64 el.f1] 44 (0, 0)) from (hk.2 g8 (blk_lt B8.out) NE.out (by simp)).trans B8.out); clear B8 HI HB z0 z1 hk; have B8 := n1_; have HI := Aside0.mk hi; have HB := Aside0.mk hb; clear n1_ hi hb; have z0 : w5.cell? ⟨g8, 0, none⟩ = some (.bool false) := (blk_cell B8.out 0).trans rfl; have z1 : w5.cell? ⟨g8, 1, none⟩ = some (.int .i64 el.f1) := (blk_cell B8.out 1).trans rfl) | ((with_reducible refine gate_callee (f := 23) rfl ?_); refine goesL_ (some 50) rfl rfl Try.func23 (by kernel_rfl) rfl #[.string a0, .int .i64 q, .int .i64 el.f1] rfl (by (try simp only [List.map_toArray, List.map_cons, List.map_nil]); first | done | rfl) ?_; (with_reducible refine (nuncioref01_Part.calls a0 q el.f1 (⟨#[]⟩ : ByteArray) false _ HX.out).mono ?_); rintro e w6 ⟨rfl, hdr⟩; refine ⟨_, rfl, ?_⟩; have n1_ := Aside0.mk (show w6.heap[g8]? = some (.cells #[.bool false, .int .i64 el.f1] 44 (0, 0)) from nr_dr hdr B8.out); have n2_ := Aside0.mk (nr_dri hdr HI.out); have n3_ := Aside0.mk (nr_drb hdr HB.out); clear B8 HI HB z0 z1 hdr; have B8 := n1_; have HI := n2_; have HB := n3_; clear n1_ n2_ n3_; have z0 : w6.cell? ⟨g8, 0, none⟩ = some (.bool false) := (blk_cell B8.out 0).trans rfl; have z1 : w6.cell? ⟨g8, 1, none⟩ = some (.int .i64 el.f1) := (blk_cell B8.out 1).trans rfl) | ((with_reducible refine gate_callee (f := 20) rfl ?_); refine goesL_ (some 81) rfl rfl Try.func20 (by kernel_rfl) rfl #[.pointer (some ⟨g5, 0, none⟩)] rfl (by (try simp only [List.map_toArray, List.map_cons, List.map_nil]); first | done | rfl) ?_; (with_reducible refine (num_Reader_At.calls g5 a0 q q a0 q w _ HI.out HB.out rfl).mono ?_); rintro e w8 ⟨rfl, hi, hb, hk⟩; refine ⟨_, rfl, ?_⟩; clear HI HB hk B8 z0 z1; have HI := Aside0.mk hi; have HB := Aside0.mk hb; clear hi hb) | (go_at_call 18; (with_reducible refine (num_Reader_Left.calls g5 a0 q (wrap64 ((a0.size : Int) - q)) a0 q w _ HI.out HB.out rfl).mono ?_); rintro e w9 ⟨rfl, hi, hb, hk⟩; clear HI HB hk; have HI := Aside0.mk hi; have HB := Aside0.mk hb; clear hi hb))
       go_roundw
       case rel => exact ⟨j + 1, q, by omega, rfl, by go_num, HN2, HI, HB⟩
       case measure => simp [intOf]; omega
     ·
      have hd : decide ((j : Int) < (l1.length : Int)) = false := decide_eq_false (by omega)
      have hd2 : decide (j < l1.length) = false := decide_eq_false (by omega)
      go_wp2
      go_ret
      exact ⟨rfl, HB.out⟩

/-- THE ONE PURE STATEMENT of nunciolaw01_NumReads: yours. -/
def nunciolaw01_NumReads.Pure : Prop := ∀ (a0 : ByteArray) (l1 : List (S44)), (a0.size ≤ 140737488351232) → (l1.length ≤ 9223372036854775807 ∧ l1.length * 16 ≤ 140737488351232 ∧ ∀ x_ ∈ l1, k44_wf x_) → ∃ k, nunciolaw01_NumReads.f k a0 l1 = some true
theorem nunciolaw01_NumReads.walk (P : nunciolaw01_NumReads.Pure) (a0 : ByteArray) (A1 : Option Addr) (c1 : Nat) (l1 : List (S44)) (w : World) (hr1 : Kd.C k44 w A1 l1.length l1) (hc1 : l1.length ≤ c1) (w0 : a0.size ≤ 140737488351232) (w1 : l1.length ≤ 9223372036854775807 ∧ l1.length * 16 ≤ 140737488351232 ∧ ∀ x_ ∈ l1, k44_wf x_) :
  Calls Try.prog 7 #[.string a0, .slice A1 l1.length c1] w fun e w' => e = .returned (.bool true) ∧ Below w.heap.size w w' := by
 obtain ⟨k, h⟩ := P a0 l1 w0 w1
 refine (nunciolaw01_NumReads.calls k a0 _ _ l1 true w hr1 hc1 h rfl).mono ?_
 rintro e w' ⟨rfl, hd⟩
 exact ⟨rfl, hd⟩

end Go.Proofs.Ytihjecnkecgckaa.Mine
