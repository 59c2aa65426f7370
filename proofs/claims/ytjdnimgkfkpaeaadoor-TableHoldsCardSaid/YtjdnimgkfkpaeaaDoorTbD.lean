import Derived.Test.YtjdnimgkfkpaeaaDoorMinex0
import Derived.Test.YtjdnimgkfkpaeaaDoorShelf
import Derived.Test.YtjdnimgkfkpaeaaDoorTbT
import Derived.Test.YtjdnimgkfkpaeaaDoorTbA
import Derived.Test.YtjdnimgkfkpaeaaDoorTbB
import Derived.Test.YtjdnimgkfkpaeaaDoorTbC
namespace Go.Proofs.YtjdnimgkfkpaeaaDoor.Mine
open Go.RowKit Go.Proofs Go.Proofs.YtjdnimgkfkpaeaaDoorW.PrintWords Go.Proofs.YtjdnimgkfkpaeaaDoorW.PrintLast Go.Proofs.YtjdnimgkfkpaeaaDoorW.PrintMore
attribute [local go_sem] max2_int min2_int max_two min_two max_three min_three max_four min_four
set_option linter.unusedVariables false
set_option linter.unusedSimpArgs false
def tb_Clone.f (l0 : List S62) : Option (List S62) := if l0.length < 4398046511104 then some l0 else none
set_option maxHeartbeats 4000000 in
set_option maxRecDepth 100000 in
theorem tb_Clone.calls (A0 : Option Addr) (c0 : Nat) (l0 : List S62) (r : List S62) (w : World) (hr0 : Kd.C k62 w A0 l0.length l0) (hc0 : l0.length ≤ c0) (h : tb_Clone.f l0 = some r) :
    Calls Tryd.prog 32 #[.slice A0 l0.length c0] w fun e w' => ∃ v0_ : Value, e = .returned (v0_) ∧ Kd.R k62 62 w' w.heap.size (fun _ => True) v0_ r ∧ Below w.heap.size w w' := by
  unfold tb_Clone.f at h
  by_cases hlim : l0.length < 4398046511104
  · rw [if_pos hlim] at h
    obtain rfl := Option.some.inj h
    clear h
    have LMc := Aside0.mk hlim
    clear hlim
    have HR0 := Aside0.mk hr0
    clear hr0
    cases A0 with
    | none =>
      have hz : l0 = [] := by
        cases l0 with
        | nil => rfl
        | cons x l =>
          obtain ⟨_, e, _⟩ := HR0.out.2.2 (by simp)
          cases e
      subst hz
      have hnil := Lib.run_eql_slice_nil (P := Tryd.prog) w 54 62 none 0 c0 0 0 Tryd.underlying54
      change Calls Tryd.prog 32 #[.slice none 0 c0] w _
      go_enter Tryd.func32, Tryd.ntmps32
      go_wp2
      go_ret
      exact ⟨_, rfl, Kd.R_nil _ _ _ _ _, Below.refl _ _⟩
    | some ad =>
      have hnil := Lib.run_eql_slice_nil (P := Tryd.prog) w 54 62 (some ad) l0.length c0 0 0 Tryd.underlying54
      have HB : Aside0 (Below w.heap.size w w) := ⟨Below.refl _ _⟩
      go_enter Tryd.func32, Tryd.ntmps32
      go_wp2_with (first | ((with_reducible refine gate_dst (N := 5) rfl ?_); refine Kd.R_lit k62 _ 62 ?hg (N := 5) ?hd (xs := ([] : List S62)) (inner := []) (ok := fun _ => True) (okp := fun _ => True) ?hr ?hp (fun _ hk => hk) trivial (Below.refl _ _) (Nat.le_refl _) (by simp) ?_; (case hd => rfl); (case hg => rfl); (case hr => first | (go_simp; done) | (go_simp; rfl)); (case hp => exact (Reps.none _ _)); intro v1 w1 ho hb hg_ hnew_; clear hg_ hnew_; have n0_ := Aside0.mk ho; have n1_ := Aside0.mk (below_step HB.out hb); clear HB; have HO1 := n0_; have HB := n1_; clear n0_ n1_; clear hb ho) | ((with_reducible refine gate_builtin (b := .append) (xs := #[.tmp 5, .tmp 6]) rfl ?_); at_builtin; refine Kd.R_append_rows k62 (w0 := w) w.heap.size rfl (.tmp 5) (.tmp 6) 54 62 (.agg #[.string ⟨#[]⟩, .string ⟨#[]⟩]) 32 rfl Tryd.underlying54 tb_info62 rfl (by decide) (by omega) v1 ([] : List S62) l0 _ _ _ (fun _ => True) (fun _ => False) rfl rfl ?aO ?aR (fun x cs (h : k62.K w1 x cs) => by rw [k62_open h]; exact k62_mkM _ _ _ x) (fun _ h => h.elim) ?aF ?aB ?aS ?aL ?_; (case aR => exact (Kd.C_below HR0.out HB.out)); (case aB => exact HB.out); (case aF => exact (fun _ _ => trivial)); (case aO => exact HO1.out); (case aS => exact (below_size HB.out)); (case aL => have := LMc.out; simp only [List.length_nil]; omega); intro v2 w2 ho hb hg hat; have n0_ := Aside0.mk ho; have n1_ := Aside0.mk hb; clear HB HO1; have HO2 := n0_; have HB := n1_; clear n0_ n1_; clear ho hb hg hat))
      go_ret
      exact ⟨_, rfl, HO2.out, HB.out⟩
  · rw [if_neg hlim] at h
    exact absurd h (by simp)

end Go.Proofs.YtjdnimgkfkpaeaaDoor.Mine
