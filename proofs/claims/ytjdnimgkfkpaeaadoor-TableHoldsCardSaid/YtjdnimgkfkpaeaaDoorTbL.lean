import Derived.Test.YtjdnimgkfkpaeaaDoorMinex0
import Derived.Test.YtjdnimgkfkpaeaaDoorShelf
import Derived.Test.YtjdnimgkfkpaeaaDoorTbT
import Derived.Test.YtjdnimgkfkpaeaaDoorTbA
import Derived.Test.YtjdnimgkfkpaeaaDoorTbB
import Derived.Test.YtjdnimgkfkpaeaaDoorTbC
import Derived.Test.YtjdnimgkfkpaeaaDoorTbD
import Derived.Test.YtjdnimgkfkpaeaaDoorTbS
import Derived.Test.YtjdnimgkfkpaeaaDoorTbE
import Derived.Test.YtjdnimgkfkpaeaaDoorTbK
import Derived.Test.YtjdnimgkfkpaeaaDoorTbF
import Derived.Test.YtjdnimgkfkpaeaaDoorTbG
import Derived.Test.YtjdnimgkfkpaeaaDoorTbH
import Derived.Test.YtjdnimgkfkpaeaaDoorTbI
import Derived.Test.YtjdnimgkfkpaeaaDoorTbJ
namespace Go.Proofs.YtjdnimgkfkpaeaaDoor.Mine
open Go.RowKit Go.Proofs Go.Proofs.YtjdnimgkfkpaeaaDoorW.PrintWords Go.Proofs.YtjdnimgkfkpaeaaDoorW.PrintLast Go.Proofs.YtjdnimgkfkpaeaaDoorW.PrintMore
attribute [local go_sem] max2_int min2_int max_two min_two max_three min_three max_four min_four
set_option linter.unusedVariables false
set_option linter.unusedSimpArgs false
theorem IsS57.mk_ {w0 w w' : World} {g : Nat} {t : TB} {most size : Int} {l : List S62} (h : IsS57 w0 w g t) (hI : IsT w0 w' g most size l t.fx) (hk : KeepBut w w' g none) (h3 : w'.cell? ⟨g, 3, none⟩ = w.cell? ⟨g, 3, none⟩) {v : Value} (hv : w'.cell? ⟨g, 2, none⟩ = some v) (ht : TyV w' v) : IsS57 w0 w' g ⟨most, size, l, t.fx⟩ := by
  refine ⟨hI, fun u hu => ?_, fun u hu => ?_⟩
  · obtain rfl := Option.some.inj (hv.symm.trans hu)
    exact ht
  · have h4 := h.2.2 u (h3.symm.trans hu)
    intro ad n c e hn
    have h5 := h4 ad n c e hn
    exact h5.keep hk (fun he => (h5.ne h.ty (by decide)) he)
def table_New.f (a0 : Int) : Option TB := some ⟨mx a0 0, 0, [], tbFixed⟩
theorem IsS57.of {w0 w : World} {g : Nat} {most size : Int} {l fx : List S62} (h : IsT w0 w g most size l fx) (h2 : ∀ v, w.cell? ⟨g, 2, none⟩ = some v → TyV w v) (h3 : ∀ v, w.cell? ⟨g, 3, none⟩ = some v → TyV w v) : IsS57 w0 w g ⟨most, size, l, fx⟩ := ⟨h, h2, h3⟩
theorem table_New.calls (a0 : Int) (r : TB) (w0 w : World) (hB : Below w0.heap.size w0 w) (hE : EnvW w) (h : table_New.f a0 = some r) :
    Calls Tryd.prog 10 #[.int .i64 a0] w fun e w' => ∃ g_ : Nat, e = .returned (.pointer (some ⟨g_, 0, none⟩)) ∧ IsS57 w0 w' g_ r ∧ Below w0.heap.size w0 w' ∧ Below w.heap.size w w' := by
  obtain ⟨m, hm⟩ := hE
  unfold table_New.f at h
  simp only [Option.some.injEq] at h
  subst h
  refine (tb_new a0 m w0 w hm hB).mono ?_
  rintro e w' ⟨g, rfl, h1, h2, h3, h4, h5⟩
  exact ⟨g, rfl, IsS57.of h1 h4 h5, h2, h3⟩
def table_Table_Most.f (s : TB) : Option (Int × TB) := some (s.most, s)
theorem table_Table_Most.calls (g : Nat) (s0_0 : TB) (r1 : Int) (r2 : TB) (w0 w : World) (hI : IsS57 w0 w g s0_0) (hB : Below w0.heap.size w0 w) (h : table_Table_Most.f s0_0 = some (r1, r2)) :
    Calls Tryd.prog 22 #[.pointer (some ⟨g, 0, none⟩)] w fun e w' => e = .returned (.int .i64 r1) ∧ IsS57 w0 w' g r2 ∧ Below w0.heap.size w0 w' ∧ KeepBut w w' g none := by
  obtain ⟨rfl, rfl⟩ := Prod.mk.inj (Option.some.inj h)
  refine (tb_most g _ _ _ _ w0 w hI.1).mono ?_
  rintro e w' ⟨rfl, hb⟩
  exact ⟨rfl, hI.below hb, below_then hB hB.size hb, KeepBut.of_below hb g none⟩
def table_Table_Size.f (s : TB) : Option (Int × TB) := some (s.size, s)
theorem table_Table_Size.calls (g : Nat) (s0_0 : TB) (r1 : Int) (r2 : TB) (w0 w : World) (hI : IsS57 w0 w g s0_0) (hB : Below w0.heap.size w0 w) (h : table_Table_Size.f s0_0 = some (r1, r2)) :
    Calls Tryd.prog 23 #[.pointer (some ⟨g, 0, none⟩)] w fun e w' => e = .returned (.int .i64 r1) ∧ IsS57 w0 w' g r2 ∧ Below w0.heap.size w0 w' ∧ KeepBut w w' g none := by
  obtain ⟨rfl, rfl⟩ := Prod.mk.inj (Option.some.inj h)
  refine (tb_getsize g _ _ _ _ w0 w hI.1).mono ?_
  rintro e w' ⟨rfl, hb⟩
  exact ⟨rfl, hI.below hb, below_then hB hB.size hb, KeepBut.of_below hb g none⟩
def table_Table_Len.f (s : TB) : Option (Int × TB) := some ((s.l.length : Int), s)
theorem table_Table_Len.calls (g : Nat) (s0_0 : TB) (r1 : Int) (r2 : TB) (w0 w : World) (hI : IsS57 w0 w g s0_0) (hB : Below w0.heap.size w0 w) (h : table_Table_Len.f s0_0 = some (r1, r2)) :
    Calls Tryd.prog 19 #[.pointer (some ⟨g, 0, none⟩)] w fun e w' => e = .returned (.int .i64 r1) ∧ IsS57 w0 w' g r2 ∧ Below w0.heap.size w0 w' ∧ KeepBut w w' g none := by
  obtain ⟨rfl, rfl⟩ := Prod.mk.inj (Option.some.inj h)
  refine (tb_getlen g _ _ _ _ w0 w hI.1).mono ?_
  rintro e w' ⟨rfl, hb⟩
  exact ⟨rfl, hI.below hb, below_then hB hB.size hb, KeepBut.of_below hb g none⟩
def table_Table_At.f (s : TB) (n : Int) : Option (ByteArray × ByteArray × Bool × TB) :=
  if n ≤ 9223372036854775807 ∧ s.l.length < 4398046511104 ∧ s.fx.length < 4398046511104 then some ((tbAt s.fx s.l n).1, (tbAt s.fx s.l n).2.1, (tbAt s.fx s.l n).2.2, s) else none
theorem table_Table_At.calls (g : Nat) (s0_0 : TB) (a1 : Int) (r1 : ByteArray) (r2 : ByteArray) (r3 : Bool) (r4 : TB) (w0 w : World) (hI : IsS57 w0 w g s0_0) (hB : Below w0.heap.size w0 w) (h : table_Table_At.f s0_0 a1 = some (r1, r2, r3, r4)) :
    Calls Tryd.prog 14 #[.pointer (some ⟨g, 0, none⟩), .int .i64 a1] w fun e w' => e = .returned (.tuple #[.string r1, .string r2, .bool r3]) ∧ IsS57 w0 w' g r4 ∧ Below w0.heap.size w0 w' ∧ KeepBut w w' g none := by
  unfold table_Table_At.f at h
  split at h
  · rename_i hc
    simp only [Option.some.injEq, Prod.mk.injEq] at h
    obtain ⟨rfl, rfl, rfl, rfl⟩ := h
    refine (tb_at14 g _ _ a1 _ _ w0 w hI.1 hc.2.1 hc.2.2 hc.1).mono ?_
    rintro e w' ⟨rfl, hb⟩
    exact ⟨rfl, hI.below hb, below_then hB hB.size hb, KeepBut.of_below hb g none⟩
  · exact absurd h (by simp)
def table_Table_Find.f (s : TB) (nm vl : ByteArray) : Option (Int × Bool × TB) :=
  if s.l.length < 4398046511104 ∧ s.fx.length < 4398046511104 then some ((tbFind s.fx s.l nm vl (s.fx.length + s.l.length) 1 0).1, (tbFind s.fx s.l nm vl (s.fx.length + s.l.length) 1 0).2, s) else none
theorem table_Table_Find.calls (g : Nat) (s0_0 : TB) (a1 : ByteArray) (a2 : ByteArray) (r1 : Int) (r2 : Bool) (r3 : TB) (w0 w : World) (hI : IsS57 w0 w g s0_0) (hB : Below w0.heap.size w0 w) (h : table_Table_Find.f s0_0 a1 a2 = some (r1, r2, r3)) :
    Calls Tryd.prog 17 #[.pointer (some ⟨g, 0, none⟩), .string a1, .string a2] w fun e w' => e = .returned (.tuple #[.int .i64 r1, .bool r2]) ∧ IsS57 w0 w' g r3 ∧ Below w0.heap.size w0 w' ∧ KeepBut w w' g none := by
  unfold table_Table_Find.f at h
  split at h
  · rename_i hc
    simp only [Option.some.injEq, Prod.mk.injEq] at h
    obtain ⟨rfl, rfl, rfl⟩ := h
    refine (tb_find g _ _ a1 a2 _ _ w0 w hI.1 hc.1 hc.2).mono ?_
    rintro e w' ⟨rfl, hb⟩
    exact ⟨rfl, hI.below hb, below_then hB hB.size hb, KeepBut.of_below hb g none⟩
  · exact absurd h (by simp)
def table_Table_Add.f (s : TB) (nm vl : ByteArray) : Option TB :=
  if s.l.length < 4398046511103 then some ⟨s.most, (tbAdd s.most s.size s.l ⟨nm, vl⟩).1, (tbAdd s.most s.size s.l ⟨nm, vl⟩).2, s.fx⟩ else none
theorem table_Table_Add.calls (g : Nat) (s0_0 : TB) (a1 : ByteArray) (a2 : ByteArray) (r : TB) (w0 w : World) (hI : IsS57 w0 w g s0_0) (hB : Below w0.heap.size w0 w) (h : table_Table_Add.f s0_0 a1 a2 = some r) :
    Calls Tryd.prog 21 #[.pointer (some ⟨g, 0, none⟩), .string a1, .string a2] w fun e w' => e = .returned (.tuple #[]) ∧ IsS57 w0 w' g r ∧ Below w0.heap.size w0 w' ∧ KeepBut w w' g none := by
  unfold table_Table_Add.f at h
  split at h
  · rename_i hc
    obtain rfl := Option.some.inj h
    refine (tb_add g _ _ _ _ ⟨a1, a2⟩ w0 w hI.1 hB hc).mono ?_
    rintro e w' ⟨rfl, h1, h2, h3, h4, v, h5, h6⟩
    exact ⟨rfl, hI.mk_ h1 h3 h4 h5 h6, h2, h3⟩
  · exact absurd h (by simp)
def table_Table_Resize.f (s : TB) (n : Int) : Option TB :=
  if s.l.length < 4398046511104 then some ⟨mx n 0, (tbFit (wrap64 (mx n 0 - 0)) s.size s.l).1, (tbFit (wrap64 (mx n 0 - 0)) s.size s.l).2, s.fx⟩ else none
theorem table_Table_Resize.calls (g : Nat) (s0_0 : TB) (a1 : Int) (r : TB) (w0 w : World) (hI : IsS57 w0 w g s0_0) (hB : Below w0.heap.size w0 w) (h : table_Table_Resize.f s0_0 a1 = some r) :
    Calls Tryd.prog 20 #[.pointer (some ⟨g, 0, none⟩), .int .i64 a1] w fun e w' => e = .returned (.tuple #[]) ∧ IsS57 w0 w' g r ∧ Below w0.heap.size w0 w' ∧ KeepBut w w' g none := by
  unfold table_Table_Resize.f at h
  split at h
  · rename_i hc
    obtain rfl := Option.some.inj h
    refine (tb_resize g _ _ a1 _ _ w0 w hI.1 hB hc).mono ?_
    rintro e w' ⟨rfl, h1, h2, h3, h4, v, h5, h6⟩
    exact ⟨rfl, hI.mk_ h1 h3 h4 h5 h6, h2, h3⟩
  · exact absurd h (by simp)
def table_Table_Copy.f (s : TB) : Option TB := if s.l.length < 4398046511104 then some s else none
theorem table_Table_Copy.calls {w1 : World} (g : Nat) (s0_0 : TB) (r : TB) (w0 w : World) (hI : IsS57 w1 w g s0_0) (hB : Below w0.heap.size w0 w) (h : table_Table_Copy.f s0_0 = some r) :
    Calls Tryd.prog 24 #[.pointer (some ⟨g, 0, none⟩)] w fun e w' => ∃ g_ : Nat, e = .returned (.pointer (some ⟨g_, 0, none⟩)) ∧ IsS57 w0 w' g_ r ∧ Below w0.heap.size w0 w' ∧ Below w.heap.size w w' := by
  unfold table_Table_Copy.f at h
  split at h
  · rename_i hc
    obtain rfl := Option.some.inj h
    refine (tb_copy g _ _ _ _ w1 w hI.1 hc).mono ?_
    rintro e w' ⟨g2, rfl, hg, h1, h2, h3, v, h4, h5⟩
    refine ⟨g2, rfl, ⟨?_, fun u hu => ?_, fun u hu => ?_⟩, below_then hB hB.size h2, h2⟩
    · obtain ⟨A, c, B, d, k1, k2, k3⟩ := h1
      exact ⟨A, c, B, d, k1, Nat.le_trans hB.size hg, k3⟩
    · obtain rfl := Option.some.inj (h4.symm.trans hu)
      exact h5
    · have h6 := hI.2.2 u (h3.symm.trans hu)
      exact fun ad n c e hn => (h6 ad n c e hn).below h2
  · exact absurd h (by simp)

end Go.Proofs.YtjdnimgkfkpaeaaDoor.Mine
