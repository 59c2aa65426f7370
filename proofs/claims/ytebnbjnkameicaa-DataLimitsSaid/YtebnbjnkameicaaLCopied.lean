import Derived.Test.YtebnbjnkameicaaMinex23
import Derived.Test.YtebnbjnkameicaaLRec
namespace Go.Proofs.Ytebnbjnkameicaa.Pure
open Go.RowKit Go.Proofs.Ytebnbjnkameicaa.Mine Go.Proofs.YtebnbjnkameicaaW.PrintWords Go.Proofs.YtebnbjnkameicaaW.PrintLast Go.Proofs.YtebnbjnkameicaaW.PrintMore
set_option linter.unusedSimpArgs false

theorem copied_f {a : ByteArray} (t c e : Int) {ns : List ByteArray} {us : List Int} {ts : List ByteArray} (h : Rec a ns us ts) : nunciolaw05_Copied.f a t c e ns us ts = some (a, t, c, e, ns, us, ts) := by
  have h2 := h.hn
  have h3 := h.hu
  have h4 := h.ht
  have h5 := tot_len ns
  have h6 := tot_len ts
  unfold nunciolaw05_Copied.f
  rw [w64 (x := (ns.length : Int) + 1) (by omega) (by omega), w64 (x := (us.length : Int) + 1) (by omega) (by omega), w64 (x := (ts.length : Int) + 1) (by omega) (by omega), if_pos (by omega), if_pos (by omega), Option.bind_some, if_pos (by simp; omega), if_pos (by omega), if_pos (by omega), Option.bind_some, if_pos (by simp; omega), if_pos (by omega), if_pos (by omega), Option.bind_some, if_pos (by simp; omega)]
  rfl
end Go.Proofs.Ytebnbjnkameicaa.Pure
